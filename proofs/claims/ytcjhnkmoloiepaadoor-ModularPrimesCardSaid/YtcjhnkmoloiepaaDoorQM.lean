/- modular.IsPrime and modular.NextPrime are as specified for all numbers. Conditions: those of the given row alone (the tables of the library hold what the program's text lays). -/
import Derived.Test.YtcjhnkmoloiepaaDoorCards
import Derived.Test.YtcjhnkmoloiepaaDoorTie
import Derived.Test.YtcjhnkmoloiepaaDoorQ3
import Derived.Test.YtcjhnkmoloiepaaDoorO1
namespace Go.Proofs.YtcjhnkmoloiepaaDoor.modularPrimes
open Go Go.ChangeShapes Go.WideShapes Go.ChangeAt Go.RowKit Go.Proofs.Vc
theorem own : ownKnob Tryd.prog.godebug = none := by kernel_rfl
theorem gTab : Tryd.prog.globalNamed "internal/strconv.uint64pow10" = some 0 := by kernel_rfl
theorem gTabType : (Tryd.prog.globals[0]?).map (·.type) = some 125 := by kernel_rfl
theorem und : Tryd.prog.underlying 125 = some (.array 20 51) := by kernel_rfl
theorem und64 : Tryd.prog.underlying 51 = some (.int .u64) := by kernel_rfl
theorem cellsT : Tryd.prog.cellsOf 125 = 20 := by kernel_rfl
theorem cells64 : Tryd.prog.cellsOf 51 = 1 := by kernel_rfl
theorem table {W : World} (h : laidMetH Tryd.prog Rows.modularPrimesRow.laid W) : Lib.TabIs Tryd.prog W "internal/strconv.uint64pow10" .u64 Lib.pow10Tab := by
  have h0 : laidMet Tryd.prog Rows.modularPrimesRow.laid W := h
  exact Lib.tabIs_of_head gTab gTabType und und64 cells64 cellsT (laidTail (laidTail h0))
theorem readable : ∀ t ∈ Tryd.f3.params.toList, Tryd.prog.readableRec t = true ∧ t < Tryd.prog.types.size := by
  have h : (Tryd.f3.params.toList.all fun t => Tryd.prog.readableRec t && Nat.blt t Tryd.prog.types.size) = true := by kernel_rfl
  intro t ht
  have := List.all_eq_true.1 h t ht
  simpa using this
set_option maxRecDepth 100000 in
theorem contract (H : Type) (enc : TypeId × Value → H) (W : World) (base : Nat) (args : Array Value) (ds gs : List (DataW H)) (before : List MemPlace)
    (hval : ∀ (j : Nat) t v, Tryd.f3.params[j]? = some t → args[j]? = some v → Value.okWide Tryd.prog W .any base t v)
    (hW : DataW.Whole enc Tryd.prog Tryd.f3.params.toList Rows.modularPrimesSpec.vars false W args.toList ds gs before) (hL : laidMetH Tryd.prog Rows.modularPrimesRow.laid W) :
    Calls Tryd.prog 3 args W fun e W' => ∃ v, e = .returned v ∧ Rows.modularPrimesSpec.post enc Tryd.prog Tryd.f3 false true false false W args v W' := by
  have hW' := hW
  obtain ⟨p, q, hA0, hV, rfl, hfz, hnd⟩ := hW
  have hlt : ∀ x ∈ p, x.block < W.heap.size := fun x hx => hW'.lt x (List.mem_append_left _ hx)
  have hA : DataW.TrodAll enc Tryd.prog W 0 (fun _ => true) true Tryd.f3.params.toList args.toList ds p := hA0
  obtain ⟨rfl, rfl⟩ := trodVars_none hV
  have hA1 := hA
  rw [Tryd.params3] at hA hval
  obtain ⟨v0, vs0, d0, ds0, p0, q0, hargs, rfl, rfl, h0, r0⟩ := trodAll_cons hA
  obtain ⟨rfl, rfl, rfl⟩ := trodAll_nil r0
  obtain rfl : args = #[v0] := by cases args; simp_all
  obtain ⟨a, rfl, rfl, rfl, za⟩ := open_int Tryd.underlying3 (hval 0 3 v0 rfl rfl) h0
  simp only [Lit.wf, Bool.and_eq_true, decide_eq_true_eq] at za
  have hT := gAll_tab gTab (table hL)
  have walk := walk_true (vs := [.int .i64 a]) Tryd.func3 (by kernel_rfl) rfl (ModularPrimes_walk (gAll_agree W) hT (a := a) za.1 za.2)
  refine walk.mono fun e W' ⟨he, hg⟩ => ?_
  subst he
  exact ⟨_, rfl, post_of_below (pv := []) hW' (fun _ _ _ => trodAll_cons_mk (shut_bool Tryd.underlying4 _) trodAll_mk0)
    (fun sp hs => trodAll_stays (by kernel_rfl) hg readable hA1 hlt sp (fun x hx => hs x (List.mem_append_left _ hx)))
    (fun _ _ => rfl) rfl hg (ok_one (by kernel_rfl) rfl (okWide_bool_mk Tryd.underlying4 _))⟩
/-- A world for the witness: the listed tables hold what the program's text lays. -/
noncomputable def laidWorld (os : Os) : World :=
  let w := World.holding Tryd.prog os ⟨#[], #[], []⟩
  { w with heap := Rows.modularPrimesRow.laid.foldl (fun h nd => match Tryd.prog.globalNamed nd.1 with
      | some g => h.modify g fun
        | .cells _ t f => .cells (cellsD nd.2).toArray t f
        | o => o
      | _ => h) w.heap }
set_option maxRecDepth 100000 in
theorem laid_met (os : Os) : laidMet Tryd.prog Rows.modularPrimesRow.laid ((laidWorld os).forCall (fun _ _ => 0) ⟨#[], #[.int .i64 0], []⟩).memory :=
  laidMet_of_run' 8 (by kernel_rfl) (by kernel_rfl)
theorem reads (os : Os) {H : Type} (enc : TypeId × Value → H) : ∃ places, DataW.whole enc Tryd.prog ((laidWorld os).forCall (fun _ _ => 0) ⟨#[], #[.int .i64 0], []⟩).memory Tryd.f3.params.toList Rows.modularPrimesSpec.vars false #[Value.int .i64 0].toList 8 = some ([.lit (.int .i64 0)], [], places) :=
  ⟨[], by kernel_rfl⟩
set_option maxRecDepth 100000 in
theorem lifted (os : Os) (started : os.Started) (H : Type) (enc : TypeId × Value → H) (F : Stop.Interp) :
    ReturnsInHanded {} Tryd.checked os 3 .any ((OpenSpec.ofChange Rows.modularPrimesSpec).preRow enc Tryd.prog Tryd.f3 Rows.modularPrimesRow.domain false Rows.modularPrimesRow.laid) (((OpenSpec.ofChange Rows.modularPrimesSpec).at F).post enc Tryd.prog Tryd.f3 false true false false) := by
  obtain ⟨places, hx⟩ := reads os enc
  refine returnsInHanded_of_row (C := Tryd.checked) (s := OpenSpec.ofChange Rows.modularPrimesSpec) own started (by kernel_rfl) Tryd.func3
    (witness_row_at (enc := enc) (C := Tryd.checked) false (laidWorld os) #[.int .i64 0] rfl (by kernel_rfl) (by kernel_rfl) (by kernel_rfl)
      (OpenSpec.preRow_of_cond 8 hx (by kernel_rfl) (fun k hk => by cases hk) (by kernel_rfl) (laid_met os))) ?_
  intro W base args ds gs before hval hW _ _ _ hL _ _
  exact contract H enc W base args ds gs before hval hW hL
set_option maxHeartbeats 0 in
theorem closed : joinedFacts Tryd.pinned.checked.prog 3 Tryd.f3 (OpenSpec.ofChange Rows.modularPrimesSpec).bare Rows.modularPrimesRow = true := by
  unfold joinedFacts
  repeat' (with_reducible refine Bool.and_eq_true_iff.2 ⟨?_, ?_⟩)
  all_goals as_aux_lemma => kernel_rfl
theorem inst : Tryd.f3.isInstance Tryd.pinned.checked.prog Rows.modularPrimesRow.origin Rows.modularPrimesRow.targs := of_decide_eq_true (by kernel_rfl)
theorem wrap : Tryd.f3.isWrapper Tryd.pinned.checked.prog Rows.modularPrimesRow.wrapper Rows.modularPrimesRow.mainSum := by unfold Func.isWrapper; first | (rw [if_pos (by decide +kernel)]; kernel_rfl) | (rw [if_neg (by decide +kernel)]; exact ⟨rfl, rfl⟩)
theorem said : Rows.ModularPrimesSaid :=
  OpenClaim.holds_of_cond 3 Tryd.f3 rfl rfl rfl rfl rfl rfl rfl ⟨rfl, rfl, rfl, rfl, rfl⟩ rfl rfl rfl rfl rfl (by kernel_rfl) Tryd.func3 closed inst wrap
    (fun os started H enc _ F => by rw [OpenClaim.pre_eq_preRow]; exact lifted os started H enc F)
theorem plain (f : FuncId) (fn : Func) (hf : Tryd.pinned.checked.prog.funcNamed "sosopt/sosoptlaw02.ModularPrimes" = some f) (hfn : Tryd.pinned.checked.prog.funcs[f]? = some fn) :
    false = Tryd.pinned.checked.prog.looks [] ∧ ∀ (j : Nat) t, fn.params[j]? = some t → Tryd.pinned.checked.prog.wantsStandIn t = false := by
  obtain rfl : f = 3 := Option.some.inj ((show Tryd.prog.funcNamed "sosopt/sosoptlaw02.ModularPrimes" = some 3 by kernel_rfl).symm.trans hf) |>.symm
  obtain rfl : fn = Tryd.f3 := (Option.some.inj (Tryd.func3.symm.trans hfn)).symm
  refine ⟨by kernel_rfl, fun j t ht => ?_⟩
  have hw : ∀ t ∈ Tryd.f3.params.toList, Tryd.prog.wantsStandIn t = false := by
    have h : (Tryd.f3.params.toList.all fun t => !Tryd.prog.wantsStandIn t) = true := by kernel_rfl
    intro t ht
    have := List.all_eq_true.1 h t ht
    simpa using this
  exact hw t (by simpa using Array.mem_of_getElem? ht)
theorem card : Rows.ModularPrimesCardSaid :=
  Claim7.holds_tied_plain_at .later [] _ _ _ _ said (fun _ h => by cases h) (by kernel_rfl) (fun _ h => by cases h) modularPrimes_row_tie rfl ⟨rfl, rfl⟩ (by kernel_rfl) rfl plain (by kernel_rfl)
#print axioms card
end Go.Proofs.YtcjhnkmoloiepaaDoor.modularPrimes
