/- modular.Reduce is compatible with addition, multiplication and division. Conditions: those of the given row alone (the tables of the library hold what the program's text lays). -/
import Derived.Test.YtcjhnkmoloiepaaGreatDoorCards
import Derived.Test.YtcjhnkmoloiepaaGreatDoorTie
import Derived.Test.YtcjhnkmoloiepaaGreatDoorQ3
import Derived.Test.YtcjhnkmoloiepaaGreatDoorO3
namespace Go.Proofs.YtcjhnkmoloiepaaGreatDoor.modularReduceField
open Go Go.ChangeShapes Go.WideShapes Go.ChangeAt Go.RowKit Go.Proofs.Vc
theorem own : ownKnob Tryz.prog.godebug = none := by kernel_rfl
theorem gTab : Tryz.prog.globalNamed "internal/strconv.uint64pow10" = some 0 := by kernel_rfl
theorem gTabType : (Tryz.prog.globals[0]?).map (·.type) = some 174 := by kernel_rfl
theorem und : Tryz.prog.underlying 174 = some (.array 20 63) := by kernel_rfl
theorem und64 : Tryz.prog.underlying 63 = some (.int .u64) := by kernel_rfl
theorem cellsT : Tryz.prog.cellsOf 174 = 20 := by kernel_rfl
theorem cells64 : Tryz.prog.cellsOf 63 = 1 := by kernel_rfl
theorem table {W : World} (h : laidMetH Tryz.prog Rows.modularReduceFieldRow.laid W) : Lib.TabIs Tryz.prog W "internal/strconv.uint64pow10" .u64 Lib.pow10Tab := by
  have h0 : laidMet Tryz.prog Rows.modularReduceFieldRow.laid W := h
  exact Lib.tabIs_of_head gTab gTabType und und64 cells64 cellsT (laidTail (laidTail h0))
theorem readable : ∀ t ∈ Tryz.f5.params.toList, Tryz.prog.readableRec t = true ∧ t < Tryz.prog.types.size := by
  have h : (Tryz.f5.params.toList.all fun t => Tryz.prog.readableRec t && Nat.blt t Tryz.prog.types.size) = true := by kernel_rfl
  intro t ht
  have := List.all_eq_true.1 h t ht
  simpa using this
set_option maxRecDepth 100000 in
theorem contract (H : Type) (enc : TypeId × Value → H) (W : World) (base : Nat) (args : Array Value) (ds gs : List (DataW H)) (before : List MemPlace)
    (hval : ∀ (j : Nat) t v, Tryz.f5.params[j]? = some t → args[j]? = some v → Value.okWide Tryz.prog W .any base t v)
    (hW : DataW.Whole enc Tryz.prog Tryz.f5.params.toList Rows.modularReduceFieldSpec.vars false W args.toList ds gs before) (hL : laidMetH Tryz.prog Rows.modularReduceFieldRow.laid W) :
    Calls Tryz.prog 5 args W fun e W' => ∃ v, e = .returned v ∧ Rows.modularReduceFieldSpec.post enc Tryz.prog Tryz.f5 false true false false W args v W' := by
  have hW' := hW
  obtain ⟨p, q, hA0, hV, rfl, hfz, hnd⟩ := hW
  have hlt : ∀ x ∈ p, x.block < W.heap.size := fun x hx => hW'.lt x (List.mem_append_left _ hx)
  have hA : DataW.TrodAll enc Tryz.prog W 0 (fun _ => true) true Tryz.f5.params.toList args.toList ds p := hA0
  obtain ⟨rfl, rfl⟩ := trodVars_none hV
  have hA1 := hA
  rw [Tryz.params5] at hA hval
  obtain ⟨v0, vs0, d0, ds0, p0, q0, hargs, rfl, rfl, h0, r0⟩ := trodAll_cons hA
  obtain ⟨v1, vs1, d1, ds1, p1, q1, rfl, rfl, rfl, h1, r1⟩ := trodAll_cons r0
  obtain ⟨v2, vs2, d2, ds2, p2, q2, rfl, rfl, rfl, h2, r2⟩ := trodAll_cons r1
  obtain ⟨rfl, rfl, rfl⟩ := trodAll_nil r2
  obtain rfl : args = #[v0, v1, v2] := by cases args; simp_all
  obtain ⟨a, rfl, rfl, rfl, za⟩ := Go.ChangeMaps.open_string Tryz.underlying9 (hval 0 9 v0 rfl rfl) h0
  obtain ⟨b, rfl, rfl, rfl, zb⟩ := Go.ChangeMaps.open_string Tryz.underlying9 (hval 1 9 v1 rfl rfl) h1
  obtain ⟨c, rfl, rfl, rfl, zc⟩ := open_int Tryz.underlying3 (hval 2 3 v2 rfl rfl) h2
  simp only [Lit.wf, Bool.and_eq_true, decide_eq_true_eq] at zc
  have hT := gAll_tab gTab (table hL)
  have walk := walk_true (vs := [.string a, .string b, .int .i64 c]) Tryz.func5 (by kernel_rfl) rfl (ModularReduceField_walk (gAll_agree W) hT (a := a) (b := b) (n := c) zc.1 zc.2)
  refine walk.mono fun e W' ⟨he, hg⟩ => ?_
  subst he
  exact ⟨_, rfl, post_of_below (pv := []) hW' (fun _ _ _ => trodAll_cons_mk (shut_bool Tryz.underlying4 _) trodAll_mk0)
    (fun sp hs => trodAll_stays (by kernel_rfl) hg readable hA1 hlt sp (fun x hx => hs x (List.mem_append_left _ hx)))
    (fun _ _ => rfl) rfl hg (ok_one (by kernel_rfl) rfl (okWide_bool_mk Tryz.underlying4 _))⟩
/-- A world for the witness: the listed tables hold what the program's text lays. -/
noncomputable def laidWorld (os : Os) : World :=
  let w := World.holding Tryz.prog os ⟨#[], #[], []⟩
  { w with heap := Rows.modularReduceFieldRow.laid.foldl (fun h nd => match Tryz.prog.globalNamed nd.1 with
      | some g => h.modify g fun
        | .cells _ t f => .cells (cellsD nd.2).toArray t f
        | o => o
      | _ => h) w.heap }
set_option maxRecDepth 100000 in
theorem laid_met (os : Os) : laidMet Tryz.prog Rows.modularReduceFieldRow.laid ((laidWorld os).forCall (fun _ _ => 0) ⟨#[], #[.string ⟨#[]⟩, .string ⟨#[]⟩, .int .i64 0], []⟩).memory :=
  laidMet_of_run' 8 (by kernel_rfl) (by kernel_rfl)
theorem reads (os : Os) {H : Type} (enc : TypeId × Value → H) : ∃ places, DataW.whole enc Tryz.prog ((laidWorld os).forCall (fun _ _ => 0) ⟨#[], #[.string ⟨#[]⟩, .string ⟨#[]⟩, .int .i64 0], []⟩).memory Tryz.f5.params.toList Rows.modularReduceFieldSpec.vars false #[Value.string ⟨#[]⟩, Value.string ⟨#[]⟩, Value.int .i64 0].toList 8 = some ([.lit (.string []), .lit (.string []), .lit (.int .i64 0)], [], places) :=
  ⟨[], by kernel_rfl⟩
set_option maxRecDepth 100000 in
theorem lifted (os : Os) (started : os.Started) (H : Type) (enc : TypeId × Value → H) (F : Stop.Interp) :
    ReturnsInHanded {} Tryz.checked os 5 .any ((OpenSpec.ofChange Rows.modularReduceFieldSpec).preRow enc Tryz.prog Tryz.f5 Rows.modularReduceFieldRow.domain false Rows.modularReduceFieldRow.laid) (((OpenSpec.ofChange Rows.modularReduceFieldSpec).at F).post enc Tryz.prog Tryz.f5 false true false false) := by
  obtain ⟨places, hx⟩ := reads os enc
  refine returnsInHanded_of_row (C := Tryz.checked) (s := OpenSpec.ofChange Rows.modularReduceFieldSpec) own started (by kernel_rfl) Tryz.func5
    (witness_row_at (enc := enc) (C := Tryz.checked) false (laidWorld os) #[.string ⟨#[]⟩, .string ⟨#[]⟩, .int .i64 0] rfl (by kernel_rfl) (by kernel_rfl) (by kernel_rfl)
      (OpenSpec.preRow_of_cond 8 hx (by kernel_rfl) (fun k hk => by cases hk) (by kernel_rfl) (laid_met os))) ?_
  intro W base args ds gs before hval hW _ _ _ hL _ _
  exact contract H enc W base args ds gs before hval hW hL
set_option maxHeartbeats 0 in
theorem closed : joinedFacts Tryz.pinned.checked.prog 5 Tryz.f5 (OpenSpec.ofChange Rows.modularReduceFieldSpec).bare Rows.modularReduceFieldRow = true := by
  unfold joinedFacts
  repeat' (with_reducible refine Bool.and_eq_true_iff.2 ⟨?_, ?_⟩)
  all_goals as_aux_lemma => kernel_rfl
theorem inst : Tryz.f5.isInstance Tryz.pinned.checked.prog Rows.modularReduceFieldRow.origin Rows.modularReduceFieldRow.targs := of_decide_eq_true (by kernel_rfl)
theorem wrap : Tryz.f5.isWrapper Tryz.pinned.checked.prog Rows.modularReduceFieldRow.wrapper Rows.modularReduceFieldRow.mainSum := by unfold Func.isWrapper; first | (rw [if_pos (by decide +kernel)]; kernel_rfl) | (rw [if_neg (by decide +kernel)]; exact ⟨rfl, rfl⟩)
theorem said : Rows.ModularReduceFieldSaid :=
  OpenClaim.holds_of_cond 5 Tryz.f5 rfl rfl rfl rfl rfl rfl rfl ⟨rfl, rfl, rfl, rfl, rfl⟩ rfl rfl rfl rfl rfl (by kernel_rfl) Tryz.func5 closed inst wrap
    (fun os started H enc _ F => by rw [OpenClaim.pre_eq_preRow]; exact lifted os started H enc F)
theorem plain (f : FuncId) (fn : Func) (hf : Tryz.pinned.checked.prog.funcNamed "sosopt/sosoptlaw02.ModularReduceField" = some f) (hfn : Tryz.pinned.checked.prog.funcs[f]? = some fn) :
    false = Tryz.pinned.checked.prog.looks [] ∧ ∀ (j : Nat) t, fn.params[j]? = some t → Tryz.pinned.checked.prog.wantsStandIn t = false := by
  obtain rfl : f = 5 := Option.some.inj ((show Tryz.prog.funcNamed "sosopt/sosoptlaw02.ModularReduceField" = some 5 by kernel_rfl).symm.trans hf) |>.symm
  obtain rfl : fn = Tryz.f5 := (Option.some.inj (Tryz.func5.symm.trans hfn)).symm
  refine ⟨by kernel_rfl, fun j t ht => ?_⟩
  have hw : ∀ t ∈ Tryz.f5.params.toList, Tryz.prog.wantsStandIn t = false := by
    have h : (Tryz.f5.params.toList.all fun t => !Tryz.prog.wantsStandIn t) = true := by kernel_rfl
    intro t ht
    have := List.all_eq_true.1 h t ht
    simpa using this
  exact hw t (by simpa using Array.mem_of_getElem? ht)
theorem card : Rows.ModularReduceFieldCardSaid :=
  Claim7.holds_tied_plain_at .later [] _ _ _ _ said (fun _ h => by cases h) (by kernel_rfl) (fun _ h => by cases h) modularReduceField_row_tie rfl ⟨rfl, rfl⟩ (by kernel_rfl) rfl plain (by kernel_rfl)
#print axioms card
end Go.Proofs.YtcjhnkmoloiepaaGreatDoor.modularReduceField
