/- The walks of functions, printed by a program of this session out of its specs. -/
import Derived.Test.YtcjhnkmoloiepaaDoorH6
import Derived.Test.YtcjhnkmoloiepaaDoorH7
import Derived.Test.YtcjhnkmoloiepaaDoorP4
import Derived.Test.YtcjhnkmoloiepaaDoorQ3
import Derived.Test.YtcjhnkmoloiepaaDoorProg
import Derived.Test.YtcjhnkmoloiepaaDoorF0
namespace Go.Proofs.YtcjhnkmoloiepaaDoor
open Go Go.RowKit Go.Proofs.Vc
set_option linter.unusedVariables false
set_option linter.unusedSimpArgs false

set_option maxHeartbeats 1000000 in
theorem law02_awake {g : Mem} {w : World} (hag : Agree g w) (hT : TabG Tryd.prog g) :
    CallTo Tryd.prog 10 #[] w (Ret w g fun v g => v = .bool true) := by
  refine CallTo.enter (vs := []) zf95 (by kernel_rfl) rfl rfl rfl ?_
  have hst := St.init hag
  refine zsr ?_
  refine zA rfl hst rfl ?_
  refine zn4 ?_
  refine stepK_buildSlice rfl rfl rfl rfl zf90 zf96 rfl rfl (by decide) (by decide) (by decide) rfl rfl hst ?_
  clear hst
  intro b7 w1 hst
  refine stepK_buildSlice rfl rfl rfl rfl zf90 zf96 rfl rfl (by decide) (by decide) (by decide) rfl rfl hst ?_
  clear hst
  intro b8 w2 hst
  obtain ⟨hst, hle7⟩ := hst.publish 0 rfl
  try simp only [List.nil_append, List.cons_append, List.eraseIdx_cons_zero, List.eraseIdx_cons_succ] at hst
  have hr : IntL _ (some ⟨b7, 0, none⟩) 2 [2, 3] := IntL.put (g := g) (b := b7) (l := [2, 3]) (t := 3) (f := (0, 0)) (by intro z hz; simp at hz; rcases hz with rfl | rfl <;> exact ⟨by decide, by decide⟩)
  replace hT := hT.mono hle7
  obtain ⟨hst, hle8⟩ := hst.publish 0 rfl
  replace hT := hT.mono hle8
  replace hr := hr.mono hle8
  try simp only [List.nil_append, List.cons_append, List.eraseIdx_cons_zero] at hst
  refine stepK_call rfl rfl rfl rfl rfl hst (mod_Combine hst.agree hT hr (IntL.put (b := b8) (l := [3, 5]) (t := 3) (f := (0, 0)) (by intro z hz; simp at hz; rcases hz with rfl | rfl <;> exact ⟨by decide, by decide⟩)) (by decide) (by decide) (by decide)) ?_
  clear hst
  intro v3 g3 w3 hst hle3 hcs3 hp3
  replace hT := hT.mono hle3
  obtain rfl := hp3
  rw [comb_awake]
  refine zM rfl hst rfl ?_
  refine zE rfl hst rfl rfl ?_
  refine zE rfl hst rfl rfl ?_
  refine zE rfl hst rfl rfl ?_
  refine zA rfl hst rfl ?_
  refine zA rfl hst rfl ?_
  refine zA rfl hst rfl ?_
  refine zn4 ?_
  refine stepK_call rfl rfl rfl rfl rfl hst (mod_Reconstruct hst.agree hT (a := ⟨#[56]⟩) (b := ⟨#[49, 53]⟩) (by decide) (by decide)) ?_
  clear hst
  intro v4 g4 w4 hst hle4 hcs4 hp4
  replace hT := hT.mono hle4
  obtain ⟨s4, ok4, rfl, hR4⟩ := hp4
  obtain ⟨rfl, rfl⟩ := rec_awake hR4
  refine zM rfl hst rfl ?_
  refine zE rfl hst rfl rfl ?_
  refine zE rfl hst rfl rfl ?_
  refine zA rfl hst rfl ?_
  refine zA rfl hst rfl ?_
  refine zn4 ?_
  refine zM rfl hst rfl ?_
  refine stepK_d rfl rfl rfl hst (Does.yes (does_eql_string rfl rfl rfl) rfl) ?_
  refine zM rfl hst rfl ?_
  refine stepK_guard rfl rfl rfl rfl rfl rfl hst (does_move rfl rfl) ?_
  refine stepK_guard rfl rfl rfl rfl rfl rfl hst (Does.yes (does_eql_string rfl rfl rfl) rfl) ?_
  refine stepK_d rfl rfl rfl hst (does_pick_true rfl rfl rfl) ?_
  refine zM rfl hst rfl ?_
  refine stepK_guard rfl rfl rfl rfl rfl rfl hst (does_move rfl rfl) ?_
  refine stepK_guard rfl rfl rfl rfl rfl rfl hst (Does.yes (does_eql rfl rfl rfl) rfl) ?_
  refine stepK_d rfl rfl rfl hst (does_pick_true rfl rfl rfl) ?_
  refine zM rfl hst rfl ?_
  refine stepK_guard rfl rfl rfl rfl rfl rfl hst (does_move rfl rfl) ?_
  refine stepK_guard rfl rfl rfl rfl rfl rfl hst (Does.yes (does_eql_string rfl rfl rfl) rfl) ?_
  refine stepK_d rfl rfl rfl hst (does_pick_true rfl rfl rfl) ?_
  refine zM rfl hst rfl ?_
  refine stepK_guard rfl rfl rfl rfl rfl rfl hst (does_move rfl rfl) ?_
  refine stepK_d rfl rfl rfl hst (does_pick_true rfl rfl rfl) ?_
  refine zA rfl hst rfl ?_
  refine znt ?_
  refine cp_ret ?_
  refine ret1 rfl rfl hst ?_
  rfl

end Go.Proofs.YtcjhnkmoloiepaaDoor
