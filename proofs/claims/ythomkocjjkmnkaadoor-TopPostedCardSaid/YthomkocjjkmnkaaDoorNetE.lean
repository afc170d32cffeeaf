import Derived.Test.YthomkocjjkmnkaaDoorTab
import Derived.Test.YthomkocjjkmnkaaDoorNetD
/- PRINTED by gen.py (wip/tools) from the plan wip/plans: walks. -/
namespace Go.Proofs.YthomkocjjkmnkaaDoor
open Go Go.RowKit
set_option maxRecDepth 100000
set_option linter.unusedVariables false
theorem putCmp (an af at_ ad bn bf bt bd : Int) (av bv : Value) (w : World) :
    Calls Tryd.prog 133 #[.agg #[.int .i64 an, .int .i64 af, .int .i64 at_, .int .i64 ad, av], .agg #[.int .i64 bn, .int .i64 bf, .int .i64 bt, .int .i64 bd, bv]] w fun e w' => e = .returned (.int .i64 (orI [cmpI ad bd, cmpI an bn])) ∧ Fr No w w' := by
 refine calls_of_W Tryd.func133 rfl 17 rfl (Nat.le_of_ble_eq_true rfl) ?_
 refine W_seq ?_
 refine W_region ?_
 obtain ⟨g1, hg1⟩ : ∃ n, w.heap.size = n := ⟨_, rfl⟩
 refine r_box (v := .agg #[.int .i64 an, .int .i64 af, .int .i64 at_, .int .i64 ad, av]) (l := [.int .i64 an, .int .i64 af, .int .i64 at_, .int .i64 ad, av]) rfl g1 hg1 rfl rfl ?_
 intro w5 F2 z3 hB4
 obtain ⟨g6, hg6⟩ : ∃ n, w5.heap.size = n := ⟨_, rfl⟩
 have ne_g1_g6 : g1 ≠ g6 := by have := hB4.lt; omega
 refine r_box (v := .agg #[.int .i64 bn, .int .i64 bf, .int .i64 bt, .int .i64 bd, bv]) (l := [.int .i64 bn, .int .i64 bf, .int .i64 bt, .int .i64 bd, bv]) rfl g6 hg6 rfl rfl ?_
 intro w10 F7 z8 hB9
 refine r_val rfl (x_assign (v := .int .i64 0) rfl) ?_
 refine RW_nil ?_
 refine thenW_n ?_
 refine W_seq ?_
 have hB11 := hB4.fr F7 (fun f => f)
 refine d_begin mo 13 (fun x => Fr No w10 x) ?_
 obtain ⟨w13, hw13⟩ : ∃ x, w10.drew = x := ⟨_, rfl⟩
 have F12 : Fr No w10 w13 := by rw [← hw13]; exact Fr.drew _ _
 have D14 : Fr No w10 w13 := Fr.of_No F12
 have sF12 := F12.size
 rw [hw13]
 refine d_pure (i := 0) rfl (by kernel_rfl) (np_then np_body) rfl (fun _ => (x_fieldAddr (b := g1) (o := 0) fo_37_3 rfl)) (fun _ => D14) ?_
 refine d_load (i := 1) rfl (by kernel_rfl) (np_then np_body) rfl (by kernel_rfl) rfl (fun x hS => (x_load (v := .int .i64 ad) kind_3 rfl ((hB11.fr hS (fun f => f)).cell rfl))) D14 ?_
 refine d_pure (i := 2) rfl (by kernel_rfl) (np_then np_body) rfl (fun _ => (x_fieldAddr (b := g6) (o := 0) fo_37_3 rfl)) (fun _ => D14) ?_
 refine d_load (i := 3) rfl (by kernel_rfl) (np_then np_body) rfl (by kernel_rfl) rfl (fun x hS => (x_load (v := .int .i64 bd) kind_3 rfl ((hB9.fr hS (fun f => f)).cell rfl))) D14 ?_
 refine d_pure (i := 5) rfl (by kernel_rfl) (np_then np_body) rfl (fun _ => (x_fieldAddr (b := g1) (o := 0) fo_37_0 rfl)) (fun _ => D14) ?_
 refine d_load (i := 6) rfl (by kernel_rfl) (np_then np_body) rfl (by kernel_rfl) rfl (fun x hS => (x_load (v := .int .i64 an) kind_3 rfl ((hB11.fr hS (fun f => f)).cell rfl))) D14 ?_
 refine d_pure (i := 7) rfl (by kernel_rfl) (np_then np_body) rfl (fun _ => (x_fieldAddr (b := g6) (o := 0) fo_37_0 rfl)) (fun _ => D14) ?_
 refine d_load (i := 8) rfl (by kernel_rfl) (np_then np_body) rfl (by kernel_rfl) rfl (fun x hS => (x_load (v := .int .i64 bn) kind_3 rfl ((hB9.fr hS (fun f => f)).cell rfl))) D14 ?_
 refine d_force (i := 4) rfl (by kernel_rfl) ?_
 refine r_call rfl (c94 (vs := [.int .i64 ad, .int .i64 bd]) rfl) (cmpInt ad bd w13) ?_
 rintro _ _ ⟨rfl, rfl⟩
 refine ⟨_, rfl, ?_⟩
 refine d_next (fun _ => D14) ?_
 refine d_force (i := 9) rfl (by kernel_rfl) ?_
 refine r_call rfl (c94 (vs := [.int .i64 an, .int .i64 bn]) rfl) (cmpInt an bn w13) ?_
 rintro _ _ ⟨rfl, rfl⟩
 refine ⟨_, rfl, ?_⟩
 refine d_next (fun _ => D14) ?_
 refine d_force (i := 10) rfl (by kernel_rfl) ?_
 have hB16 := hB11.fr F12 (fun f => f)
 have hB17 := hB9.fr F12 (fun f => f)
 obtain ⟨g15, hg15⟩ : ∃ n, w13.heap.size = n := ⟨_, rfl⟩
 have ne_g1_g15 : g1 ≠ g15 := by have := hB16.lt; omega
 have ne_g6_g15 : g6 ≠ g15 := by have := hB17.lt; omega
 refine r_lit (vs := [.int .i64 (cmpI ad bd), .int .i64 (cmpI an bn)]) (l := [.int .i64 (cmpI ad bd), .int .i64 (cmpI an bn)]) rfl g15 hg15 ei_68 (.inr ⟨_, rfl⟩) rfl rfl (by intro v hv; simp only [List.mem_cons, List.not_mem_nil, or_false] at hv; rcases hv with rfl | rfl <;> rfl) rfl (by decide) ?_
 intro w21 F18 z19 hB20
 have sD22 := F18.size
 have D22 : Fr No w10 w21 := D14.trans F18 (fun i hi h => (by first | exact h.elim | omega | (simp only [Value.ownBlock, Option.some.injEq] at h; omega) | (have h2 := h; simp at h2; omega) | exact h))
 refine d_next (fun _ => D22) ?_
 refine d_force (i := 11) rfl (by kernel_rfl) ?_
 refine r_call rfl (c134 (vs := [.slice (some ⟨g15, 0, none⟩) 2 2]) rfl) (orInt (some ⟨g15, 0, none⟩) 2 2 [cmpI ad bd, cmpI an bn] w21 (Own.of_blk hB20 1 2 rfl (by decide)).rd rfl (by decide)) ?_
 rintro _ _ ⟨rfl, rfl⟩
 refine ⟨_, rfl, ?_⟩
 refine d_next (fun _ => D22) ?_
 refine d_pure (i := 12) rfl (by kernel_rfl) (np_then np_body) rfl (fun _ => (x_assign (v := .int .i64 (orI [cmpI ad bd, cmpI an bn])) rfl)) (fun _ => D22) ?_
 refine d_done (by kernel_rfl) ?_
 refine thenW_n ?_
 refine W_ret ?_
 refine q_ret1 (v := .int .i64 (orI [cmpI ad bd, cmpI an bn])) rfl rfl rfl ?_
 exact ⟨rfl, (((F2.trans F7 fun _ _ f => f).trans F12 fun _ _ f => f).trans F18 fun _ _ f => f)⟩

end Go.Proofs.YthomkocjjkmnkaaDoor
