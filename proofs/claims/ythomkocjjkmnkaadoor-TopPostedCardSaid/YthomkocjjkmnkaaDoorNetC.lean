import Derived.Test.YthomkocjjkmnkaaDoorTab
import Derived.Test.YthomkocjjkmnkaaDoorFlt
/- PRINTED by gen.py (wip/tools) from the plan wip/plans: walks. -/
namespace Go.Proofs.YthomkocjjkmnkaaDoor
open Go Go.RowKit
set_option maxRecDepth 100000
set_option linter.unusedVariables false
theorem isNaN_any (x : Int) (w : World) :
    Calls Tryd.prog 147 #[.int .i64 x] w fun e w' => e = .returned (.bool false) ∧ w = w' := by
 refine calls_of_W Tryd.func147 rfl 6 rfl (Nat.le_of_ble_eq_true rfl) ?_
 refine W_seq ?_
 refine W_region ?_
 refine r_val rfl (x_assign (v := .bool false) rfl) ?_
 refine RW_nil ?_
 refine thenW_n ?_
 refine W_seq ?_
 refine W_region ?_
 refine r_val rfl (x_move (v := .int .i64 x) rfl) ?_
 refine r_val rfl (x_move (v := .int .i64 x) rfl) ?_
 refine r_val rfl (x_neq (a := x) (b := x) rfl rfl) ?_
 refine r_val rfl (x_assign (v := .bool (decide (x ≠ x))) rfl) ?_
 refine RW_nil ?_
 refine thenW_n ?_
 refine W_ret ?_
 refine q_ret1 (v := .bool (decide (x ≠ x))) rfl rfl rfl ?_
 exact ⟨by simp, rfl⟩

theorem cmpInt (x y : Int) (w : World) :
    Calls Tryd.prog 94 #[.int .i64 x, .int .i64 y] w fun e w' => e = .returned (.int .i64 (cmpI x y)) ∧ w = w' := by
 refine calls_of_W Tryd.func94 rfl 20 rfl (Nat.le_of_ble_eq_true rfl) ?_
 refine W_seq ?_
 refine W_region ?_
 refine r_val rfl (x_assign (v := .int .i64 0) rfl) ?_
 refine RW_nil ?_
 refine thenW_n ?_
 refine W_seq ?_
 refine W_region ?_
 refine r_val rfl (x_move (v := .int .i64 x) rfl) ?_
 refine r_call rfl (c147 (vs := [.int .i64 x]) rfl) (isNaN_any x w) ?_
 rintro _ _ ⟨rfl, rfl⟩
 refine ⟨_, rfl, ?_⟩
 refine r_val rfl (x_assign (v := .bool false) rfl) ?_
 refine RW_nil ?_
 refine thenW_n ?_
 refine W_seq ?_
 refine W_region ?_
 refine r_val rfl (x_move (v := .int .i64 y) rfl) ?_
 refine r_call rfl (c147 (vs := [.int .i64 y]) rfl) (isNaN_any y w) ?_
 rintro _ _ ⟨rfl, rfl⟩
 refine ⟨_, rfl, ?_⟩
 refine r_val rfl (x_assign (v := .bool false) rfl) ?_
 refine RW_nil ?_
 refine thenW_n ?_
 refine W_seq ?_
 refine W_seq ?_
 refine W_region ?_
 refine r_val rfl (x_move (v := .bool false) rfl) ?_
 refine RW_nil ?_
 refine thenW_n ?_
 refine W_condF (b := false) rfl rfl rfl ?_
 refine W_skip ?_
 refine thenW_n ?_
 refine W_seq ?_
 refine W_seq ?_
 refine W_region ?_
 refine r_val rfl (x_move (v := .bool false) rfl) ?_
 refine RW_nil ?_
 refine thenW_n ?_
 refine W_condF (b := false) rfl rfl rfl ?_
 refine W_skip ?_
 refine thenW_n ?_
 refine W_seq ?_
 refine W_seq ?_
 refine W_region ?_
 refine r_val rfl (x_move (v := .int .i64 x) rfl) ?_
 refine r_val rfl (x_move (v := .int .i64 y) rfl) ?_
 refine r_val rfl (x_lss (a := x) (b := y) rfl rfl) ?_
 refine RW_nil ?_
 refine thenW_n ?_
 refine W_condD (p := x < y) rfl rfl (fun hc1 => ?_) (fun hc1 => ?_)
 ·skip
  refine W_seq ?_
  refine W_region ?_
  refine r_val rfl (x_assign (v := .int .i64 (-1)) rfl) ?_
  refine RW_nil ?_
  refine thenW_n ?_
  refine W_ret ?_
  refine thenW_r ?_
  refine q_ret1 (v := .int .i64 (-1)) rfl rfl rfl ?_
  exact ⟨by simp [cmpI, *], rfl⟩
 ·skip
  refine W_skip ?_
  refine thenW_n ?_
  refine W_seq ?_
  refine W_seq ?_
  refine W_region ?_
  refine r_val rfl (x_move (v := .int .i64 x) rfl) ?_
  refine r_val rfl (x_move (v := .int .i64 y) rfl) ?_
  refine r_val rfl (x_gtr (a := x) (b := y) rfl rfl) ?_
  refine RW_nil ?_
  refine thenW_n ?_
  refine W_condD (p := y < x) rfl rfl (fun hc2 => ?_) (fun hc2 => ?_)
  ·skip
   refine W_seq ?_
   refine W_region ?_
   refine r_val rfl (x_assign (v := .int .i64 1) rfl) ?_
   refine RW_nil ?_
   refine thenW_n ?_
   refine W_ret ?_
   refine thenW_r ?_
   refine q_ret1 (v := .int .i64 1) rfl rfl rfl ?_
   exact ⟨by simp [cmpI, *], rfl⟩
  ·skip
   refine W_skip ?_
   refine thenW_n ?_
   refine W_seq ?_
   refine W_region ?_
   refine r_val rfl (x_assign (v := .int .i64 0) rfl) ?_
   refine RW_nil ?_
   refine thenW_n ?_
   refine W_ret ?_
   refine q_ret1 (v := .int .i64 0) rfl rfl rfl ?_
   exact ⟨by simp [cmpI, *], rfl⟩

end Go.Proofs.YthomkocjjkmnkaaDoor
