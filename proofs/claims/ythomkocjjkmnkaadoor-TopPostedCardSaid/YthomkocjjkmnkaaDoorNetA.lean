import Derived.Test.YthomkocjjkmnkaaDoorTab
/- PRINTED by gen.py (wip/tools) from the plan wip/plans: walks. -/
namespace Go.Proofs.YthomkocjjkmnkaaDoor
open Go Go.RowKit
set_option maxRecDepth 100000
set_option linter.unusedVariables false
theorem moment_any (x : Int) (w : World) :
    Calls Tryd.prog 76 #[.int .i64 x] w fun e w' => e = .returned (.bool (decide (0 ≤ x) && decide (x ≤ 1099511627776))) ∧ w = w' := by
 refine calls_of_W Tryd.func76 rfl 9 rfl (Nat.le_of_ble_eq_true rfl) ?_
 refine W_seq ?_
 refine W_region ?_
 refine r_val rfl (x_assign (v := .bool false) rfl) ?_
 refine RW_nil ?_
 refine thenW_n ?_
 refine W_seq ?_
 refine W_region ?_
 refine r_val rfl (x_move (v := .int .i64 x) rfl) ?_
 refine r_val rfl (x_geq (a := x) (b := 0) rfl rfl) ?_
 refine r_val rfl (x_move (v := .bool (decide (0 ≤ x))) rfl) ?_
 by_cases hc1 : 0 ≤ x
 ·skip
  refine r_yes (t := 5) rfl rfl rfl (decide_eq_true hc1) ?_
  refine r_val rfl (x_move (v := .int .i64 x) rfl) ?_
  refine r_yes (t := 5) rfl rfl rfl (decide_eq_true hc1) ?_
  refine r_val rfl (x_leq (a := x) (b := 1099511627776) rfl rfl) ?_
  refine r_val rfl (x_pickT (b := decide (0 ≤ x)) (v := .bool (decide (x ≤ 1099511627776))) rfl (decide_eq_true hc1) rfl) ?_
  refine r_val rfl (x_assign (v := .bool (decide (x ≤ 1099511627776))) rfl) ?_
  refine RW_nil ?_
  refine thenW_n ?_
  refine W_ret ?_
  refine q_ret1 (v := .bool (decide (x ≤ 1099511627776))) rfl rfl rfl ?_
  exact ⟨by simp [*], rfl⟩
 ·skip
  refine r_no (t := 5) rfl rfl rfl (decide_eq_false hc1) ?_
  refine r_no (t := 5) rfl rfl rfl (decide_eq_false hc1) ?_
  refine r_val rfl (x_pickF (b := decide (0 ≤ x)) (v := .bool false) rfl (decide_eq_false hc1) rfl) ?_
  refine r_val rfl (x_assign (v := .bool false) rfl) ?_
  refine RW_nil ?_
  refine thenW_n ?_
  refine W_ret ?_
  refine q_ret1 (v := .bool false) rfl rfl rfl ?_
  exact ⟨by simp [*], rfl⟩

theorem has_any (b : Nat) (nodes most sent lost : Int) (A : Option Addr) (n c : Nat) (w : World) (hB : Blk w b 154 [.int .i64 nodes, .int .i64 most, .slice A n c, .int .i64 sent, .int .i64 lost]) (x : Int) :
    Calls Tryd.prog 75 #[.pointer (some ⟨b, 0, none⟩), .int .i64 x] w fun e w' => e = .returned (.bool (decide (0 ≤ x) && decide (x < nodes))) ∧ w = w' := by
 refine calls_of_W Tryd.func75 rfl 15 rfl (Nat.le_of_ble_eq_true rfl) ?_
 refine W_seq ?_
 refine W_region ?_
 refine r_val rfl (x_assign (v := .bool false) rfl) ?_
 refine RW_nil ?_
 refine thenW_n ?_
 refine W_seq ?_
 refine W_region ?_
 refine r_val rfl (x_move (v := .int .i64 x) rfl) ?_
 refine r_val rfl (x_geq (a := x) (b := 0) rfl rfl) ?_
 refine r_val rfl (x_move (v := .bool (decide (0 ≤ x))) rfl) ?_
 by_cases hc1 : 0 ≤ x
 ·skip
  refine r_yes (t := 7) rfl rfl rfl (decide_eq_true hc1) ?_
  refine r_val rfl (x_move (v := .int .i64 x) rfl) ?_
  refine r_yes (t := 7) rfl rfl rfl (decide_eq_true hc1) ?_
  refine r_val rfl (x_move (v := .pointer (some ⟨b, 0, none⟩)) rfl) ?_
  refine r_yes (t := 7) rfl rfl rfl (decide_eq_true hc1) ?_
  refine r_val rfl (x_nilCheck rfl) ?_
  refine r_yes (t := 7) rfl rfl rfl (decide_eq_true hc1) ?_
  refine r_val rfl (x_fieldAddr (b := b) (o := 0) fo_154_0 rfl) ?_
  refine r_yes (t := 7) rfl rfl rfl (decide_eq_true hc1) ?_
  refine r_val rfl (x_load (v := .int .i64 nodes) kind_3 rfl (hB.cell rfl)) ?_
  refine r_yes (t := 7) rfl rfl rfl (decide_eq_true hc1) ?_
  refine r_val rfl (x_lss (a := x) (b := nodes) rfl rfl) ?_
  refine r_val rfl (x_pickT (b := decide (0 ≤ x)) (v := .bool (decide (x < nodes))) rfl (decide_eq_true hc1) rfl) ?_
  refine r_val rfl (x_assign (v := .bool (decide (x < nodes))) rfl) ?_
  refine RW_nil ?_
  refine thenW_n ?_
  refine W_ret ?_
  refine q_ret1 (v := .bool (decide (x < nodes))) rfl rfl rfl ?_
  exact ⟨by simp [*], rfl⟩
 ·skip
  refine r_no (t := 7) rfl rfl rfl (decide_eq_false hc1) ?_
  refine r_no (t := 7) rfl rfl rfl (decide_eq_false hc1) ?_
  refine r_no (t := 7) rfl rfl rfl (decide_eq_false hc1) ?_
  refine r_no (t := 7) rfl rfl rfl (decide_eq_false hc1) ?_
  refine r_no (t := 7) rfl rfl rfl (decide_eq_false hc1) ?_
  refine r_no (t := 7) rfl rfl rfl (decide_eq_false hc1) ?_
  refine r_val rfl (x_pickF (b := decide (0 ≤ x)) (v := .bool false) rfl (decide_eq_false hc1) rfl) ?_
  refine r_val rfl (x_assign (v := .bool false) rfl) ?_
  refine RW_nil ?_
  refine thenW_n ?_
  refine W_ret ?_
  refine q_ret1 (v := .bool false) rfl rfl rfl ?_
  exact ⟨by simp [*], rfl⟩

theorem at_any (b : Nat) (nodes most sent lost : Int) (A : Option Addr) (n c : Nat) (w : World) (hB : Blk w b 154 [.int .i64 nodes, .int .i64 most, .slice A n c, .int .i64 sent, .int .i64 lost]) (x : Int) :
    Calls Tryd.prog 81 #[.pointer (some ⟨b, 0, none⟩), .int .i64 x] w fun e w' => e = .returned (.bool (decide (0 ≤ x) && decide (x < (n : Int)))) ∧ w = w' := by
 refine calls_of_W Tryd.func81 rfl 16 rfl (Nat.le_of_ble_eq_true rfl) ?_
 refine W_seq ?_
 refine W_region ?_
 refine r_val rfl (x_assign (v := .bool false) rfl) ?_
 refine RW_nil ?_
 refine thenW_n ?_
 refine W_seq ?_
 refine W_region ?_
 refine r_val rfl (x_move (v := .int .i64 x) rfl) ?_
 refine r_val rfl (x_geq (a := x) (b := 0) rfl rfl) ?_
 refine r_val rfl (x_move (v := .bool (decide (0 ≤ x))) rfl) ?_
 by_cases hc1 : 0 ≤ x
 ·skip
  refine r_yes (t := 7) rfl rfl rfl (decide_eq_true hc1) ?_
  refine r_val rfl (x_move (v := .int .i64 x) rfl) ?_
  refine r_yes (t := 7) rfl rfl rfl (decide_eq_true hc1) ?_
  refine r_val rfl (x_move (v := .pointer (some ⟨b, 0, none⟩)) rfl) ?_
  refine r_yes (t := 7) rfl rfl rfl (decide_eq_true hc1) ?_
  refine r_val rfl (x_nilCheck rfl) ?_
  refine r_yes (t := 7) rfl rfl rfl (decide_eq_true hc1) ?_
  refine r_val rfl (x_fieldAddr (b := b) (o := 0) fo_154_2 rfl) ?_
  refine r_yes (t := 7) rfl rfl rfl (decide_eq_true hc1) ?_
  refine r_val rfl (x_load (v := .slice A n c) kind_26 rfl (hB.cell rfl)) ?_
  refine r_yes (t := 7) rfl rfl rfl (decide_eq_true hc1) ?_
  refine r_val rfl (x_len (n := n) ul_26 rfl) ?_
  refine r_yes (t := 7) rfl rfl rfl (decide_eq_true hc1) ?_
  refine r_val rfl (x_lss (a := x) (b := (n : Int)) rfl rfl) ?_
  refine r_val rfl (x_pickT (b := decide (0 ≤ x)) (v := .bool (decide (x < (n : Int)))) rfl (decide_eq_true hc1) rfl) ?_
  refine r_val rfl (x_assign (v := .bool (decide (x < (n : Int)))) rfl) ?_
  refine RW_nil ?_
  refine thenW_n ?_
  refine W_ret ?_
  refine q_ret1 (v := .bool (decide (x < (n : Int)))) rfl rfl rfl ?_
  exact ⟨by simp [*], rfl⟩
 ·skip
  refine r_no (t := 7) rfl rfl rfl (decide_eq_false hc1) ?_
  refine r_no (t := 7) rfl rfl rfl (decide_eq_false hc1) ?_
  refine r_no (t := 7) rfl rfl rfl (decide_eq_false hc1) ?_
  refine r_no (t := 7) rfl rfl rfl (decide_eq_false hc1) ?_
  refine r_no (t := 7) rfl rfl rfl (decide_eq_false hc1) ?_
  refine r_no (t := 7) rfl rfl rfl (decide_eq_false hc1) ?_
  refine r_no (t := 7) rfl rfl rfl (decide_eq_false hc1) ?_
  refine r_val rfl (x_pickF (b := decide (0 ≤ x)) (v := .bool false) rfl (decide_eq_false hc1) rfl) ?_
  refine r_val rfl (x_assign (v := .bool false) rfl) ?_
  refine RW_nil ?_
  refine thenW_n ?_
  refine W_ret ?_
  refine q_ret1 (v := .bool false) rfl rfl rfl ?_
  exact ⟨by simp [*], rfl⟩

theorem lost_any (b : Nat) (nodes most sent lost : Int) (A : Option Addr) (n c : Nat) (w : World) (hB : Blk w b 154 [.int .i64 nodes, .int .i64 most, .slice A n c, .int .i64 sent, .int .i64 lost]) :
    Calls Tryd.prog 21 #[.pointer (some ⟨b, 0, none⟩)] w fun e w' => e = .returned (.int .i64 lost) ∧ w = w' := by
 refine calls_of_W Tryd.func21 rfl 7 rfl (Nat.le_of_ble_eq_true rfl) ?_
 refine W_seq ?_
 refine W_region ?_
 refine r_val rfl (x_assign (v := .int .i64 0) rfl) ?_
 refine RW_nil ?_
 refine thenW_n ?_
 refine W_seq ?_
 refine W_region ?_
 refine r_val rfl (x_move (v := .pointer (some ⟨b, 0, none⟩)) rfl) ?_
 refine r_val rfl (x_nilCheck rfl) ?_
 refine r_val rfl (x_fieldAddr (b := b) (o := 0) fo_154_4 rfl) ?_
 refine r_val rfl (x_load (v := .int .i64 lost) kind_3 rfl (hB.cell rfl)) ?_
 refine r_val rfl (x_assign (v := .int .i64 lost) rfl) ?_
 refine RW_nil ?_
 refine thenW_n ?_
 refine W_ret ?_
 refine q_ret1 (v := .int .i64 lost) rfl rfl rfl ?_
 exact ⟨rfl, rfl⟩

theorem netNew_any (x y : Int) (w : World) :
    Calls Tryd.prog 10 #[.int .i64 x, .int .i64 y] w fun e w' => (¬ (1 ≤ x ∧ x ≤ 65537 ∧ 1 ≤ y ∧ y ≤ 5000) ∧ e = .returned (.tuple #[.pointer none, .int .i64 1]) ∧ w = w') ∨ ((1 ≤ x ∧ x ≤ 65537 ∧ 1 ≤ y ∧ y ≤ 5000) ∧ e = .returned (.tuple #[.pointer (some ⟨w.heap.size, 0, none⟩), .int .i64 0]) ∧ Fr No w w' ∧ w'.heap.size = w.heap.size + 1 ∧ Blk w' w.heap.size 154 [.int .i64 x, .int .i64 y, .slice none 0 0, .int .i64 0, .int .i64 0]) := by
 refine calls_of_W Tryd.func10 rfl 24 rfl (Nat.le_of_ble_eq_true rfl) ?_
 refine W_seq ?_
 refine W_region ?_
 refine r_val rfl (x_assign (v := .pointer none) rfl) ?_
 refine r_val rfl (x_assign (v := .int .i64 0) rfl) ?_
 refine RW_nil ?_
 refine thenW_n ?_
 refine W_seq ?_
 refine W_seq ?_
 refine W_region ?_
 refine r_val rfl (x_move (v := .int .i64 x) rfl) ?_
 refine r_val rfl (x_lss (a := x) (b := 1) rfl rfl) ?_
 refine r_val rfl (x_move (v := .bool (decide (x < 1))) rfl) ?_
 by_cases hc1 : x < 1
 ·skip
  refine r_no (t := 8) rfl rfl rfl (decide_eq_true hc1) ?_
  refine r_no (t := 8) rfl rfl rfl (decide_eq_true hc1) ?_
  refine r_val rfl (x_pickT (b := decide (x < 1)) (v := .bool true) rfl (decide_eq_true hc1) rfl) ?_
  refine r_val rfl (x_move (v := .bool true) rfl) ?_
  refine r_no (t := 12) rfl rfl rfl rfl ?_
  refine r_no (t := 12) rfl rfl rfl rfl ?_
  refine r_val rfl (x_pickT (b := true) (v := .bool true) rfl rfl rfl) ?_
  refine r_val rfl (x_move (v := .bool true) rfl) ?_
  refine r_no (t := 16) rfl rfl rfl rfl ?_
  refine r_no (t := 16) rfl rfl rfl rfl ?_
  refine r_val rfl (x_pickT (b := true) (v := .bool true) rfl rfl rfl) ?_
  refine RW_nil ?_
  refine thenW_n ?_
  refine W_condT (b := true) rfl rfl rfl ?_
  refine W_seq ?_
  refine W_region ?_
  refine r_val rfl (x_assign (v := .pointer none) rfl) ?_
  refine r_val rfl (x_assign (v := .int .i64 1) rfl) ?_
  refine RW_nil ?_
  refine thenW_n ?_
  refine W_ret ?_
  refine thenW_r ?_
  refine q_ret2 (v := .pointer none) (u := .int .i64 1) rfl rfl rfl rfl rfl ?_
  exact .inl ⟨by omega, rfl, rfl⟩
 ·skip
  refine r_yes (t := 8) rfl rfl rfl (decide_eq_false hc1) ?_
  refine r_val rfl (x_move (v := .int .i64 x) rfl) ?_
  refine r_yes (t := 8) rfl rfl rfl (decide_eq_false hc1) ?_
  refine r_val rfl (x_gtr (a := x) (b := 65537) rfl rfl) ?_
  refine r_val rfl (x_pickF (b := decide (x < 1)) (v := .bool (decide (65537 < x))) rfl (decide_eq_false hc1) rfl) ?_
  refine r_val rfl (x_move (v := .bool (decide (65537 < x))) rfl) ?_
  by_cases hc2 : 65537 < x
  ·skip
   refine r_no (t := 12) rfl rfl rfl (decide_eq_true hc2) ?_
   refine r_no (t := 12) rfl rfl rfl (decide_eq_true hc2) ?_
   refine r_val rfl (x_pickT (b := decide (65537 < x)) (v := .bool true) rfl (decide_eq_true hc2) rfl) ?_
   refine r_val rfl (x_move (v := .bool true) rfl) ?_
   refine r_no (t := 16) rfl rfl rfl rfl ?_
   refine r_no (t := 16) rfl rfl rfl rfl ?_
   refine r_val rfl (x_pickT (b := true) (v := .bool true) rfl rfl rfl) ?_
   refine RW_nil ?_
   refine thenW_n ?_
   refine W_condT (b := true) rfl rfl rfl ?_
   refine W_seq ?_
   refine W_region ?_
   refine r_val rfl (x_assign (v := .pointer none) rfl) ?_
   refine r_val rfl (x_assign (v := .int .i64 1) rfl) ?_
   refine RW_nil ?_
   refine thenW_n ?_
   refine W_ret ?_
   refine thenW_r ?_
   refine q_ret2 (v := .pointer none) (u := .int .i64 1) rfl rfl rfl rfl rfl ?_
   exact .inl ⟨by omega, rfl, rfl⟩
  ·skip
   refine r_yes (t := 12) rfl rfl rfl (decide_eq_false hc2) ?_
   refine r_val rfl (x_move (v := .int .i64 y) rfl) ?_
   refine r_yes (t := 12) rfl rfl rfl (decide_eq_false hc2) ?_
   refine r_val rfl (x_lss (a := y) (b := 1) rfl rfl) ?_
   refine r_val rfl (x_pickF (b := decide (65537 < x)) (v := .bool (decide (y < 1))) rfl (decide_eq_false hc2) rfl) ?_
   refine r_val rfl (x_move (v := .bool (decide (y < 1))) rfl) ?_
   by_cases hc3 : y < 1
   ·skip
    refine r_no (t := 16) rfl rfl rfl (decide_eq_true hc3) ?_
    refine r_no (t := 16) rfl rfl rfl (decide_eq_true hc3) ?_
    refine r_val rfl (x_pickT (b := decide (y < 1)) (v := .bool true) rfl (decide_eq_true hc3) rfl) ?_
    refine RW_nil ?_
    refine thenW_n ?_
    refine W_condT (b := true) rfl rfl rfl ?_
    refine W_seq ?_
    refine W_region ?_
    refine r_val rfl (x_assign (v := .pointer none) rfl) ?_
    refine r_val rfl (x_assign (v := .int .i64 1) rfl) ?_
    refine RW_nil ?_
    refine thenW_n ?_
    refine W_ret ?_
    refine thenW_r ?_
    refine q_ret2 (v := .pointer none) (u := .int .i64 1) rfl rfl rfl rfl rfl ?_
    exact .inl ⟨by omega, rfl, rfl⟩
   ·skip
    refine r_yes (t := 16) rfl rfl rfl (decide_eq_false hc3) ?_
    refine r_val rfl (x_move (v := .int .i64 y) rfl) ?_
    refine r_yes (t := 16) rfl rfl rfl (decide_eq_false hc3) ?_
    refine r_val rfl (x_gtr (a := y) (b := 5000) rfl rfl) ?_
    refine r_val rfl (x_pickF (b := decide (y < 1)) (v := .bool (decide (5000 < y))) rfl (decide_eq_false hc3) rfl) ?_
    refine RW_nil ?_
    refine thenW_n ?_
    refine W_condD (p := 5000 < y) rfl rfl (fun hc4 => ?_) (fun hc4 => ?_)
    ·skip
     refine W_seq ?_
     refine W_region ?_
     refine r_val rfl (x_assign (v := .pointer none) rfl) ?_
     refine r_val rfl (x_assign (v := .int .i64 1) rfl) ?_
     refine RW_nil ?_
     refine thenW_n ?_
     refine W_ret ?_
     refine thenW_r ?_
     refine q_ret2 (v := .pointer none) (u := .int .i64 1) rfl rfl rfl rfl rfl ?_
     exact .inl ⟨by omega, rfl, rfl⟩
    ·skip
     refine W_skip ?_
     refine thenW_n ?_
     refine W_seq ?_
     refine W_region ?_
     refine r_val rfl (x_move (v := .int .i64 x) rfl) ?_
     refine r_val rfl (x_move (v := .int .i64 y) rfl) ?_
     refine r_val rfl (x_build (zl := [.int .i64 0, .int .i64 0, .slice none 0 0, .int .i64 0, .int .i64 0]) (ps := [(0, .int .i64 x), (1, .int .i64 y)]) (l := [.int .i64 x, .int .i64 y, .slice none 0 0, .int .i64 0, .int .i64 0]) pl_154 zero_154 rfl rfl rfl) ?_
     obtain ⟨g5, hg5⟩ : ∃ n, w.heap.size = n := ⟨_, rfl⟩
     refine r_box (v := .agg #[.int .i64 x, .int .i64 y, .slice none 0 0, .int .i64 0, .int .i64 0]) (l := [.int .i64 x, .int .i64 y, .slice none 0 0, .int .i64 0, .int .i64 0]) rfl g5 hg5 rfl rfl ?_
     intro w9 F6 z7 hB8
     refine r_val rfl (x_assign (v := .pointer (some ⟨g5, 0, none⟩)) rfl) ?_
     refine r_val rfl (x_assign (v := .int .i64 0) rfl) ?_
     refine RW_nil ?_
     refine thenW_n ?_
     refine W_ret ?_
     refine q_ret2 (v := .pointer (some ⟨g5, 0, none⟩)) (u := .int .i64 0) rfl rfl rfl rfl rfl ?_
     subst hg5
     exact .inr ⟨by omega, rfl, F6, z7, hB8⟩

end Go.Proofs.YthomkocjjkmnkaaDoor
