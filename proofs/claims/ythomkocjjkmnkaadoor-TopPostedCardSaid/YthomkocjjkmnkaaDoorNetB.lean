import Derived.Test.YthomkocjjkmnkaaDoorTab
/- PRINTED by gen.py (wip/tools) from the plan wip/plans: walks. -/
namespace Go.Proofs.YthomkocjjkmnkaaDoor
open Go Go.RowKit
set_option maxRecDepth 100000
set_option linter.unusedVariables false
theorem cloneB (A : Option Addr) (n c : Nat) (xs : List Value) (w : World) (hR : Rd w 1 (.slice A n c) n xs) (hnil : A = none → n = 0) (h1 : ∀ u ∈ xs, u.oneCell' = true) (hn : n * 1 ≤ 140737488355328) :
    Calls Tryd.prog 85 #[.slice A n c] w fun e w' => ∃ v, e = .returned v ∧ Own w' 5 1 v n xs ∧ Fr No w w' ∧ (∀ b, v.ownBlock = some b → w.heap.size ≤ b) ∧ (A = none → v = .slice none 0 0) := by
 refine calls_of_W Tryd.func85 rfl 8 rfl (Nat.le_of_ble_eq_true rfl) ?_
 refine W_seq ?_
 refine W_region ?_
 refine r_val rfl (x_assign (v := .slice none 0 0) rfl) ?_
 refine RW_nil ?_
 refine thenW_n ?_
 refine W_seq ?_
 refine W_seq ?_
 refine W_region ?_
 refine r_val rfl (x_move (v := .slice A n c) rfl) ?_
 refine r_val rfl (x_eqNil (A := A) (n := n) (c := c) ul_33 rfl rfl) ?_
 refine RW_nil ?_
 refine thenW_n ?_
 refine W_cond (b := (A).isNone) rfl rfl (fun hc1 => ?_) (fun hc1 => ?_)
 ·skip
  refine W_seq ?_
  refine W_region ?_
  refine r_val rfl (x_assign (v := .slice none 0 0) rfl) ?_
  refine RW_nil ?_
  refine thenW_n ?_
  refine W_ret ?_
  refine thenW_r ?_
  refine q_ret1 (v := .slice none 0 0) rfl rfl rfl ?_
  have hn0 : n = 0 := hnil (by simpa using hc1)
  subst hn0
  have hx0 : xs = [] := by have := hR.1; simpa using this
  subst hx0
  exact ⟨_, rfl, Own.nil _ _ _, Fr.refl _ _, fun b hb => (by cases hb), fun _ => rfl⟩
 ·skip
  refine W_skip ?_
  refine thenW_n ?_
  refine W_seq ?_
  refine W_region ?_
  obtain ⟨g2, hg2⟩ : ∃ n, w.heap.size = n := ⟨_, rfl⟩
  refine r_lit (vs := []) (l := []) rfl g2 hg2 ei_33 (.inr ⟨_, rfl⟩) rfl rfl (by simp) rfl (by decide) ?_
  intro w6 F3 z4 hB5
  refine r_val rfl (x_move (v := .slice A n c) rfl) ?_
  have hR7 := hR.fr F3 (fun _ _ f => f)
  refine r_append rfl rfl ei_33 rfl (by decide) (v := .slice (some ⟨g2, 0, none⟩) 0 0) (u := .slice A n c) rfl rfl (Own.of_blk hB5 1 0 rfl (by decide)) hR7 h1 (by unfold maxLen; omega) (by omega) ?_
  intro v8 w13 hO9 F10 hat11 hnil12
  refine r_val rfl (x_assign (v := v8) rfl) ?_
  refine RW_nil ?_
  refine thenW_n ?_
  refine W_ret ?_
  refine q_ret1 (v := v8) rfl rfl rfl ?_
  refine ⟨v8, rfl, by simpa using hO9, Fr.trans F3 F10 (fun i hi hb => ?_), fun b hb => ?_, fun hx => ?_⟩
  · simp only [Value.ownBlock, Option.some.injEq] at hb; omega
  · rcases hat11 with h | h
    · rw [h] at hb; simp only [Value.ownBlock, Option.some.injEq] at hb; omega
    · rw [h] at hb; simp only [Option.some.injEq] at hb; omega
  · subst hx; simp at hc1

theorem bcloneB (A : Option Addr) (n c : Nat) (xs : List Value) (w : World) (hR : Rd w 1 (.slice A n c) n xs) (hnil : A = none → n = 0) (h1 : ∀ u ∈ xs, u.oneCell' = true) (hn : n * 1 ≤ 140737488355328) :
    Calls Tryd.prog 88 #[.slice A n c] w fun e w' => ∃ v, e = .returned v ∧ Own w' 5 1 v n xs ∧ Fr No w w' ∧ (∀ b, v.ownBlock = some b → w.heap.size ≤ b) ∧ (A = none → v = .slice none 0 0) := by
 refine calls_of_W Tryd.func88 rfl 8 rfl (Nat.le_of_ble_eq_true rfl) ?_
 refine W_seq ?_
 refine W_region ?_
 refine r_val rfl (x_assign (v := .slice none 0 0) rfl) ?_
 refine RW_nil ?_
 refine thenW_n ?_
 refine W_seq ?_
 refine W_seq ?_
 refine W_region ?_
 refine r_val rfl (x_move (v := .slice A n c) rfl) ?_
 refine r_val rfl (x_eqNil (A := A) (n := n) (c := c) ul_33 rfl rfl) ?_
 refine RW_nil ?_
 refine thenW_n ?_
 refine W_cond (b := (A).isNone) rfl rfl (fun hc1 => ?_) (fun hc1 => ?_)
 ·skip
  refine W_seq ?_
  refine W_region ?_
  refine r_val rfl (x_assign (v := .slice none 0 0) rfl) ?_
  refine RW_nil ?_
  refine thenW_n ?_
  refine W_ret ?_
  refine thenW_r ?_
  refine q_ret1 (v := .slice none 0 0) rfl rfl rfl ?_
  have hn0 : n = 0 := hnil (by simpa using hc1)
  subst hn0
  have hx0 : xs = [] := by have := hR.1; simpa using this
  subst hx0
  exact ⟨_, rfl, Own.nil _ _ _, Fr.refl _ _, fun b hb => (by cases hb), fun _ => rfl⟩
 ·skip
  refine W_skip ?_
  refine thenW_n ?_
  refine W_seq ?_
  refine W_region ?_
  obtain ⟨g2, hg2⟩ : ∃ n, w.heap.size = n := ⟨_, rfl⟩
  refine r_lit (vs := []) (l := []) rfl g2 hg2 ei_33 (.inr ⟨_, rfl⟩) rfl rfl (by simp) rfl (by decide) ?_
  intro w6 F3 z4 hB5
  refine r_val rfl (x_move (v := .slice A n c) rfl) ?_
  have hR7 := hR.fr F3 (fun _ _ f => f)
  refine r_append rfl rfl ei_33 rfl (by decide) (v := .slice (some ⟨g2, 0, none⟩) 0 0) (u := .slice A n c) rfl rfl (Own.of_blk hB5 1 0 rfl (by decide)) hR7 h1 (by unfold maxLen; omega) (by omega) ?_
  intro v8 w13 hO9 F10 hat11 hnil12
  refine r_val rfl (x_assign (v := v8) rfl) ?_
  refine RW_nil ?_
  refine thenW_n ?_
  refine W_ret ?_
  refine q_ret1 (v := v8) rfl rfl rfl ?_
  refine ⟨v8, rfl, by simpa using hO9, Fr.trans F3 F10 (fun i hi hb => ?_), fun b hb => ?_, fun hx => ?_⟩
  · simp only [Value.ownBlock, Option.some.injEq] at hb; omega
  · rcases hat11 with h | h
    · rw [h] at hb; simp only [Value.ownBlock, Option.some.injEq] at hb; omega
    · rw [h] at hb; simp only [Option.some.injEq] at hb; omega
  · subst hx; simp at hc1

theorem cloneF (A : Option Addr) (n c : Nat) (xs : List Value) (w : World) (hR : Rd w 5 (.slice A n c) n xs) (hnil : A = none → n = 0) (h1 : ∀ u ∈ xs, u.oneCell' = true) (hn : n * 56 ≤ 140737488355328) :
    Calls Tryd.prog 80 #[.slice A n c] w fun e w' => ∃ v, e = .returned v ∧ Own w' 37 5 v n xs ∧ Fr No w w' ∧ (∀ b, v.ownBlock = some b → w.heap.size ≤ b) ∧ (A = none → v = .slice none 0 0) := by
 refine calls_of_W Tryd.func80 rfl 8 rfl (Nat.le_of_ble_eq_true rfl) ?_
 refine W_seq ?_
 refine W_region ?_
 refine r_val rfl (x_assign (v := .slice none 0 0) rfl) ?_
 refine RW_nil ?_
 refine thenW_n ?_
 refine W_seq ?_
 refine W_seq ?_
 refine W_region ?_
 refine r_val rfl (x_move (v := .slice A n c) rfl) ?_
 refine r_val rfl (x_eqNil (A := A) (n := n) (c := c) ul_26 rfl rfl) ?_
 refine RW_nil ?_
 refine thenW_n ?_
 refine W_cond (b := (A).isNone) rfl rfl (fun hc1 => ?_) (fun hc1 => ?_)
 ·skip
  refine W_seq ?_
  refine W_region ?_
  refine r_val rfl (x_assign (v := .slice none 0 0) rfl) ?_
  refine RW_nil ?_
  refine thenW_n ?_
  refine W_ret ?_
  refine thenW_r ?_
  refine q_ret1 (v := .slice none 0 0) rfl rfl rfl ?_
  have hn0 : n = 0 := hnil (by simpa using hc1)
  subst hn0
  have hx0 : xs = [] := by have := hR.1; simpa using this
  subst hx0
  exact ⟨_, rfl, Own.nil _ _ _, Fr.refl _ _, fun b hb => (by cases hb), fun _ => rfl⟩
 ·skip
  refine W_skip ?_
  refine thenW_n ?_
  refine W_seq ?_
  refine W_region ?_
  obtain ⟨g2, hg2⟩ : ∃ n, w.heap.size = n := ⟨_, rfl⟩
  refine r_lit (vs := []) (l := []) rfl g2 hg2 ei_26 (.inr ⟨_, rfl⟩) rfl rfl (by simp) rfl (by decide) ?_
  intro w6 F3 z4 hB5
  refine r_val rfl (x_move (v := .slice A n c) rfl) ?_
  have hR7 := hR.fr F3 (fun _ _ f => f)
  refine r_append rfl rfl ei_26 rfl (by decide) (v := .slice (some ⟨g2, 0, none⟩) 0 0) (u := .slice A n c) rfl rfl (Own.of_blk hB5 5 0 rfl (by decide)) hR7 h1 (by unfold maxLen; omega) (by omega) ?_
  intro v8 w13 hO9 F10 hat11 hnil12
  refine r_val rfl (x_assign (v := v8) rfl) ?_
  refine RW_nil ?_
  refine thenW_n ?_
  refine W_ret ?_
  refine q_ret1 (v := v8) rfl rfl rfl ?_
  refine ⟨v8, rfl, by simpa using hO9, Fr.trans F3 F10 (fun i hi hb => ?_), fun b hb => ?_, fun hx => ?_⟩
  · simp only [Value.ownBlock, Option.some.injEq] at hb; omega
  · rcases hat11 with h | h
    · rw [h] at hb; simp only [Value.ownBlock, Option.some.injEq] at hb; omega
    · rw [h] at hb; simp only [Option.some.injEq] at hb; omega
  · subst hx; simp at hc1

end Go.Proofs.YthomkocjjkmnkaaDoor
