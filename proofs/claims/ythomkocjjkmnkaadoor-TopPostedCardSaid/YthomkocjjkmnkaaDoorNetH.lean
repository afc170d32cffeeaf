import Derived.Test.YthomkocjjkmnkaaDoorTab
import Derived.Test.YthomkocjjkmnkaaDoorRow
import Derived.Test.YthomkocjjkmnkaaDoorNetF
/- PRINTED by gen.py (wip/tools) from the plan wip/plans: walks. -/
namespace Go.Proofs.YthomkocjjkmnkaaDoor
open Go Go.RowKit
set_option maxRecDepth 100000
set_option linter.unusedVariables false
theorem deleteF (A : Option Addr) (n c i : Nat) (xs : List Value) (w : World) (hO : Own w 37 5 (.slice A (n + 1) c) (n + 1) xs) (hi : i ≤ n) (hn : n ≤ 1000000) (hx1 : ∀ u ∈ xs, u.oneCell' = true) :
    Calls Tryd.prog 82 #[.slice A (n + 1) c, .int .i64 (i : Int), .int .i64 ((i : Int) + 1)] w fun e w' => ∃ v, e = .returned v ∧ Own w' 37 5 v n (xs.take (i * 5) ++ xs.drop ((i + 1) * 5)) ∧ Fr (fun b => (Value.slice A (n + 1) c).ownBlock = some b) w w' ∧ (∀ b, v.ownBlock = some b → (Value.slice A (n + 1) c).ownBlock = some b) := by
 have hlen := hO.1
 obtain ⟨_, _, e0, hnc0⟩ := hO.rd.form
 injection e0 with _ _ e3
 subst e3
 refine calls_of_W Tryd.func82 rfl 33 rfl (Nat.le_of_ble_eq_true rfl) ?_
 refine W_seq ?_
 refine W_region ?_
 refine r_val rfl (x_assign (v := .slice none 0 0) rfl) ?_
 refine RW_nil ?_
 refine thenW_n ?_
 refine W_seq ?_
 refine W_region ?_
 refine r_val rfl (x_move (v := .slice A (n + 1) c) rfl) ?_
 refine r_val rfl (x_move (v := .int .i64 (i : Int)) rfl) ?_
 refine r_val rfl (x_move (v := .int .i64 ((i : Int) + 1)) rfl) ?_
 refine r_val rfl (x_move (v := .slice A (n + 1) c) rfl) ?_
 refine r_val rfl (x_len (n := n + 1) ul_26 rfl) ?_
 refine r_val rfl (x_slice3 (l := i) (h := i + 1) (m := (n + 1)) es_26 rfl rfl rfl rfl (by first | rfl | omega) (by first | rfl | omega) (by first | rfl | omega) (by omega) (by omega) (by omega)) ?_
 refine RW_nil ?_
 refine thenW_n ?_
 refine W_seq ?_
 refine W_seq ?_
 refine W_region ?_
 refine r_val rfl (x_move (v := .int .i64 (i : Int)) rfl) ?_
 refine r_val rfl (x_move (v := .int .i64 ((i : Int) + 1)) rfl) ?_
 refine r_val rfl (x_eql (a := (i : Int)) (b := (i : Int) + 1) rfl rfl) ?_
 refine RW_nil ?_
 refine thenW_n ?_
 refine W_condF (b := decide ((i : Int) = ((i : Int) + 1))) rfl rfl (decide_eq_false (by omega)) ?_
 refine W_skip ?_
 refine thenW_n ?_
 refine W_seq ?_
 obtain ⟨g, cur, hA, hB, hnc, hcm, hcl, hcx⟩ := hO.open_ (by omega)
 subst hA
 refine W_region ?_
 refine r_val rfl (x_move (v := .slice (some ⟨g, 0, none⟩) (n + 1) c) rfl) ?_
 refine r_val rfl (x_len (n := n + 1) ul_26 rfl) ?_
 refine r_val rfl (x_assign (v := .int .i64 (n + 1 : Int)) rfl) ?_
 refine RW_nil ?_
 refine thenW_n ?_
 refine W_seq ?_
 refine d_begin mo 6 (fun x => Fr No w x) ?_
 obtain ⟨w2, hw2⟩ : ∃ x, w.drew = x := ⟨_, rfl⟩
 have F1 : Fr No w w2 := by rw [← hw2]; exact Fr.drew _ _
 have D3 : Fr No w w2 := Fr.of_No F1
 have sF1 := F1.size
 rw [hw2]
 refine d_pure (i := 0) rfl (by kernel_rfl) (np_then np_body) rfl (fun _ => (x_move (v := .slice (some ⟨g, 0, none⟩) (n + 1) c) rfl)) (fun _ => D3) ?_
 refine d_pure (i := 1) rfl (by kernel_rfl) (np_then np_body) rfl (fun _ => (x_move (v := .int .i64 (i : Int)) rfl)) (fun _ => D3) ?_
 refine d_pure (i := 2) rfl (by kernel_rfl) (np_then np_body) rfl (fun _ => (x_sliceHi (h := i) es_26 rfl rfl (by first | rfl | omega) (by omega))) (fun _ => D3) ?_
 refine d_pure (i := 3) rfl (by kernel_rfl) (np_then np_body) rfl (fun _ => (x_move (v := .slice (some ⟨g, 0, none⟩) (n + 1) c) rfl)) (fun _ => D3) ?_
 refine d_pure (i := 4) rfl (by kernel_rfl) (np_then np_body) rfl (fun _ => (x_move (v := .int .i64 ((i : Int) + 1)) rfl)) (fun _ => D3) ?_
 refine d_pure (i := 5) rfl (by kernel_rfl) (np_then np_body) rfl (fun _ => (x_sliceLo (l := i + 1) es_26 rfl rfl (by first | rfl | omega) (by omega))) (fun _ => D3) ?_
 refine d_force (i := 6) rfl (by kernel_rfl) ?_
 have hR4 := hO.fr F1 (fun _ _ f => f)
 obtain ⟨l1, hl1⟩ : ∃ l, cur.take (i * 5) ++ xs.drop ((i + 1) * 5) ++ cur.drop (n * 5) = l := ⟨_, rfl⟩
 have hidx : i + (n + 1 - (i + 1)) = n := by omega
 have hl1l : l1.length = c * 5 := by rw [← hl1]; simp only [List.length_append, List.length_take, List.length_drop, hcl, hO.1]; omega
 have hrd := hR4.rd.sub (i + 1) (n + 1) (by omega) (Nat.le_refl _) c hnc
 rw [List.take_of_length_le (by rw [List.length_drop, hO.1]; omega)] at hrd
 have hB5 := hB.fr F1 (fun f => f)
 refine r_appendIn (g := g) (l' := l1) rfl rfl ei_26 rfl rfl hrd (by omega) hB5 (one_drop hx1) (by omega) (by rw [hidx]; exact hl1) ?_
 intro w9 F6 z7 hB8
 rw [hidx]
 refine d_next (fun hx => absurd hx (by decide)) ?_
 refine d_pure (i := 7) rfl (by kernel_rfl) (np_then np_body) rfl (fun _ => (x_assign (v := .slice (some ⟨g, 0, none⟩) n c) rfl)) (fun hx => absurd hx (by decide)) ?_
 refine d_done (by kernel_rfl) ?_
 refine thenW_n ?_
 refine W_seq ?_
 refine W_region ?_
 refine r_val rfl (x_move (v := .slice (some ⟨g, 0, none⟩) n c) rfl) ?_
 refine r_val rfl (x_move (v := .slice (some ⟨g, 0, none⟩) n c) rfl) ?_
 refine r_val rfl (x_len (n := n) ul_26 rfl) ?_
 refine r_val rfl (x_move (v := .int .i64 (n + 1 : Int)) rfl) ?_
 refine r_val rfl (x_sliceLH (l := n) (h := (n + 1)) es_26 rfl rfl rfl (by first | rfl | omega) (by first | rfl | omega) (by omega) (by omega)) ?_
 refine r_clear (g := g) (o := n * 5) rfl ei_26 rfl (by decide) rfl (fun _ => by rw [subA_some (by omega), Nat.zero_add]) hB8 (by omega) ?_
 intro w15 zs13 hz14 F10 z11 hB12
 refine RW_nil ?_
 refine thenW_n ?_
 refine W_seq ?_
 refine W_region ?_
 refine r_val rfl (x_move (v := .slice (some ⟨g, 0, none⟩) n c) rfl) ?_
 refine r_val rfl (x_assign (v := .slice (some ⟨g, 0, none⟩) n c) rfl) ?_
 refine RW_nil ?_
 refine thenW_n ?_
 refine W_ret ?_
 have := F1.size
 have := F6.size
 have := F10.size
 refine q_ret1 (v := .slice (some ⟨g, 0, none⟩) n c) rfl rfl rfl ?_
 have hm : (n + 1 - n) * 5 = 5 := by omega
 rw [hm] at hB12 hz14
 rw [Nat.add_one_mul] at hl1 hcx
 have hfin := del_in (s := 5) (d := n * 5) (a := i * 5) (k := n * 5) (C := cur) (S := xs.drop (i * 5 + 5)) (X := xs) hcx (by omega) (Nat.mul_le_mul_right 5 hi) rfl (by have := Nat.mul_le_mul_right 5 hi; omega) hl1 hz14 rfl
 refine ⟨_, rfl, ?_, ?_, fun b hb => hb⟩
 · exact Own.of_blk' (c := c) hB12 (by rw [hfin.2]; exact hcl) (by omega) hcm (by rw [Nat.add_one_mul]; exact hfin.1)
 · exact ((((Fr.refl (fun b => (Value.slice (some ⟨g, 0, none⟩) (n + 1) c).ownBlock = some b) _).trans F1 (fun j hj h => h.elim)).trans F6 (fun j hj h => (h ▸ rfl))).trans F10 (fun j hj h => (h ▸ rfl)))

end Go.Proofs.YthomkocjjkmnkaaDoor
