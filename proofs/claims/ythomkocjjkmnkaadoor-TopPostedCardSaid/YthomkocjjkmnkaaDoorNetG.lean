import Derived.Test.YthomkocjjkmnkaaDoorTab
import Derived.Test.YthomkocjjkmnkaaDoorRow
import Derived.Test.YthomkocjjkmnkaaDoorNetF
/- PRINTED by gen.py (wip/tools) from the plan wip/plans: walks. -/
namespace Go.Proofs.YthomkocjjkmnkaaDoor
open Go Go.RowKit
set_option maxRecDepth 100000
set_option linter.unusedVariables false
theorem insertF (A : Option Addr) (n c i vb : Nat) (xs ys : List Value) (w : World) (hO : Own w 37 5 (.slice A n c) n xs) (hy : Blk w vb 37 ys) (hyl : ys.length = 5) (hne : (Value.slice A n c).ownBlock ≠ some vb) (hi : i ≤ n) (hn : n ≤ 1000000)
    (hx1 : ∀ u ∈ xs, u.oneCell' = true) (hy1 : ∀ u ∈ ys, u.oneCell' = true) :
    Calls Tryd.prog 135 #[.slice A n c, .int .i64 (i : Int), .slice (some ⟨vb, 0, none⟩) 1 1] w fun e w' => ∃ v, e = .returned v ∧ Own w' 37 5 v (n + 1) (xs.take (i * 5) ++ ys ++ xs.drop (i * 5)) ∧ Fr (fun b => (Value.slice A n c).ownBlock = some b) w w' ∧ (∀ b, v.ownBlock = some b → (Value.slice A n c).ownBlock = some b ∨ w.heap.size ≤ b) := by
 refine calls_of_W Tryd.func135 rfl 95 rfl (Nat.le_of_ble_eq_true rfl) ?_
 refine W_seq ?_
 refine W_region ?_
 refine r_val rfl (x_assign (v := .slice none 0 0) rfl) ?_
 refine RW_nil ?_
 refine thenW_n ?_
 refine W_seq ?_
 refine W_region ?_
 refine r_val rfl (x_move (v := .slice A n c) rfl) ?_
 refine r_val rfl (x_move (v := .int .i64 (i : Int)) rfl) ?_
 refine r_val rfl (x_sliceLo (l := i) es_26 rfl rfl (by first | rfl | omega) (by omega)) ?_
 refine RW_nil ?_
 refine thenW_n ?_
 refine W_seq ?_
 refine W_region ?_
 refine r_val rfl (x_move (v := .slice (some ⟨vb, 0, none⟩) 1 1) rfl) ?_
 refine r_val rfl (x_len (n := 1) ul_26 rfl) ?_
 refine r_val rfl (x_assign (v := .int .i64 1) rfl) ?_
 refine RW_nil ?_
 refine thenW_n ?_
 refine W_seq ?_
 refine W_seq ?_
 refine W_region ?_
 refine r_val rfl (x_move (v := .int .i64 1) rfl) ?_
 refine r_val rfl (x_eql (a := 1) (b := 0) rfl rfl) ?_
 refine RW_nil ?_
 refine thenW_n ?_
 refine W_condF (b := decide (1 = 0)) rfl rfl (by decide) ?_
 refine W_skip ?_
 refine thenW_n ?_
 refine W_seq ?_
 refine W_region ?_
 refine r_val rfl (x_move (v := .slice A n c) rfl) ?_
 refine r_val rfl (x_len (n := n) ul_26 rfl) ?_
 refine r_val rfl (x_assign (v := .int .i64 (n : Int)) rfl) ?_
 refine RW_nil ?_
 refine thenW_n ?_
 refine W_seq ?_
 refine W_seq ?_
 refine W_region ?_
 refine r_val rfl (x_move (v := .int .i64 (i : Int)) rfl) ?_
 refine r_val rfl (x_move (v := .int .i64 (n : Int)) rfl) ?_
 refine r_val rfl (x_eql (a := (i : Int)) (b := (n : Int)) rfl rfl) ?_
 refine RW_nil ?_
 refine thenW_n ?_
 refine W_condD (p := (i : Int) = (n : Int)) rfl rfl (fun hc1 => ?_) (fun hc1 => ?_)
 ·skip
  refine W_seq ?_
  refine W_region ?_
  refine r_val rfl (x_move (v := .slice A n c) rfl) ?_
  refine r_val rfl (x_move (v := .slice (some ⟨vb, 0, none⟩) 1 1) rfl) ?_
  refine r_append rfl rfl ei_26 rfl (by decide) (v := .slice A n c) (u := .slice (some ⟨vb, 0, none⟩) 1 1) rfl rfl hO (Own.of_blk hy 5 1 hyl (by decide)).rd hy1 (by unfold maxLen; omega) (by omega) ?_
  intro v2 w7 hO3 F4 hat5 hnil6
  refine r_val rfl (x_assign (v := v2) rfl) ?_
  refine RW_nil ?_
  refine thenW_n ?_
  refine W_ret ?_
  refine thenW_r ?_
  refine q_ret1 (v := v2) rfl rfl rfl ?_
  have hin : i = n := by omega
  subst hin
  refine ⟨v2, rfl, ?_, F4, fun b hb => ?_⟩
  · rw [List.take_of_length_le (Nat.le_of_eq hO.1), List.drop_of_length_le (Nat.le_of_eq hO.1), List.append_nil]; exact hO3
  · rcases hat5 with h | h
    · left; rw [← h]; exact hb
    · right; rw [h] at hb; injection hb with hb; omega
 ·skip
  obtain ⟨g, cur, hA, hB, hnc, hcm, hcl, hcx⟩ := hO.open_ (by omega)
  subst hA
  have hgv : g ≠ vb := fun h => hne (h ▸ rfl)
  refine W_skip ?_
  refine thenW_n ?_
  refine W_seq ?_
  refine W_seq ?_
  refine W_region ?_
  refine r_val rfl (x_move (v := .int .i64 (n : Int)) rfl) ?_
  refine r_val rfl (x_move (v := .int .i64 1) rfl) ?_
  refine r_val rfl (x_add64 (a := (n : Int)) (b := 1) rfl rfl (by omega)) ?_
  refine r_val rfl (x_move (v := .slice (some ⟨g, 0, none⟩) n c) rfl) ?_
  refine r_val rfl (x_cap (c := c) ul_26 rfl) ?_
  refine r_val rfl (x_gtr (a := (n : Int) + 1) (b := (c : Int)) rfl rfl) ?_
  refine RW_nil ?_
  refine thenW_n ?_
  refine W_condD (p := (c : Int) < ((n : Int) + 1)) rfl rfl (fun hc8 => ?_) (fun hc8 => ?_)
  ·skip
   refine W_seq ?_
   refine W_region ?_
   refine r_val rfl (x_move (v := .slice (some ⟨g, 0, none⟩) n c) rfl) ?_
   refine r_val rfl (x_move (v := .int .i64 (i : Int)) rfl) ?_
   refine r_val rfl (x_sliceHi (h := i) es_26 rfl rfl (by first | rfl | omega) (by omega)) ?_
   refine r_val rfl (x_move (v := .int .i64 (n : Int)) rfl) ?_
   refine r_val rfl (x_move (v := .int .i64 1) rfl) ?_
   refine r_val rfl (x_add64 (a := (n : Int)) (b := 1) rfl rfl (by omega)) ?_
   refine r_val rfl (x_move (v := .int .i64 (i : Int)) rfl) ?_
   refine r_val rfl (x_sub64 (a := (n : Int) + 1) (b := (i : Int)) rfl rfl (by omega)) ?_
   obtain ⟨g9, hg9⟩ : ∃ n, w.heap.size = n := ⟨_, rfl⟩
   have ne_vb_g9 : vb ≠ g9 := by have := hy.lt; omega
   have ne_g_g9 : g ≠ g9 := by have := hB.lt; omega
   refine r_appendZ (m := n + 1 - i) rfl rfl ei_26 rfl (by decide) ui_3 rfl rfl (by omega) (hO.rd.take i (by omega) c (by omega)) (by omega) (by unfold maxLen; omega) (by omega) g9 hg9 ?_
   intro w18 cap13 zs14 hcap15 hcm16 hz17 F10 z11 hB12
   obtain ⟨l1, hl1⟩ : ∃ l, (xs.take (i * 5) ++ zs14).take (i * 5) ++ ys ++ (xs.take (i * 5) ++ zs14).drop (i * 5 + 5) = l := ⟨_, rfl⟩
   have hl1l : l1.length = cap13 * 5 := by rw [← hl1]; simp only [List.length_append, List.length_take, List.length_drop, hyl, hz17, hO.1]; omega
   refine r_val rfl (x_assign (v := .slice (some ⟨g9, 0, none⟩) (i + (n + 1 - i)) cap13) rfl) ?_
   refine RW_nil ?_
   refine thenW_n ?_
   refine W_seq ?_
   refine W_region ?_
   refine r_val rfl (x_move (v := .slice (some ⟨g9, 0, none⟩) (i + (n + 1 - i)) cap13) rfl) ?_
   refine r_val rfl (x_move (v := .int .i64 (i : Int)) rfl) ?_
   refine r_val rfl (x_sliceLo (l := i) es_26 rfl rfl (by first | rfl | omega) (by omega)) ?_
   refine r_val rfl (x_move (v := .slice (some ⟨vb, 0, none⟩) 1 1) rfl) ?_
   have hB19 := hy.fr F10 (fun f => f)
   refine r_copy (k := 1) (g := g9) (o := i * 5) (l' := l1) rfl rfl es_26 rfl rfl (Own.of_blk hB19 5 1 hyl (by decide)).rd (by show min _ _ = _; omega) (fun _ => by rw [subA_some (by omega), Nat.zero_add]) hB12 (one_take hy1) (by simp only [List.length_append, List.length_take, hz17, hO.1]; omega) (by rw [List.take_of_length_le (l := ys) (i := 1 * 5) (by omega)]; exact hl1) ?_
   intro w23 F20 z21 hB22
   refine RW_nil ?_
   refine thenW_n ?_
   refine W_seq ?_
   have hB24 := hB19.fr F20 ne_vb_g9
   have hB25 := hB.fr F10 (fun f => f)
   have hB26 := hB25.fr F20 ne_g_g9
   have hR27 := hO.fr F10 (fun _ _ f => f)
   have hR28 := hR27.fr F20 (fun b hb h => by have h2 : b = g9 := h; injection hb with hb; have h3 : g = b := hb; omega)
   refine d_begin mo 8 (fun x => Fr No w23 x) ?_
   obtain ⟨w30, hw30⟩ : ∃ x, w23.drew = x := ⟨_, rfl⟩
   have F29 : Fr No w23 w30 := by rw [← hw30]; exact Fr.drew _ _
   have D31 : Fr No w23 w30 := Fr.of_No F29
   have sF29 := F29.size
   rw [hw30]
   refine d_pure (i := 0) rfl (by kernel_rfl) (np_then (np_then np_body)) rfl (fun _ => (x_move (v := .slice (some ⟨g9, 0, none⟩) (i + (n + 1 - i)) cap13) rfl)) (fun _ => D31) ?_
   refine d_pure (i := 1) rfl (by kernel_rfl) (np_then (np_then np_body)) rfl (fun _ => (x_move (v := .int .i64 (i : Int)) rfl)) (fun _ => D31) ?_
   refine d_pure (i := 2) rfl (by kernel_rfl) (np_then (np_then np_body)) rfl (fun _ => (x_move (v := .int .i64 1) rfl)) (fun _ => D31) ?_
   refine d_pure (i := 3) rfl (by kernel_rfl) (np_then (np_then np_body)) rfl (fun _ => (x_add64 (a := (i : Int)) (b := 1) rfl rfl (by omega))) (fun _ => D31) ?_
   refine d_pure (i := 4) rfl (by kernel_rfl) (np_then (np_then np_body)) rfl (fun _ => (x_sliceLo (l := i + 1) es_26 rfl rfl (by first | rfl | omega) (by omega))) (fun _ => D31) ?_
   refine d_pure (i := 5) rfl (by kernel_rfl) (np_then (np_then np_body)) rfl (fun _ => (x_move (v := .slice (some ⟨g, 0, none⟩) n c) rfl)) (fun _ => D31) ?_
   refine d_pure (i := 6) rfl (by kernel_rfl) (np_then (np_then np_body)) rfl (fun _ => (x_move (v := .int .i64 (i : Int)) rfl)) (fun _ => D31) ?_
   refine d_pure (i := 7) rfl (by kernel_rfl) (np_then (np_then np_body)) rfl (fun _ => (x_sliceLo (l := i) es_26 rfl rfl (by first | rfl | omega) (by omega))) (fun _ => D31) ?_
   refine d_force (i := 8) rfl (by kernel_rfl) ?_
   have hR32 := hR28.fr F29 (fun _ _ f => f)
   obtain ⟨l2, hl2⟩ : ∃ l, l1.take (i * 5 + 5) ++ xs.drop (i * 5) ++ l1.drop ((i + 1) * 5 + (n - i) * 5) = l := ⟨_, rfl⟩
   have hrd := hR32.rd.sub i n (by omega) (Nat.le_refl n) c (by omega)
   have hxl : (xs.drop (i * 5)).length = (n - i) * 5 := by rw [List.length_drop, hO.1]; omega
   rw [List.take_of_length_le (by omega)] at hrd
   have hB33 := hB22.fr F29 (fun f => f)
   refine r_copy (k := (n - i)) (g := g9) (o := (i + 1) * 5) (l' := l2) rfl rfl es_26 rfl rfl hrd (by show min _ _ = _; omega) (fun _ => by rw [subA_some (by omega), Nat.zero_add]) hB33 (one_take (one_drop hx1)) (by omega) (by rw [List.take_of_length_le (l := xs.drop (i * 5)) (by omega), Nat.add_one_mul]; rw [Nat.add_one_mul] at hl2; exact hl2) ?_
   intro w37 F34 z35 hB36
   refine d_next (fun hx => absurd hx (by decide)) ?_
   refine d_done (by kernel_rfl) ?_
   refine thenW_n ?_
   refine W_seq ?_
   refine W_region ?_
   refine r_val rfl (x_move (v := .slice (some ⟨g9, 0, none⟩) (i + (n + 1 - i)) cap13) rfl) ?_
   refine r_val rfl (x_assign (v := .slice (some ⟨g9, 0, none⟩) (i + (n + 1 - i)) cap13) rfl) ?_
   refine RW_nil ?_
   refine thenW_n ?_
   refine W_ret ?_
   refine thenW_r ?_
   have := F10.size
   have := F20.size
   have := F29.size
   have := F34.size
   refine q_ret1 (v := .slice (some ⟨g9, 0, none⟩) (i + (n + 1 - i)) cap13) rfl rfl rfl ?_
   have hfin := ins_grow (s := 5) (b := n * 5) hO.1 hyl (Nat.mul_le_mul_right 5 hi) hz17 (by omega) (k := (i + 1) * 5 + (n - i) * 5) (by omega) hl1 hl2
   refine ⟨_, rfl, ?_, ?_, fun b hb => ?_⟩
   · have hidx : i + (n + 1 - i) = n + 1 := by omega
     rw [hidx]
     exact Own.of_blk' (c := cap13) hB36 (by rw [hfin.2]; omega) (by omega) (by omega) (by rw [Nat.add_one_mul]; exact hfin.1)
   · exact (((((Fr.refl (fun b => (Value.slice (some ⟨g, 0, none⟩) n c).ownBlock = some b) _).trans F10 (fun j hj h => h.elim)).trans F20 (fun j hj h => (by have h2 : j = g9 := h; omega))).trans F29 (fun j hj h => h.elim)).trans F34 (fun j hj h => (by have h2 : j = g9 := h; omega)))
   · right; injection hb with hb; have h3 : g9 = b := hb; omega
  ·skip
   refine W_skip ?_
   refine thenW_n ?_
   refine W_seq ?_
   refine W_region ?_
   refine r_val rfl (x_move (v := .slice (some ⟨g, 0, none⟩) n c) rfl) ?_
   refine r_val rfl (x_move (v := .int .i64 (n : Int)) rfl) ?_
   refine r_val rfl (x_move (v := .int .i64 1) rfl) ?_
   refine r_val rfl (x_add64 (a := (n : Int)) (b := 1) rfl rfl (by omega)) ?_
   refine r_val rfl (x_sliceHi (h := n + 1) es_26 rfl rfl (by first | rfl | omega) (by omega)) ?_
   refine r_val rfl (x_assign (v := .slice (some ⟨g, 0, none⟩) (n + 1) c) rfl) ?_
   refine RW_nil ?_
   refine thenW_n ?_
   refine W_seq ?_
   refine W_seq ?_
   refine W_region ?_
   refine r_val rfl (x_move (v := .slice (some ⟨vb, 0, none⟩) 1 1) rfl) ?_
   refine r_val rfl (x_move (v := .slice (some ⟨g, 0, none⟩) (n + 1) c) rfl) ?_
   refine r_val rfl (x_move (v := .int .i64 (i : Int)) rfl) ?_
   refine r_val rfl (x_move (v := .int .i64 1) rfl) ?_
   refine r_val rfl (x_add64 (a := (i : Int)) (b := 1) rfl rfl (by omega)) ?_
   refine r_val rfl (x_sliceLo (l := i + 1) es_26 rfl rfl (by first | rfl | omega) (by omega)) ?_
   refine r_val rfl (x_overlaps (a := 1) (b := n + 1 - (i + 1)) (size := 5) (t := 26) (tr := 4) Tryd.func187 (by kernel_rfl) rfl (by kernel_rfl) rfl es_26 rfl rfl (subA_some (by omega)) (Ne.symm hgv) hy hB (by omega)) ?_
   refine r_val rfl (x_not (b := false) rfl) ?_
   refine RW_nil ?_
   refine thenW_n ?_
   refine W_condT (b := true) rfl rfl rfl ?_
   refine W_seq ?_
   refine d_begin mo 8 (fun x => Fr No w x) ?_
   obtain ⟨w39, hw39⟩ : ∃ x, w.drew = x := ⟨_, rfl⟩
   have F38 : Fr No w w39 := by rw [← hw39]; exact Fr.drew _ _
   have D40 : Fr No w w39 := Fr.of_No F38
   have sF38 := F38.size
   rw [hw39]
   refine d_pure (i := 0) rfl (by kernel_rfl) (np_then (np_then np_body)) rfl (fun _ => (x_move (v := .slice (some ⟨g, 0, none⟩) (n + 1) c) rfl)) (fun _ => D40) ?_
   refine d_pure (i := 1) rfl (by kernel_rfl) (np_then (np_then np_body)) rfl (fun _ => (x_move (v := .int .i64 (i : Int)) rfl)) (fun _ => D40) ?_
   refine d_pure (i := 2) rfl (by kernel_rfl) (np_then (np_then np_body)) rfl (fun _ => (x_move (v := .int .i64 1) rfl)) (fun _ => D40) ?_
   refine d_pure (i := 3) rfl (by kernel_rfl) (np_then (np_then np_body)) rfl (fun _ => (x_add64 (a := (i : Int)) (b := 1) rfl rfl (by omega))) (fun _ => D40) ?_
   refine d_pure (i := 4) rfl (by kernel_rfl) (np_then (np_then np_body)) rfl (fun _ => (x_sliceLo (l := i + 1) es_26 rfl rfl (by first | rfl | omega) (by omega))) (fun _ => D40) ?_
   refine d_pure (i := 5) rfl (by kernel_rfl) (np_then (np_then np_body)) rfl (fun _ => (x_move (v := .slice (some ⟨g, 0, none⟩) (n + 1) c) rfl)) (fun _ => D40) ?_
   refine d_pure (i := 6) rfl (by kernel_rfl) (np_then (np_then np_body)) rfl (fun _ => (x_move (v := .int .i64 (i : Int)) rfl)) (fun _ => D40) ?_
   refine d_pure (i := 7) rfl (by kernel_rfl) (np_then (np_then np_body)) rfl (fun _ => (x_sliceLo (l := i) es_26 rfl rfl (by first | rfl | omega) (by omega))) (fun _ => D40) ?_
   refine d_force (i := 8) rfl (by kernel_rfl) ?_
   have hB41 := hB.fr F38 (fun f => f)
   obtain ⟨l1, hl1⟩ : ∃ l, cur.take (i * 5 + 5) ++ (cur.drop (i * 5)).take (n * 5 - i * 5) ++ cur.drop ((i + 1) * 5 + (n - i) * 5) = l := ⟨_, rfl⟩
   have hrd := (Rd.of_blk (size := 5) (m := n + 1) hB41 hcl (by omega)).sub i (n + 1) (by omega) (Nat.le_refl _) c (by omega)
   have hsrc : (((cur.take ((n + 1) * 5)).drop (i * 5)).take ((n + 1 - i) * 5)).take ((n - i) * 5) = (cur.drop (i * 5)).take (n * 5 - i * 5) := by rw [List.drop_take, List.take_take, List.take_take]; congr 1; omega
   have hl1l : l1.length = c * 5 := by rw [← hl1]; simp only [List.length_append, List.length_take, List.length_drop, hcl]; omega
   refine r_copy (k := (n - i)) (g := g) (o := (i + 1) * 5) (l' := l1) rfl rfl es_26 rfl rfl hrd (by show min _ _ = _; omega) (fun _ => by rw [subA_some (by omega), Nat.zero_add]) hB41 (by rw [hsrc, ← List.drop_take, hcx]; exact one_drop hx1) (by omega) (by rw [hsrc, Nat.add_one_mul]; rw [Nat.add_one_mul] at hl1; exact hl1) ?_
   intro w45 F42 z43 hB44
   refine d_next (fun hx => absurd hx (by decide)) ?_
   refine d_done (by kernel_rfl) ?_
   refine thenW_n ?_
   refine W_seq ?_
   refine W_region ?_
   refine r_val rfl (x_move (v := .slice (some ⟨g, 0, none⟩) (n + 1) c) rfl) ?_
   refine r_val rfl (x_move (v := .int .i64 (i : Int)) rfl) ?_
   refine r_val rfl (x_sliceLo (l := i) es_26 rfl rfl (by first | rfl | omega) (by omega)) ?_
   refine r_val rfl (x_move (v := .slice (some ⟨vb, 0, none⟩) 1 1) rfl) ?_
   obtain ⟨l2, hl2⟩ : ∃ l, l1.take (i * 5) ++ ys ++ l1.drop (i * 5 + 5) = l := ⟨_, rfl⟩
   have hB46 := hy.fr F38 (fun f => f)
   have hB47 := hB46.fr F42 (Ne.symm hgv)
   refine r_copy (k := 1) (g := g) (o := i * 5) (l' := l2) rfl rfl es_26 rfl rfl (Own.of_blk hB47 5 1 hyl (by decide)).rd (by show min _ _ = _; omega) (fun _ => by rw [subA_some (by omega), Nat.zero_add]) hB44 (one_take hy1) (by omega) (by rw [List.take_of_length_le (l := ys) (i := 1 * 5) (by omega)]; exact hl2) ?_
   intro w51 F48 z49 hB50
   refine RW_nil ?_
   refine thenW_n ?_
   refine W_seq ?_
   refine W_region ?_
   refine r_val rfl (x_move (v := .slice (some ⟨g, 0, none⟩) (n + 1) c) rfl) ?_
   refine r_val rfl (x_assign (v := .slice (some ⟨g, 0, none⟩) (n + 1) c) rfl) ?_
   refine RW_nil ?_
   refine thenW_n ?_
   refine W_ret ?_
   refine thenW_r ?_
   have := F38.size
   have := F42.size
   have := F48.size
   refine q_ret1 (v := .slice (some ⟨g, 0, none⟩) (n + 1) c) rfl rfl rfl ?_
   have hfin := ins_room (s := 5) (b := n * 5) (C := cur) hcx (by omega) hyl (Nat.mul_le_mul_right 5 hi) (k := (i + 1) * 5 + (n - i) * 5) (by omega) rfl hl1 hl2
   refine ⟨_, rfl, ?_, ?_, fun b hb => .inl hb⟩
   · exact Own.of_blk' (c := c) hB50 (by rw [hfin.2]; exact hcl) (by omega) hcm (by rw [Nat.add_one_mul]; exact hfin.1)
   · exact ((((Fr.refl (fun b => (Value.slice (some ⟨g, 0, none⟩) n c).ownBlock = some b) _).trans F38 (fun j hj h => h.elim)).trans F42 (fun j hj h => (h ▸ rfl))).trans F48 (fun j hj h => (h ▸ rfl)))

end Go.Proofs.YthomkocjjkmnkaaDoor
