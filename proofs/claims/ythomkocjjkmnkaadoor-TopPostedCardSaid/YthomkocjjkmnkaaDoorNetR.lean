import Derived.Test.YthomkocjjkmnkaaDoorTab
import Derived.Test.YthomkocjjkmnkaaDoorNetQ
/- PRINTED by gen.py (wip/tools) from the plan wip/plans: walks. -/
namespace Go.Proofs.YthomkocjjkmnkaaDoor
open Go Go.RowKit
set_option maxRecDepth 100000
set_option linter.unusedVariables false
theorem sends_any (N n c mst : Nat) (A : Option Addr) (num lost : Int) (l : List (Fl × Value)) (fn ff ft fd : Int) (fv : Value) (bs : List UInt8) (w : World) (hN : Blk w N 28 [.slice A n c, .int .i64 num, .int .i64 lost, .int .i64 (mst : Int)])
    (hR : Rd w 5 (.slice A n c) n (encL FC l)) (hl : l.length = n) (hn : n ≤ 1000000) (hse : 0 ≤ num ∧ num ≤ 1000000) (hlo_ : 0 ≤ lost ∧ lost ≤ 1000000) (hmo : mst ≤ 1000000) (hrl : ∀ b, (Value.slice A n c).ownBlock = some b → b < w.heap.size ∧ b ≠ N) (h1 : ∀ p ∈ l, p.2.oneCell' = true) (hv1 : fv.oneCell' = true) :
    Calls Tryd.prog 11 #[.pointer (some ⟨N, 0, none⟩), .agg #[.int .i64 fn, .int .i64 ff, .int .i64 ft, .int .i64 fd, fv]] w fun e w' => e = .returned (.tuple #[]) ∧ ∃ v k lost', Blk w' N 28 [v, .int .i64 (num + 1), .int .i64 lost', .int .i64 (mst : Int)] ∧ k ≤ n ∧ (∀ i, i < k → ahead fd (num + 1) (l.getD i fl0)) ∧ (∀ h : k < n, ¬ ahead fd (num + 1) (l.getD k fl0)) ∧
     (n + 1 ≤ mst ∧ lost' = lost ∧ Rd w' 5 v (n + 1) (encL FC (l.take k ++ (⟨num + 1, ff, ft, fd, bs⟩, fv) :: l.drop k)) ∨ mst < n + 1 ∧ lost' = lost + 1 ∧ Rd w' 5 v mst (encL FC ((l.take k ++ (⟨num + 1, ff, ft, fd, bs⟩, fv) :: l.drop k).take mst))) ∧ (∀ b, v.ownBlock = some b → w.heap.size ≤ b) ∧ Fr (fun b => b = N) w w' := by
 refine calls_of_W Tryd.func11 rfl 52 rfl (Nat.le_of_ble_eq_true rfl) ?_
 refine W_seq ?_
 refine W_region ?_
 obtain ⟨fb, hfb⟩ : ∃ n, w.heap.size = n := ⟨_, rfl⟩
 have ne_N_fb : N ≠ fb := by have := hN.lt; omega
 refine r_box (v := .agg #[.int .i64 fn, .int .i64 ff, .int .i64 ft, .int .i64 fd, fv]) (l := [.int .i64 fn, .int .i64 ff, .int .i64 ft, .int .i64 fd, fv]) rfl fb hfb rfl rfl ?_
 intro w4 F1 z2 hB3
 refine RW_nil ?_
 refine thenW_n ?_
 refine W_seq ?_
 refine W_region ?_
 refine r_val rfl (x_move (v := .pointer (some ⟨N, 0, none⟩)) rfl) ?_
 refine r_val rfl (x_nilCheck rfl) ?_
 refine r_val rfl (x_fieldAddr (b := N) (o := 0) fo_28_1 rfl) ?_
 have hB5 := hN.fr F1 (fun f => f)
 refine r_val rfl (x_load (v := .int .i64 num) kind_3 rfl (hB5.cell rfl)) ?_
 refine r_val rfl (x_add64 (a := num) (b := 1) rfl rfl (by omega)) ?_
 refine r_val rfl (x_nilCheck rfl) ?_
 refine r_val rfl (x_fieldAddr (b := N) (o := 0) fo_28_1 rfl) ?_
 refine r_store (v := .int .i64 (num + 1)) (vs := [.int .i64 (num + 1)]) (l' := [.slice A n c, .int .i64 (num + 1), .int .i64 lost, .int .i64 (mst : Int)]) rfl rfl size_3 rfl rfl rfl rfl hB5 (Nat.le_of_ble_eq_true rfl) rfl ?_
 intro w9 F6 z7 hB8
 refine RW_nil ?_
 refine thenW_n ?_
 refine W_seq ?_
 refine W_region ?_
 refine r_val rfl (x_move (v := .pointer (some ⟨N, 0, none⟩)) rfl) ?_
 refine r_val rfl (x_nilCheck rfl) ?_
 refine r_val rfl (x_fieldAddr (b := N) (o := 0) fo_28_1 rfl) ?_
 refine r_val rfl (x_load (v := .int .i64 (num + 1)) kind_3 rfl (hB8.cell rfl)) ?_
 refine r_val rfl (x_fieldAddr (b := fb) (o := 0) fo_37_0 rfl) ?_
 have hB10 := hB3.fr F6 (Ne.symm ne_N_fb)
 refine r_store (v := .int .i64 (num + 1)) (vs := [.int .i64 (num + 1)]) (l' := [.int .i64 (num + 1), .int .i64 ff, .int .i64 ft, .int .i64 fd, fv]) rfl rfl size_3 rfl rfl rfl rfl hB10 (Nat.le_of_ble_eq_true rfl) rfl ?_
 intro w14 F11 z12 hB13
 refine RW_nil ?_
 refine thenW_n ?_
 refine W_seq ?_
 refine W_region ?_
 refine r_val rfl (x_move (v := .pointer (some ⟨N, 0, none⟩)) rfl) ?_
 refine r_val rfl (x_loadBlk (b := fb) (l := [.int .i64 (num + 1), .int .i64 ff, .int .i64 ft, .int .i64 fd, fv]) kind_37 size_37 rfl hB13) ?_
 have hB15 := hB8.fr F11 ne_N_fb
 have hR16 := hR.fr F1 (fun _ _ f => f)
 have hR17 := hR16.fr F6 (fun b hb h => (hrl b hb).2 h)
 have hR18 := hR17.fr F11 (fun b hb h => by have h1 := (hrl b hb).1; have h2 : b = fb := h; omega)
 have := F1.size
 have := F6.size
 have := F11.size
 refine r_call rfl (c16 (vs := [.pointer (some ⟨N, 0, none⟩), .agg #[.int .i64 (num + 1), .int .i64 ff, .int .i64 ft, .int .i64 fd, fv]]) rfl) (lays_any N n c A (num + 1) lost (mst : Int) l (num + 1) ff ft fd fv bs w14 hB15 hR18 hl hn (fun b hb => (by have h1 := hrl b hb; exact ⟨by omega, h1.2⟩)) h1 hv1) ?_
 rintro _ w19 ⟨rfl, v, k, hN2, hk, hlo, hhi, hO2, hfr, hFl⟩
 obtain ⟨A2, c2, hve, hc2⟩ := hO2.rd.form
 subst hve
 refine ⟨_, rfl, ?_⟩
 refine RW_nil ?_
 refine thenW_n ?_
 refine W_seq ?_
 have hB20 := hB13.fr hFl (fun h => ne_N_fb h.symm)
 refine d_begin mo 10 (fun x => Fr No w19 x) ?_
 obtain ⟨w22, hw22⟩ : ∃ x, w19.drew = x := ⟨_, rfl⟩
 have F21 : Fr No w19 w22 := by rw [← hw22]; exact Fr.drew _ _
 have D23 : Fr No w19 w22 := Fr.of_No F21
 have sF21 := F21.size
 rw [hw22]
 refine d_pure (i := 0) rfl (by kernel_rfl) (np_then np_body) rfl (fun _ => (x_move (v := .pointer (some ⟨N, 0, none⟩)) rfl)) (fun _ => D23) ?_
 refine d_pure (i := 1) rfl (by kernel_rfl) (np_then np_body) rfl (fun _ => (x_nilCheck rfl)) (fun _ => D23) ?_
 refine d_pure (i := 2) rfl (by kernel_rfl) (np_then np_body) rfl (fun _ => (x_fieldAddr (b := N) (o := 0) fo_28_0 rfl)) (fun _ => D23) ?_
 refine d_load (i := 3) rfl (by kernel_rfl) (np_then np_body) rfl (by kernel_rfl) rfl (fun x hS => (x_load (v := .slice A2 (n + 1) c2) kind_26 rfl ((hN2.fr hS (fun f => f)).cell rfl))) D23 ?_
 refine d_pure (i := 4) rfl (by kernel_rfl) (np_then np_body) rfl (fun _ => (x_len (n := n + 1) ul_26 rfl)) (fun _ => D23) ?_
 refine d_pure (i := 5) rfl (by kernel_rfl) (np_then np_body) rfl (fun _ => (x_move (v := .pointer (some ⟨N, 0, none⟩)) rfl)) (fun _ => D23) ?_
 refine d_pure (i := 6) rfl (by kernel_rfl) (np_then np_body) rfl (fun _ => (x_nilCheck rfl)) (fun _ => D23) ?_
 refine d_pure (i := 7) rfl (by kernel_rfl) (np_then np_body) rfl (fun _ => (x_fieldAddr (b := N) (o := 0) fo_28_3 rfl)) (fun _ => D23) ?_
 refine d_load (i := 8) rfl (by kernel_rfl) (np_then np_body) rfl (by kernel_rfl) rfl (fun x hS => (x_load (v := .int .i64 (mst : Int)) kind_3 rfl ((hN2.fr hS (fun f => f)).cell rfl))) D23 ?_
 refine d_pure (i := 9) rfl (by kernel_rfl) (np_then np_body) rfl (fun _ => (x_gtr (a := (n + 1 : Int)) (b := (mst : Int)) rfl rfl)) (fun _ => D23) ?_
 refine d_done (by kernel_rfl) ?_
 refine thenW_n ?_
 refine W_condD (p := (mst : Int) < (n + 1 : Int)) rfl rfl (fun hc24 => ?_) (fun hc24 => ?_)
 ·skip
  refine W_seq ?_
  have hB25 := hN2.fr F21 (fun f => f)
  have hB26 := hB20.fr F21 (fun f => f)
  have hR27 := hO2.fr F21 (fun _ _ f => f)
  refine d_begin mo 16 (fun x => Fr No w22 x) ?_
  obtain ⟨w29, hw29⟩ : ∃ x, w22.drew = x := ⟨_, rfl⟩
  have F28 : Fr No w22 w29 := by rw [← hw29]; exact Fr.drew _ _
  have D30 : Fr No w22 w29 := Fr.of_No F28
  have sF28 := F28.size
  rw [hw29]
  refine d_pure (i := 0) rfl (by kernel_rfl) (np_then np_body) rfl (fun _ => (x_move (v := .pointer (some ⟨N, 0, none⟩)) rfl)) (fun _ => D30) ?_
  refine d_pure (i := 1) rfl (by kernel_rfl) (np_then np_body) rfl (fun _ => (x_move (v := .pointer (some ⟨N, 0, none⟩)) rfl)) (fun _ => D30) ?_
  refine d_pure (i := 2) rfl (by kernel_rfl) (np_then np_body) rfl (fun _ => (x_nilCheck rfl)) (fun _ => D30) ?_
  refine d_pure (i := 3) rfl (by kernel_rfl) (np_then np_body) rfl (fun _ => (x_fieldAddr (b := N) (o := 0) fo_28_0 rfl)) (fun _ => D30) ?_
  refine d_load (i := 4) rfl (by kernel_rfl) (np_then np_body) rfl (by kernel_rfl) rfl (fun x hS => (x_load (v := .slice A2 (n + 1) c2) kind_26 rfl ((hB25.fr hS (fun f => f)).cell rfl))) D30 ?_
  refine d_pure (i := 5) rfl (by kernel_rfl) (np_then np_body) rfl (fun _ => (x_move (v := .pointer (some ⟨N, 0, none⟩)) rfl)) (fun _ => D30) ?_
  refine d_pure (i := 6) rfl (by kernel_rfl) (np_then np_body) rfl (fun _ => (x_nilCheck rfl)) (fun _ => D30) ?_
  refine d_pure (i := 7) rfl (by kernel_rfl) (np_then np_body) rfl (fun _ => (x_fieldAddr (b := N) (o := 0) fo_28_3 rfl)) (fun _ => D30) ?_
  refine d_load (i := 8) rfl (by kernel_rfl) (np_then np_body) rfl (by kernel_rfl) rfl (fun x hS => (x_load (v := .int .i64 (mst : Int)) kind_3 rfl ((hB25.fr hS (fun f => f)).cell rfl))) D30 ?_
  refine d_pure (i := 9) rfl (by kernel_rfl) (np_then np_body) rfl (fun _ => (x_move (v := .pointer (some ⟨N, 0, none⟩)) rfl)) (fun _ => D30) ?_
  refine d_pure (i := 10) rfl (by kernel_rfl) (np_then np_body) rfl (fun _ => (x_nilCheck rfl)) (fun _ => D30) ?_
  refine d_pure (i := 11) rfl (by kernel_rfl) (np_then np_body) rfl (fun _ => (x_fieldAddr (b := N) (o := 0) fo_28_3 rfl)) (fun _ => D30) ?_
  refine d_load (i := 12) rfl (by kernel_rfl) (np_then np_body) rfl (by kernel_rfl) rfl (fun x hS => (x_load (v := .int .i64 (mst : Int)) kind_3 rfl ((hB25.fr hS (fun f => f)).cell rfl))) D30 ?_
  refine d_pure (i := 13) rfl (by kernel_rfl) (np_then np_body) rfl (fun _ => (x_slice3Hi (h := mst) (m := mst) es_26 rfl rfl rfl (by first | rfl | omega) (by first | rfl | omega) (by omega) (by omega))) (fun _ => D30) ?_
  refine d_pure (i := 14) rfl (by kernel_rfl) (np_then np_body) rfl (fun _ => (x_nilCheck rfl)) (fun _ => D30) ?_
  refine d_pure (i := 15) rfl (by kernel_rfl) (np_then np_body) rfl (fun _ => (x_fieldAddr (b := N) (o := 0) fo_28_0 rfl)) (fun _ => D30) ?_
  refine d_force (i := 16) rfl (by kernel_rfl) ?_
  have hB31 := hB25.fr F28 (fun f => f)
  refine r_store (v := .slice A2 mst mst) (vs := [.slice A2 mst mst]) (l' := [.slice A2 mst mst, .int .i64 (num + 1), .int .i64 lost, .int .i64 (mst : Int)]) rfl rfl size_26 rfl rfl rfl rfl hB31 (Nat.le_of_ble_eq_true rfl) rfl ?_
  intro w35 F32 z33 hB34
  refine d_next (fun hx => absurd hx (by decide)) ?_
  refine d_done (by kernel_rfl) ?_
  refine thenW_n ?_
  refine W_region ?_
  refine r_val rfl (x_move (v := .pointer (some ⟨N, 0, none⟩)) rfl) ?_
  refine r_val rfl (x_nilCheck rfl) ?_
  refine r_val rfl (x_fieldAddr (b := N) (o := 0) fo_28_2 rfl) ?_
  refine r_val rfl (x_load (v := .int .i64 lost) kind_3 rfl (hB34.cell rfl)) ?_
  refine r_val rfl (x_add64 (a := lost) (b := 1) rfl rfl (by omega)) ?_
  refine r_val rfl (x_nilCheck rfl) ?_
  refine r_val rfl (x_fieldAddr (b := N) (o := 0) fo_28_2 rfl) ?_
  refine r_store (v := .int .i64 (lost + 1)) (vs := [.int .i64 (lost + 1)]) (l' := [.slice A2 mst mst, .int .i64 (num + 1), .int .i64 (lost + 1), .int .i64 (mst : Int)]) rfl rfl size_3 rfl rfl rfl rfl hB34 (Nat.le_of_ble_eq_true rfl) rfl ?_
  intro w39 F36 z37 hB38
  refine RW_nil ?_
  have hR40 := hR27.fr F28 (fun _ _ f => f)
  have hR41 := hR40.fr F32 (fun b hb h => by have h1 := hfr b hb; have h2 : b = N := h; have := hN.lt; omega)
  have hR42 := hR41.fr F36 (fun b hb h => by have h1 := hfr b hb; have h2 : b = N := h; have := hN.lt; omega)
  have := F1.size
  have := F6.size
  have := F11.size
  have := hFl.size
  have := F21.size
  have := F28.size
  have := F32.size
  have := F36.size
  refine q_none rfl ?_
  have htk := hR42.rd.take mst (by omega) mst (Nat.le_refl _)
  rw [encL_take FC_len] at htk
  exact ⟨rfl, .slice A2 mst mst, k, lost + 1, hB38, hk, hlo, hhi, .inr ⟨by omega, rfl, htk⟩, fun b hb => (by have h1 := hfr b (by cases A2 <;> exact hb); omega), (((((((((Fr.refl (fun b => b = N) _).trans F1 (fun j hj h => h.elim)).trans F6 (fun j hj h => h)).trans F11 (fun j hj h => (by have h2 : j = fb := h; omega))).trans hFl (fun j hj h => h)).trans F21 (fun j hj h => h.elim)).trans F28 (fun j hj h => h.elim)).trans F32 (fun j hj h => h)).trans F36 (fun j hj h => h))⟩
 ·skip
  refine W_skip ?_
  have hB43 := hN2.fr F21 (fun f => f)
  have hR44 := hO2.fr F21 (fun _ _ f => f)
  have := F1.size
  have := F6.size
  have := F11.size
  have := hFl.size
  have := F21.size
  refine q_none rfl ?_
  exact ⟨rfl, .slice A2 (n + 1) c2, k, lost, hB43, hk, hlo, hhi, .inl ⟨by omega, rfl, hR44.rd⟩, fun b hb => (by have h1 := hfr b hb; omega), ((((((Fr.refl (fun b => b = N) _).trans F1 (fun j hj h => h.elim)).trans F6 (fun j hj h => h)).trans F11 (fun j hj h => (by have h2 : j = fb := h; omega))).trans hFl (fun j hj h => h)).trans F21 (fun j hj h => h.elim))⟩

end Go.Proofs.YthomkocjjkmnkaaDoor
