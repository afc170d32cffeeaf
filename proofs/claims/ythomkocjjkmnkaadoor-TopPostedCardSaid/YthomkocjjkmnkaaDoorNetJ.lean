import Derived.Test.YthomkocjjkmnkaaDoorTab
import Derived.Test.YthomkocjjkmnkaaDoorNetI
import Derived.Test.YthomkocjjkmnkaaDoorNetB
/- PRINTED by gen.py (wip/tools) from the plan wip/plans: walks. -/
namespace Go.Proofs.YthomkocjjkmnkaaDoor
open Go Go.RowKit
set_option maxRecDepth 100000
set_option linter.unusedVariables false
theorem fresh_any (B n c mst m mc : Nat) (A FA : Option Addr) (nodes sent lost : Int) (l : List (Fl × Value)) (fn ff ft fd : Int) (bs : List UInt8) (w : World) (hB : Blk w B 154 [.int .i64 nodes, .int .i64 (mst : Int), .slice A n c, .int .i64 sent, .int .i64 lost])
    (hO : Own w 37 5 (.slice A n c) n (encL FC l)) (hl : l.length = n) (hn : n ≤ 1000000) (h1 : ∀ p ∈ l, p.2.oneCell' = true) (hse : 0 ≤ sent ∧ sent ≤ 1000000) (hlo_ : 0 ≤ lost ∧ lost ≤ 1000000) (hmo_ : mst ≤ 1000000)
    (hR : Rd w 1 (.slice FA m mc) m (BC bs)) (hfB : ∀ b, (Value.slice FA m mc).ownBlock = some b → b ≠ B) (hnil : FA = none → m = 0) (hm : m ≤ 1000000)
    (hs : ∀ i j, i ≤ j → j < n → ahead fd (sent + 1) (l.getD j fl0) → ahead fd (sent + 1) (l.getD i fl0)) :
    Calls Tryd.prog 77 #[.pointer (some ⟨B, 0, none⟩), .agg #[.int .i64 fn, .int .i64 ff, .int .i64 ft, .int .i64 fd, .slice FA m mc]] w fun e w' => e = .returned (.tuple #[]) ∧ ∃ v bv k lost', Blk w' B 154 [.int .i64 nodes, .int .i64 (mst : Int), v, .int .i64 (sent + 1), .int .i64 lost'] ∧ k ≤ n ∧ (∀ i, i < k → ahead fd (sent + 1) (l.getD i fl0)) ∧ (∀ i, k ≤ i → i < n → ¬ ahead fd (sent + 1) (l.getD i fl0)) ∧
      Own w' 5 1 bv m (BC bs) ∧ (∀ b, bv.ownBlock = some b → w.heap.size ≤ b) ∧
      (n + 1 ≤ mst ∧ lost' = lost ∧ Own w' 37 5 v (n + 1) (encL FC (l.take k ++ (⟨sent + 1, ff, ft, fd, bs⟩, bv) :: l.drop k)) ∨ mst < n + 1 ∧ lost' = lost + 1 ∧ Own w' 37 5 v mst (encL FC ((l.take k ++ (⟨sent + 1, ff, ft, fd, bs⟩, bv) :: l.drop k).take mst))) ∧
      Fr (fun b => b = B ∨ (Value.slice A n c).ownBlock = some b) w w' ∧ (∀ b, v.ownBlock = some b → (Value.slice A n c).ownBlock = some b ∨ w.heap.size ≤ b) := by
 refine calls_of_W Tryd.func77 rfl 52 rfl (Nat.le_of_ble_eq_true rfl) ?_
 refine W_seq ?_
 refine W_region ?_
 obtain ⟨fb, hfb⟩ : ∃ n, w.heap.size = n := ⟨_, rfl⟩
 have ne_B_fb : B ≠ fb := by have := hB.lt; omega
 refine r_box (v := .agg #[.int .i64 fn, .int .i64 ff, .int .i64 ft, .int .i64 fd, .slice FA m mc]) (l := [.int .i64 fn, .int .i64 ff, .int .i64 ft, .int .i64 fd, .slice FA m mc]) rfl fb hfb rfl rfl ?_
 intro w4 F1 z2 hB3
 refine RW_nil ?_
 refine thenW_n ?_
 refine W_seq ?_
 refine W_region ?_
 refine r_val rfl (x_move (v := .pointer (some ⟨B, 0, none⟩)) rfl) ?_
 refine r_val rfl (x_nilCheck rfl) ?_
 refine r_val rfl (x_fieldAddr (b := B) (o := 0) fo_154_3 rfl) ?_
 have hB5 := hB.fr F1 (fun f => f)
 refine r_val rfl (x_load (v := .int .i64 sent) kind_3 rfl (hB5.cell rfl)) ?_
 refine r_val rfl (x_add64 (a := sent) (b := 1) rfl rfl (by omega)) ?_
 refine r_val rfl (x_nilCheck rfl) ?_
 refine r_val rfl (x_fieldAddr (b := B) (o := 0) fo_154_3 rfl) ?_
 refine r_store (v := .int .i64 (sent + 1)) (vs := [.int .i64 (sent + 1)]) (l' := [.int .i64 nodes, .int .i64 (mst : Int), .slice A n c, .int .i64 (sent + 1), .int .i64 lost]) rfl rfl size_3 rfl rfl rfl rfl hB5 (Nat.le_of_ble_eq_true rfl) rfl ?_
 intro w9 F6 z7 hB8
 refine RW_nil ?_
 refine thenW_n ?_
 refine W_seq ?_
 have hB10 := hB3.fr F6 (Ne.symm ne_B_fb)
 have hR11 := hO.fr F1 (fun _ _ f => f)
 have hR12 := hR11.fr F6 (fun b hb h => (hO.type_ne hB (by decide)) (h ▸ hb))
 have hR13 := hR.fr F1 (fun _ _ f => f)
 have hR14 := hR13.fr F6 hfB
 refine d_begin mo 8 (fun x => Fr No w9 x) ?_
 obtain ⟨w16, hw16⟩ : ∃ x, w9.drew = x := ⟨_, rfl⟩
 have F15 : Fr No w9 w16 := by rw [← hw16]; exact Fr.drew _ _
 have D17 : Fr No w9 w16 := Fr.of_No F15
 have sF15 := F15.size
 rw [hw16]
 refine d_pure (i := 0) rfl (by kernel_rfl) (np_then np_body) rfl (fun _ => (x_move (v := .pointer (some ⟨B, 0, none⟩)) rfl)) (fun _ => D17) ?_
 refine d_pure (i := 1) rfl (by kernel_rfl) (np_then np_body) rfl (fun _ => (x_nilCheck rfl)) (fun _ => D17) ?_
 refine d_pure (i := 2) rfl (by kernel_rfl) (np_then np_body) rfl (fun _ => (x_fieldAddr (b := B) (o := 0) fo_154_3 rfl)) (fun _ => D17) ?_
 refine d_load (i := 3) rfl (by kernel_rfl) (np_then np_body) rfl (by kernel_rfl) rfl (fun x hS => (x_load (v := .int .i64 (sent + 1)) kind_3 rfl ((hB8.fr hS (fun f => f)).cell rfl))) D17 ?_
 refine d_pure (i := 4) rfl (by kernel_rfl) (np_then np_body) rfl (fun _ => (x_fieldAddr (b := fb) (o := 0) fo_37_4 rfl)) (fun _ => D17) ?_
 refine d_load (i := 5) rfl (by kernel_rfl) (np_then np_body) rfl (by kernel_rfl) rfl (fun x hS => (x_load (v := .slice FA m mc) kind_33 rfl ((hB10.fr hS (fun f => f)).cell rfl))) D17 ?_
 refine d_pure (i := 7) rfl (by kernel_rfl) (np_then np_body) rfl (fun _ => (x_fieldAddr (b := fb) (o := 0) fo_37_0 rfl)) (fun _ => D17) ?_
 refine d_force (i := 6) rfl (by kernel_rfl) ?_
 have hR18 := hR14.fr F15 (fun _ _ f => f)
 refine r_call rfl (c85 (vs := [.slice FA m mc]) rfl) (cloneB FA m mc (BC bs) w16 hR18 hnil (BC_one bs) (by omega)) ?_
 rintro _ w20 ⟨bv, rfl, hOb, F19, hbv, _⟩
 have hB21 := hB10.fr F15 (fun f => f)
 have hB22 := hB21.fr F19 (fun f => f)
 obtain ⟨A3, c3, hbve, hc3⟩ := hOb.rd.form
 subst hbve
 have hFb := hB22
 refine ⟨_, rfl, ?_⟩
 have sD23 := F19.size
 have D23 : Fr No w9 w20 := D17.trans F19 (fun i hi h => (by first | exact h.elim | omega | (simp only [Value.ownBlock, Option.some.injEq] at h; omega) | (have h2 := h; simp at h2; omega) | exact h))
 refine d_next (fun _ => D23) ?_
 refine d_force (i := 8) rfl (by kernel_rfl) ?_
 refine r_store (v := .int .i64 (sent + 1)) (vs := [.int .i64 (sent + 1)]) (l' := [.int .i64 (sent + 1), .int .i64 ff, .int .i64 ft, .int .i64 fd, .slice FA m mc]) rfl rfl size_3 rfl rfl rfl rfl hB22 (Nat.le_of_ble_eq_true rfl) rfl ?_
 intro w27 F24 z25 hB26
 refine d_next (fun hx => absurd hx (by decide)) ?_
 refine d_pure (i := 9) rfl (by kernel_rfl) (np_then np_body) rfl (fun _ => (x_fieldAddr (b := fb) (o := 0) fo_37_4 rfl)) (fun hx => absurd hx (by decide)) ?_
 refine d_force (i := 10) rfl (by kernel_rfl) ?_
 refine r_store (v := .slice A3 m c3) (vs := [.slice A3 m c3]) (l' := [.int .i64 (sent + 1), .int .i64 ff, .int .i64 ft, .int .i64 fd, .slice A3 m c3]) rfl rfl size_33 rfl rfl rfl rfl hB26 (Nat.le_of_ble_eq_true rfl) rfl ?_
 intro w31 F28 z29 hB30
 refine d_next (fun hx => absurd hx (by decide)) ?_
 refine d_done (by kernel_rfl) ?_
 refine thenW_n ?_
 refine W_seq ?_
 refine W_region ?_
 refine r_val rfl (x_move (v := .pointer (some ⟨B, 0, none⟩)) rfl) ?_
 refine r_val rfl (x_loadBlk (b := fb) (l := [.int .i64 (sent + 1), .int .i64 ff, .int .i64 ft, .int .i64 fd, .slice A3 m c3]) kind_37 size_37 rfl hB30) ?_
 have := F1.size
 have := F6.size
 have := F15.size
 have := F19.size
 have := F24.size
 have := F28.size
 have hB32 := hB8.fr F15 (fun f => f)
 have hB33 := hB32.fr F19 (fun f => f)
 have hB34 := hB33.fr F24 ne_B_fb
 have hB35 := hB34.fr F28 ne_B_fb
 have hR36 := hR12.fr F15 (fun _ _ f => f)
 have hR37 := hR36.fr F19 (fun _ _ f => f)
 have hR38 := hR37.fr F24 (fun b hb h => by have h2 : b = fb := h; have := hO.lt hb; omega)
 have hR39 := hR38.fr F28 (fun b hb h => by have h2 : b = fb := h; have := hO.lt hb; omega)
 refine r_call rfl (c84 (vs := [.pointer (some ⟨B, 0, none⟩), .agg #[.int .i64 (sent + 1), .int .i64 ff, .int .i64 ft, .int .i64 fd, .slice A3 m c3]]) rfl) (put_any B n c A nodes (mst : Int) (sent + 1) lost l (sent + 1) ff ft fd (.slice A3 m c3) bs w31 hB35 hR39 hl hn h1 rfl hs) ?_
 rintro _ w41 ⟨rfl, v2, k, hB2, hk, hlo, hhi, hO2, F40, hv2⟩
 obtain ⟨A2, c2, hv2e, hc2⟩ := hO2.rd.form
 subst hv2e
 refine ⟨_, rfl, ?_⟩
 refine RW_nil ?_
 refine thenW_n ?_
 refine W_seq ?_
 have hB42 := hB30.fr F40 (by rintro (h | h); exact ne_B_fb h.symm; have := hO.lt h; omega)
 have hR45 := hOb.fr F24 (fun b hb h => (hOb.type_ne hFb (by decide)) (h ▸ hb))
 have hR46 := hR45.fr F28 (fun b hb h => (hOb.type_ne hFb (by decide)) (h ▸ hb))
 have hR47 := hR46.fr F40 (fun b hb h => by have h1 := hbv b hb; rcases h with h | h; (have := hB.lt; omega); (have := hO.lt h; omega))
 refine d_begin mo 10 (fun x => Fr No w41 x) ?_
 obtain ⟨w49, hw49⟩ : ∃ x, w41.drew = x := ⟨_, rfl⟩
 have F48 : Fr No w41 w49 := by rw [← hw49]; exact Fr.drew _ _
 have D50 : Fr No w41 w49 := Fr.of_No F48
 have sF48 := F48.size
 rw [hw49]
 refine d_pure (i := 0) rfl (by kernel_rfl) (np_then np_body) rfl (fun _ => (x_move (v := .pointer (some ⟨B, 0, none⟩)) rfl)) (fun _ => D50) ?_
 refine d_pure (i := 1) rfl (by kernel_rfl) (np_then np_body) rfl (fun _ => (x_nilCheck rfl)) (fun _ => D50) ?_
 refine d_pure (i := 2) rfl (by kernel_rfl) (np_then np_body) rfl (fun _ => (x_fieldAddr (b := B) (o := 0) fo_154_2 rfl)) (fun _ => D50) ?_
 refine d_load (i := 3) rfl (by kernel_rfl) (np_then np_body) rfl (by kernel_rfl) rfl (fun x hS => (x_load (v := .slice A2 (n + 1) c2) kind_26 rfl ((hB2.fr hS (fun f => f)).cell rfl))) D50 ?_
 refine d_pure (i := 4) rfl (by kernel_rfl) (np_then np_body) rfl (fun _ => (x_len (n := n + 1) ul_26 rfl)) (fun _ => D50) ?_
 refine d_pure (i := 5) rfl (by kernel_rfl) (np_then np_body) rfl (fun _ => (x_move (v := .pointer (some ⟨B, 0, none⟩)) rfl)) (fun _ => D50) ?_
 refine d_pure (i := 6) rfl (by kernel_rfl) (np_then np_body) rfl (fun _ => (x_nilCheck rfl)) (fun _ => D50) ?_
 refine d_pure (i := 7) rfl (by kernel_rfl) (np_then np_body) rfl (fun _ => (x_fieldAddr (b := B) (o := 0) fo_154_1 rfl)) (fun _ => D50) ?_
 refine d_load (i := 8) rfl (by kernel_rfl) (np_then np_body) rfl (by kernel_rfl) rfl (fun x hS => (x_load (v := .int .i64 (mst : Int)) kind_3 rfl ((hB2.fr hS (fun f => f)).cell rfl))) D50 ?_
 refine d_pure (i := 9) rfl (by kernel_rfl) (np_then np_body) rfl (fun _ => (x_gtr (a := (n + 1 : Int)) (b := (mst : Int)) rfl rfl)) (fun _ => D50) ?_
 refine d_done (by kernel_rfl) ?_
 refine thenW_n ?_
 refine W_condD (p := (mst : Int) < (n + 1 : Int)) rfl rfl (fun hc51 => ?_) (fun hc51 => ?_)
 ·skip
  refine W_seq ?_
  have hB52 := hB2.fr F48 (fun f => f)
  have hB53 := hB42.fr F48 (fun f => f)
  have hR54 := hR47.fr F48 (fun _ _ f => f)
  have hR55 := hO2.fr F48 (fun _ _ f => f)
  refine d_begin mo 12 (fun x => Fr No w49 x) ?_
  obtain ⟨w57, hw57⟩ : ∃ x, w49.drew = x := ⟨_, rfl⟩
  have F56 : Fr No w49 w57 := by rw [← hw57]; exact Fr.drew _ _
  have D58 : Fr No w49 w57 := Fr.of_No F56
  have sF56 := F56.size
  rw [hw57]
  refine d_pure (i := 0) rfl (by kernel_rfl) (np_then np_body) rfl (fun _ => (x_move (v := .pointer (some ⟨B, 0, none⟩)) rfl)) (fun _ => D58) ?_
  refine d_pure (i := 1) rfl (by kernel_rfl) (np_then np_body) rfl (fun _ => (x_move (v := .pointer (some ⟨B, 0, none⟩)) rfl)) (fun _ => D58) ?_
  refine d_pure (i := 2) rfl (by kernel_rfl) (np_then np_body) rfl (fun _ => (x_nilCheck rfl)) (fun _ => D58) ?_
  refine d_pure (i := 3) rfl (by kernel_rfl) (np_then np_body) rfl (fun _ => (x_fieldAddr (b := B) (o := 0) fo_154_2 rfl)) (fun _ => D58) ?_
  refine d_load (i := 4) rfl (by kernel_rfl) (np_then np_body) rfl (by kernel_rfl) rfl (fun x hS => (x_load (v := .slice A2 (n + 1) c2) kind_26 rfl ((hB52.fr hS (fun f => f)).cell rfl))) D58 ?_
  refine d_pure (i := 5) rfl (by kernel_rfl) (np_then np_body) rfl (fun _ => (x_move (v := .pointer (some ⟨B, 0, none⟩)) rfl)) (fun _ => D58) ?_
  refine d_pure (i := 6) rfl (by kernel_rfl) (np_then np_body) rfl (fun _ => (x_nilCheck rfl)) (fun _ => D58) ?_
  refine d_pure (i := 7) rfl (by kernel_rfl) (np_then np_body) rfl (fun _ => (x_fieldAddr (b := B) (o := 0) fo_154_1 rfl)) (fun _ => D58) ?_
  refine d_load (i := 8) rfl (by kernel_rfl) (np_then np_body) rfl (by kernel_rfl) rfl (fun x hS => (x_load (v := .int .i64 (mst : Int)) kind_3 rfl ((hB52.fr hS (fun f => f)).cell rfl))) D58 ?_
  refine d_pure (i := 9) rfl (by kernel_rfl) (np_then np_body) rfl (fun _ => (x_sliceHi (h := mst) es_26 rfl rfl (by first | rfl | omega) (by omega))) (fun _ => D58) ?_
  refine d_pure (i := 10) rfl (by kernel_rfl) (np_then np_body) rfl (fun _ => (x_nilCheck rfl)) (fun _ => D58) ?_
  refine d_pure (i := 11) rfl (by kernel_rfl) (np_then np_body) rfl (fun _ => (x_fieldAddr (b := B) (o := 0) fo_154_2 rfl)) (fun _ => D58) ?_
  refine d_force (i := 12) rfl (by kernel_rfl) ?_
  have hB59 := hB52.fr F56 (fun f => f)
  refine r_store (v := .slice A2 mst c2) (vs := [.slice A2 mst c2]) (l' := [.int .i64 nodes, .int .i64 (mst : Int), .slice A2 mst c2, .int .i64 (sent + 1), .int .i64 lost]) rfl rfl size_26 rfl rfl rfl rfl hB59 (Nat.le_of_ble_eq_true rfl) rfl ?_
  intro w63 F60 z61 hB62
  refine d_next (fun hx => absurd hx (by decide)) ?_
  refine d_done (by kernel_rfl) ?_
  refine thenW_n ?_
  refine W_region ?_
  refine r_val rfl (x_move (v := .pointer (some ⟨B, 0, none⟩)) rfl) ?_
  refine r_val rfl (x_nilCheck rfl) ?_
  refine r_val rfl (x_fieldAddr (b := B) (o := 0) fo_154_4 rfl) ?_
  refine r_val rfl (x_load (v := .int .i64 lost) kind_3 rfl (hB62.cell rfl)) ?_
  refine r_val rfl (x_add64 (a := lost) (b := 1) rfl rfl (by omega)) ?_
  refine r_val rfl (x_nilCheck rfl) ?_
  refine r_val rfl (x_fieldAddr (b := B) (o := 0) fo_154_4 rfl) ?_
  refine r_store (v := .int .i64 (lost + 1)) (vs := [.int .i64 (lost + 1)]) (l' := [.int .i64 nodes, .int .i64 (mst : Int), .slice A2 mst c2, .int .i64 (sent + 1), .int .i64 (lost + 1)]) rfl rfl size_3 rfl rfl rfl rfl hB62 (Nat.le_of_ble_eq_true rfl) rfl ?_
  intro w67 F64 z65 hB66
  refine RW_nil ?_
  have hR68 := hR54.fr F56 (fun _ _ f => f)
  have hR69 := hR68.fr F60 (fun b hb h => by have h1 := hbv b hb; have h2 : b = B := h; have := hB.lt; omega)
  have hR70 := hR69.fr F64 (fun b hb h => by have h1 := hbv b hb; have h2 : b = B := h; have := hB.lt; omega)
  have hR71 := hR55.fr F56 (fun _ _ f => f)
  have hR72 := hR71.fr F60 (fun b hb h => (hO2.type_ne hB2 (by decide)) (h ▸ hb))
  have hR73 := hR72.fr F64 (fun b hb h => (hO2.type_ne hB2 (by decide)) (h ▸ hb))
  have := F1.size
  have := F6.size
  have := F15.size
  have := F19.size
  have := F24.size
  have := F28.size
  have := F40.size
  have := F48.size
  have := F56.size
  have := F60.size
  have := F64.size
  refine q_none rfl ?_
  have hwb : ∀ b, (Value.slice A2 (n + 1) c2).ownBlock = some b → (Value.slice A n c).ownBlock = some b ∨ w.heap.size ≤ b := fun b hb => (hv2 b hb).imp id fun h => by omega
  have hbb : ∀ b, (Value.slice A3 m c3).ownBlock = some b → w.heap.size ≤ b := fun b hb => by have := hbv b hb; omega
  have hA2 : A2 ≠ none ∨ n + 1 = 0 := .inl (fun h => by subst h; rcases hO2.2 with ⟨_, h⟩ | ⟨g, cap, cur, h, _⟩; (omega); (cases h))
  have hmo : mst ≤ n + 1 := by omega
  have htk := hR73.take hmo hA2
  rw [encL_take FC_len] at htk
  refine ⟨rfl, .slice A2 mst c2, .slice A3 m c3, k, lost + 1, hB66, hk, hlo, hhi, hR70, hbb, .inr ⟨by omega, rfl, ?_⟩, ((((((((((((Fr.refl (fun b => b = B ∨ (Value.slice A n c).ownBlock = some b) _).trans F1 (fun j hj h => h.elim)).trans F6 (fun j hj h => (.inl h))).trans F15 (fun j hj h => h.elim)).trans F19 (fun j hj h => h.elim)).trans F24 (fun j hj h => (by have h2 : j = fb := h; omega))).trans F28 (fun j hj h => (by have h2 : j = fb := h; omega))).trans F40 (fun j hj h => h)).trans F48 (fun j hj h => h.elim)).trans F56 (fun j hj h => h.elim)).trans F60 (fun j hj h => (.inl h))).trans F64 (fun j hj h => (.inl h))), fun b hb => hwb b (by cases A2 <;> exact hb)⟩
  exact htk
 ·skip
  refine W_skip ?_
  have hB74 := hB2.fr F48 (fun f => f)
  have hR75 := hR47.fr F48 (fun _ _ f => f)
  have hR76 := hO2.fr F48 (fun _ _ f => f)
  have := F1.size
  have := F6.size
  have := F15.size
  have := F19.size
  have := F24.size
  have := F28.size
  have := F40.size
  have := F48.size
  refine q_none rfl ?_
  have hwb : ∀ b, (Value.slice A2 (n + 1) c2).ownBlock = some b → (Value.slice A n c).ownBlock = some b ∨ w.heap.size ≤ b := fun b hb => (hv2 b hb).imp id fun h => by omega
  have hbb : ∀ b, (Value.slice A3 m c3).ownBlock = some b → w.heap.size ≤ b := fun b hb => by have := hbv b hb; omega
  exact ⟨rfl, .slice A2 (n + 1) c2, .slice A3 m c3, k, lost, hB74, hk, hlo, hhi, hR75, hbb, .inl ⟨by omega, rfl, hR76⟩, (((((((((Fr.refl (fun b => b = B ∨ (Value.slice A n c).ownBlock = some b) _).trans F1 (fun j hj h => h.elim)).trans F6 (fun j hj h => (.inl h))).trans F15 (fun j hj h => h.elim)).trans F19 (fun j hj h => h.elim)).trans F24 (fun j hj h => (by have h2 : j = fb := h; omega))).trans F28 (fun j hj h => (by have h2 : j = fb := h; omega))).trans F40 (fun j hj h => h)).trans F48 (fun j hj h => h.elim)), hwb⟩

end Go.Proofs.YthomkocjjkmnkaaDoor
