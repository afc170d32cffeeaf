import Derived.Test.YthomkocjjkmnkaaDoorTab
import Derived.Test.YthomkocjjkmnkaaDoorNetG
import Derived.Test.YthomkocjjkmnkaaDoorNetH
/- PRINTED by gen.py (wip/tools) from the plan wip/plans: walks. -/
namespace Go.Proofs.YthomkocjjkmnkaaDoor
open Go Go.RowKit
set_option maxRecDepth 100000
set_option linter.unusedVariables false
theorem FC_one {l : List (Fl × Value)} (h : ∀ p ∈ l, p.2.oneCell' = true) : ∀ u ∈ encL FC l, u.oneCell' = true := by
  intro u hu
  obtain ⟨p, hp, hu⟩ := encL_mem hu
  simp only [FC, List.mem_cons, List.not_mem_nil, or_false] at hu
  rcases hu with rfl | rfl | rfl | rfl | rfl
  · rfl
  · rfl
  · rfl
  · rfl
  · exact h p hp
theorem encL_ins (l : List (Fl × Value)) (k : Nat) (p : Fl × Value) : (encL FC l).take (k * 5) ++ FC p ++ (encL FC l).drop (k * 5) = encL FC (l.take k ++ p :: l.drop k) := by
  rw [encL_take FC_len, encL_drop FC_len, encL_append, encL_cons, List.append_assoc]

theorem put_any (B n c : Nat) (A : Option Addr) (nodes most sent lost : Int) (l : List (Fl × Value)) (fn ff ft fd : Int) (fv : Value) (bs : List UInt8) (w : World) (hB : Blk w B 154 [.int .i64 nodes, .int .i64 most, .slice A n c, .int .i64 sent, .int .i64 lost])
    (hO : Own w 37 5 (.slice A n c) n (encL FC l)) (hl : l.length = n) (hn : n ≤ 1000000) (h1 : ∀ p ∈ l, p.2.oneCell' = true) (hv1 : fv.oneCell' = true) (hs : ∀ i j, i ≤ j → j < n → ahead fd fn (l.getD j fl0) → ahead fd fn (l.getD i fl0)) :
    Calls Tryd.prog 84 #[.pointer (some ⟨B, 0, none⟩), .agg #[.int .i64 fn, .int .i64 ff, .int .i64 ft, .int .i64 fd, fv]] w fun e w' => e = .returned (.tuple #[]) ∧ ∃ v k, Blk w' B 154 [.int .i64 nodes, .int .i64 most, v, .int .i64 sent, .int .i64 lost] ∧ k ≤ n ∧ (∀ i, i < k → ahead fd fn (l.getD i fl0)) ∧ (∀ i, k ≤ i → i < n → ¬ ahead fd fn (l.getD i fl0)) ∧
      Own w' 37 5 v (n + 1) (encL FC (l.take k ++ (⟨fn, ff, ft, fd, bs⟩, fv) :: l.drop k)) ∧ Fr (fun b => b = B ∨ (Value.slice A n c).ownBlock = some b) w w' ∧ (∀ b, v.ownBlock = some b → (Value.slice A n c).ownBlock = some b ∨ w.heap.size ≤ b) := by
 refine calls_of_W Tryd.func84 rfl 26 rfl (Nat.le_of_ble_eq_true rfl) ?_
 refine W_seq ?_
 refine W_region ?_
 obtain ⟨fb, hfb⟩ : ∃ n, w.heap.size = n := ⟨_, rfl⟩
 have ne_B_fb : B ≠ fb := by have := hB.lt; omega
 refine r_box (v := .agg #[.int .i64 fn, .int .i64 ff, .int .i64 ft, .int .i64 fd, fv]) (l := [.int .i64 fn, .int .i64 ff, .int .i64 ft, .int .i64 fd, fv]) rfl fb hfb rfl rfl ?_
 intro w4 F1 z2 hB3
 refine RW_nil ?_
 refine thenW_n ?_
 refine W_seq ?_
 have hB5 := hB.fr F1 (fun f => f)
 have hR6 := hO.fr F1 (fun _ _ f => f)
 refine d_begin mo 5 (fun x => Fr No w4 x) ?_
 obtain ⟨w8, hw8⟩ : ∃ x, w4.drew = x := ⟨_, rfl⟩
 have F7 : Fr No w4 w8 := by rw [← hw8]; exact Fr.drew _ _
 have D9 : Fr No w4 w8 := Fr.of_No F7
 have sF7 := F7.size
 rw [hw8]
 refine d_pure (i := 0) rfl (by kernel_rfl) (np_then np_body) rfl (fun _ => (x_move (v := .pointer (some ⟨B, 0, none⟩)) rfl)) (fun _ => D9) ?_
 refine d_pure (i := 1) rfl (by kernel_rfl) (np_then np_body) rfl (fun _ => (x_nilCheck rfl)) (fun _ => D9) ?_
 refine d_pure (i := 2) rfl (by kernel_rfl) (np_then np_body) rfl (fun _ => (x_fieldAddr (b := B) (o := 0) fo_154_2 rfl)) (fun _ => D9) ?_
 refine d_load (i := 3) rfl (by kernel_rfl) (np_then np_body) rfl (by kernel_rfl) rfl (fun x hS => (x_load (v := .slice A n c) kind_26 rfl ((hB5.fr hS (fun f => f)).cell rfl))) D9 ?_
 refine d_load (i := 4) rfl (by kernel_rfl) (np_then np_body) rfl (by kernel_rfl) rfl (fun x hS => (x_loadRow (b := fb) (o := 0) (cs := [.int .i64 fn, .int .i64 ff, .int .i64 ft, .int .i64 fd, fv]) kind_37 size_37 rfl ((hB3.fr hS (fun f => f)).seg (m := 5) rfl))) D9 ?_
 refine d_force (i := 5) rfl (by kernel_rfl) ?_
 have hR10 := hR6.fr F7 (fun _ _ f => f)
 refine r_call rfl (c132 (vs := [.slice A n c, .agg #[.int .i64 fn, .int .i64 ff, .int .i64 ft, .int .i64 fd, fv], .func (.func 133) #[] #[]]) rfl) (search A n c l fn ff ft fd fv w8 hR10.rd hl hn hs) ?_
 rintro _ w12 ⟨k, bb, rfl, hk, hlo, hhi, F11⟩
 refine ⟨_, rfl, ?_⟩
 refine d_next (fun hx => absurd hx (by decide)) ?_
 refine d_pure (i := 6) rfl (by kernel_rfl) (np_then np_body) rfl (fun _ => (x_move (v := .tuple #[.int .i64 (k : Int), .bool bb]) rfl)) (fun hx => absurd hx (by decide)) ?_
 refine d_pure (i := 7) rfl (by kernel_rfl) (np_then np_body) rfl (fun _ => (x_extract (v := .int .i64 (k : Int)) rfl rfl)) (fun hx => absurd hx (by decide)) ?_
 refine d_pure (i := 8) rfl (by kernel_rfl) (np_then np_body) rfl (fun _ => (x_extract (v := .bool bb) rfl rfl)) (fun hx => absurd hx (by decide)) ?_
 refine d_pure (i := 9) rfl (by kernel_rfl) (np_then np_body) rfl (fun _ => (x_assign (v := .int .i64 (k : Int)) rfl)) (fun hx => absurd hx (by decide)) ?_
 refine d_pure (i := 10) rfl (by kernel_rfl) (np_then np_body) rfl (fun _ => (x_assign (v := .bool bb) rfl)) (fun hx => absurd hx (by decide)) ?_
 refine d_done (by kernel_rfl) ?_
 refine thenW_n ?_
 have hB13 := hB5.fr F7 (fun f => f)
 have hB14 := hB13.fr F11 (fun f => f)
 have hB15 := hB3.fr F7 (fun f => f)
 have hB16 := hB15.fr F11 (fun f => f)
 have hR17 := hR10.fr F11 (fun _ _ f => f)
 refine d_begin mo 11 (fun x => Fr (fun b => (Value.slice A n c).ownBlock = some b) w12 x) ?_
 obtain ⟨w19, hw19⟩ : ∃ x, w12.drew = x := ⟨_, rfl⟩
 have F18 : Fr No w12 w19 := by rw [← hw19]; exact Fr.drew _ _
 have D20 : Fr (fun b => (Value.slice A n c).ownBlock = some b) w12 w19 := Fr.of_No F18
 have sF18 := F18.size
 rw [hw19]
 refine d_pure (i := 0) rfl (by kernel_rfl) np_body rfl (fun _ => (x_move (v := .pointer (some ⟨B, 0, none⟩)) rfl)) (fun _ => D20) ?_
 refine d_pure (i := 1) rfl (by kernel_rfl) np_body rfl (fun _ => (x_move (v := .pointer (some ⟨B, 0, none⟩)) rfl)) (fun _ => D20) ?_
 refine d_pure (i := 2) rfl (by kernel_rfl) np_body rfl (fun _ => (x_nilCheck rfl)) (fun _ => D20) ?_
 refine d_pure (i := 3) rfl (by kernel_rfl) np_body rfl (fun _ => (x_fieldAddr (b := B) (o := 0) fo_154_2 rfl)) (fun _ => D20) ?_
 refine d_load (i := 4) rfl (by kernel_rfl) np_body rfl (by kernel_rfl) rfl (fun x hS => (x_load (v := .slice A n c) kind_26 rfl ((hB14.fr hS (fun h => hO.type_ne hB (by decide) h)).cell rfl))) D20 ?_
 refine d_pure (i := 5) rfl (by kernel_rfl) np_body rfl (fun _ => (x_move (v := .int .i64 (k : Int)) rfl)) (fun _ => D20) ?_
 refine d_load (i := 6) rfl (by kernel_rfl) np_body rfl (by kernel_rfl) rfl (fun x hS => (x_loadRow (b := fb) (o := 0) (cs := [.int .i64 fn, .int .i64 ff, .int .i64 ft, .int .i64 fd, fv]) kind_37 size_37 rfl ((hB16.fr hS (fun h => by have := hO.lt h; omega)).seg (m := 5) rfl))) D20 ?_
 refine d_force (i := 7) rfl (by kernel_rfl) ?_
 have hB22 := hB14.fr F18 (fun f => f)
 have hB23 := hB16.fr F18 (fun f => f)
 obtain ⟨g21, hg21⟩ : ∃ n, w19.heap.size = n := ⟨_, rfl⟩
 have ne_B_g21 : B ≠ g21 := by have := hB22.lt; omega
 have ne_fb_g21 : fb ≠ g21 := by have := hB23.lt; omega
 refine r_lit (vs := [.agg #[.int .i64 fn, .int .i64 ff, .int .i64 ft, .int .i64 fd, fv]]) (l := [.int .i64 fn, .int .i64 ff, .int .i64 ft, .int .i64 fd, fv]) rfl g21 hg21 ei_26 (.inr ⟨_, rfl⟩) rfl rfl (by intro v hv; simp only [List.mem_cons, List.not_mem_nil, or_false] at hv; rcases hv with rfl <;> rfl) rfl (by decide) ?_
 intro w27 F24 z25 hB26
 have sD28 := F24.size
 have D28 : Fr (fun b => (Value.slice A n c).ownBlock = some b) w12 w27 := D20.trans F24 (fun i hi h => (by first | exact h.elim | omega | (simp only [Value.ownBlock, Option.some.injEq] at h; omega) | (have h2 := h; simp at h2; omega) | exact h))
 refine d_next (fun _ => D28) ?_
 refine d_force (i := 8) rfl (by kernel_rfl) ?_
 have hR29 := hR17.fr F18 (fun _ _ f => f)
 have hR30 := hR29.fr F24 (fun _ _ f => f)
 have := F1.size
 have := F7.size
 have := F11.size
 have := F18.size
 have := F24.size
 have hvn : (Value.slice A n c).ownBlock ≠ some g21 := fun h => by have := hO.lt h; omega
 refine r_call rfl (c135 (vs := [.slice A n c, .int .i64 (k : Int), .slice (some ⟨g21, 0, none⟩) 1 1]) rfl) (insertF A n c k g21 (encL FC l) (FC (⟨fn, ff, ft, fd, bs⟩, fv)) w27 hR30 hB26 rfl hvn hk hn (FC_one h1) (by simp only [FC, List.mem_cons, List.not_mem_nil, or_false]; rintro u (rfl | rfl | rfl | rfl | rfl) <;> first | rfl | exact hv1)) ?_
 rintro _ w32 ⟨v2, rfl, hO2, F31, hv2⟩
 obtain ⟨A2, c2, hv2e, hc2⟩ := hO2.rd.form
 subst hv2e
 refine ⟨_, rfl, ?_⟩
 have sD33 := F31.size
 have D33 : Fr (fun b => (Value.slice A n c).ownBlock = some b) w12 w32 := D28.trans F31 (fun i hi h => (by first | exact h.elim | omega | (simp only [Value.ownBlock, Option.some.injEq] at h; omega) | (have h2 := h; simp at h2; omega) | exact h))
 refine d_next (fun _ => D33) ?_
 refine d_pure (i := 9) rfl (by kernel_rfl) np_body rfl (fun _ => (x_nilCheck rfl)) (fun _ => D33) ?_
 refine d_pure (i := 10) rfl (by kernel_rfl) np_body rfl (fun _ => (x_fieldAddr (b := B) (o := 0) fo_154_2 rfl)) (fun _ => D33) ?_
 refine d_force (i := 11) rfl (by kernel_rfl) ?_
 have hB34 := hB22.fr F24 (fun f => f)
 have hB35 := hB34.fr F31 (fun h => hO.type_ne hB (by decide) h)
 have hB32 := hB35
 refine r_store (v := .slice A2 (n + 1) c2) (vs := [.slice A2 (n + 1) c2]) (l' := [.int .i64 nodes, .int .i64 most, .slice A2 (n + 1) c2, .int .i64 sent, .int .i64 lost]) rfl rfl size_26 rfl rfl rfl rfl hB35 (Nat.le_of_ble_eq_true rfl) rfl ?_
 intro w39 F36 z37 hB38
 refine d_next (fun hx => absurd hx (by decide)) ?_
 refine d_done (by kernel_rfl) ?_
 have := F1.size
 have := F7.size
 have := F11.size
 have := F18.size
 have := F24.size
 have := F31.size
 have := F36.size
 refine q_none rfl ?_
 refine ⟨rfl, _, k, hB38, hk, hlo, hhi, ?_, ((((((((Fr.refl (fun b => b = B ∨ (Value.slice A n c).ownBlock = some b) _).trans F1 (fun j hj h => h.elim)).trans F7 (fun j hj h => h.elim)).trans F11 (fun j hj h => h.elim)).trans F18 (fun j hj h => h.elim)).trans F24 (fun j hj h => h.elim)).trans F31 (fun j hj h => (.inr h))).trans F36 (fun j hj h => (.inl h))), fun b hb => ?_⟩
 · rw [← encL_ins]; exact hO2.fr F36 (fun b hb h => (hO2.type_ne hB32 (by decide)) (h ▸ hb))
 · rcases hv2 b hb with h | h
   · exact .inl h
   · right; omega

end Go.Proofs.YthomkocjjkmnkaaDoor
