import Derived.Test.YthomkocjjkmnkaaDoorTab
import Derived.Test.YthomkocjjkmnkaaDoorNetE
/- PRINTED by gen.py (wip/tools) from the plan wip/plans: walks. -/
namespace Go.Proofs.YthomkocjjkmnkaaDoor
open Go Go.RowKit
set_option maxRecDepth 100000
set_option linter.unusedVariables false
theorem search (A : Option Addr) (n c : Nat) (l : List (Fl × Value)) (tn tf tt td : Int) (tv : Value) (w : World) (hR : Rd w 5 (.slice A n c) n (encL FC l)) (hl : l.length = n) (hn : n ≤ 1000000)
    (hs : ∀ i j, i ≤ j → j < n → ahead td tn (l.getD j fl0) → ahead td tn (l.getD i fl0)) :
    Calls Tryd.prog 132 #[.slice A n c, .agg #[.int .i64 tn, .int .i64 tf, .int .i64 tt, .int .i64 td, tv], .func (.func 133) #[] #[]] w fun e w' => ∃ (k : Nat) (b : Bool), e = .returned (.tuple #[.int .i64 (k : Int), .bool b]) ∧ k ≤ n ∧ (∀ i, i < k → ahead td tn (l.getD i fl0)) ∧ (∀ i, k ≤ i → i < n → ¬ ahead td tn (l.getD i fl0)) ∧ Fr No w w' := by
 refine calls_of_W Tryd.func132 rfl 49 rfl (Nat.le_of_ble_eq_true rfl) ?_
 refine W_seq ?_
 refine W_region ?_
 obtain ⟨g1, hg1⟩ : ∃ n, w.heap.size = n := ⟨_, rfl⟩
 refine r_box (v := .agg #[.int .i64 tn, .int .i64 tf, .int .i64 tt, .int .i64 td, tv]) (l := [.int .i64 tn, .int .i64 tf, .int .i64 tt, .int .i64 td, tv]) rfl g1 hg1 rfl rfl ?_
 intro w5 F2 z3 hB4
 refine r_val rfl (x_assign (v := .int .i64 0) rfl) ?_
 refine r_val rfl (x_assign (v := .bool false) rfl) ?_
 refine RW_nil ?_
 refine thenW_n ?_
 refine W_seq ?_
 refine W_region ?_
 refine r_val rfl (x_move (v := .slice A n c) rfl) ?_
 refine r_val rfl (x_len (n := n) ul_26 rfl) ?_
 refine r_val rfl (x_assign (v := .int .i64 (n : Int)) rfl) ?_
 refine RW_nil ?_
 refine thenW_n ?_
 refine W_seq ?_
 refine W_region ?_
 refine r_val rfl (x_move (v := .int .i64 (n : Int)) rfl) ?_
 refine r_val rfl (x_assign (v := .int .i64 0) rfl) ?_
 refine r_val rfl (x_assign (v := .int .i64 (n : Int)) rfl) ?_
 refine RW_nil ?_
 refine thenW_n ?_
 refine W_seq ?_
 refine W_block ?_
 refine W_loop (fun m σ w' => ∃ i j : Nat, ∃ τ : Env, m = j - i ∧ σ = ovl τ [(0, .slice A n c), (2, .func (.func 133) #[] #[]), (4, .pointer (some ⟨g1, 0, none⟩)), (8, .int .i64 (n : Int)), (9, .int .i64 (i : Int)), (10, .int .i64 (j : Int))] ∧ Fr No w5 w' ∧ i ≤ j ∧ j ≤ n ∧ (∀ k, k < i → ahead td tn (l.getD k fl0)) ∧ (∀ k, j ≤ k → k < n → ¬ ahead td tn (l.getD k fl0))) (n) ?_ ?_
 · exact ⟨0, n, _, rfl, ((ovl_cons (ovl_cons (ovl_cons (ovl_cons (ovl_cons (ovl_cons (ovl_nil _) rfl) rfl) rfl) rfl) rfl) rfl)).symm, Fr.refl _ _, Nat.zero_le _, Nat.le_refl _, fun k hk => absurd hk (Nat.not_lt_zero _), fun k hk hkn => (by omega)⟩
 ·skip
  rintro _ _ w6 ⟨i, j, τ, rfl, rfl, F0, hij, hjn, hlo, hhi⟩
  refine W_seq ?_
  refine W_seq ?_
  refine W_region ?_
  refine r_val rfl (x_move (v := .int .i64 (i : Int)) rfl) ?_
  refine r_val rfl (x_move (v := .int .i64 (j : Int)) rfl) ?_
  refine r_val rfl (x_lss (a := (i : Int)) (b := (j : Int)) rfl rfl) ?_
  refine RW_nil ?_
  refine thenW_n ?_
  refine W_condD (p := (i : Int) < (j : Int)) rfl rfl (fun hc7 => ?_) (fun hc7 => ?_)
  ·skip
   refine W_skip ?_
   refine thenW_n ?_
   refine W_block ?_
   refine W_seq ?_
   refine W_region ?_
   refine r_val rfl (x_move (v := .int .i64 (i : Int)) rfl) ?_
   refine r_val rfl (x_move (v := .int .i64 (j : Int)) rfl) ?_
   refine r_val rfl (x_add64 (a := (i : Int)) (b := (j : Int)) rfl rfl (by omega)) ?_
   refine r_val rfl (x_conv (a := (i : Int) + (j : Int)) ui_3 ui_168 rfl) ?_
   refine r_val rfl (x_shr (a := IntKind.u64.wrap ((i : Int) + (j : Int))) (b := 1) rfl rfl (by omega)) ?_
   obtain ⟨h, hh⟩ : ∃ h, (i + j) / 2 = h := ⟨_, rfl⟩
   refine r_val rfl (x_as (u := .int .i64 (h : Int)) (x_conv (a := (IntKind.u64.wrap ((i : Int) + (j : Int))) / 2 ^ min (1 : Int).toNat (IntKind.u64).bits) ui_168 ui_3 rfl) (congrArg (Value.int .i64) ((mid_eq i j (by omega)).trans (congrArg Nat.cast hh)))) ?_
   refine r_val rfl (x_assign (v := .int .i64 (h : Int)) rfl) ?_
   refine RW_nil ?_
   refine thenW_n ?_
   refine W_seq ?_
   have hR8 := hR.fr F2 (fun _ _ f => f)
   have hR9 := hR8.fr F0 (fun _ _ f => f)
   obtain ⟨rb, ro, _, hv10, _, hcell11⟩ := hR9.at_ (by omega)
   injection hv10 with hv10A
   subst hv10A
   have hB12 := hB4.fr F0 (fun f => f)
   refine d_begin mo 8 (fun x => Fr No w6 x) ?_
   obtain ⟨w14, hw14⟩ : ∃ x, w6.drew = x := ⟨_, rfl⟩
   have F13 : Fr No w6 w14 := by rw [← hw14]; exact Fr.drew _ _
   have D15 : Fr No w6 w14 := Fr.of_No F13
   have sF13 := F13.size
   rw [hw14]
   refine d_pure (i := 0) rfl (by kernel_rfl) (np_then (np_blk (np_then (np_blk (np_then np_body))))) rfl (fun _ => (x_move (v := .func (.func 133) #[] #[]) rfl)) (fun _ => D15) ?_
   refine d_pure (i := 1) rfl (by kernel_rfl) (np_then (np_blk (np_then (np_blk (np_then np_body))))) rfl (fun _ => (x_move (v := .slice (some ⟨rb, ro, none⟩) n c) rfl)) (fun _ => D15) ?_
   refine d_pure (i := 2) rfl (by kernel_rfl) (np_then (np_blk (np_then (np_blk (np_then np_body))))) rfl (fun _ => (x_move (v := .int .i64 (h : Int)) rfl)) (fun _ => D15) ?_
   refine d_pure (i := 3) rfl (by kernel_rfl) (np_then (np_blk (np_then (np_blk (np_then np_body))))) rfl (fun _ => (x_indexAddr (b := rb) (o := ro) (j := h) es_26 rfl rfl rfl (by omega))) (fun _ => D15) ?_
   refine d_load (i := 4) rfl (by kernel_rfl) (np_then (np_blk (np_then (np_blk (np_then np_body))))) rfl (by kernel_rfl) rfl (fun x hS => (x_loadRow (b := rb) (o := ro + h * 5) (cs := [.int .i64 ((l.getD h fl0).1.num), .int .i64 ((l.getD h fl0).1.frm), .int .i64 ((l.getD h fl0).1.dst), .int .i64 ((l.getD h fl0).1.due), (l.getD h fl0).2]) kind_37 size_37 rfl (fun m u hu => hS.cell (by rw [Nat.add_assoc]; exact hcell11 _ _ (encL_get (size := 5) FC_len (getD_at l h fl0 (by omega)) hu)) (fun f => f)))) D15 ?_
   refine d_load (i := 5) rfl (by kernel_rfl) (np_then (np_blk (np_then (np_blk (np_then np_body))))) rfl (by kernel_rfl) rfl (fun x hS => (x_loadRow (b := g1) (o := 0) (cs := [.int .i64 tn, .int .i64 tf, .int .i64 tt, .int .i64 td, tv]) kind_37 size_37 rfl ((hB12.fr hS (fun f => f)).seg (m := 5) rfl))) D15 ?_
   refine d_force (i := 6) rfl (by kernel_rfl) ?_
   refine r_call rfl (x_callV (f := 133) (fs := []) (cs := []) (vs := [.agg #[.int .i64 ((l.getD h fl0).1.num), .int .i64 ((l.getD h fl0).1.frm), .int .i64 ((l.getD h fl0).1.dst), .int .i64 ((l.getD h fl0).1.due), (l.getD h fl0).2], .agg #[.int .i64 tn, .int .i64 tf, .int .i64 tt, .int .i64 td, tv]]) rfl Tryd.func133 (by kernel_rfl) rfl rfl) (putCmp ((l.getD h fl0).1.num) ((l.getD h fl0).1.frm) ((l.getD h fl0).1.dst) ((l.getD h fl0).1.due) tn tf tt td (l.getD h fl0).2 tv w14) ?_
   rintro _ w17 ⟨rfl, F16⟩
   refine ⟨_, rfl, ?_⟩
   have sD18 := F16.size
   have D18 : Fr No w6 w17 := D15.trans F16 (fun i hi h => (by first | exact h.elim | omega | (simp only [Value.ownBlock, Option.some.injEq] at h; omega) | (have h2 := h; simp at h2; omega) | exact h))
   refine d_next (fun _ => D18) ?_
   refine d_pure (i := 7) rfl (by kernel_rfl) (np_then (np_blk (np_then (np_blk (np_then np_body))))) rfl (fun _ => (x_lss (a := orI [cmpI (l.getD h fl0).1.due td, cmpI (l.getD h fl0).1.num tn]) (b := 0) rfl rfl)) (fun _ => D18) ?_
   refine d_done (by kernel_rfl) ?_
   refine thenW_n ?_
   refine W_condD (p := (orI [cmpI (l.getD h fl0).1.due td, cmpI (l.getD h fl0).1.num tn]) < 0) rfl rfl (fun hc19 => ?_) (fun hc19 => ?_)
   ·skip
    refine W_region ?_
    refine r_val rfl (x_move (v := .int .i64 (h : Int)) rfl) ?_
    refine r_val rfl (x_add64 (a := (h : Int)) (b := 1) rfl rfl (by omega)) ?_
    refine r_val rfl (x_assign (v := .int .i64 ((h : Int) + 1)) rfl) ?_
    refine RW_nil ?_
    refine inBlk_n ?_
    refine thenW_n ?_
    exact ⟨_, (by omega), h + 1, j, _, rfl, ((ovl_cons (ovl_cons (ovl_cons (ovl_cons (ovl_cons (ovl_cons (ovl_nil _) rfl) (by show Value.int .i64 ((h : Int) + 1) = _; rfl)) rfl) rfl) rfl) rfl)).symm, ((F0.trans F13 fun _ _ f => f).trans F16 fun _ _ f => f), by omega, hjn, fun k hk => hs k h (by omega) (by omega) hc19, hhi⟩
   ·skip
    refine W_region ?_
    refine r_val rfl (x_move (v := .int .i64 (h : Int)) rfl) ?_
    refine r_val rfl (x_assign (v := .int .i64 (h : Int)) rfl) ?_
    refine RW_nil ?_
    refine inBlk_n ?_
    refine thenW_n ?_
    exact ⟨_, (by omega), i, h, _, rfl, ((ovl_cons (ovl_cons (ovl_cons (ovl_cons (ovl_cons (ovl_cons (ovl_nil _) rfl) rfl) rfl) rfl) rfl) rfl)).symm, ((F0.trans F13 fun _ _ f => f).trans F16 fun _ _ f => f), by omega, by omega, hlo, fun k hk hkn ha => hc19 (hs h k hk hkn ha)⟩
  ·skip
   refine W_exit ?_
   refine thenW_x ?_
   refine thenW_x ?_
   refine inBlk_xs ?_
   refine thenW_n ?_
   refine W_seq ?_
   have hR20 := hR.fr F2 (fun _ _ f => f)
   have hR21 := hR20.fr F0 (fun _ _ f => f)
   have hop := hR21.at_
   have hB22 := hB4.fr F0 (fun f => f)
   refine d_begin mo 16 (fun x => Fr No w6 x) ?_
   obtain ⟨w24, hw24⟩ : ∃ x, w6.drew = x := ⟨_, rfl⟩
   have F23 : Fr No w6 w24 := by rw [← hw24]; exact Fr.drew _ _
   have D25 : Fr No w6 w24 := Fr.of_No F23
   have sF23 := F23.size
   rw [hw24]
   refine d_pure (i := 0) rfl (by kernel_rfl) (np_then np_body) rfl (fun _ => (x_move (v := .int .i64 (i : Int)) rfl)) (fun _ => D25) ?_
   refine d_pure (i := 1) rfl (by kernel_rfl) (np_then np_body) rfl (fun _ => (x_move (v := .int .i64 (i : Int)) rfl)) (fun _ => D25) ?_
   refine d_pure (i := 2) rfl (by kernel_rfl) (np_then np_body) rfl (fun _ => (x_move (v := .int .i64 (n : Int)) rfl)) (fun _ => D25) ?_
   refine d_pure (i := 3) rfl (by kernel_rfl) (np_then np_body) rfl (fun _ => (x_lss (a := (i : Int)) (b := (n : Int)) rfl rfl)) (fun _ => D25) ?_
   refine d_pure (i := 4) rfl (by kernel_rfl) (np_then np_body) rfl (fun _ => (x_move (v := .bool (decide ((i : Int) < (n : Int)))) rfl)) (fun _ => D25) ?_
   by_cases hc26 : (i : Int) < (n : Int)
   ·skip
    refine d_pure' (i := 5) rfl (by kernel_rfl) (np_then np_body) rfl (wanted_act (t := 39) rfl rfl rfl (decide_eq_true hc26)) (fun _ => (x_move (v := .func (.func 133) #[] #[]) rfl)) (fun _ => D25) ?_
    refine d_pure' (i := 6) rfl (by kernel_rfl) (np_then np_body) rfl (wanted_act (t := 39) rfl rfl rfl (decide_eq_true hc26)) (fun _ => (x_move (v := .slice A n c) rfl)) (fun _ => D25) ?_
    refine d_pure' (i := 7) rfl (by kernel_rfl) (np_then np_body) rfl (wanted_act (t := 39) rfl rfl rfl (decide_eq_true hc26)) (fun _ => (x_move (v := .int .i64 (i : Int)) rfl)) (fun _ => D25) ?_
    obtain ⟨rb, ro, _, hv28, _, hcell27⟩ := hop (by omega)
    injection hv28 with hv28A
    subst hv28A
    refine d_pure' (i := 8) rfl (by kernel_rfl) (np_then np_body) rfl (wanted_act (t := 39) rfl rfl rfl (decide_eq_true hc26)) (fun _ => (x_indexAddr (b := rb) (o := ro) (j := i) es_26 rfl rfl rfl (by omega))) (fun _ => D25) ?_
    refine d_load' (i := 9) rfl (by kernel_rfl) (np_then np_body) rfl (by kernel_rfl) rfl (wanted_act (t := 39) rfl rfl rfl (decide_eq_true hc26)) (fun x hS => (x_loadRow (b := rb) (o := ro + i * 5) (cs := [.int .i64 ((l.getD i fl0).1.num), .int .i64 ((l.getD i fl0).1.frm), .int .i64 ((l.getD i fl0).1.dst), .int .i64 ((l.getD i fl0).1.due), (l.getD i fl0).2]) kind_37 size_37 rfl (fun m u hu => hS.cell (by rw [Nat.add_assoc]; exact hcell27 _ _ (encL_get (size := 5) FC_len (getD_at l i fl0 (by omega)) hu)) (fun f => f)))) D25 ?_
    refine d_load' (i := 10) rfl (by kernel_rfl) (np_then np_body) rfl (by kernel_rfl) rfl (wanted_act (t := 39) rfl rfl rfl (decide_eq_true hc26)) (fun x hS => (x_loadRow (b := g1) (o := 0) (cs := [.int .i64 tn, .int .i64 tf, .int .i64 tt, .int .i64 td, tv]) kind_37 size_37 rfl ((hB22.fr hS (fun f => f)).seg (m := 5) rfl))) D25 ?_
    refine d_force (i := 11) rfl (by kernel_rfl) ?_
    refine r_yes (t := 39) rfl rfl rfl (decide_eq_true hc26) ?_
    refine r_call rfl (x_callV (f := 133) (fs := []) (cs := []) (vs := [.agg #[.int .i64 ((l.getD i fl0).1.num), .int .i64 ((l.getD i fl0).1.frm), .int .i64 ((l.getD i fl0).1.dst), .int .i64 ((l.getD i fl0).1.due), (l.getD i fl0).2], .agg #[.int .i64 tn, .int .i64 tf, .int .i64 tt, .int .i64 td, tv]]) rfl Tryd.func133 (by kernel_rfl) rfl rfl) (putCmp ((l.getD i fl0).1.num) ((l.getD i fl0).1.frm) ((l.getD i fl0).1.dst) ((l.getD i fl0).1.due) tn tf tt td (l.getD i fl0).2 tv w24) ?_
    rintro _ w30 ⟨rfl, F29⟩
    refine ⟨_, rfl, ?_⟩
    have sD31 := F29.size
    have D31 : Fr No w6 w30 := D25.trans F29 (fun i hi h => (by first | exact h.elim | omega | (simp only [Value.ownBlock, Option.some.injEq] at h; omega) | (have h2 := h; simp at h2; omega) | exact h))
    refine d_next (fun _ => D31) ?_
    refine d_pure' (i := 12) rfl (by kernel_rfl) (np_then np_body) rfl (wanted_act (t := 39) rfl rfl rfl (decide_eq_true hc26)) (fun _ => (x_eql (a := orI [cmpI (l.getD i fl0).1.due td, cmpI (l.getD i fl0).1.num tn]) (b := 0) rfl rfl)) (fun _ => D31) ?_
    refine d_pure (i := 13) rfl (by kernel_rfl) (np_then np_body) rfl (fun _ => (x_pickT (b := decide ((i : Int) < (n : Int))) (v := .bool (decide ((orI [cmpI (l.getD i fl0).1.due td, cmpI (l.getD i fl0).1.num tn]) = 0))) rfl (decide_eq_true hc26) rfl)) (fun _ => D31) ?_
    refine d_pure (i := 14) rfl (by kernel_rfl) (np_then np_body) rfl (fun _ => (x_assign (v := .int .i64 (i : Int)) rfl)) (fun _ => D31) ?_
    refine d_pure (i := 15) rfl (by kernel_rfl) (np_then np_body) rfl (fun _ => (x_assign (v := .bool (decide ((orI [cmpI (l.getD i fl0).1.due td, cmpI (l.getD i fl0).1.num tn]) = 0))) rfl)) (fun _ => D31) ?_
    refine d_done (by kernel_rfl) ?_
    refine thenW_n ?_
    refine W_ret ?_
    refine q_ret2 (v := .int .i64 (i : Int)) (u := .bool (decide ((orI [cmpI (l.getD i fl0).1.due td, cmpI (l.getD i fl0).1.num tn]) = 0))) rfl rfl rfl rfl rfl ?_
    exact ⟨i, _, rfl, by omega, hlo, fun k hk hkn => hhi k (by omega) hkn, (((F2.trans F0 fun _ _ f => f).trans F23 fun _ _ f => f).trans F29 fun _ _ f => f)⟩
   ·skip
    refine d_no (i := 5) (t := 39) rfl (by kernel_rfl) (np_then np_body) rfl rfl rfl rfl (decide_eq_false hc26) (fun _ => D25) ?_
    refine d_no (i := 6) (t := 39) rfl (by kernel_rfl) (np_then np_body) rfl rfl rfl rfl (decide_eq_false hc26) (fun _ => D25) ?_
    refine d_no (i := 7) (t := 39) rfl (by kernel_rfl) (np_then np_body) rfl rfl rfl rfl (decide_eq_false hc26) (fun _ => D25) ?_
    refine d_no (i := 8) (t := 39) rfl (by kernel_rfl) (np_then np_body) rfl rfl rfl rfl (decide_eq_false hc26) (fun _ => D25) ?_
    refine d_no (i := 9) (t := 39) rfl (by kernel_rfl) (np_then np_body) rfl rfl rfl rfl (decide_eq_false hc26) (fun _ => D25) ?_
    refine d_no (i := 10) (t := 39) rfl (by kernel_rfl) (np_then np_body) rfl rfl rfl rfl (decide_eq_false hc26) (fun _ => D25) ?_
    refine d_no (i := 11) (t := 39) rfl (by kernel_rfl) (np_then np_body) rfl rfl rfl rfl (decide_eq_false hc26) (fun _ => D25) ?_
    refine d_no (i := 12) (t := 39) rfl (by kernel_rfl) (np_then np_body) rfl rfl rfl rfl (decide_eq_false hc26) (fun _ => D25) ?_
    refine d_pure (i := 13) rfl (by kernel_rfl) (np_then np_body) rfl (fun _ => (x_pickF (b := decide ((i : Int) < (n : Int))) (v := .bool false) rfl (decide_eq_false hc26) rfl)) (fun _ => D25) ?_
    refine d_pure (i := 14) rfl (by kernel_rfl) (np_then np_body) rfl (fun _ => (x_assign (v := .int .i64 (i : Int)) rfl)) (fun _ => D25) ?_
    refine d_pure (i := 15) rfl (by kernel_rfl) (np_then np_body) rfl (fun _ => (x_assign (v := .bool false) rfl)) (fun _ => D25) ?_
    refine d_done (by kernel_rfl) ?_
    refine thenW_n ?_
    refine W_ret ?_
    refine q_ret2 (v := .int .i64 (i : Int)) (u := .bool false) rfl rfl rfl rfl rfl ?_
    exact ⟨i, _, rfl, by omega, hlo, fun k hk hkn => hhi k (by omega) hkn, ((F2.trans F0 fun _ _ f => f).trans F23 fun _ _ f => f)⟩

end Go.Proofs.YthomkocjjkmnkaaDoor
