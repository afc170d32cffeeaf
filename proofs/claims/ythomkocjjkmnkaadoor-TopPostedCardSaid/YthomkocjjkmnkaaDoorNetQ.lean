import Derived.Test.YthomkocjjkmnkaaDoorTab
import Derived.Test.YthomkocjjkmnkaaDoorNetP
/- PRINTED by gen.py (wip/tools) from the plan wip/plans: walks. -/
namespace Go.Proofs.YthomkocjjkmnkaaDoor
open Go Go.RowKit
set_option maxRecDepth 100000
set_option linter.unusedVariables false
def roostV (x n : Int) : Int := (if x < 0 then -(x + 1) else x) % n
theorem roostV_in {x n : Int} (hn : 0 < n) : 0 ≤ roostV x n ∧ roostV x n < n := ⟨Int.emod_nonneg _ (by omega), Int.emod_lt_of_pos _ hn⟩

theorem roostOf_any (x n : Int) (w : World) (hx : -9223372036854775808 ≤ x ∧ x ≤ 9223372036854775807) (hn : 0 < n ∧ n ≤ 1000000) :
    Calls Tryd.prog 9 #[.int .i64 x, .int .i64 n] w fun e w' => e = .returned (.int .i64 (roostV x n)) ∧ w = w' := by
 refine calls_of_W Tryd.func9 rfl 13 rfl (Nat.le_of_ble_eq_true rfl) ?_
 refine W_seq ?_
 refine W_region ?_
 refine r_val rfl (x_assign (v := .int .i64 0) rfl) ?_
 refine RW_nil ?_
 refine thenW_n ?_
 refine W_seq ?_
 refine W_seq ?_
 refine W_region ?_
 refine r_val rfl (x_move (v := .int .i64 x) rfl) ?_
 refine r_val rfl (x_lss (a := x) (b := 0) rfl rfl) ?_
 refine RW_nil ?_
 refine thenW_n ?_
 refine W_condD (p := x < 0) rfl rfl (fun hc1 => ?_) (fun hc1 => ?_)
 ·skip
  refine W_region ?_
  refine r_val rfl (x_move (v := .int .i64 x) rfl) ?_
  refine r_val rfl (x_add64 (a := x) (b := 1) rfl rfl (by omega)) ?_
  refine r_val rfl (x_neg64 (a := x + 1) rfl (by omega)) ?_
  refine r_val rfl (x_assign (v := .int .i64 (-(x + 1))) rfl) ?_
  refine RW_nil ?_
  refine thenW_n ?_
  refine W_seq ?_
  refine W_region ?_
  refine r_val rfl (x_move (v := .int .i64 (-(x + 1))) rfl) ?_
  refine r_val rfl (x_move (v := .int .i64 n) rfl) ?_
  refine r_val rfl (x_rem64 (a := -(x + 1)) (b := n) rfl rfl (by omega) (by omega)) ?_
  refine r_val rfl (x_assign (v := .int .i64 ((-(x + 1)) % n)) rfl) ?_
  refine RW_nil ?_
  refine thenW_n ?_
  refine W_ret ?_
  refine q_ret1 (v := .int .i64 ((-(x + 1)) % n)) rfl rfl rfl ?_
  exact ⟨by unfold roostV; rw [if_pos hc1], rfl⟩
 ·skip
  refine W_skip ?_
  refine thenW_n ?_
  refine W_seq ?_
  refine W_region ?_
  refine r_val rfl (x_move (v := .int .i64 x) rfl) ?_
  refine r_val rfl (x_move (v := .int .i64 n) rfl) ?_
  refine r_val rfl (x_rem64 (a := x) (b := n) rfl rfl (by omega) (by omega)) ?_
  refine r_val rfl (x_assign (v := .int .i64 (x % n)) rfl) ?_
  refine RW_nil ?_
  refine thenW_n ?_
  refine W_ret ?_
  refine q_ret1 (v := .int .i64 (x % n)) rfl rfl rfl ?_
  exact ⟨by unfold roostV; rw [if_neg hc1], rfl⟩

theorem lays_any (N n c : Nat) (A : Option Addr) (num lost most : Int) (l : List (Fl × Value)) (fn ff ft fd : Int) (fv : Value) (bs : List UInt8) (w : World) (hN : Blk w N 28 [.slice A n c, .int .i64 num, .int .i64 lost, .int .i64 most])
    (hR : Rd w 5 (.slice A n c) n (encL FC l)) (hl : l.length = n) (hn : n ≤ 1000000) (hrl : ∀ b, (Value.slice A n c).ownBlock = some b → b < w.heap.size ∧ b ≠ N) (h1 : ∀ p ∈ l, p.2.oneCell' = true) (hv1 : fv.oneCell' = true) :
    Calls Tryd.prog 16 #[.pointer (some ⟨N, 0, none⟩), .agg #[.int .i64 fn, .int .i64 ff, .int .i64 ft, .int .i64 fd, fv]] w fun e w' => e = .returned (.tuple #[]) ∧ ∃ v k, Blk w' N 28 [v, .int .i64 num, .int .i64 lost, .int .i64 most] ∧ k ≤ n ∧ (∀ i, i < k → ahead fd fn (l.getD i fl0)) ∧ (∀ h : k < n, ¬ ahead fd fn (l.getD k fl0)) ∧ Own w' 37 5 v (n + 1) (encL FC (l.take k ++ (⟨fn, ff, ft, fd, bs⟩, fv) :: l.drop k)) ∧ (∀ b, v.ownBlock = some b → w.heap.size ≤ b) ∧ Fr (fun b => b = N) w w' := by
 obtain ⟨_, _, e0, hnc⟩ := hR.form
 injection e0 with _ _ e3
 subst e3
 refine calls_of_W Tryd.func16 rfl 74 rfl (Nat.le_of_ble_eq_true rfl) ?_
 refine W_seq ?_
 refine W_region ?_
 obtain ⟨fb, hfb⟩ : ∃ n, w.heap.size = n := ⟨_, rfl⟩
 have ne_N_fb : N ≠ fb := by have := hN.lt; omega
 refine r_box (v := .agg #[.int .i64 fn, .int .i64 ff, .int .i64 ft, .int .i64 fd, fv]) (l := [.int .i64 fn, .int .i64 ff, .int .i64 ft, .int .i64 fd, fv]) rfl fb hfb rfl rfl ?_
 intro w4 F1 z2 hB3
 refine RW_nil ?_
 refine thenW_n ?_
 refine W_seq ?_
 refine W_region ?_
 refine r_val rfl (x_assign (v := .int .i64 0) rfl) ?_
 refine RW_nil ?_
 refine thenW_n ?_
 refine W_mid (fun σ w' => ∃ k : Nat, ∃ τ : Env, σ = ovl τ [(0, .pointer (some ⟨N, 0, none⟩)), (3, .pointer (some ⟨fb, 0, none⟩)), (4, .int .i64 (k : Int))] ∧ Fr No w4 w' ∧ k ≤ n ∧ (∀ i, i < k → ahead fd fn (l.getD i fl0)) ∧ (∀ h : k < n, ¬ ahead fd fn (l.getD k fl0))) ?_ ?_
 ·skip
  refine W_block ?_
  refine W_loop (fun m σ w' => ∃ k : Nat, ∃ τ : Env, m = n - k ∧ σ = ovl τ [(0, .pointer (some ⟨N, 0, none⟩)), (3, .pointer (some ⟨fb, 0, none⟩)), (4, .int .i64 (k : Int))] ∧ Fr No w4 w' ∧ k ≤ n ∧ ∀ i, i < k → ahead fd fn (l.getD i fl0)) (n) ?_ ?_
  · exact ⟨0, _, rfl, ((ovl_cons (ovl_cons (ovl_cons (ovl_nil _) rfl) rfl) rfl)).symm, Fr.refl _ _, Nat.zero_le _, fun j hj => absurd hj (Nat.not_lt_zero _)⟩
  ·skip
   rintro _ _ w5 ⟨k, τ, rfl, rfl, F0, hk, hz⟩
   refine W_seq ?_
   refine W_seq ?_
   have hR6 := hR.fr F1 (fun _ _ f => f)
   have hR7 := hR6.fr F0 (fun _ _ f => f)
   have hop := hR7.at_
   have hB8 := hN.fr F1 (fun f => f)
   have hB9 := hB8.fr F0 (fun f => f)
   have hB10 := hB3.fr F0 (fun f => f)
   refine d_begin mo 46 (fun x => Fr No w5 x) ?_
   obtain ⟨w12, hw12⟩ : ∃ x, w5.drew = x := ⟨_, rfl⟩
   have F11 : Fr No w5 w12 := by rw [← hw12]; exact Fr.drew _ _
   have D13 : Fr No w5 w12 := Fr.of_No F11
   have sF11 := F11.size
   rw [hw12]
   refine d_pure (i := 0) rfl (by kernel_rfl) (np_then (np_then (np_then (np_blk (np_then np_body))))) rfl (fun _ => (x_move (v := .int .i64 (k : Int)) rfl)) (fun _ => D13) ?_
   refine d_pure (i := 1) rfl (by kernel_rfl) (np_then (np_then (np_then (np_blk (np_then np_body))))) rfl (fun _ => (x_move (v := .pointer (some ⟨N, 0, none⟩)) rfl)) (fun _ => D13) ?_
   refine d_pure (i := 2) rfl (by kernel_rfl) (np_then (np_then (np_then (np_blk (np_then np_body))))) rfl (fun _ => (x_nilCheck rfl)) (fun _ => D13) ?_
   refine d_pure (i := 3) rfl (by kernel_rfl) (np_then (np_then (np_then (np_blk (np_then np_body))))) rfl (fun _ => (x_fieldAddr (b := N) (o := 0) fo_28_0 rfl)) (fun _ => D13) ?_
   refine d_load (i := 4) rfl (by kernel_rfl) (np_then (np_then (np_then (np_blk (np_then np_body))))) rfl (by kernel_rfl) rfl (fun x hS => (x_load (v := .slice A n c) kind_26 rfl ((hB9.fr hS (fun f => f)).cell rfl))) D13 ?_
   refine d_pure (i := 5) rfl (by kernel_rfl) (np_then (np_then (np_then (np_blk (np_then np_body))))) rfl (fun _ => (x_len (n := n) ul_26 rfl)) (fun _ => D13) ?_
   refine d_pure (i := 6) rfl (by kernel_rfl) (np_then (np_then (np_then (np_blk (np_then np_body))))) rfl (fun _ => (x_lss (a := (k : Int)) (b := (n : Int)) rfl rfl)) (fun _ => D13) ?_
   refine d_pure (i := 7) rfl (by kernel_rfl) (np_then (np_then (np_then (np_blk (np_then np_body))))) rfl (fun _ => (x_move (v := .bool (decide ((k : Int) < (n : Int)))) rfl)) (fun _ => D13) ?_
   by_cases hc14 : (k : Int) < (n : Int)
   ·skip
    refine d_pure' (i := 8) rfl (by kernel_rfl) (np_then (np_then (np_then (np_blk (np_then np_body))))) rfl (wanted_act (t := 12) rfl rfl rfl (decide_eq_true hc14)) (fun _ => (x_move (v := .pointer (some ⟨N, 0, none⟩)) rfl)) (fun _ => D13) ?_
    refine d_pure' (i := 9) rfl (by kernel_rfl) (np_then (np_then (np_then (np_blk (np_then np_body))))) rfl (wanted_act (t := 12) rfl rfl rfl (decide_eq_true hc14)) (fun _ => (x_nilCheck rfl)) (fun _ => D13) ?_
    refine d_pure' (i := 10) rfl (by kernel_rfl) (np_then (np_then (np_then (np_blk (np_then np_body))))) rfl (wanted_act (t := 12) rfl rfl rfl (decide_eq_true hc14)) (fun _ => (x_fieldAddr (b := N) (o := 0) fo_28_0 rfl)) (fun _ => D13) ?_
    refine d_load' (i := 11) rfl (by kernel_rfl) (np_then (np_then (np_then (np_blk (np_then np_body))))) rfl (by kernel_rfl) rfl (wanted_act (t := 12) rfl rfl rfl (decide_eq_true hc14)) (fun x hS => (x_load (v := .slice A n c) kind_26 rfl ((hB9.fr hS (fun f => f)).cell rfl))) D13 ?_
    refine d_pure' (i := 12) rfl (by kernel_rfl) (np_then (np_then (np_then (np_blk (np_then np_body))))) rfl (wanted_act (t := 12) rfl rfl rfl (decide_eq_true hc14)) (fun _ => (x_move (v := .int .i64 (k : Int)) rfl)) (fun _ => D13) ?_
    obtain ⟨rb, ro, _, hv16, _, hcell15⟩ := hop (by omega)
    injection hv16 with hv16A
    subst hv16A
    refine d_pure' (i := 13) rfl (by kernel_rfl) (np_then (np_then (np_then (np_blk (np_then np_body))))) rfl (wanted_act (t := 12) rfl rfl rfl (decide_eq_true hc14)) (fun _ => (x_indexAddr (b := rb) (o := ro) (j := k) es_26 rfl rfl rfl (by omega))) (fun _ => D13) ?_
    refine d_pure' (i := 14) rfl (by kernel_rfl) (np_then (np_then (np_then (np_blk (np_then np_body))))) rfl (wanted_act (t := 12) rfl rfl rfl (decide_eq_true hc14)) (fun _ => (x_fieldAddr (b := rb) (o := ro + k * 5) fo_37_3 rfl)) (fun _ => D13) ?_
    refine d_load' (i := 15) rfl (by kernel_rfl) (np_then (np_then (np_then (np_blk (np_then np_body))))) rfl (by kernel_rfl) rfl (wanted_act (t := 12) rfl rfl rfl (decide_eq_true hc14)) (fun x hS => (x_load (v := .int .i64 ((l.getD k fl0).1.due)) kind_3 rfl (by rw [Nat.add_assoc]; exact hS.cell (hcell15 _ _ (encL_get (a := (l.getD k fl0)) (size := 5) (f := 3) FC_len (getD_at l k fl0 (by omega)) rfl)) (fun f => f)))) D13 ?_
    refine d_pure' (i := 16) rfl (by kernel_rfl) (np_then (np_then (np_then (np_blk (np_then np_body))))) rfl (wanted_act (t := 12) rfl rfl rfl (decide_eq_true hc14)) (fun _ => (x_fieldAddr (b := fb) (o := 0) fo_37_3 rfl)) (fun _ => D13) ?_
    refine d_load' (i := 17) rfl (by kernel_rfl) (np_then (np_then (np_then (np_blk (np_then np_body))))) rfl (by kernel_rfl) rfl (wanted_act (t := 12) rfl rfl rfl (decide_eq_true hc14)) (fun x hS => (x_load (v := .int .i64 fd) kind_3 rfl ((hB10.fr hS (fun f => f)).cell rfl))) D13 ?_
    refine d_pure' (i := 18) rfl (by kernel_rfl) (np_then (np_then (np_then (np_blk (np_then np_body))))) rfl (wanted_act (t := 12) rfl rfl rfl (decide_eq_true hc14)) (fun _ => (x_lss (a := (l.getD k fl0).1.due) (b := fd) rfl rfl)) (fun _ => D13) ?_
    refine d_pure' (i := 19) rfl (by kernel_rfl) (np_then (np_then (np_then (np_blk (np_then np_body))))) rfl (wanted_act (t := 12) rfl rfl rfl (decide_eq_true hc14)) (fun _ => (x_move (v := .bool (decide (((l.getD k fl0).1.due) < fd))) rfl)) (fun _ => D13) ?_
    by_cases hc17 : ((l.getD k fl0).1.due) < fd
    ·skip
     refine d_no (i := 20) (t := 24) rfl (by kernel_rfl) (np_then (np_then (np_then (np_blk (np_then np_body))))) rfl rfl rfl rfl (decide_eq_true hc17) (fun _ => D13) ?_
     refine d_no (i := 21) (t := 24) rfl (by kernel_rfl) (np_then (np_then (np_then (np_blk (np_then np_body))))) rfl rfl rfl rfl (decide_eq_true hc17) (fun _ => D13) ?_
     refine d_no (i := 22) (t := 24) rfl (by kernel_rfl) (np_then (np_then (np_then (np_blk (np_then np_body))))) rfl rfl rfl rfl (decide_eq_true hc17) (fun _ => D13) ?_
     refine d_no (i := 23) (t := 24) rfl (by kernel_rfl) (np_then (np_then (np_then (np_blk (np_then np_body))))) rfl rfl rfl rfl (decide_eq_true hc17) (fun _ => D13) ?_
     refine d_no (i := 24) (t := 24) rfl (by kernel_rfl) (np_then (np_then (np_then (np_blk (np_then np_body))))) rfl rfl rfl rfl (decide_eq_true hc17) (fun _ => D13) ?_
     refine d_no (i := 25) (t := 24) rfl (by kernel_rfl) (np_then (np_then (np_then (np_blk (np_then np_body))))) rfl rfl rfl rfl (decide_eq_true hc17) (fun _ => D13) ?_
     refine d_no (i := 26) (t := 24) rfl (by kernel_rfl) (np_then (np_then (np_then (np_blk (np_then np_body))))) rfl rfl rfl rfl (decide_eq_true hc17) (fun _ => D13) ?_
     refine d_no (i := 27) (t := 24) rfl (by kernel_rfl) (np_then (np_then (np_then (np_blk (np_then np_body))))) rfl rfl rfl rfl (decide_eq_true hc17) (fun _ => D13) ?_
     refine d_no (i := 28) (t := 24) rfl (by kernel_rfl) (np_then (np_then (np_then (np_blk (np_then np_body))))) rfl rfl rfl rfl (decide_eq_true hc17) (fun _ => D13) ?_
     refine d_no (i := 29) (t := 24) rfl (by kernel_rfl) (np_then (np_then (np_then (np_blk (np_then np_body))))) rfl rfl rfl rfl (decide_eq_true hc17) (fun _ => D13) ?_
     refine d_no (i := 30) (t := 24) rfl (by kernel_rfl) (np_then (np_then (np_then (np_blk (np_then np_body))))) rfl rfl rfl rfl (decide_eq_true hc17) (fun _ => D13) ?_
     refine d_no (i := 31) (t := 24) rfl (by kernel_rfl) (np_then (np_then (np_then (np_blk (np_then np_body))))) rfl rfl rfl rfl (decide_eq_true hc17) (fun _ => D13) ?_
     refine d_noU (i := 32) (t := 36) rfl (by kernel_rfl) (np_then (np_then (np_then (np_blk (np_then np_body))))) rfl rfl rfl rfl (fun _ => D13) ?_
     refine d_noU (i := 33) (t := 36) rfl (by kernel_rfl) (np_then (np_then (np_then (np_blk (np_then np_body))))) rfl rfl rfl rfl (fun _ => D13) ?_
     refine d_noU (i := 34) (t := 36) rfl (by kernel_rfl) (np_then (np_then (np_then (np_blk (np_then np_body))))) rfl rfl rfl rfl (fun _ => D13) ?_
     refine d_noU (i := 35) (t := 36) rfl (by kernel_rfl) (np_then (np_then (np_then (np_blk (np_then np_body))))) rfl rfl rfl rfl (fun _ => D13) ?_
     refine d_noU (i := 36) (t := 36) rfl (by kernel_rfl) (np_then (np_then (np_then (np_blk (np_then np_body))))) rfl rfl rfl rfl (fun _ => D13) ?_
     refine d_noU (i := 37) (t := 36) rfl (by kernel_rfl) (np_then (np_then (np_then (np_blk (np_then np_body))))) rfl rfl rfl rfl (fun _ => D13) ?_
     refine d_noU (i := 38) (t := 36) rfl (by kernel_rfl) (np_then (np_then (np_then (np_blk (np_then np_body))))) rfl rfl rfl rfl (fun _ => D13) ?_
     refine d_noU (i := 39) (t := 36) rfl (by kernel_rfl) (np_then (np_then (np_then (np_blk (np_then np_body))))) rfl rfl rfl rfl (fun _ => D13) ?_
     refine d_noU (i := 40) (t := 36) rfl (by kernel_rfl) (np_then (np_then (np_then (np_blk (np_then np_body))))) rfl rfl rfl rfl (fun _ => D13) ?_
     refine d_noU (i := 41) (t := 36) rfl (by kernel_rfl) (np_then (np_then (np_then (np_blk (np_then np_body))))) rfl rfl rfl rfl (fun _ => D13) ?_
     refine d_noU (i := 42) (t := 36) rfl (by kernel_rfl) (np_then (np_then (np_then (np_blk (np_then np_body))))) rfl rfl rfl rfl (fun _ => D13) ?_
     refine d_no (i := 43) (t := 24) rfl (by kernel_rfl) (np_then (np_then (np_then (np_blk (np_then np_body))))) rfl rfl rfl rfl (decide_eq_true hc17) (fun _ => D13) ?_
     refine d_pure' (i := 44) rfl (by kernel_rfl) (np_then (np_then (np_then (np_blk (np_then np_body))))) rfl (wanted_act (t := 12) rfl rfl rfl (decide_eq_true hc14)) (fun _ => (x_pickT (b := decide (((l.getD k fl0).1.due) < fd)) (v := .bool true) rfl (decide_eq_true hc17) rfl)) (fun _ => D13) ?_
     refine d_pure (i := 45) rfl (by kernel_rfl) (np_then (np_then (np_then (np_blk (np_then np_body))))) rfl (fun _ => (x_pickT (b := decide ((k : Int) < (n : Int))) (v := .bool true) rfl (decide_eq_true hc14) rfl)) (fun _ => D13) ?_
     refine d_done (by kernel_rfl) ?_
     refine thenW_n ?_
     refine W_condT (b := true) rfl rfl rfl ?_
     refine W_skip ?_
     refine thenW_n ?_
     refine W_block ?_
     refine W_region ?_
     refine r_val rfl (x_move (v := .int .i64 (k : Int)) rfl) ?_
     refine r_val rfl (x_add64 (a := (k : Int)) (b := 1) rfl rfl (by omega)) ?_
     refine r_val rfl (x_assign (v := .int .i64 ((k : Int) + 1)) rfl) ?_
     refine RW_nil ?_
     refine inBlk_n ?_
     refine thenW_n ?_
     have := F0.size
     have := F11.size
     have hah : ahead fd fn (l.getD k fl0) := by rw [ahead_iff]; omega
     exact ⟨_, (by omega), k + 1, _, rfl, ((ovl_cons (ovl_cons (ovl_cons (ovl_nil _) (by show Value.int .i64 ((k : Int) + 1) = _; rfl)) rfl) rfl)).symm, (((Fr.refl No _).trans F0 (fun j hj h => h.elim)).trans F11 (fun j hj h => h.elim)), by omega, fun i hi => (by rcases Nat.lt_succ_iff_lt_or_eq.1 hi with h | h; exact hz i h; subst h; exact hah)⟩
    ·skip
     refine d_pure' (i := 20) rfl (by kernel_rfl) (np_then (np_then (np_then (np_blk (np_then np_body))))) rfl (wanted_act (t := 24) rfl rfl rfl (decide_eq_false hc17)) (fun _ => (x_move (v := .pointer (some ⟨N, 0, none⟩)) rfl)) (fun _ => D13) ?_
     refine d_pure' (i := 21) rfl (by kernel_rfl) (np_then (np_then (np_then (np_blk (np_then np_body))))) rfl (wanted_act (t := 24) rfl rfl rfl (decide_eq_false hc17)) (fun _ => (x_nilCheck rfl)) (fun _ => D13) ?_
     refine d_pure' (i := 22) rfl (by kernel_rfl) (np_then (np_then (np_then (np_blk (np_then np_body))))) rfl (wanted_act (t := 24) rfl rfl rfl (decide_eq_false hc17)) (fun _ => (x_fieldAddr (b := N) (o := 0) fo_28_0 rfl)) (fun _ => D13) ?_
     refine d_load' (i := 23) rfl (by kernel_rfl) (np_then (np_then (np_then (np_blk (np_then np_body))))) rfl (by kernel_rfl) rfl (wanted_act (t := 24) rfl rfl rfl (decide_eq_false hc17)) (fun x hS => (x_load (v := .slice (some ⟨rb, ro, none⟩) n c) kind_26 rfl ((hB9.fr hS (fun f => f)).cell rfl))) D13 ?_
     refine d_pure' (i := 24) rfl (by kernel_rfl) (np_then (np_then (np_then (np_blk (np_then np_body))))) rfl (wanted_act (t := 24) rfl rfl rfl (decide_eq_false hc17)) (fun _ => (x_move (v := .int .i64 (k : Int)) rfl)) (fun _ => D13) ?_
     refine d_pure' (i := 25) rfl (by kernel_rfl) (np_then (np_then (np_then (np_blk (np_then np_body))))) rfl (wanted_act (t := 24) rfl rfl rfl (decide_eq_false hc17)) (fun _ => (x_indexAddr (b := rb) (o := ro) (j := k) es_26 rfl rfl rfl (by omega))) (fun _ => D13) ?_
     refine d_pure' (i := 26) rfl (by kernel_rfl) (np_then (np_then (np_then (np_blk (np_then np_body))))) rfl (wanted_act (t := 24) rfl rfl rfl (decide_eq_false hc17)) (fun _ => (x_fieldAddr (b := rb) (o := ro + k * 5) fo_37_3 rfl)) (fun _ => D13) ?_
     refine d_load' (i := 27) rfl (by kernel_rfl) (np_then (np_then (np_then (np_blk (np_then np_body))))) rfl (by kernel_rfl) rfl (wanted_act (t := 24) rfl rfl rfl (decide_eq_false hc17)) (fun x hS => (x_load (v := .int .i64 ((l.getD k fl0).1.due)) kind_3 rfl (by rw [Nat.add_assoc]; exact hS.cell (hcell15 _ _ (encL_get (a := (l.getD k fl0)) (size := 5) (f := 3) FC_len (getD_at l k fl0 (by omega)) rfl)) (fun f => f)))) D13 ?_
     refine d_pure' (i := 28) rfl (by kernel_rfl) (np_then (np_then (np_then (np_blk (np_then np_body))))) rfl (wanted_act (t := 24) rfl rfl rfl (decide_eq_false hc17)) (fun _ => (x_fieldAddr (b := fb) (o := 0) fo_37_3 rfl)) (fun _ => D13) ?_
     refine d_load' (i := 29) rfl (by kernel_rfl) (np_then (np_then (np_then (np_blk (np_then np_body))))) rfl (by kernel_rfl) rfl (wanted_act (t := 24) rfl rfl rfl (decide_eq_false hc17)) (fun x hS => (x_load (v := .int .i64 fd) kind_3 rfl ((hB10.fr hS (fun f => f)).cell rfl))) D13 ?_
     refine d_pure' (i := 30) rfl (by kernel_rfl) (np_then (np_then (np_then (np_blk (np_then np_body))))) rfl (wanted_act (t := 24) rfl rfl rfl (decide_eq_false hc17)) (fun _ => (x_eql (a := (l.getD k fl0).1.due) (b := fd) rfl rfl)) (fun _ => D13) ?_
     refine d_pure' (i := 31) rfl (by kernel_rfl) (np_then (np_then (np_then (np_blk (np_then np_body))))) rfl (wanted_act (t := 24) rfl rfl rfl (decide_eq_false hc17)) (fun _ => (x_move (v := .bool (decide (((l.getD k fl0).1.due) = fd))) rfl)) (fun _ => D13) ?_
     by_cases hc18 : ((l.getD k fl0).1.due) = fd
     ·skip
      refine d_pure' (i := 32) rfl (by kernel_rfl) (np_then (np_then (np_then (np_blk (np_then np_body))))) rfl (wanted_act (t := 36) rfl rfl rfl (decide_eq_true hc18)) (fun _ => (x_move (v := .pointer (some ⟨N, 0, none⟩)) rfl)) (fun _ => D13) ?_
      refine d_pure' (i := 33) rfl (by kernel_rfl) (np_then (np_then (np_then (np_blk (np_then np_body))))) rfl (wanted_act (t := 36) rfl rfl rfl (decide_eq_true hc18)) (fun _ => (x_nilCheck rfl)) (fun _ => D13) ?_
      refine d_pure' (i := 34) rfl (by kernel_rfl) (np_then (np_then (np_then (np_blk (np_then np_body))))) rfl (wanted_act (t := 36) rfl rfl rfl (decide_eq_true hc18)) (fun _ => (x_fieldAddr (b := N) (o := 0) fo_28_0 rfl)) (fun _ => D13) ?_
      refine d_load' (i := 35) rfl (by kernel_rfl) (np_then (np_then (np_then (np_blk (np_then np_body))))) rfl (by kernel_rfl) rfl (wanted_act (t := 36) rfl rfl rfl (decide_eq_true hc18)) (fun x hS => (x_load (v := .slice (some ⟨rb, ro, none⟩) n c) kind_26 rfl ((hB9.fr hS (fun f => f)).cell rfl))) D13 ?_
      refine d_pure' (i := 36) rfl (by kernel_rfl) (np_then (np_then (np_then (np_blk (np_then np_body))))) rfl (wanted_act (t := 36) rfl rfl rfl (decide_eq_true hc18)) (fun _ => (x_move (v := .int .i64 (k : Int)) rfl)) (fun _ => D13) ?_
      refine d_pure' (i := 37) rfl (by kernel_rfl) (np_then (np_then (np_then (np_blk (np_then np_body))))) rfl (wanted_act (t := 36) rfl rfl rfl (decide_eq_true hc18)) (fun _ => (x_indexAddr (b := rb) (o := ro) (j := k) es_26 rfl rfl rfl (by omega))) (fun _ => D13) ?_
      refine d_pure' (i := 38) rfl (by kernel_rfl) (np_then (np_then (np_then (np_blk (np_then np_body))))) rfl (wanted_act (t := 36) rfl rfl rfl (decide_eq_true hc18)) (fun _ => (x_fieldAddr (b := rb) (o := ro + k * 5) fo_37_0 rfl)) (fun _ => D13) ?_
      refine d_load' (i := 39) rfl (by kernel_rfl) (np_then (np_then (np_then (np_blk (np_then np_body))))) rfl (by kernel_rfl) rfl (wanted_act (t := 36) rfl rfl rfl (decide_eq_true hc18)) (fun x hS => (x_load (v := .int .i64 ((l.getD k fl0).1.num)) kind_3 rfl (by rw [Nat.add_assoc]; exact hS.cell (hcell15 _ _ (encL_get (a := (l.getD k fl0)) (size := 5) (f := 0) FC_len (getD_at l k fl0 (by omega)) rfl)) (fun f => f)))) D13 ?_
      refine d_pure' (i := 40) rfl (by kernel_rfl) (np_then (np_then (np_then (np_blk (np_then np_body))))) rfl (wanted_act (t := 36) rfl rfl rfl (decide_eq_true hc18)) (fun _ => (x_fieldAddr (b := fb) (o := 0) fo_37_0 rfl)) (fun _ => D13) ?_
      refine d_load' (i := 41) rfl (by kernel_rfl) (np_then (np_then (np_then (np_blk (np_then np_body))))) rfl (by kernel_rfl) rfl (wanted_act (t := 36) rfl rfl rfl (decide_eq_true hc18)) (fun x hS => (x_load (v := .int .i64 fn) kind_3 rfl ((hB10.fr hS (fun f => f)).cell rfl))) D13 ?_
      refine d_pure' (i := 42) rfl (by kernel_rfl) (np_then (np_then (np_then (np_blk (np_then np_body))))) rfl (wanted_act (t := 36) rfl rfl rfl (decide_eq_true hc18)) (fun _ => (x_lss (a := (l.getD k fl0).1.num) (b := fn) rfl rfl)) (fun _ => D13) ?_
      refine d_pure' (i := 43) rfl (by kernel_rfl) (np_then (np_then (np_then (np_blk (np_then np_body))))) rfl (wanted_act (t := 24) rfl rfl rfl (decide_eq_false hc17)) (fun _ => (x_pickT (b := decide (((l.getD k fl0).1.due) = fd)) (v := .bool (decide (((l.getD k fl0).1.num) < fn))) rfl (decide_eq_true hc18) rfl)) (fun _ => D13) ?_
      refine d_pure' (i := 44) rfl (by kernel_rfl) (np_then (np_then (np_then (np_blk (np_then np_body))))) rfl (wanted_act (t := 12) rfl rfl rfl (decide_eq_true hc14)) (fun _ => (x_pickF (b := decide (((l.getD k fl0).1.due) < fd)) (v := .bool (decide (((l.getD k fl0).1.num) < fn))) rfl (decide_eq_false hc17) rfl)) (fun _ => D13) ?_
      refine d_pure (i := 45) rfl (by kernel_rfl) (np_then (np_then (np_then (np_blk (np_then np_body))))) rfl (fun _ => (x_pickT (b := decide ((k : Int) < (n : Int))) (v := .bool (decide (((l.getD k fl0).1.num) < fn))) rfl (decide_eq_true hc14) rfl)) (fun _ => D13) ?_
      refine d_done (by kernel_rfl) ?_
      refine thenW_n ?_
      refine W_condD (p := ((l.getD k fl0).1.num) < fn) rfl rfl (fun hc19 => ?_) (fun hc19 => ?_)
      ·skip
       refine W_skip ?_
       refine thenW_n ?_
       refine W_block ?_
       refine W_region ?_
       refine r_val rfl (x_move (v := .int .i64 (k : Int)) rfl) ?_
       refine r_val rfl (x_add64 (a := (k : Int)) (b := 1) rfl rfl (by omega)) ?_
       refine r_val rfl (x_assign (v := .int .i64 ((k : Int) + 1)) rfl) ?_
       refine RW_nil ?_
       refine inBlk_n ?_
       refine thenW_n ?_
       have := F0.size
       have := F11.size
       have hah : ahead fd fn (l.getD k fl0) := by rw [ahead_iff]; omega
       exact ⟨_, (by omega), k + 1, _, rfl, ((ovl_cons (ovl_cons (ovl_cons (ovl_nil _) (by show Value.int .i64 ((k : Int) + 1) = _; rfl)) rfl) rfl)).symm, (((Fr.refl No _).trans F0 (fun j hj h => h.elim)).trans F11 (fun j hj h => h.elim)), by omega, fun i hi => (by rcases Nat.lt_succ_iff_lt_or_eq.1 hi with h | h; exact hz i h; subst h; exact hah)⟩
      ·skip
       refine W_exit ?_
       refine thenW_x ?_
       refine thenW_x ?_
       refine inBlk_xs ?_
       refine thenW_n ?_
       have := F0.size
       have := F11.size
       exact ⟨k, _, ((ovl_cons (ovl_cons (ovl_cons (ovl_nil _) rfl) rfl) rfl)).symm, (((Fr.refl No _).trans F0 (fun j hj h => h.elim)).trans F11 (fun j hj h => h.elim)), by omega, hz, fun h => (by rw [ahead_iff]; omega)⟩
     ·skip
      refine d_no (i := 32) (t := 36) rfl (by kernel_rfl) (np_then (np_then (np_then (np_blk (np_then np_body))))) rfl rfl rfl rfl (decide_eq_false hc18) (fun _ => D13) ?_
      refine d_no (i := 33) (t := 36) rfl (by kernel_rfl) (np_then (np_then (np_then (np_blk (np_then np_body))))) rfl rfl rfl rfl (decide_eq_false hc18) (fun _ => D13) ?_
      refine d_no (i := 34) (t := 36) rfl (by kernel_rfl) (np_then (np_then (np_then (np_blk (np_then np_body))))) rfl rfl rfl rfl (decide_eq_false hc18) (fun _ => D13) ?_
      refine d_no (i := 35) (t := 36) rfl (by kernel_rfl) (np_then (np_then (np_then (np_blk (np_then np_body))))) rfl rfl rfl rfl (decide_eq_false hc18) (fun _ => D13) ?_
      refine d_no (i := 36) (t := 36) rfl (by kernel_rfl) (np_then (np_then (np_then (np_blk (np_then np_body))))) rfl rfl rfl rfl (decide_eq_false hc18) (fun _ => D13) ?_
      refine d_no (i := 37) (t := 36) rfl (by kernel_rfl) (np_then (np_then (np_then (np_blk (np_then np_body))))) rfl rfl rfl rfl (decide_eq_false hc18) (fun _ => D13) ?_
      refine d_no (i := 38) (t := 36) rfl (by kernel_rfl) (np_then (np_then (np_then (np_blk (np_then np_body))))) rfl rfl rfl rfl (decide_eq_false hc18) (fun _ => D13) ?_
      refine d_no (i := 39) (t := 36) rfl (by kernel_rfl) (np_then (np_then (np_then (np_blk (np_then np_body))))) rfl rfl rfl rfl (decide_eq_false hc18) (fun _ => D13) ?_
      refine d_no (i := 40) (t := 36) rfl (by kernel_rfl) (np_then (np_then (np_then (np_blk (np_then np_body))))) rfl rfl rfl rfl (decide_eq_false hc18) (fun _ => D13) ?_
      refine d_no (i := 41) (t := 36) rfl (by kernel_rfl) (np_then (np_then (np_then (np_blk (np_then np_body))))) rfl rfl rfl rfl (decide_eq_false hc18) (fun _ => D13) ?_
      refine d_no (i := 42) (t := 36) rfl (by kernel_rfl) (np_then (np_then (np_then (np_blk (np_then np_body))))) rfl rfl rfl rfl (decide_eq_false hc18) (fun _ => D13) ?_
      refine d_pure' (i := 43) rfl (by kernel_rfl) (np_then (np_then (np_then (np_blk (np_then np_body))))) rfl (wanted_act (t := 24) rfl rfl rfl (decide_eq_false hc17)) (fun _ => (x_pickF (b := decide (((l.getD k fl0).1.due) = fd)) (v := .bool false) rfl (decide_eq_false hc18) rfl)) (fun _ => D13) ?_
      refine d_pure' (i := 44) rfl (by kernel_rfl) (np_then (np_then (np_then (np_blk (np_then np_body))))) rfl (wanted_act (t := 12) rfl rfl rfl (decide_eq_true hc14)) (fun _ => (x_pickF (b := decide (((l.getD k fl0).1.due) < fd)) (v := .bool false) rfl (decide_eq_false hc17) rfl)) (fun _ => D13) ?_
      refine d_pure (i := 45) rfl (by kernel_rfl) (np_then (np_then (np_then (np_blk (np_then np_body))))) rfl (fun _ => (x_pickT (b := decide ((k : Int) < (n : Int))) (v := .bool false) rfl (decide_eq_true hc14) rfl)) (fun _ => D13) ?_
      refine d_done (by kernel_rfl) ?_
      refine thenW_n ?_
      refine W_condF (b := false) rfl rfl rfl ?_
      refine W_exit ?_
      refine thenW_x ?_
      refine thenW_x ?_
      refine inBlk_xs ?_
      refine thenW_n ?_
      have := F0.size
      have := F11.size
      exact ⟨k, _, ((ovl_cons (ovl_cons (ovl_cons (ovl_nil _) rfl) rfl) rfl)).symm, (((Fr.refl No _).trans F0 (fun j hj h => h.elim)).trans F11 (fun j hj h => h.elim)), by omega, hz, fun h => (by rw [ahead_iff]; omega)⟩
   ·skip
    refine d_no (i := 8) (t := 12) rfl (by kernel_rfl) (np_then (np_then (np_then (np_blk (np_then np_body))))) rfl rfl rfl rfl (decide_eq_false hc14) (fun _ => D13) ?_
    refine d_no (i := 9) (t := 12) rfl (by kernel_rfl) (np_then (np_then (np_then (np_blk (np_then np_body))))) rfl rfl rfl rfl (decide_eq_false hc14) (fun _ => D13) ?_
    refine d_no (i := 10) (t := 12) rfl (by kernel_rfl) (np_then (np_then (np_then (np_blk (np_then np_body))))) rfl rfl rfl rfl (decide_eq_false hc14) (fun _ => D13) ?_
    refine d_no (i := 11) (t := 12) rfl (by kernel_rfl) (np_then (np_then (np_then (np_blk (np_then np_body))))) rfl rfl rfl rfl (decide_eq_false hc14) (fun _ => D13) ?_
    refine d_no (i := 12) (t := 12) rfl (by kernel_rfl) (np_then (np_then (np_then (np_blk (np_then np_body))))) rfl rfl rfl rfl (decide_eq_false hc14) (fun _ => D13) ?_
    refine d_no (i := 13) (t := 12) rfl (by kernel_rfl) (np_then (np_then (np_then (np_blk (np_then np_body))))) rfl rfl rfl rfl (decide_eq_false hc14) (fun _ => D13) ?_
    refine d_no (i := 14) (t := 12) rfl (by kernel_rfl) (np_then (np_then (np_then (np_blk (np_then np_body))))) rfl rfl rfl rfl (decide_eq_false hc14) (fun _ => D13) ?_
    refine d_no (i := 15) (t := 12) rfl (by kernel_rfl) (np_then (np_then (np_then (np_blk (np_then np_body))))) rfl rfl rfl rfl (decide_eq_false hc14) (fun _ => D13) ?_
    refine d_no (i := 16) (t := 12) rfl (by kernel_rfl) (np_then (np_then (np_then (np_blk (np_then np_body))))) rfl rfl rfl rfl (decide_eq_false hc14) (fun _ => D13) ?_
    refine d_no (i := 17) (t := 12) rfl (by kernel_rfl) (np_then (np_then (np_then (np_blk (np_then np_body))))) rfl rfl rfl rfl (decide_eq_false hc14) (fun _ => D13) ?_
    refine d_no (i := 18) (t := 12) rfl (by kernel_rfl) (np_then (np_then (np_then (np_blk (np_then np_body))))) rfl rfl rfl rfl (decide_eq_false hc14) (fun _ => D13) ?_
    refine d_no (i := 19) (t := 12) rfl (by kernel_rfl) (np_then (np_then (np_then (np_blk (np_then np_body))))) rfl rfl rfl rfl (decide_eq_false hc14) (fun _ => D13) ?_
    refine d_noU (i := 20) (t := 24) rfl (by kernel_rfl) (np_then (np_then (np_then (np_blk (np_then np_body))))) rfl rfl rfl rfl (fun _ => D13) ?_
    refine d_noU (i := 21) (t := 24) rfl (by kernel_rfl) (np_then (np_then (np_then (np_blk (np_then np_body))))) rfl rfl rfl rfl (fun _ => D13) ?_
    refine d_noU (i := 22) (t := 24) rfl (by kernel_rfl) (np_then (np_then (np_then (np_blk (np_then np_body))))) rfl rfl rfl rfl (fun _ => D13) ?_
    refine d_noU (i := 23) (t := 24) rfl (by kernel_rfl) (np_then (np_then (np_then (np_blk (np_then np_body))))) rfl rfl rfl rfl (fun _ => D13) ?_
    refine d_noU (i := 24) (t := 24) rfl (by kernel_rfl) (np_then (np_then (np_then (np_blk (np_then np_body))))) rfl rfl rfl rfl (fun _ => D13) ?_
    refine d_noU (i := 25) (t := 24) rfl (by kernel_rfl) (np_then (np_then (np_then (np_blk (np_then np_body))))) rfl rfl rfl rfl (fun _ => D13) ?_
    refine d_noU (i := 26) (t := 24) rfl (by kernel_rfl) (np_then (np_then (np_then (np_blk (np_then np_body))))) rfl rfl rfl rfl (fun _ => D13) ?_
    refine d_noU (i := 27) (t := 24) rfl (by kernel_rfl) (np_then (np_then (np_then (np_blk (np_then np_body))))) rfl rfl rfl rfl (fun _ => D13) ?_
    refine d_noU (i := 28) (t := 24) rfl (by kernel_rfl) (np_then (np_then (np_then (np_blk (np_then np_body))))) rfl rfl rfl rfl (fun _ => D13) ?_
    refine d_noU (i := 29) (t := 24) rfl (by kernel_rfl) (np_then (np_then (np_then (np_blk (np_then np_body))))) rfl rfl rfl rfl (fun _ => D13) ?_
    refine d_noU (i := 30) (t := 24) rfl (by kernel_rfl) (np_then (np_then (np_then (np_blk (np_then np_body))))) rfl rfl rfl rfl (fun _ => D13) ?_
    refine d_noU (i := 31) (t := 24) rfl (by kernel_rfl) (np_then (np_then (np_then (np_blk (np_then np_body))))) rfl rfl rfl rfl (fun _ => D13) ?_
    refine d_noU (i := 32) (t := 36) rfl (by kernel_rfl) (np_then (np_then (np_then (np_blk (np_then np_body))))) rfl rfl rfl rfl (fun _ => D13) ?_
    refine d_noU (i := 33) (t := 36) rfl (by kernel_rfl) (np_then (np_then (np_then (np_blk (np_then np_body))))) rfl rfl rfl rfl (fun _ => D13) ?_
    refine d_noU (i := 34) (t := 36) rfl (by kernel_rfl) (np_then (np_then (np_then (np_blk (np_then np_body))))) rfl rfl rfl rfl (fun _ => D13) ?_
    refine d_noU (i := 35) (t := 36) rfl (by kernel_rfl) (np_then (np_then (np_then (np_blk (np_then np_body))))) rfl rfl rfl rfl (fun _ => D13) ?_
    refine d_noU (i := 36) (t := 36) rfl (by kernel_rfl) (np_then (np_then (np_then (np_blk (np_then np_body))))) rfl rfl rfl rfl (fun _ => D13) ?_
    refine d_noU (i := 37) (t := 36) rfl (by kernel_rfl) (np_then (np_then (np_then (np_blk (np_then np_body))))) rfl rfl rfl rfl (fun _ => D13) ?_
    refine d_noU (i := 38) (t := 36) rfl (by kernel_rfl) (np_then (np_then (np_then (np_blk (np_then np_body))))) rfl rfl rfl rfl (fun _ => D13) ?_
    refine d_noU (i := 39) (t := 36) rfl (by kernel_rfl) (np_then (np_then (np_then (np_blk (np_then np_body))))) rfl rfl rfl rfl (fun _ => D13) ?_
    refine d_noU (i := 40) (t := 36) rfl (by kernel_rfl) (np_then (np_then (np_then (np_blk (np_then np_body))))) rfl rfl rfl rfl (fun _ => D13) ?_
    refine d_noU (i := 41) (t := 36) rfl (by kernel_rfl) (np_then (np_then (np_then (np_blk (np_then np_body))))) rfl rfl rfl rfl (fun _ => D13) ?_
    refine d_noU (i := 42) (t := 36) rfl (by kernel_rfl) (np_then (np_then (np_then (np_blk (np_then np_body))))) rfl rfl rfl rfl (fun _ => D13) ?_
    refine d_noU (i := 43) (t := 24) rfl (by kernel_rfl) (np_then (np_then (np_then (np_blk (np_then np_body))))) rfl rfl rfl rfl (fun _ => D13) ?_
    refine d_no (i := 44) (t := 12) rfl (by kernel_rfl) (np_then (np_then (np_then (np_blk (np_then np_body))))) rfl rfl rfl rfl (decide_eq_false hc14) (fun _ => D13) ?_
    refine d_pure (i := 45) rfl (by kernel_rfl) (np_then (np_then (np_then (np_blk (np_then np_body))))) rfl (fun _ => (x_pickF (b := decide ((k : Int) < (n : Int))) (v := .bool false) rfl (decide_eq_false hc14) rfl)) (fun _ => D13) ?_
    refine d_done (by kernel_rfl) ?_
    refine thenW_n ?_
    refine W_condF (b := false) rfl rfl rfl ?_
    refine W_exit ?_
    refine thenW_x ?_
    refine thenW_x ?_
    refine inBlk_xs ?_
    refine thenW_n ?_
    have := F0.size
    have := F11.size
    exact ⟨k, _, ((ovl_cons (ovl_cons (ovl_cons (ovl_nil _) rfl) rfl) rfl)).symm, (((Fr.refl No _).trans F0 (fun j hj h => h.elim)).trans F11 (fun j hj h => h.elim)), by omega, hz, fun h => (by rw [ahead_iff]; omega)⟩
 ·skip
  rintro σ w20 ⟨k, τ, rfl, F0, hk, hz, hnah⟩
  have hB21 := hN.fr F1 (fun f => f)
  have hB22 := hB21.fr F0 (fun f => f)
  have hB23 := hB3.fr F0 (fun f => f)
  have hR24 := hR.fr F1 (fun _ _ f => f)
  have hR25 := hR24.fr F0 (fun _ _ f => f)
  have := F1.size
  have := F0.size
  have hF4 := (((Fr.refl No _).trans F1 (fun j hj h => h.elim)).trans F0 (fun j hj h => h.elim))
  have hN4 := hB22
  have lt_N := hN4.lt
  have lt_fb := (hB23).lt
  have hR4 := hR25
  have hrl4 : ∀ b, (Value.slice A n c).ownBlock = some b → b < w20.heap.size := fun b hb => (by have h1 := (hrl b hb).1; have := hF4.size; omega)
  refine d_begin mo 21 (fun x => Fr No w20 x) ?_
  obtain ⟨w27, hw27⟩ : ∃ x, w20.drew = x := ⟨_, rfl⟩
  have F26 : Fr No w20 w27 := by rw [← hw27]; exact Fr.drew _ _
  have D28 : Fr No w20 w27 := Fr.of_No F26
  have sF26 := F26.size
  rw [hw27]
  refine d_pure (i := 0) rfl (by kernel_rfl) np_body rfl (fun _ => (x_move (v := .pointer (some ⟨N, 0, none⟩)) rfl)) (fun _ => D28) ?_
  refine d_pure (i := 2) rfl (by kernel_rfl) np_body rfl (fun _ => (x_move (v := .pointer (some ⟨N, 0, none⟩)) rfl)) (fun _ => D28) ?_
  refine d_pure (i := 3) rfl (by kernel_rfl) np_body rfl (fun _ => (x_nilCheck rfl)) (fun _ => D28) ?_
  refine d_pure (i := 4) rfl (by kernel_rfl) np_body rfl (fun _ => (x_fieldAddr (b := N) (o := 0) fo_28_0 rfl)) (fun _ => D28) ?_
  refine d_load (i := 5) rfl (by kernel_rfl) np_body rfl (by kernel_rfl) rfl (fun x hS => (x_load (v := .slice A n c) kind_26 rfl ((hB22.fr hS (fun f => f)).cell rfl))) D28 ?_
  refine d_pure (i := 6) rfl (by kernel_rfl) np_body rfl (fun _ => (x_move (v := .int .i64 (k : Int)) rfl)) (fun _ => D28) ?_
  refine d_pure (i := 7) rfl (by kernel_rfl) np_body rfl (fun _ => (x_sliceHi (h := k) es_26 rfl rfl (by first | rfl | omega) (by omega))) (fun _ => D28) ?_
  refine d_load (i := 9) rfl (by kernel_rfl) np_body rfl (by kernel_rfl) rfl (fun x hS => (x_loadRow (b := fb) (o := 0) (cs := [.int .i64 fn, .int .i64 ff, .int .i64 ft, .int .i64 fd, fv]) kind_37 size_37 rfl ((hB23.fr hS (fun f => f)).seg (m := 5) rfl))) D28 ?_
  refine d_pure (i := 12) rfl (by kernel_rfl) np_body rfl (fun _ => (x_move (v := .pointer (some ⟨N, 0, none⟩)) rfl)) (fun _ => D28) ?_
  refine d_pure (i := 13) rfl (by kernel_rfl) np_body rfl (fun _ => (x_nilCheck rfl)) (fun _ => D28) ?_
  refine d_pure (i := 14) rfl (by kernel_rfl) np_body rfl (fun _ => (x_fieldAddr (b := N) (o := 0) fo_28_0 rfl)) (fun _ => D28) ?_
  refine d_load (i := 15) rfl (by kernel_rfl) np_body rfl (by kernel_rfl) rfl (fun x hS => (x_load (v := .slice A n c) kind_26 rfl ((hB22.fr hS (fun f => f)).cell rfl))) D28 ?_
  refine d_pure (i := 16) rfl (by kernel_rfl) np_body rfl (fun _ => (x_move (v := .int .i64 (k : Int)) rfl)) (fun _ => D28) ?_
  refine d_pure (i := 17) rfl (by kernel_rfl) np_body rfl (fun _ => (x_sliceLo (l := k) es_26 rfl rfl (by first | rfl | omega) (by omega))) (fun _ => D28) ?_
  refine d_two (i := 1) (j := 10) rfl rfl (by kernel_rfl) ?_ ?_
  ·skip
   have hB29 := hB22.fr F26 (fun f => f)
   have hB30 := hB23.fr F26 (fun f => f)
   obtain ⟨g0, hg0⟩ : ∃ n, w27.heap.size = n := ⟨_, rfl⟩
   have ne_N_g0 : N ≠ g0 := by have := hB29.lt; omega
   have ne_fb_g0 : fb ≠ g0 := by have := hB30.lt; omega
   refine r_lit (vs := []) (l := []) rfl g0 hg0 ei_26 (.inr ⟨_, rfl⟩) rfl rfl (by simp) rfl (by decide) ?_
   intro w34 F31 z32 hB33
   have sD35 := F31.size
   have D35 : Fr No w20 w34 := D28.trans F31 (fun i hi h => (by first | exact h.elim | omega | (simp only [Value.ownBlock, Option.some.injEq] at h; omega) | (have h2 := h; simp at h2; omega) | exact h))
   refine d_next (fun _ => D35) ?_
   refine d_two (i := 8) (j := 10) rfl rfl (by kernel_rfl) ?_ ?_
   ·skip
    have := F26.size
    have := F31.size
    have hq36 : ∀ b, (Value.slice (some ⟨g0, 0, none⟩) 0 0).ownBlock = some b → w20.heap.size ≤ b := fun b hb => (by have h1 : g0 = b := (by injection hb); omega)
    refine r_append rfl rfl ei_26 rfl (by decide) (v := .slice (some ⟨g0, 0, none⟩) 0 0) (u := .slice A k c) rfl rfl (Own.of_blk hB33 5 0 rfl (by decide)) ((hR4.fr D35 (fun _ _ f => f)).take k (by omega) c (by omega)) (one_take (FC_one h1)) (by unfold maxLen; omega) (by omega) ?_
    intro v37 w43 hO38 F39 hat40 hnil41
    have hfr42 : ∀ b, (v37).ownBlock = some b → w20.heap.size ≤ b := fun b hb => (by rcases hat40 with e | e; (rw [e] at hb; exact hq36 b hb); (rw [e] at hb; injection hb with hb; omega))
    obtain ⟨A44, c45, he46, _⟩ := hO38.rd.form
    subst he46
    have sD47 := F39.size
    have D47 : Fr No w20 w43 := D35.trans F39 (fun i hi h => (by have h1 := hq36 i h; omega))
    refine d_next (fun _ => D47) ?_
    refine d_force (i := 10) rfl (by kernel_rfl) ?_
    have hB48 := hB29.fr F31 (fun f => f)
    have hB49 := hB48.fr F39 (fun h => by have h1 := hq36 _ h; have h2 := lt_N; omega)
    have hB50 := hB30.fr F31 (fun f => f)
    have hB51 := hB50.fr F39 (fun h => by have h1 := hq36 _ h; omega)
    obtain ⟨g1, hg1⟩ : ∃ n, w43.heap.size = n := ⟨_, rfl⟩
    have ne_N_g1 : N ≠ g1 := by have := hB49.lt; omega
    have ne_fb_g1 : fb ≠ g1 := by have := hB51.lt; omega
    refine r_lit (vs := [.agg #[.int .i64 fn, .int .i64 ff, .int .i64 ft, .int .i64 fd, fv]]) (l := [.int .i64 fn, .int .i64 ff, .int .i64 ft, .int .i64 fd, fv]) rfl g1 hg1 ei_26 (.inr ⟨_, rfl⟩) rfl rfl (by intro v hv; simp only [List.mem_cons, List.not_mem_nil, or_false] at hv; rcases hv with rfl <;> rfl) rfl (by decide) ?_
    intro w55 F52 z53 hB54
    have sD56 := F52.size
    have D56 : Fr No w20 w55 := D47.trans F52 (fun i hi h => (by first | exact h.elim | omega | (simp only [Value.ownBlock, Option.some.injEq] at h; omega) | (have h2 := h; simp at h2; omega) | exact h))
    refine d_next (fun _ => D56) ?_
    refine d_force (i := 11) rfl (by kernel_rfl) ?_
    have := F26.size
    have := F31.size
    have := F39.size
    have := F52.size
    have hR57 := hO38.fr F52 (fun _ _ f => f)
    refine r_append rfl rfl ei_26 rfl (by decide) (v := .slice A44 (0 + k) c45) (u := .slice (some ⟨g1, 0, none⟩) 1 1) rfl rfl hR57 (Own.of_blk hB54 5 1 rfl (by decide)).rd (by simp only [List.mem_cons, List.not_mem_nil, or_false]; rintro u (rfl | rfl | rfl | rfl | rfl) <;> first | rfl | exact hv1) (by unfold maxLen; omega) (by omega) ?_
    intro v58 w64 hO59 F60 hat61 hnil62
    have hfr63 : ∀ b, (v58).ownBlock = some b → w20.heap.size ≤ b := fun b hb => (by rcases hat61 with e | e; (rw [e] at hb; exact hfr42 b hb); (rw [e] at hb; injection hb with hb; omega))
    obtain ⟨A65, c66, he67, _⟩ := hO59.rd.form
    subst he67
    have sD68 := F60.size
    have D68 : Fr No w20 w64 := D56.trans F60 (fun i hi h => (by have h1 := hfr42 i h; omega))
    refine d_next (fun _ => D68) ?_
    refine d_force (i := 18) rfl (by kernel_rfl) ?_
    have := F26.size
    have := F31.size
    have := F39.size
    have := F52.size
    have := F60.size
    refine r_append rfl rfl ei_26 rfl (by decide) (v := .slice A65 (0 + k + 1) c66) (u := .slice (subA 5 k c A) (n - k) (c - k)) rfl rfl hO59 ((hR4.fr D68 (fun _ _ f => f)).sub k n (by omega) (Nat.le_refl _) c (by omega)) (one_take (one_drop (FC_one h1))) (by unfold maxLen; omega) (by omega) ?_
    intro v69 w75 hO70 F71 hat72 hnil73
    have hfr74 : ∀ b, (v69).ownBlock = some b → w20.heap.size ≤ b := fun b hb => (by rcases hat72 with e | e; (rw [e] at hb; exact hfr63 b hb); (rw [e] at hb; injection hb with hb; omega))
    obtain ⟨A76, c77, he78, _⟩ := hO70.rd.form
    subst he78
    have sD79 := F71.size
    have D79 : Fr No w20 w75 := D68.trans F71 (fun i hi h => (by have h1 := hfr63 i h; omega))
    refine d_next (fun _ => D79) ?_
    refine d_pure (i := 19) rfl (by kernel_rfl) np_body rfl (fun _ => (x_nilCheck rfl)) (fun _ => D79) ?_
    refine d_pure (i := 20) rfl (by kernel_rfl) np_body rfl (fun _ => (x_fieldAddr (b := N) (o := 0) fo_28_0 rfl)) (fun _ => D79) ?_
    refine d_force (i := 21) rfl (by kernel_rfl) ?_
    have hB80 := hB49.fr F52 (fun f => f)
    have hB81 := hB80.fr F60 (fun h => by have h1 := hfr42 _ h; have h2 := lt_N; omega)
    have hB82 := hB81.fr F71 (fun h => by have h1 := hfr63 _ h; have h2 := lt_N; omega)
    refine r_store (v := .slice A76 (0 + k + 1 + (n - k)) c77) (vs := [.slice A76 (0 + k + 1 + (n - k)) c77]) (l' := [.slice A76 (0 + k + 1 + (n - k)) c77, .int .i64 num, .int .i64 lost, .int .i64 most]) rfl rfl size_26 rfl rfl rfl rfl hB82 (Nat.le_of_ble_eq_true rfl) rfl ?_
    intro w86 F83 z84 hB85
    refine d_next (fun hx => absurd hx (by decide)) ?_
    refine d_done (by kernel_rfl) ?_
    refine q_none rfl ?_
    have hFin := hF4.trans D79 (fun _ _ f => f)
    refine ⟨rfl, _, k, hB85, by omega, hz, hnah, ?_, fun b hb => (by have h1 := hfr74 b hb; have := hF4.size; omega), (hFin.of_No (S := fun b => b = N)).trans F83 (fun j _ h => h)⟩
    have hO5 := hO70.fr F83 (fun b hb h => by have h1 := hfr74 b hb; have h2 : b = N := h; omega)
    have hcnt : 0 + k + 1 + (n - k) = n + 1 := by omega
    rw [hcnt] at hO5 ⊢
    have hcells : [] ++ (encL FC l).take (k * 5) ++ [.int .i64 fn, .int .i64 ff, .int .i64 ft, .int .i64 fd, fv] ++ ((encL FC l).drop (k * 5)).take ((n - k) * 5) = encL FC (l.take k ++ (⟨fn, ff, ft, fd, bs⟩, fv) :: l.drop k) := by
      rw [← encL_ins, List.take_of_length_le (l := (encL FC l).drop (k * 5)) (i := (n - k) * 5) (by rw [List.length_drop, encL_length FC_len, hl]; omega)]; rfl
    rw [hcells] at hO5
    exact hO5
   ·skip
    have hB87 := hB29.fr F31 (fun f => f)
    have hB88 := hB30.fr F31 (fun f => f)
    obtain ⟨g1, hg1⟩ : ∃ n, w34.heap.size = n := ⟨_, rfl⟩
    have ne_N_g1 : N ≠ g1 := by have := hB87.lt; omega
    have ne_fb_g1 : fb ≠ g1 := by have := hB88.lt; omega
    have ne_g0_g1 : g0 ≠ g1 := by have := hB33.lt; omega
    refine r_lit (vs := [.agg #[.int .i64 fn, .int .i64 ff, .int .i64 ft, .int .i64 fd, fv]]) (l := [.int .i64 fn, .int .i64 ff, .int .i64 ft, .int .i64 fd, fv]) rfl g1 hg1 ei_26 (.inr ⟨_, rfl⟩) rfl rfl (by intro v hv; simp only [List.mem_cons, List.not_mem_nil, or_false] at hv; rcases hv with rfl <;> rfl) rfl (by decide) ?_
    intro w92 F89 z90 hB91
    have sD93 := F89.size
    have D93 : Fr No w20 w92 := D35.trans F89 (fun i hi h => (by first | exact h.elim | omega | (simp only [Value.ownBlock, Option.some.injEq] at h; omega) | (have h2 := h; simp at h2; omega) | exact h))
    refine d_next (fun _ => D93) ?_
    refine d_force (i := 8) rfl (by kernel_rfl) ?_
    have := F26.size
    have := F31.size
    have := F89.size
    have hB94 := hB33.fr F89 (fun f => f)
    have hq95 : ∀ b, (Value.slice (some ⟨g0, 0, none⟩) 0 0).ownBlock = some b → w20.heap.size ≤ b := fun b hb => (by have h1 : g0 = b := (by injection hb); omega)
    refine r_append rfl rfl ei_26 rfl (by decide) (v := .slice (some ⟨g0, 0, none⟩) 0 0) (u := .slice A k c) rfl rfl (Own.of_blk hB94 5 0 rfl (by decide)) ((hR4.fr D93 (fun _ _ f => f)).take k (by omega) c (by omega)) (one_take (FC_one h1)) (by unfold maxLen; omega) (by omega) ?_
    intro v96 w102 hO97 F98 hat99 hnil100
    have hfr101 : ∀ b, (v96).ownBlock = some b → w20.heap.size ≤ b := fun b hb => (by rcases hat99 with e | e; (rw [e] at hb; exact hq95 b hb); (rw [e] at hb; injection hb with hb; omega))
    obtain ⟨A103, c104, he105, _⟩ := hO97.rd.form
    subst he105
    have sD106 := F98.size
    have D106 : Fr No w20 w102 := D93.trans F98 (fun i hi h => (by have h1 := hq95 i h; omega))
    refine d_next (fun _ => D106) ?_
    refine d_force (i := 11) rfl (by kernel_rfl) ?_
    have := F26.size
    have := F31.size
    have := F89.size
    have := F98.size
    have hB107 := hB91.fr F98 (fun h => by have h1 : g0 = g1 := (by injection h); omega)
    refine r_append rfl rfl ei_26 rfl (by decide) (v := .slice A103 (0 + k) c104) (u := .slice (some ⟨g1, 0, none⟩) 1 1) rfl rfl hO97 (Own.of_blk hB107 5 1 rfl (by decide)).rd (by simp only [List.mem_cons, List.not_mem_nil, or_false]; rintro u (rfl | rfl | rfl | rfl | rfl) <;> first | rfl | exact hv1) (by unfold maxLen; omega) (by omega) ?_
    intro v108 w114 hO109 F110 hat111 hnil112
    have hfr113 : ∀ b, (v108).ownBlock = some b → w20.heap.size ≤ b := fun b hb => (by rcases hat111 with e | e; (rw [e] at hb; exact hfr101 b hb); (rw [e] at hb; injection hb with hb; omega))
    obtain ⟨A115, c116, he117, _⟩ := hO109.rd.form
    subst he117
    have sD118 := F110.size
    have D118 : Fr No w20 w114 := D106.trans F110 (fun i hi h => (by have h1 := hfr101 i h; omega))
    refine d_next (fun _ => D118) ?_
    refine d_force (i := 18) rfl (by kernel_rfl) ?_
    have := F26.size
    have := F31.size
    have := F89.size
    have := F98.size
    have := F110.size
    refine r_append rfl rfl ei_26 rfl (by decide) (v := .slice A115 (0 + k + 1) c116) (u := .slice (subA 5 k c A) (n - k) (c - k)) rfl rfl hO109 ((hR4.fr D118 (fun _ _ f => f)).sub k n (by omega) (Nat.le_refl _) c (by omega)) (one_take (one_drop (FC_one h1))) (by unfold maxLen; omega) (by omega) ?_
    intro v119 w125 hO120 F121 hat122 hnil123
    have hfr124 : ∀ b, (v119).ownBlock = some b → w20.heap.size ≤ b := fun b hb => (by rcases hat122 with e | e; (rw [e] at hb; exact hfr113 b hb); (rw [e] at hb; injection hb with hb; omega))
    obtain ⟨A126, c127, he128, _⟩ := hO120.rd.form
    subst he128
    have sD129 := F121.size
    have D129 : Fr No w20 w125 := D118.trans F121 (fun i hi h => (by have h1 := hfr113 i h; omega))
    refine d_next (fun _ => D129) ?_
    refine d_pure (i := 19) rfl (by kernel_rfl) np_body rfl (fun _ => (x_nilCheck rfl)) (fun _ => D129) ?_
    refine d_pure (i := 20) rfl (by kernel_rfl) np_body rfl (fun _ => (x_fieldAddr (b := N) (o := 0) fo_28_0 rfl)) (fun _ => D129) ?_
    refine d_force (i := 21) rfl (by kernel_rfl) ?_
    have hB130 := hB87.fr F89 (fun f => f)
    have hB131 := hB130.fr F98 (fun h => by have h1 := hq95 _ h; have h2 := lt_N; omega)
    have hB132 := hB131.fr F110 (fun h => by have h1 := hfr101 _ h; have h2 := lt_N; omega)
    have hB133 := hB132.fr F121 (fun h => by have h1 := hfr113 _ h; have h2 := lt_N; omega)
    refine r_store (v := .slice A126 (0 + k + 1 + (n - k)) c127) (vs := [.slice A126 (0 + k + 1 + (n - k)) c127]) (l' := [.slice A126 (0 + k + 1 + (n - k)) c127, .int .i64 num, .int .i64 lost, .int .i64 most]) rfl rfl size_26 rfl rfl rfl rfl hB133 (Nat.le_of_ble_eq_true rfl) rfl ?_
    intro w137 F134 z135 hB136
    refine d_next (fun hx => absurd hx (by decide)) ?_
    refine d_done (by kernel_rfl) ?_
    refine q_none rfl ?_
    have hFin := hF4.trans D129 (fun _ _ f => f)
    refine ⟨rfl, _, k, hB136, by omega, hz, hnah, ?_, fun b hb => (by have h1 := hfr124 b hb; have := hF4.size; omega), (hFin.of_No (S := fun b => b = N)).trans F134 (fun j _ h => h)⟩
    have hO5 := hO120.fr F134 (fun b hb h => by have h1 := hfr124 b hb; have h2 : b = N := h; omega)
    have hcnt : 0 + k + 1 + (n - k) = n + 1 := by omega
    rw [hcnt] at hO5 ⊢
    have hcells : [] ++ (encL FC l).take (k * 5) ++ [.int .i64 fn, .int .i64 ff, .int .i64 ft, .int .i64 fd, fv] ++ ((encL FC l).drop (k * 5)).take ((n - k) * 5) = encL FC (l.take k ++ (⟨fn, ff, ft, fd, bs⟩, fv) :: l.drop k) := by
      rw [← encL_ins, List.take_of_length_le (l := (encL FC l).drop (k * 5)) (i := (n - k) * 5) (by rw [List.length_drop, encL_length FC_len, hl]; omega)]; rfl
    rw [hcells] at hO5
    exact hO5
  ·skip
   have hB138 := hB22.fr F26 (fun f => f)
   have hB139 := hB23.fr F26 (fun f => f)
   obtain ⟨g1, hg1⟩ : ∃ n, w27.heap.size = n := ⟨_, rfl⟩
   have ne_N_g1 : N ≠ g1 := by have := hB138.lt; omega
   have ne_fb_g1 : fb ≠ g1 := by have := hB139.lt; omega
   refine r_lit (vs := [.agg #[.int .i64 fn, .int .i64 ff, .int .i64 ft, .int .i64 fd, fv]]) (l := [.int .i64 fn, .int .i64 ff, .int .i64 ft, .int .i64 fd, fv]) rfl g1 hg1 ei_26 (.inr ⟨_, rfl⟩) rfl rfl (by intro v hv; simp only [List.mem_cons, List.not_mem_nil, or_false] at hv; rcases hv with rfl <;> rfl) rfl (by decide) ?_
   intro w143 F140 z141 hB142
   have sD144 := F140.size
   have D144 : Fr No w20 w143 := D28.trans F140 (fun i hi h => (by first | exact h.elim | omega | (simp only [Value.ownBlock, Option.some.injEq] at h; omega) | (have h2 := h; simp at h2; omega) | exact h))
   refine d_next (fun _ => D144) ?_
   refine d_force (i := 1) rfl (by kernel_rfl) ?_
   have hB145 := hB138.fr F140 (fun f => f)
   have hB146 := hB139.fr F140 (fun f => f)
   obtain ⟨g0, hg0⟩ : ∃ n, w143.heap.size = n := ⟨_, rfl⟩
   have ne_N_g0 : N ≠ g0 := by have := hB145.lt; omega
   have ne_fb_g0 : fb ≠ g0 := by have := hB146.lt; omega
   have ne_g1_g0 : g1 ≠ g0 := by have := hB142.lt; omega
   refine r_lit (vs := []) (l := []) rfl g0 hg0 ei_26 (.inr ⟨_, rfl⟩) rfl rfl (by simp) rfl (by decide) ?_
   intro w150 F147 z148 hB149
   have sD151 := F147.size
   have D151 : Fr No w20 w150 := D144.trans F147 (fun i hi h => (by first | exact h.elim | omega | (simp only [Value.ownBlock, Option.some.injEq] at h; omega) | (have h2 := h; simp at h2; omega) | exact h))
   refine d_next (fun _ => D151) ?_
   refine d_force (i := 8) rfl (by kernel_rfl) ?_
   have := F26.size
   have := F140.size
   have := F147.size
   have hq152 : ∀ b, (Value.slice (some ⟨g0, 0, none⟩) 0 0).ownBlock = some b → w20.heap.size ≤ b := fun b hb => (by have h1 : g0 = b := (by injection hb); omega)
   refine r_append rfl rfl ei_26 rfl (by decide) (v := .slice (some ⟨g0, 0, none⟩) 0 0) (u := .slice A k c) rfl rfl (Own.of_blk hB149 5 0 rfl (by decide)) ((hR4.fr D151 (fun _ _ f => f)).take k (by omega) c (by omega)) (one_take (FC_one h1)) (by unfold maxLen; omega) (by omega) ?_
   intro v153 w159 hO154 F155 hat156 hnil157
   have hfr158 : ∀ b, (v153).ownBlock = some b → w20.heap.size ≤ b := fun b hb => (by rcases hat156 with e | e; (rw [e] at hb; exact hq152 b hb); (rw [e] at hb; injection hb with hb; omega))
   obtain ⟨A160, c161, he162, _⟩ := hO154.rd.form
   subst he162
   have sD163 := F155.size
   have D163 : Fr No w20 w159 := D151.trans F155 (fun i hi h => (by have h1 := hq152 i h; omega))
   refine d_next (fun _ => D163) ?_
   refine d_force (i := 11) rfl (by kernel_rfl) ?_
   have := F26.size
   have := F140.size
   have := F147.size
   have := F155.size
   have hB164 := hB142.fr F147 (fun f => f)
   have hB165 := hB164.fr F155 (fun h => by have h1 : g0 = g1 := (by injection h); omega)
   refine r_append rfl rfl ei_26 rfl (by decide) (v := .slice A160 (0 + k) c161) (u := .slice (some ⟨g1, 0, none⟩) 1 1) rfl rfl hO154 (Own.of_blk hB165 5 1 rfl (by decide)).rd (by simp only [List.mem_cons, List.not_mem_nil, or_false]; rintro u (rfl | rfl | rfl | rfl | rfl) <;> first | rfl | exact hv1) (by unfold maxLen; omega) (by omega) ?_
   intro v166 w172 hO167 F168 hat169 hnil170
   have hfr171 : ∀ b, (v166).ownBlock = some b → w20.heap.size ≤ b := fun b hb => (by rcases hat169 with e | e; (rw [e] at hb; exact hfr158 b hb); (rw [e] at hb; injection hb with hb; omega))
   obtain ⟨A173, c174, he175, _⟩ := hO167.rd.form
   subst he175
   have sD176 := F168.size
   have D176 : Fr No w20 w172 := D163.trans F168 (fun i hi h => (by have h1 := hfr158 i h; omega))
   refine d_next (fun _ => D176) ?_
   refine d_force (i := 18) rfl (by kernel_rfl) ?_
   have := F26.size
   have := F140.size
   have := F147.size
   have := F155.size
   have := F168.size
   refine r_append rfl rfl ei_26 rfl (by decide) (v := .slice A173 (0 + k + 1) c174) (u := .slice (subA 5 k c A) (n - k) (c - k)) rfl rfl hO167 ((hR4.fr D176 (fun _ _ f => f)).sub k n (by omega) (Nat.le_refl _) c (by omega)) (one_take (one_drop (FC_one h1))) (by unfold maxLen; omega) (by omega) ?_
   intro v177 w183 hO178 F179 hat180 hnil181
   have hfr182 : ∀ b, (v177).ownBlock = some b → w20.heap.size ≤ b := fun b hb => (by rcases hat180 with e | e; (rw [e] at hb; exact hfr171 b hb); (rw [e] at hb; injection hb with hb; omega))
   obtain ⟨A184, c185, he186, _⟩ := hO178.rd.form
   subst he186
   have sD187 := F179.size
   have D187 : Fr No w20 w183 := D176.trans F179 (fun i hi h => (by have h1 := hfr171 i h; omega))
   refine d_next (fun _ => D187) ?_
   refine d_pure (i := 19) rfl (by kernel_rfl) np_body rfl (fun _ => (x_nilCheck rfl)) (fun _ => D187) ?_
   refine d_pure (i := 20) rfl (by kernel_rfl) np_body rfl (fun _ => (x_fieldAddr (b := N) (o := 0) fo_28_0 rfl)) (fun _ => D187) ?_
   refine d_force (i := 21) rfl (by kernel_rfl) ?_
   have hB188 := hB145.fr F147 (fun f => f)
   have hB189 := hB188.fr F155 (fun h => by have h1 := hq152 _ h; have h2 := lt_N; omega)
   have hB190 := hB189.fr F168 (fun h => by have h1 := hfr158 _ h; have h2 := lt_N; omega)
   have hB191 := hB190.fr F179 (fun h => by have h1 := hfr171 _ h; have h2 := lt_N; omega)
   refine r_store (v := .slice A184 (0 + k + 1 + (n - k)) c185) (vs := [.slice A184 (0 + k + 1 + (n - k)) c185]) (l' := [.slice A184 (0 + k + 1 + (n - k)) c185, .int .i64 num, .int .i64 lost, .int .i64 most]) rfl rfl size_26 rfl rfl rfl rfl hB191 (Nat.le_of_ble_eq_true rfl) rfl ?_
   intro w195 F192 z193 hB194
   refine d_next (fun hx => absurd hx (by decide)) ?_
   refine d_done (by kernel_rfl) ?_
   refine q_none rfl ?_
   have hFin := hF4.trans D187 (fun _ _ f => f)
   refine ⟨rfl, _, k, hB194, by omega, hz, hnah, ?_, fun b hb => (by have h1 := hfr182 b hb; have := hF4.size; omega), (hFin.of_No (S := fun b => b = N)).trans F192 (fun j _ h => h)⟩
   have hO5 := hO178.fr F192 (fun b hb h => by have h1 := hfr182 b hb; have h2 : b = N := h; omega)
   have hcnt : 0 + k + 1 + (n - k) = n + 1 := by omega
   rw [hcnt] at hO5 ⊢
   have hcells : [] ++ (encL FC l).take (k * 5) ++ [.int .i64 fn, .int .i64 ff, .int .i64 ft, .int .i64 fd, fv] ++ ((encL FC l).drop (k * 5)).take ((n - k) * 5) = encL FC (l.take k ++ (⟨fn, ff, ft, fd, bs⟩, fv) :: l.drop k) := by
     rw [← encL_ins, List.take_of_length_le (l := (encL FC l).drop (k * 5)) (i := (n - k) * 5) (by rw [List.length_drop, encL_length FC_len, hl]; omega)]; rfl
   rw [hcells] at hO5
   exact hO5

end Go.Proofs.YthomkocjjkmnkaaDoor
