import Derived.Test.YthomkocjjkmnkaaDoorTab
import Derived.Test.YthomkocjjkmnkaaDoorFlt
import Derived.Test.YthomkocjjkmnkaaDoorNetC
/- PRINTED by gen.py (wip/tools) from the plan wip/plans: walks. -/
namespace Go.Proofs.YthomkocjjkmnkaaDoor
open Go Go.RowKit
set_option maxRecDepth 100000
set_option linter.unusedVariables false
theorem orInt (A : Option Addr) (n c : Nat) (xs : List Int) (w : World) (hR : Rd w 1 (.slice A n c) n (IC xs)) (hxs : xs.length = n) (hn : n ≤ 1000000) :
    Calls Tryd.prog 134 #[.slice A n c] w fun e w' => e = .returned (.int .i64 (orI xs)) ∧ w = w' := by
 refine calls_of_W Tryd.func134 rfl 18 rfl (Nat.le_of_ble_eq_true rfl) ?_
 refine W_seq ?_
 refine W_region ?_
 refine r_val rfl (x_assign (v := .int .i64 0) rfl) ?_
 refine RW_nil ?_
 refine thenW_n ?_
 refine W_seq ?_
 refine W_region ?_
 refine r_val rfl (x_assign (v := .int .i64 0) rfl) ?_
 refine RW_nil ?_
 refine thenW_n ?_
 refine W_seq ?_
 refine W_seq ?_
 refine W_region ?_
 refine r_val rfl (x_move (v := .slice A n c) rfl) ?_
 refine r_val rfl (x_len (n := n) ul_68 rfl) ?_
 refine r_val rfl (x_move (v := .int .i64 0) rfl) ?_
 refine RW_nil ?_
 refine thenW_n ?_
 refine W_block ?_
 refine W_loop (fun m σ w' => ∃ k : Nat, ∃ τ : Env, m = n - k ∧ σ = ovl τ [(6, .slice A n c), (7, .int .i64 (n : Int)), (8, .int .i64 (k : Int)), (3, .int .i64 0), (2, .int .i64 0)] ∧ w' = w ∧ k ≤ n ∧ ∀ j, j < k → xs.getD j 0 = 0) (n) ?_ ?_
 · exact ⟨0, _, rfl, ((ovl_cons (ovl_cons (ovl_cons (ovl_cons (ovl_cons (ovl_nil _) rfl) rfl) rfl) rfl) rfl)).symm, rfl, Nat.zero_le _, fun j hj => absurd hj (Nat.not_lt_zero _)⟩
 ·skip
  rintro _ _ _ ⟨k, τ, rfl, rfl, rfl, hk, hz⟩
  refine W_seq ?_
  refine W_region ?_
  refine r_val rfl (x_lss (a := (k : Int)) (b := (n : Int)) rfl rfl) ?_
  refine RW_nil ?_
  refine thenW_n ?_
  refine W_seq ?_
  refine W_condD (p := (k : Int) < (n : Int)) rfl rfl (fun hc => ?_) (fun hc => ?_)
  ·skip
   have hlt : k < n := by omega
   refine W_skip ?_
   refine thenW_n ?_
   refine W_seq ?_
   refine W_block ?_
   refine W_seq ?_
   refine W_region ?_
   obtain ⟨rb, ro, _, hv1, _, hcell2⟩ := hR.at_ (by omega)
   injection hv1 with hv1A
   subst hv1A
   refine r_val rfl (x_indexAddr (b := rb) (o := ro) (j := k) es_68 rfl rfl rfl (by omega)) ?_
   refine r_val rfl (x_load (v := .int .i64 (xs.getD k 0)) kind_3 rfl (by rw [Nat.mul_one]; exact hcell2 k _ (IC_get xs k (by omega)))) ?_
   refine r_val rfl (x_assign (v := .int .i64 (xs.getD k 0)) rfl) ?_
   refine RW_nil ?_
   refine thenW_n ?_
   refine W_seq ?_
   refine W_region ?_
   refine r_val rfl (x_move (v := .int .i64 (xs.getD k 0)) rfl) ?_
   refine r_val rfl (x_move (v := .int .i64 0) rfl) ?_
   refine r_val rfl (x_neq (a := xs.getD k 0) (b := 0) rfl rfl) ?_
   refine RW_nil ?_
   refine thenW_n ?_
   refine W_condD (p := (xs.getD k 0) ≠ 0) rfl rfl (fun hc3 => ?_) (fun hc3 => ?_)
   ·skip
    refine W_seq ?_
    refine W_region ?_
    refine r_val rfl (x_move (v := .int .i64 (xs.getD k 0)) rfl) ?_
    refine r_val rfl (x_assign (v := .int .i64 (xs.getD k 0)) rfl) ?_
    refine RW_nil ?_
    refine thenW_n ?_
    refine W_ret ?_
    refine inBlk_r ?_
    refine thenW_r ?_
    refine thenW_r ?_
    refine inBlk_r ?_
    refine thenW_r ?_
    refine q_ret1 (v := .int .i64 (xs.getD k 0)) rfl rfl rfl ?_
    exact ⟨by rw [orI_at xs k (by omega) hz (by simpa using hc3)], rfl⟩
   ·skip
    refine W_skip ?_
    refine inBlk_n ?_
    refine thenW_n ?_
    refine W_region ?_
    refine r_val rfl (x_add64 (a := (k : Int)) (b := 1) rfl rfl (by omega)) ?_
    refine r_val rfl (x_move (v := .int .i64 ((k : Int) + 1)) rfl) ?_
    refine RW_nil ?_
    refine thenW_n ?_
    exact ⟨_, (by omega), k + 1, _, rfl, ((ovl_cons (ovl_cons (ovl_cons (ovl_cons (ovl_cons (ovl_nil _) rfl) rfl) (by show Value.int .i64 ((k : Int) + 1) = _; rfl)) rfl) rfl)).symm, rfl, by omega, fun j hj => (by rcases Nat.lt_succ_iff_lt_or_eq.1 hj with h | h; exact hz j h; subst h; simpa using hc3)⟩
  ·skip
   refine W_exit ?_
   refine thenW_x ?_
   refine thenW_x ?_
   refine inBlk_xs ?_
   refine thenW_n ?_
   refine W_seq ?_
   refine W_region ?_
   refine r_val rfl (x_move (v := .int .i64 0) rfl) ?_
   refine r_val rfl (x_assign (v := .int .i64 0) rfl) ?_
   refine RW_nil ?_
   refine thenW_n ?_
   refine W_ret ?_
   refine q_ret1 (v := .int .i64 0) rfl rfl rfl ?_
   have hkn : k = n := by omega
   exact ⟨by rw [orI_zeros xs (fun j hj => hz j (by omega))], rfl⟩

end Go.Proofs.YthomkocjjkmnkaaDoor
