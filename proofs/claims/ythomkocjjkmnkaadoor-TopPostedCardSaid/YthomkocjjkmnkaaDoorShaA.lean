import Derived.Test.YthomkocjjkmnkaaDoorTab
import Derived.Test.YthomkocjjkmnkaaDoorU32
/- PRINTED by gen.py (wip/tools) from the plan wip/plans: walks. -/
namespace Go.Proofs.YthomkocjjkmnkaaDoor
open Go Go.RowKit
set_option maxRecDepth 100000
set_option linter.unusedVariables false
theorem rotl_any (x : Int) (n : Nat) (w : World) (hn : 1 ≤ n ∧ n ≤ 31) :
    Calls Tryd.prog 189 #[.int .u32 x, .int .i64 (-(n : Int))] w fun e w' => e = .returned (.int .u32 (rotr x n)) ∧ w = w' := by
 refine calls_of_W Tryd.func189 rfl 17 rfl (Nat.le_of_ble_eq_true rfl) ?_
 refine W_seq ?_
 refine W_region ?_
 refine r_val rfl (x_assign (v := .int .u32 0) rfl) ?_
 refine RW_nil ?_
 refine thenW_n ?_
 refine W_seq ?_
 refine W_region ?_
 refine r_val rfl (x_move (v := .int .i64 (-(n : Int))) rfl) ?_
 refine r_val rfl (x_conv (a := -(n : Int)) ui_3 ui_168 rfl) ?_
 refine r_val rfl (x_as (u := .int .u64 ((32 - n : Nat) : Int)) (x_bits (op := .and) (a := IntKind.u64.wrap (-(n : Int))) (b := 31) rfl rfl rfl) (congrArg (Value.int .u64) (rot_mask hn))) ?_
 refine r_val rfl (x_assign (v := .int .u64 ((32 - n : Nat) : Int)) rfl) ?_
 refine RW_nil ?_
 refine thenW_n ?_
 refine W_seq ?_
 refine W_region ?_
 refine r_val rfl (x_move (v := .int .u32 x) rfl) ?_
 refine r_val rfl (x_move (v := .int .u64 ((32 - n : Nat) : Int)) rfl) ?_
 refine r_val rfl (x_as (u := .int .u32 (IntKind.u32.wrap (x * 2 ^ (32 - n)))) (x_shl (a := x) (b := ((32 - n : Nat) : Int)) rfl rfl (by omega)) (congrArg (fun k : Nat => Value.int .u32 (IntKind.u32.wrap (x * 2 ^ k))) (show min ((32 - n : Nat) : Int).toNat (IntKind.u32).bits = 32 - n from by show min ((32 - n : Nat) : Int).toNat 32 = 32 - n; omega))) ?_
 refine r_val rfl (x_move (v := .int .u32 x) rfl) ?_
 refine r_val rfl (x_move (v := .int .u64 ((32 - n : Nat) : Int)) rfl) ?_
 refine r_val rfl (x_as (u := .int .u64 (n : Int)) (x_sub (a := 32) (b := ((32 - n : Nat) : Int)) rfl rfl) (congrArg (Value.int .u64) (rot_back hn))) ?_
 refine r_val rfl (x_as (u := .int .u32 (x / 2 ^ n)) (x_shr (a := x) (b := (n : Int)) rfl rfl (by omega)) (congrArg (fun k : Nat => Value.int .u32 (x / 2 ^ k)) (show min (n : Int).toNat (IntKind.u32).bits = n from by show min (n : Int).toNat 32 = n; omega))) ?_
 refine r_val rfl (x_bits (op := .or) (a := IntKind.u32.wrap (x * 2 ^ (32 - n))) (b := x / 2 ^ n) rfl rfl rfl) ?_
 refine r_val rfl (x_assign (v := .int .u32 (bits .or .u32 (IntKind.u32.wrap (x * 2 ^ (32 - n))) (x / 2 ^ n))) rfl) ?_
 refine RW_nil ?_
 refine thenW_n ?_
 refine W_ret ?_
 refine q_ret1 (v := .int .u32 (bits .or .u32 (IntKind.u32.wrap (x * 2 ^ (32 - n))) (x / 2 ^ n))) rfl rfl rfl ?_
 exact ⟨rfl, rfl⟩

theorem turn_any (x : Int) (n : Nat) (w : World) (hn : 1 ≤ n ∧ n ≤ 31) :
    Calls Tryd.prog 137 #[.int .u32 x, .int .i64 (n : Int)] w fun e w' => e = .returned (.int .u32 (rotr x n)) ∧ w = w' := by
 refine calls_of_W Tryd.func137 rfl 9 rfl (Nat.le_of_ble_eq_true rfl) ?_
 refine W_seq ?_
 refine W_region ?_
 refine r_val rfl (x_assign (v := .int .u32 0) rfl) ?_
 refine RW_nil ?_
 refine thenW_n ?_
 refine W_seq ?_
 refine W_region ?_
 refine r_val rfl (x_move (v := .int .u32 x) rfl) ?_
 refine r_val rfl (x_move (v := .int .i64 (n : Int)) rfl) ?_
 refine r_val rfl (x_neg64 (a := (n : Int)) rfl (by omega)) ?_
 refine r_call rfl (c189 (vs := [.int .u32 x, .int .i64 (-(n : Int))]) rfl) (rotl_any x n w hn) ?_
 rintro _ _ ⟨rfl, rfl⟩
 refine ⟨_, rfl, ?_⟩
 refine r_val rfl (x_assign (v := .int .u32 (rotr x n)) rfl) ?_
 refine RW_nil ?_
 refine thenW_n ?_
 refine W_ret ?_
 refine q_ret1 (v := .int .u32 (rotr x n)) rfl rfl rfl ?_
 exact ⟨rfl, rfl⟩

/-- The block's words, after k of its bytes. -/
def spread1 (bs : List UInt8) : Nat → List Int
  | 0 => List.replicate 64 0
  | k + 1 => (spread1 bs k).set (k / 4) (bits .or .u32 ((spread1 bs k).getD (k / 4) 0) (IntKind.u32.wrap (IntKind.u32.wrap ((bs.getD k 0).toNat : Int) * 2 ^ min (24 - (8 * ((k : Int) % 4)) : Int).toNat (IntKind.u32).bits)))
theorem spread1_length (bs : List UInt8) : ∀ k, (spread1 bs k).length = 64
  | 0 => by simp [spread1]
  | k + 1 => by rw [spread1, List.length_set, spread1_length bs k]
def near (x : Int) : Int := bits .xor .u32 (bits .xor .u32 (rotr x 17) (rotr x 19)) (x / 2 ^ 10)
def far (x : Int) : Int := bits .xor .u32 (bits .xor .u32 (rotr x 7) (rotr x 18)) (x / 2 ^ 3)
/-- One more word. -/
def more (w : List Int) (k : Nat) : List Int := w.set (k + 16) (IntKind.u32.wrap (IntKind.u32.wrap (IntKind.u32.wrap (w.getD k 0 + w.getD (k + 9) 0) + near (w.getD (k + 14) 0)) + far (w.getD (k + 1) 0)))
def spread2 (bs : List UInt8) : Nat → List Int
  | 0 => spread1 bs 64
  | k + 1 => more (spread2 bs k) k
theorem spread2_length (bs : List UInt8) : ∀ k, (spread2 bs k).length = 64
  | 0 => spread1_length bs 64
  | k + 1 => by rw [spread2, more, List.length_set, spread2_length bs k]

theorem spread_any (A : Option Addr) (n c : Nat) (bs : List UInt8) (w : World) (hR : Rd w 1 (.slice A n c) n (BC bs)) (hn : 64 ≤ n) :
    Calls Tryd.prog 136 #[.slice A n c] w fun e w' => e = .returned (.agg (UC (spread2 bs 48)).toArray) ∧ Fr No w w' := by
 obtain ⟨_, _, e0, hnc⟩ := hR.form
 injection e0 with _ _ e3
 subst e3
 obtain ⟨b0, hb0, hb0l⟩ := hR.lt (by omega) (by decide)
 have hbl : bs.length = n := by have := hR.1; rw [BC_length] at this; omega
 refine calls_of_W Tryd.func136 rfl 75 rfl (Nat.le_of_ble_eq_true rfl) ?_
 refine W_seq ?_
 refine W_region ?_
 obtain ⟨gr, hgr⟩ : ∃ n, w.heap.size = n := ⟨_, rfl⟩
 refine r_alloc (l := [.int .u32 0, .int .u32 0, .int .u32 0, .int .u32 0, .int .u32 0, .int .u32 0, .int .u32 0, .int .u32 0, .int .u32 0, .int .u32 0, .int .u32 0, .int .u32 0, .int .u32 0, .int .u32 0, .int .u32 0, .int .u32 0, .int .u32 0, .int .u32 0, .int .u32 0, .int .u32 0, .int .u32 0, .int .u32 0, .int .u32 0, .int .u32 0, .int .u32 0, .int .u32 0, .int .u32 0, .int .u32 0, .int .u32 0, .int .u32 0, .int .u32 0, .int .u32 0, .int .u32 0, .int .u32 0, .int .u32 0, .int .u32 0, .int .u32 0, .int .u32 0, .int .u32 0, .int .u32 0, .int .u32 0, .int .u32 0, .int .u32 0, .int .u32 0, .int .u32 0, .int .u32 0, .int .u32 0, .int .u32 0, .int .u32 0, .int .u32 0, .int .u32 0, .int .u32 0, .int .u32 0, .int .u32 0, .int .u32 0, .int .u32 0, .int .u32 0, .int .u32 0, .int .u32 0, .int .u32 0, .int .u32 0, .int .u32 0, .int .u32 0, .int .u32 0]) gr hgr zero_247 rfl ?_
 intro w4 F1 z2 hB3
 refine RW_nil ?_
 refine thenW_n ?_
 refine W_seq ?_
 refine W_region ?_
 obtain ⟨gw, hgw⟩ : ∃ n, w4.heap.size = n := ⟨_, rfl⟩
 have ne_gr_gw : gr ≠ gw := by have := hB3.lt; omega
 refine r_alloc (l := [.int .u32 0, .int .u32 0, .int .u32 0, .int .u32 0, .int .u32 0, .int .u32 0, .int .u32 0, .int .u32 0, .int .u32 0, .int .u32 0, .int .u32 0, .int .u32 0, .int .u32 0, .int .u32 0, .int .u32 0, .int .u32 0, .int .u32 0, .int .u32 0, .int .u32 0, .int .u32 0, .int .u32 0, .int .u32 0, .int .u32 0, .int .u32 0, .int .u32 0, .int .u32 0, .int .u32 0, .int .u32 0, .int .u32 0, .int .u32 0, .int .u32 0, .int .u32 0, .int .u32 0, .int .u32 0, .int .u32 0, .int .u32 0, .int .u32 0, .int .u32 0, .int .u32 0, .int .u32 0, .int .u32 0, .int .u32 0, .int .u32 0, .int .u32 0, .int .u32 0, .int .u32 0, .int .u32 0, .int .u32 0, .int .u32 0, .int .u32 0, .int .u32 0, .int .u32 0, .int .u32 0, .int .u32 0, .int .u32 0, .int .u32 0, .int .u32 0, .int .u32 0, .int .u32 0, .int .u32 0, .int .u32 0, .int .u32 0, .int .u32 0, .int .u32 0]) gw hgw zero_247 rfl ?_
 intro w8 F5 z6 hB7
 have := F1.size
 have := F5.size
 have hgwl : w.heap.size ≤ gw := by omega
 have hW0 : Blk w8 gw 247 (UC (spread1 bs 0)) := hB7
 refine RW_nil ?_
 refine thenW_n ?_
 refine W_seq ?_
 refine W_seq ?_
 refine W_region ?_
 refine r_val rfl (x_move (v := .slice A n c) rfl) ?_
 refine r_val rfl (x_sliceHi (h := 64) es_33 rfl rfl (by first | rfl | omega) (by omega)) ?_
 refine r_val rfl (x_len (n := 64) ul_33 rfl) ?_
 refine r_val rfl (x_move (v := .int .i64 0) rfl) ?_
 refine RW_nil ?_
 refine thenW_n ?_
 refine W_block ?_
 refine W_loop (fun m σ w' => ∃ k : Nat, ∃ τ : Env, m = 64 - k ∧ σ = ovl τ [(2, .pointer (some ⟨gr, 0, none⟩)), (3, .pointer (some ⟨gw, 0, none⟩)), (10, .slice A 64 c), (11, .int .i64 64), (12, .int .i64 (k : Int))] ∧ Fr (fun b => b = gw) w8 w' ∧ k ≤ 64 ∧ Blk w' gw 247 (UC (spread1 bs k))) (64) ?_ ?_
 · exact ⟨0, _, rfl, ((ovl_cons (ovl_cons (ovl_cons (ovl_cons (ovl_cons (ovl_nil _) rfl) rfl) rfl) rfl) rfl)).symm, Fr.refl _ _, Nat.zero_le _, hW0⟩
 ·skip
  rintro _ _ w9 ⟨k, τ, rfl, rfl, F0, hk, hW⟩
  refine W_seq ?_
  refine W_region ?_
  refine r_val rfl (x_lss (a := (k : Int)) (b := 64) rfl rfl) ?_
  refine RW_nil ?_
  refine thenW_n ?_
  refine W_seq ?_
  refine W_condD (p := (k : Int) < 64) rfl rfl (fun hc10 => ?_) (fun hc10 => ?_)
  ·skip
   refine W_skip ?_
   refine thenW_n ?_
   refine W_seq ?_
   refine W_block ?_
   refine W_seq ?_
   have hR11 := hR.fr F1 (fun _ _ f => f)
   have hR12 := hR11.fr F5 (fun _ _ f => f)
   have hR13 := hR12.fr F0 (fun b hb h => by have h2 : b = gw := h; rw [hb0] at hb; injection hb with hb; omega)
   have hRk := hR13
   obtain ⟨rb, ro, _, hv, _, hcell⟩ := hRk.at_ (by omega)
   injection hv with hvA
   subst hvA
   refine W_region ?_
   refine r_val rfl (x_move (v := .int .i64 (k : Int)) rfl) ?_
   refine r_val rfl (x_indexAddr (b := rb) (o := ro) (j := k) es_33 rfl rfl rfl (by omega)) ?_
   refine r_val rfl (x_load (v := .int .u8 ((bs.getD k 0).toNat : Int)) kind_5 rfl (by rw [Nat.mul_one]; exact hcell _ _ (BC_get bs k (by omega)))) ?_
   refine r_val rfl (x_assign (v := .int .i64 (k : Int)) rfl) ?_
   refine r_val rfl (x_assign (v := .int .u8 ((bs.getD k 0).toNat : Int)) rfl) ?_
   refine RW_nil ?_
   refine thenW_n ?_
   have hB14 := hB3.fr F5 (fun f => f)
   have hB15 := hB14.fr F0 ne_gr_gw
   refine d_begin mo 13 (fun x => Fr No w9 x) ?_
   obtain ⟨w17, hw17⟩ : ∃ x, w9.drew = x := ⟨_, rfl⟩
   have F16 : Fr No w9 w17 := by rw [← hw17]; exact Fr.drew _ _
   have D18 : Fr No w9 w17 := Fr.of_No F16
   have sF16 := F16.size
   rw [hw17]
   refine d_pure (i := 0) rfl (by kernel_rfl) (np_blk (np_then (np_then (np_blk (np_then np_body))))) rfl (fun _ => (x_move (v := .int .i64 (k : Int)) rfl)) (fun _ => D18) ?_
   refine d_pure (i := 1) rfl (by kernel_rfl) (np_blk (np_then (np_then (np_blk (np_then np_body))))) rfl (fun _ => (x_quo64 (a := (k : Int)) (b := 4) rfl rfl (by omega) (by omega))) (fun _ => D18) ?_
   refine d_pure (i := 2) rfl (by kernel_rfl) (np_blk (np_then (np_then (np_blk (np_then np_body))))) rfl (fun _ => (x_indexArr (b := gw) (o := 0) (j := (k / 4)) as_247 rfl rfl (by omega) (by omega))) (fun _ => D18) ?_
   refine d_load (i := 3) rfl (by kernel_rfl) (np_blk (np_then (np_then (np_blk (np_then np_body))))) rfl (by kernel_rfl) rfl (fun x hS => (x_load (v := .int .u32 ((spread1 bs k).getD (k / 4) 0)) kind_164 rfl (by rw [Nat.mul_one, Nat.zero_add]; exact (hW.fr hS (fun f => f)).cell (UC_get _ _ (by rw [spread1_length]; omega))))) D18 ?_
   refine d_pure (i := 4) rfl (by kernel_rfl) (np_blk (np_then (np_then (np_blk (np_then np_body))))) rfl (fun _ => (x_move (v := .int .u8 ((bs.getD k 0).toNat : Int)) rfl)) (fun _ => D18) ?_
   refine d_pure (i := 5) rfl (by kernel_rfl) (np_blk (np_then (np_then (np_blk (np_then np_body))))) rfl (fun _ => (x_conv (a := ((bs.getD k 0).toNat : Int)) ui_5 ui_164 rfl)) (fun _ => D18) ?_
   refine d_pure (i := 6) rfl (by kernel_rfl) (np_blk (np_then (np_then (np_blk (np_then np_body))))) rfl (fun _ => (x_move (v := .int .i64 (k : Int)) rfl)) (fun _ => D18) ?_
   refine d_pure (i := 7) rfl (by kernel_rfl) (np_blk (np_then (np_then (np_blk (np_then np_body))))) rfl (fun _ => (x_rem64 (a := (k : Int)) (b := 4) rfl rfl (by omega) (by omega))) (fun _ => D18) ?_
   refine d_pure (i := 8) rfl (by kernel_rfl) (np_blk (np_then (np_then (np_blk (np_then np_body))))) rfl (fun _ => (x_mul64 (a := 8) (b := (k : Int) % 4) rfl rfl (by omega))) (fun _ => D18) ?_
   refine d_pure (i := 9) rfl (by kernel_rfl) (np_blk (np_then (np_then (np_blk (np_then np_body))))) rfl (fun _ => (x_sub64 (a := 24) (b := 8 * ((k : Int) % 4)) rfl rfl (by omega))) (fun _ => D18) ?_
   refine d_pure (i := 10) rfl (by kernel_rfl) (np_blk (np_then (np_then (np_blk (np_then np_body))))) rfl (fun _ => (x_shl (a := IntKind.u32.wrap ((bs.getD k 0).toNat : Int)) (b := 24 - (8 * ((k : Int) % 4))) rfl rfl (by omega))) (fun _ => D18) ?_
   refine d_pure (i := 11) rfl (by kernel_rfl) (np_blk (np_then (np_then (np_blk (np_then np_body))))) rfl (fun _ => (x_bits (op := .or) (a := (spread1 bs k).getD (k / 4) 0) (b := IntKind.u32.wrap ((IntKind.u32.wrap ((bs.getD k 0).toNat : Int)) * 2 ^ min (24 - (8 * ((k : Int) % 4)) : Int).toNat (IntKind.u32).bits)) rfl rfl rfl)) (fun _ => D18) ?_
   refine d_pure (i := 12) rfl (by kernel_rfl) (np_blk (np_then (np_then (np_blk (np_then np_body))))) rfl (fun _ => (x_indexArr (b := gw) (o := 0) (j := (k / 4)) as_247 rfl rfl (by omega) (by omega))) (fun _ => D18) ?_
   refine d_force (i := 13) rfl (by kernel_rfl) ?_
   have hB19 := hW.fr F16 (fun f => f)
   refine r_store (v := .int .u32 (bits .or .u32 ((spread1 bs k).getD (k / 4) 0) (IntKind.u32.wrap (IntKind.u32.wrap ((bs.getD k 0).toNat : Int) * 2 ^ min (24 - (8 * ((k : Int) % 4)) : Int).toNat (IntKind.u32).bits)))) (vs := [.int .u32 (bits .or .u32 ((spread1 bs k).getD (k / 4) 0) (IntKind.u32.wrap (IntKind.u32.wrap ((bs.getD k 0).toNat : Int) * 2 ^ min (24 - (8 * ((k : Int) % 4)) : Int).toNat (IntKind.u32).bits)))]) (o := (k / 4)) (l' := UC (spread1 bs (k + 1))) rfl rfl size_164 (by show Value.pointer (some ⟨gw, 0 + (k / 4) * 1, none⟩) = _; rw [Nat.mul_one, Nat.zero_add]) rfl rfl rfl hB19 (by rw [UC_length]; show (k / 4) + 1 ≤ _; rw [spread1_length]; omega) (UC_set _ _ _ (by rw [spread1_length]; omega)) ?_
   intro w23 F20 z21 hB22
   refine d_next (fun hx => absurd hx (by decide)) ?_
   refine d_done (by kernel_rfl) ?_
   refine inBlk_n ?_
   refine thenW_n ?_
   refine W_region ?_
   refine r_val rfl (x_add64 (a := (k : Int)) (b := 1) rfl rfl (by omega)) ?_
   refine r_val rfl (x_move (v := .int .i64 ((k : Int) + 1)) rfl) ?_
   refine RW_nil ?_
   refine thenW_n ?_
   have := F0.size
   have := F16.size
   have := F20.size
   exact ⟨_, (by omega), k + 1, _, rfl, ((ovl_cons (ovl_cons (ovl_cons (ovl_cons (ovl_cons (ovl_nil _) (by show Value.int .i64 ((k : Int) + 1) = _; rfl)) rfl) rfl) rfl) rfl)).symm, ((((Fr.refl (fun b => b = gw) _).trans F0 (fun j hj h => h)).trans F16 (fun j hj h => h.elim)).trans F20 (fun j hj h => h)), by omega, hB22⟩
  ·skip
   refine W_exit ?_
   refine thenW_x ?_
   refine thenW_x ?_
   refine inBlk_xs ?_
   refine thenW_n ?_
   refine W_seq ?_
   refine W_seq ?_
   refine W_region ?_
   refine r_val rfl (x_assign (v := .int .i64 16) rfl) ?_
   refine RW_nil ?_
   refine thenW_n ?_
   refine W_block ?_
   refine W_loop (fun m σ w' => ∃ k : Nat, ∃ τ : Env, m = 48 - k ∧ σ = ovl τ [(2, .pointer (some ⟨gr, 0, none⟩)), (3, .pointer (some ⟨gw, 0, none⟩)), (6, .int .i64 ((k : Int) + 16))] ∧ Fr (fun b => b = gw) w9 w' ∧ k ≤ 48 ∧ Blk w' gw 247 (UC (spread2 bs k))) (48) ?_ ?_
   obtain rfl : k = 64 := by omega
   · exact ⟨0, _, rfl, ((ovl_cons (ovl_cons (ovl_cons (ovl_nil _) rfl) rfl) rfl)).symm, Fr.refl _ _, Nat.zero_le _, hW⟩
   ·skip
    rintro _ _ w24 ⟨k, τ, rfl, rfl, F0b, hk2, hW2⟩
    refine W_seq ?_
    refine W_seq ?_
    refine W_region ?_
    refine r_val rfl (x_move (v := .int .i64 ((k : Int) + 16)) rfl) ?_
    refine r_val rfl (x_lss (a := (k : Int) + 16) (b := 64) rfl rfl) ?_
    refine RW_nil ?_
    refine thenW_n ?_
    refine W_condD (p := ((k : Int) + 16) < 64) rfl rfl (fun hc25 => ?_) (fun hc25 => ?_)
    ·skip
     refine W_skip ?_
     refine thenW_n ?_
     refine W_seq ?_
     refine W_block ?_
     refine W_seq ?_
     have hB26 := hB3.fr F5 (fun f => f)
     have hB27 := hB26.fr F0 ne_gr_gw
     have hB28 := hB27.fr F0b ne_gr_gw
     have hR29 := hR.fr F1 (fun _ _ f => f)
     have hR30 := hR29.fr F5 (fun _ _ f => f)
     have hR31 := hR30.fr F0 (fun b hb h => by have h2 : b = gw := h; rw [hb0] at hb; injection hb with hb; omega)
     have hR32 := hR31.fr F0b (fun b hb h => by have h2 : b = gw := h; rw [hb0] at hb; injection hb with hb; omega)
     refine d_begin mo 10 (fun x => Fr No w24 x) ?_
     obtain ⟨w34, hw34⟩ : ∃ x, w24.drew = x := ⟨_, rfl⟩
     have F33 : Fr No w24 w34 := by rw [← hw34]; exact Fr.drew _ _
     have D35 : Fr No w24 w34 := Fr.of_No F33
     have sF33 := F33.size
     rw [hw34]
     refine d_pure (i := 0) rfl (by kernel_rfl) (np_then (np_blk (np_then (np_then (np_blk (np_then np_body)))))) rfl (fun _ => (x_move (v := .int .i64 ((k : Int) + 16)) rfl)) (fun _ => D35) ?_
     refine d_pure (i := 1) rfl (by kernel_rfl) (np_then (np_blk (np_then (np_then (np_blk (np_then np_body)))))) rfl (fun _ => (x_sub64 (a := (k : Int) + 16) (b := 2) rfl rfl (by omega))) (fun _ => D35) ?_
     refine d_pure (i := 2) rfl (by kernel_rfl) (np_then (np_blk (np_then (np_then (np_blk (np_then np_body)))))) rfl (fun _ => (x_indexArr (b := gw) (o := 0) (j := (k + 14)) as_247 rfl rfl (by omega) (by omega))) (fun _ => D35) ?_
     refine d_load (i := 3) rfl (by kernel_rfl) (np_then (np_blk (np_then (np_then (np_blk (np_then np_body)))))) rfl (by kernel_rfl) rfl (fun x hS => (x_load (v := .int .u32 ((spread2 bs k).getD (k + 14) 0)) kind_164 rfl (by rw [Nat.mul_one, Nat.zero_add]; exact (hW2.fr hS (fun f => f)).cell (UC_get _ _ (by rw [spread2_length]; omega))))) D35 ?_
     refine d_pure (i := 4) rfl (by kernel_rfl) (np_then (np_blk (np_then (np_then (np_blk (np_then np_body)))))) rfl (fun _ => (x_move (v := .int .i64 ((k : Int) + 16)) rfl)) (fun _ => D35) ?_
     refine d_pure (i := 5) rfl (by kernel_rfl) (np_then (np_blk (np_then (np_then (np_blk (np_then np_body)))))) rfl (fun _ => (x_sub64 (a := (k : Int) + 16) (b := 15) rfl rfl (by omega))) (fun _ => D35) ?_
     refine d_pure (i := 6) rfl (by kernel_rfl) (np_then (np_blk (np_then (np_then (np_blk (np_then np_body)))))) rfl (fun _ => (x_indexArr (b := gw) (o := 0) (j := (k + 1)) as_247 rfl rfl (by omega) (by omega))) (fun _ => D35) ?_
     refine d_load (i := 7) rfl (by kernel_rfl) (np_then (np_blk (np_then (np_then (np_blk (np_then np_body)))))) rfl (by kernel_rfl) rfl (fun x hS => (x_load (v := .int .u32 ((spread2 bs k).getD (k + 1) 0)) kind_164 rfl (by rw [Nat.mul_one, Nat.zero_add]; exact (hW2.fr hS (fun f => f)).cell (UC_get _ _ (by rw [spread2_length]; omega))))) D35 ?_
     refine d_pure (i := 8) rfl (by kernel_rfl) (np_then (np_blk (np_then (np_then (np_blk (np_then np_body)))))) rfl (fun _ => (x_assign (v := .int .u32 ((spread2 bs k).getD (k + 14) 0)) rfl)) (fun _ => D35) ?_
     refine d_pure (i := 9) rfl (by kernel_rfl) (np_then (np_blk (np_then (np_then (np_blk (np_then np_body)))))) rfl (fun _ => (x_assign (v := .int .u32 ((spread2 bs k).getD (k + 1) 0)) rfl)) (fun _ => D35) ?_
     refine d_done (by kernel_rfl) ?_
     refine thenW_n ?_
     refine W_seq ?_
     refine W_region ?_
     refine r_val rfl (x_move (v := .int .u32 ((spread2 bs k).getD (k + 14) 0)) rfl) ?_
     refine r_call rfl (c137 (vs := [.int .u32 ((spread2 bs k).getD (k + 14) 0), .int .i64 17]) rfl) (turn_any ((spread2 bs k).getD (k + 14) 0) 17 w34 (by decide)) ?_
     rintro _ _ ⟨rfl, rfl⟩
     refine ⟨_, rfl, ?_⟩
     refine r_val rfl (x_move (v := .int .u32 ((spread2 bs k).getD (k + 14) 0)) rfl) ?_
     refine r_call rfl (c137 (vs := [.int .u32 ((spread2 bs k).getD (k + 14) 0), .int .i64 19]) rfl) (turn_any ((spread2 bs k).getD (k + 14) 0) 19 w34 (by decide)) ?_
     rintro _ _ ⟨rfl, rfl⟩
     refine ⟨_, rfl, ?_⟩
     refine r_val rfl (x_bits (op := .xor) (a := rotr ((spread2 bs k).getD (k + 14) 0) 17) (b := rotr ((spread2 bs k).getD (k + 14) 0) 19) rfl rfl rfl) ?_
     refine r_val rfl (x_move (v := .int .u32 ((spread2 bs k).getD (k + 14) 0)) rfl) ?_
     refine r_val rfl (x_shr (a := (spread2 bs k).getD (k + 14) 0) (b := 10) rfl rfl (by omega)) ?_
     refine r_val rfl (x_bits (op := .xor) (a := bits .xor .u32 (rotr ((spread2 bs k).getD (k + 14) 0) 17) (rotr ((spread2 bs k).getD (k + 14) 0) 19)) (b := ((spread2 bs k).getD (k + 14) 0) / 2 ^ min (10 : Int).toNat (IntKind.u32).bits) rfl rfl rfl) ?_
     refine r_val rfl (x_assign (v := .int .u32 (bits .xor .u32 (bits .xor .u32 (rotr ((spread2 bs k).getD (k + 14) 0) 17) (rotr ((spread2 bs k).getD (k + 14) 0) 19)) (((spread2 bs k).getD (k + 14) 0) / 2 ^ min (10 : Int).toNat (IntKind.u32).bits))) rfl) ?_
     refine RW_nil ?_
     refine thenW_n ?_
     refine W_seq ?_
     refine W_region ?_
     refine r_val rfl (x_move (v := .int .u32 ((spread2 bs k).getD (k + 1) 0)) rfl) ?_
     refine r_call rfl (c137 (vs := [.int .u32 ((spread2 bs k).getD (k + 1) 0), .int .i64 7]) rfl) (turn_any ((spread2 bs k).getD (k + 1) 0) 7 w34 (by decide)) ?_
     rintro _ _ ⟨rfl, rfl⟩
     refine ⟨_, rfl, ?_⟩
     refine r_val rfl (x_move (v := .int .u32 ((spread2 bs k).getD (k + 1) 0)) rfl) ?_
     refine r_call rfl (c137 (vs := [.int .u32 ((spread2 bs k).getD (k + 1) 0), .int .i64 18]) rfl) (turn_any ((spread2 bs k).getD (k + 1) 0) 18 w34 (by decide)) ?_
     rintro _ _ ⟨rfl, rfl⟩
     refine ⟨_, rfl, ?_⟩
     refine r_val rfl (x_bits (op := .xor) (a := rotr ((spread2 bs k).getD (k + 1) 0) 7) (b := rotr ((spread2 bs k).getD (k + 1) 0) 18) rfl rfl rfl) ?_
     refine r_val rfl (x_move (v := .int .u32 ((spread2 bs k).getD (k + 1) 0)) rfl) ?_
     refine r_val rfl (x_shr (a := (spread2 bs k).getD (k + 1) 0) (b := 3) rfl rfl (by omega)) ?_
     refine r_val rfl (x_bits (op := .xor) (a := bits .xor .u32 (rotr ((spread2 bs k).getD (k + 1) 0) 7) (rotr ((spread2 bs k).getD (k + 1) 0) 18)) (b := ((spread2 bs k).getD (k + 1) 0) / 2 ^ min (3 : Int).toNat (IntKind.u32).bits) rfl rfl rfl) ?_
     refine r_val rfl (x_assign (v := .int .u32 (bits .xor .u32 (bits .xor .u32 (rotr ((spread2 bs k).getD (k + 1) 0) 7) (rotr ((spread2 bs k).getD (k + 1) 0) 18)) (((spread2 bs k).getD (k + 1) 0) / 2 ^ min (3 : Int).toNat (IntKind.u32).bits))) rfl) ?_
     refine RW_nil ?_
     refine thenW_n ?_
     have hB36 := hB28.fr F33 (fun f => f)
     have hB37 := hW2.fr F33 (fun f => f)
     have hR38 := hR32.fr F33 (fun _ _ f => f)
     refine d_begin mo 15 (fun x => Fr No w34 x) ?_
     obtain ⟨w40, hw40⟩ : ∃ x, w34.drew = x := ⟨_, rfl⟩
     have F39 : Fr No w34 w40 := by rw [← hw40]; exact Fr.drew _ _
     have D41 : Fr No w34 w40 := Fr.of_No F39
     have sF39 := F39.size
     rw [hw40]
     refine d_pure (i := 0) rfl (by kernel_rfl) (np_blk (np_then (np_then (np_blk (np_then np_body))))) rfl (fun _ => (x_move (v := .int .i64 ((k : Int) + 16)) rfl)) (fun _ => D41) ?_
     refine d_pure (i := 1) rfl (by kernel_rfl) (np_blk (np_then (np_then (np_blk (np_then np_body))))) rfl (fun _ => (x_move (v := .int .i64 ((k : Int) + 16)) rfl)) (fun _ => D41) ?_
     refine d_pure (i := 2) rfl (by kernel_rfl) (np_blk (np_then (np_then (np_blk (np_then np_body))))) rfl (fun _ => (x_sub64 (a := (k : Int) + 16) (b := 16) rfl rfl (by omega))) (fun _ => D41) ?_
     refine d_pure (i := 3) rfl (by kernel_rfl) (np_blk (np_then (np_then (np_blk (np_then np_body))))) rfl (fun _ => (x_indexArr (b := gw) (o := 0) (j := k) as_247 rfl rfl (by omega) (by omega))) (fun _ => D41) ?_
     refine d_load (i := 4) rfl (by kernel_rfl) (np_blk (np_then (np_then (np_blk (np_then np_body))))) rfl (by kernel_rfl) rfl (fun x hS => (x_load (v := .int .u32 ((spread2 bs k).getD k 0)) kind_164 rfl (by rw [Nat.mul_one, Nat.zero_add]; exact (hB37.fr hS (fun f => f)).cell (UC_get _ _ (by rw [spread2_length]; omega))))) D41 ?_
     refine d_pure (i := 5) rfl (by kernel_rfl) (np_blk (np_then (np_then (np_blk (np_then np_body))))) rfl (fun _ => (x_move (v := .int .i64 ((k : Int) + 16)) rfl)) (fun _ => D41) ?_
     refine d_pure (i := 6) rfl (by kernel_rfl) (np_blk (np_then (np_then (np_blk (np_then np_body))))) rfl (fun _ => (x_sub64 (a := (k : Int) + 16) (b := 7) rfl rfl (by omega))) (fun _ => D41) ?_
     refine d_pure (i := 7) rfl (by kernel_rfl) (np_blk (np_then (np_then (np_blk (np_then np_body))))) rfl (fun _ => (x_indexArr (b := gw) (o := 0) (j := (k + 9)) as_247 rfl rfl (by omega) (by omega))) (fun _ => D41) ?_
     refine d_load (i := 8) rfl (by kernel_rfl) (np_blk (np_then (np_then (np_blk (np_then np_body))))) rfl (by kernel_rfl) rfl (fun x hS => (x_load (v := .int .u32 ((spread2 bs k).getD (k + 9) 0)) kind_164 rfl (by rw [Nat.mul_one, Nat.zero_add]; exact (hB37.fr hS (fun f => f)).cell (UC_get _ _ (by rw [spread2_length]; omega))))) D41 ?_
     refine d_pure (i := 9) rfl (by kernel_rfl) (np_blk (np_then (np_then (np_blk (np_then np_body))))) rfl (fun _ => (x_add (a := (spread2 bs k).getD k 0) (b := (spread2 bs k).getD (k + 9) 0) rfl rfl)) (fun _ => D41) ?_
     refine d_pure (i := 10) rfl (by kernel_rfl) (np_blk (np_then (np_then (np_blk (np_then np_body))))) rfl (fun _ => (x_move (v := .int .u32 (bits .xor .u32 (bits .xor .u32 (rotr ((spread2 bs k).getD (k + 14) 0) 17) (rotr ((spread2 bs k).getD (k + 14) 0) 19)) (((spread2 bs k).getD (k + 14) 0) / 2 ^ min (10 : Int).toNat (IntKind.u32).bits))) rfl)) (fun _ => D41) ?_
     refine d_pure (i := 11) rfl (by kernel_rfl) (np_blk (np_then (np_then (np_blk (np_then np_body))))) rfl (fun _ => (x_add (a := IntKind.u32.wrap (((spread2 bs k).getD k 0) + ((spread2 bs k).getD (k + 9) 0))) (b := bits .xor .u32 (bits .xor .u32 (rotr ((spread2 bs k).getD (k + 14) 0) 17) (rotr ((spread2 bs k).getD (k + 14) 0) 19)) (((spread2 bs k).getD (k + 14) 0) / 2 ^ min (10 : Int).toNat (IntKind.u32).bits)) rfl rfl)) (fun _ => D41) ?_
     refine d_pure (i := 12) rfl (by kernel_rfl) (np_blk (np_then (np_then (np_blk (np_then np_body))))) rfl (fun _ => (x_move (v := .int .u32 (bits .xor .u32 (bits .xor .u32 (rotr ((spread2 bs k).getD (k + 1) 0) 7) (rotr ((spread2 bs k).getD (k + 1) 0) 18)) (((spread2 bs k).getD (k + 1) 0) / 2 ^ min (3 : Int).toNat (IntKind.u32).bits))) rfl)) (fun _ => D41) ?_
     refine d_pure (i := 13) rfl (by kernel_rfl) (np_blk (np_then (np_then (np_blk (np_then np_body))))) rfl (fun _ => (x_add (a := IntKind.u32.wrap ((IntKind.u32.wrap (((spread2 bs k).getD k 0) + ((spread2 bs k).getD (k + 9) 0))) + (bits .xor .u32 (bits .xor .u32 (rotr ((spread2 bs k).getD (k + 14) 0) 17) (rotr ((spread2 bs k).getD (k + 14) 0) 19)) (((spread2 bs k).getD (k + 14) 0) / 2 ^ min (10 : Int).toNat (IntKind.u32).bits)))) (b := bits .xor .u32 (bits .xor .u32 (rotr ((spread2 bs k).getD (k + 1) 0) 7) (rotr ((spread2 bs k).getD (k + 1) 0) 18)) (((spread2 bs k).getD (k + 1) 0) / 2 ^ min (3 : Int).toNat (IntKind.u32).bits)) rfl rfl)) (fun _ => D41) ?_
     refine d_pure (i := 14) rfl (by kernel_rfl) (np_blk (np_then (np_then (np_blk (np_then np_body))))) rfl (fun _ => (x_indexArr (b := gw) (o := 0) (j := (k + 16)) as_247 rfl rfl (by omega) (by omega))) (fun _ => D41) ?_
     refine d_force (i := 15) rfl (by kernel_rfl) ?_
     have hB42 := hB37.fr F39 (fun f => f)
     refine r_store (v := .int .u32 (IntKind.u32.wrap (IntKind.u32.wrap (IntKind.u32.wrap ((spread2 bs k).getD k 0 + (spread2 bs k).getD (k + 9) 0) + near ((spread2 bs k).getD (k + 14) 0)) + far ((spread2 bs k).getD (k + 1) 0)))) (vs := [.int .u32 (IntKind.u32.wrap (IntKind.u32.wrap (IntKind.u32.wrap ((spread2 bs k).getD k 0 + (spread2 bs k).getD (k + 9) 0) + near ((spread2 bs k).getD (k + 14) 0)) + far ((spread2 bs k).getD (k + 1) 0)))]) (o := (k + 16)) (l' := UC (spread2 bs (k + 1))) rfl rfl size_164 (by show Value.pointer (some ⟨gw, 0 + (k + 16) * 1, none⟩) = _; rw [Nat.mul_one, Nat.zero_add]) rfl rfl rfl hB42 (by rw [UC_length]; show (k + 16) + 1 ≤ _; rw [spread2_length]; omega) (UC_set _ _ _ (by rw [spread2_length]; omega)) ?_
     intro w46 F43 z44 hB45
     refine d_next (fun hx => absurd hx (by decide)) ?_
     refine d_done (by kernel_rfl) ?_
     refine inBlk_n ?_
     refine thenW_n ?_
     refine W_region ?_
     refine r_val rfl (x_move (v := .int .i64 ((k : Int) + 16)) rfl) ?_
     refine r_val rfl (x_add64 (a := (k : Int) + 16) (b := 1) rfl rfl (by omega)) ?_
     refine r_val rfl (x_assign (v := .int .i64 (((k : Int) + 16) + 1)) rfl) ?_
     refine RW_nil ?_
     refine thenW_n ?_
     have := F0b.size
     have := F33.size
     have := F39.size
     have := F43.size
     exact ⟨_, (by omega), k + 1, _, rfl, ((ovl_cons (ovl_cons (ovl_cons (ovl_nil _) (congrArg (Value.int .i64) (by omega))) rfl) rfl)).symm, (((((Fr.refl (fun b => b = gw) _).trans F0b (fun j hj h => h)).trans F33 (fun j hj h => h.elim)).trans F39 (fun j hj h => h.elim)).trans F43 (fun j hj h => h)), by omega, hB45⟩
    ·skip
     refine W_exit ?_
     refine thenW_x ?_
     refine thenW_x ?_
     refine inBlk_xs ?_
     refine thenW_n ?_
     refine W_seq ?_
     refine W_region ?_
     obtain rfl : k = 48 := by omega
     refine r_val rfl (x_loadBlk (b := gw) (l := UC (spread2 bs 48)) kind_247 (by rw [UC_length, spread2_length]; exact size_247) rfl hW2) ?_
     have hB47 := hB3.fr F5 (fun f => f)
     have hB48 := hB47.fr F0 ne_gr_gw
     have hB49 := hB48.fr F0b ne_gr_gw
     refine r_store (v := .agg (UC (spread2 bs 48)).toArray) (vs := UC (spread2 bs 48)) (o := 0) (l' := UC (spread2 bs 48)) rfl rfl (by rw [UC_length, spread2_length]; exact size_247) rfl rfl rfl (UC_one _) hB49 (by rw [UC_length, spread2_length]; exact Nat.le_refl 64) (store_all (by rw [UC_length, spread2_length]; rfl)) ?_
     intro w53 F50 z51 hB52
     refine RW_nil ?_
     refine thenW_n ?_
     refine W_ret ?_
     have := F1.size
     have := F5.size
     have := F0.size
     have := F0b.size
     have := F50.size
     refine q_retC rfl rfl rfl kind_247 (by rw [UC_length, spread2_length]; exact size_247) hB52 ?_
     exact ⟨rfl, ((((((Fr.refl No _).trans F1 (fun j hj h => h.elim)).trans F5 (fun j hj h => h.elim)).trans F0 (fun j hj h => (by have h2 : j = gw := h; omega))).trans F0b (fun j hj h => (by have h2 : j = gw := h; omega))).trans F50 (fun j hj h => (by have h2 : j = gr := h; omega)))⟩

end Go.Proofs.YthomkocjjkmnkaaDoor
