import Derived.Test.YthomkocjjkmnkaaDoorShaB
import Derived.Test.YthomkocjjkmnkaaDoorNetB
import Derived.Test.YthomkocjjkmnkaaDoorNetO
import Derived.Test.YthomkocjjkmnkaaDoorCpy
/- PRINTED by gen.py (wip/tools) from the plan wip/plans: walks. -/
namespace Go.Proofs.YthomkocjjkmnkaaDoor
open Go Go.RowKit
set_option maxRecDepth 100000
set_option linter.unusedVariables false
def iv8 : S8 := ⟨1779033703, 3144134277, 1013904242, 2773480762, 1359893119, 2600822924, 528734635, 1541459225⟩
/-- The state, after k blocks of 64 bytes. -/
def folds (s : S8) (bs : List UInt8) : Nat → S8
  | 0 => s
  | k + 1 => takeI (folds s bs k) (bs.drop (64 * k))
def lenV (n i : Nat) : Int := IntKind.u8.wrap (IntKind.u64.wrap (IntKind.u64.wrap (n : Int) * 2 ^ min (3 : Int).toNat (IntKind.u64).bits) / 2 ^ min (56 - (8 * (i : Int)) : Int).toNat (IntKind.u64).bits)
theorem u8w (x : Int) : ((UInt8.ofNat (IntKind.u8.wrap x).toNat).toNat : Int) = IntKind.u8.wrap x := by
  have h : 0 ≤ IntKind.u8.wrap x ∧ IntKind.u8.wrap x < 256 := by rw [IntKind.wrap_u8]; omega
  have e : (UInt8.ofNat (IntKind.u8.wrap x).toNat).toNat = (IntKind.u8.wrap x).toNat := by
    rw [UInt8.toNat_ofNat']; omega
  rw [e]; omega
def lenB (n i : Nat) : UInt8 := UInt8.ofNat (lenV n i).toNat
theorem lenB_val (n i : Nat) : ((lenB n i).toNat : Int) = lenV n i := u8w _
def lenBs (n : Nat) : Nat → List UInt8
  | 0 => []
  | i + 1 => lenBs n i ++ [lenB n i]
theorem lenBs_length (n : Nat) : ∀ i, (lenBs n i).length = i
  | 0 => rfl
  | i + 1 => by simp [lenBs, lenBs_length n i]
def wholeN (bs : List UInt8) : Nat := bs.length / 64 * 64
/-- What stands behind the whole blocks, with the one bit, the noughts and the length. -/
def rest1 (bs : List UInt8) : List UInt8 := bs.drop (wholeN bs) ++ [128]
def padN (bs : List UInt8) : Nat := if (rest1 bs).length ≤ 56 then 56 - (rest1 bs).length else 120 - (rest1 bs).length
def rest3 (bs : List UInt8) : List UInt8 := (rest1 bs ++ List.replicate (padN bs) 0) ++ lenBs bs.length 8
def last8 (bs : List UInt8) : S8 := folds (folds iv8 bs (bs.length / 64)) (rest3 bs) ((rest3 bs).length / 64)
def S8.at_ (s : S8) (k : Nat) : Int := match k with | 0 => s.a | 1 => s.b | 2 => s.c | 3 => s.d | 4 => s.e | 5 => s.f | 6 => s.g | _ => s.h
/-- A byte of the digest. -/
def outV (s : S8) (i : Nat) : Int := IntKind.u8.wrap (s.at_ (i / 4) / 2 ^ min (24 - (8 * ((i : Int) % 4)) : Int).toNat (IntKind.u32).bits)
def outs (s : S8) : Nat → List Int
  | 0 => List.replicate 32 0
  | i + 1 => (outs s i).set i (outV s i)
theorem outs_length (s : S8) : ∀ i, (outs s i).length = 32
  | 0 => by simp [outs]
  | i + 1 => by rw [outs, List.length_set, outs_length s i]
def sumI (bs : List UInt8) : List Int := outs (last8 bs) 32
def DC (xs : List Int) : List Value := xs.map (Value.int .u8)
theorem DC_length (xs : List Int) : (DC xs).length = xs.length := by simp [DC]
theorem DC_one (xs : List Int) : (DC xs).all (·.oneCell') = true := by
  rw [List.all_eq_true]; intro u hu; obtain ⟨b, _, rfl⟩ := List.mem_map.1 hu; rfl
theorem DC_set (xs : List Int) (k : Nat) (x : Int) (h : k < xs.length) : (DC xs).take k ++ [Value.int .u8 x] ++ (DC xs).drop (k + 1) = DC (xs.set k x) := by
  have e : (DC xs).take k ++ [Value.int .u8 x] ++ (DC xs).drop (k + 1) = (DC xs).set k (.int .u8 x) := by
    rw [List.set_eq_take_append_cons_drop, if_pos (by rw [DC_length]; exact h)]; simp
  rw [e]; unfold DC; rw [← List.map_set]
theorem S8_at (s : S8) (k : Nat) (h : k < 8) : s.cells[k]? = some (.int .u32 (s.at_ k)) := by
  match k, h with
  | 0, _ => rfl
  | 1, _ => rfl
  | 2, _ => rfl
  | 3, _ => rfl
  | 4, _ => rfl
  | 5, _ => rfl
  | 6, _ => rfl
  | 7, _ => rfl
theorem BC_rest (bs : List UInt8) (m : Nat) : ((BC bs).drop (m * 1)).take ((bs.length - m) * 1) = BC (bs.drop m) := by
  rw [Nat.mul_one, Nat.mul_one, List.take_of_length_le (by rw [List.length_drop, BC_length]; exact Nat.le_refl _)]
  unfold BC
  rw [List.map_drop]
theorem rest1_len (bs : List UInt8) : 1 ≤ (rest1 bs).length ∧ (rest1 bs).length ≤ 64 := by
  simp only [rest1, wholeN, List.length_append, List.length_drop, List.length_cons, List.length_nil]; omega
theorem rest3_len (bs : List UInt8) : (rest3 bs).length = 64 ∨ (rest3 bs).length = 128 := by
  have h := rest1_len bs
  simp only [rest3, List.length_append, List.length_replicate, lenBs_length, padN]
  split <;> omega

theorem sum_any (A : Option Addr) (c : Nat) (bs : List UInt8) (w : World) (hK : Kst w) (hR : Rd w 1 (.slice A bs.length c) bs.length (BC bs)) (hrl : ∀ b, (Value.slice A bs.length c).ownBlock = some b → b < w.heap.size) (hnil : A = none → bs.length = 0) (hn : bs.length ≤ 100000000) :
    Calls Tryd.prog 23 #[.slice A bs.length c] w fun e w' => e = .returned (.agg (DC (sumI bs)).toArray) ∧ Fr No w w' := by
 obtain ⟨_, _, e0, hnc⟩ := hR.form
 injection e0 with _ _ e3
 subst e3
 obtain ⟨wn, hwn⟩ : ∃ wn, wn = bs.length / 64 * 64 := ⟨_, rfl⟩
 have hlt0 : ∀ b, (Value.slice A bs.length c).ownBlock = some b → 0 < bs.length → b < w.heap.size := fun b hb h => (by obtain ⟨b0, h1, h2⟩ := hR.lt h (by decide); rw [h1] at hb; injection hb with hb; omega)
 refine calls_of_W Tryd.func23 rfl 83 rfl (Nat.le_of_ble_eq_true rfl) ?_
 refine W_seq ?_
 refine W_region ?_
 obtain ⟨gr, hgr⟩ : ∃ n, w.heap.size = n := ⟨_, rfl⟩
 refine r_alloc (l := [.int .u8 0, .int .u8 0, .int .u8 0, .int .u8 0, .int .u8 0, .int .u8 0, .int .u8 0, .int .u8 0, .int .u8 0, .int .u8 0, .int .u8 0, .int .u8 0, .int .u8 0, .int .u8 0, .int .u8 0, .int .u8 0, .int .u8 0, .int .u8 0, .int .u8 0, .int .u8 0, .int .u8 0, .int .u8 0, .int .u8 0, .int .u8 0, .int .u8 0, .int .u8 0, .int .u8 0, .int .u8 0, .int .u8 0, .int .u8 0, .int .u8 0, .int .u8 0]) gr hgr zero_54 rfl ?_
 intro w4 F1 z2 hB3
 refine RW_nil ?_
 refine thenW_n ?_
 refine W_seq ?_
 refine W_region ?_
 refine r_val rfl (x_buildA (n := 8) (e := 164) (size := 1) (vs := [.int .u32 1779033703, .int .u32 3144134277, .int .u32 1013904242, .int .u32 2773480762, .int .u32 1359893119, .int .u32 2600822924, .int .u32 528734635, .int .u32 1541459225]) (l := [.int .u32 1779033703, .int .u32 3144134277, .int .u32 1013904242, .int .u32 2773480762, .int .u32 1359893119, .int .u32 2600822924, .int .u32 528734635, .int .u32 1541459225]) (by kernel_rfl) (by kernel_rfl) zero_166 rfl rfl rfl (by intro v hv; simp only [List.mem_cons, List.not_mem_nil, or_false] at hv; rcases hv with rfl | rfl | rfl | rfl | rfl | rfl | rfl | rfl <;> rfl) rfl) ?_
 obtain ⟨gs, hgs⟩ : ∃ n, w4.heap.size = n := ⟨_, rfl⟩
 have ne_gr_gs : gr ≠ gs := by have := hB3.lt; omega
 refine r_alloc (l := [.int .u32 0, .int .u32 0, .int .u32 0, .int .u32 0, .int .u32 0, .int .u32 0, .int .u32 0, .int .u32 0]) gs hgs zero_166 rfl ?_
 intro w8 F5 z6 hB7
 have := F1.size
 have := F5.size
 have hgs_l : w.heap.size ≤ gs := by omega
 refine r_store (v := .agg #[.int .u32 1779033703, .int .u32 3144134277, .int .u32 1013904242, .int .u32 2773480762, .int .u32 1359893119, .int .u32 2600822924, .int .u32 528734635, .int .u32 1541459225]) (vs := [.int .u32 1779033703, .int .u32 3144134277, .int .u32 1013904242, .int .u32 2773480762, .int .u32 1359893119, .int .u32 2600822924, .int .u32 528734635, .int .u32 1541459225]) (l' := [.int .u32 1779033703, .int .u32 3144134277, .int .u32 1013904242, .int .u32 2773480762, .int .u32 1359893119, .int .u32 2600822924, .int .u32 528734635, .int .u32 1541459225]) rfl rfl size_166 rfl rfl rfl rfl hB7 (Nat.le_of_ble_eq_true rfl) rfl ?_
 intro w12 F9 z10 hB11
 refine RW_nil ?_
 refine thenW_n ?_
 refine W_seq ?_
 refine W_region ?_
 refine r_val rfl (x_move (v := .slice A bs.length c) rfl) ?_
 refine r_val rfl (x_len (n := bs.length) ul_33 rfl) ?_
 refine r_val rfl (x_quo64 (a := (bs.length : Int)) (b := 64) rfl rfl (by omega) (by omega)) ?_
 refine r_val rfl (x_as (u := .int .i64 (wn : Int)) (x_mul64 (a := (bs.length : Int) / 64) (b := 64) rfl rfl (by omega)) (congrArg (Value.int .i64) (by omega))) ?_
 refine r_val rfl (x_assign (v := .int .i64 (wn : Int)) rfl) ?_
 refine RW_nil ?_
 refine thenW_n ?_
 refine W_seq ?_
 refine W_seq ?_
 refine W_region ?_
 refine r_val rfl (x_assign (v := .int .i64 0) rfl) ?_
 refine RW_nil ?_
 refine thenW_n ?_
 refine W_block ?_
 refine W_loop (fun m σ w' => ∃ k : Nat, ∃ τ : Env, m = wn / 64 - k ∧ σ = ovl τ [(0, .slice A bs.length c), (2, .pointer (some ⟨gr, 0, none⟩)), (3, .pointer (some ⟨gs, 0, none⟩)), (4, .int .i64 (wn : Int)), (5, .int .i64 (64 * k : Int))] ∧ Fr (fun b => b = gs) w12 w' ∧ k ≤ bs.length / 64 ∧ Blk w' gs 166 (folds iv8 bs k).cells) (wn / 64) ?_ ?_
 · exact ⟨0, _, rfl, ((ovl_cons (ovl_cons (ovl_cons (ovl_cons (ovl_cons (ovl_nil _) rfl) rfl) rfl) rfl) rfl)).symm, Fr.refl _ _, Nat.zero_le _, hB11⟩
 ·skip
  rintro _ _ w13 ⟨k, τ, rfl, rfl, F0, hk, hSt⟩
  refine W_seq ?_
  refine W_seq ?_
  refine W_region ?_
  refine r_val rfl (x_move (v := .int .i64 (64 * k : Int)) rfl) ?_
  refine r_val rfl (x_move (v := .int .i64 (wn : Int)) rfl) ?_
  refine r_val rfl (x_lss (a := (64 * k : Int)) (b := (wn : Int)) rfl rfl) ?_
  refine RW_nil ?_
  refine thenW_n ?_
  refine W_condD (p := (64 * k : Int) < (wn : Int)) rfl rfl (fun hc14 => ?_) (fun hc14 => ?_)
  ·skip
   refine W_skip ?_
   refine thenW_n ?_
   refine W_seq ?_
   refine W_block ?_
   have hB15 := hB3.fr F5 (fun f => f)
   have hB16 := hB15.fr F9 ne_gr_gs
   have hB17 := hB16.fr F0 ne_gr_gs
   have hR18 := hR.fr F1 (fun _ _ f => f)
   have hR19 := hR18.fr F5 (fun _ _ f => f)
   have hR20 := hR19.fr F9 (fun b hb h => by have h1 := hrl b hb; have h2 : b = gs := h; omega)
   have hR21 := hR20.fr F0 (fun b hb h => by have h1 := hrl b hb; have h2 : b = gs := h; omega)
   refine d_begin mo 5 (fun x => Fr No w13 x) ?_
   obtain ⟨w23, hw23⟩ : ∃ x, w13.drew = x := ⟨_, rfl⟩
   have F22 : Fr No w13 w23 := by rw [← hw23]; exact Fr.drew _ _
   have D24 : Fr No w13 w23 := Fr.of_No F22
   have sF22 := F22.size
   rw [hw23]
   refine d_load (i := 0) rfl (by kernel_rfl) (np_blk (np_then (np_then (np_blk (np_then np_body))))) rfl (by kernel_rfl) rfl (fun x hS => (x_loadRow (b := gs) (o := 0) (cs := [.int .u32 ((folds iv8 bs k).a), .int .u32 ((folds iv8 bs k).b), .int .u32 ((folds iv8 bs k).c), .int .u32 ((folds iv8 bs k).d), .int .u32 ((folds iv8 bs k).e), .int .u32 ((folds iv8 bs k).f), .int .u32 ((folds iv8 bs k).g), .int .u32 ((folds iv8 bs k).h)]) kind_166 size_166 rfl ((hSt.fr hS (fun f => f)).seg (m := 8) rfl))) D24 ?_
   refine d_pure (i := 1) rfl (by kernel_rfl) (np_blk (np_then (np_then (np_blk (np_then np_body))))) rfl (fun _ => (x_move (v := .slice A bs.length c) rfl)) (fun _ => D24) ?_
   refine d_pure (i := 2) rfl (by kernel_rfl) (np_blk (np_then (np_then (np_blk (np_then np_body))))) rfl (fun _ => (x_move (v := .int .i64 (64 * k : Int)) rfl)) (fun _ => D24) ?_
   refine d_pure (i := 3) rfl (by kernel_rfl) (np_blk (np_then (np_then (np_blk (np_then np_body))))) rfl (fun _ => (x_sliceLo (l := 64 * k) es_33 rfl rfl (by first | rfl | omega) (by omega))) (fun _ => D24) ?_
   refine d_force (i := 4) rfl (by kernel_rfl) ?_
   have hR25 := hR21.fr F22 (fun _ _ f => f)
   have hrs := hR25.sub (64 * k) bs.length (by omega) (Nat.le_refl _) c (by omega)
   rw [BC_rest] at hrs
   have := F1.size
   have := F5.size
   have := F9.size
   have := F0.size
   have := F22.size
   have hKt : Kst w23 := hK.fr ((((((Fr.refl No _).trans F1 (fun j hj h => h.elim)).trans F5 (fun j hj h => h.elim)).trans F9 (fun j hj h => (by have h2 : j = gs := h; omega))).trans F0 (fun j hj h => (by have h2 : j = gs := h; omega))).trans F22 (fun j hj h => h.elim)) (fun f => f)
   refine r_call rfl (c87 (vs := [.agg #[.int .u32 ((folds iv8 bs k).a), .int .u32 ((folds iv8 bs k).b), .int .u32 ((folds iv8 bs k).c), .int .u32 ((folds iv8 bs k).d), .int .u32 ((folds iv8 bs k).e), .int .u32 ((folds iv8 bs k).f), .int .u32 ((folds iv8 bs k).g), .int .u32 ((folds iv8 bs k).h)], .slice (subA 1 (64 * k) c A) (bs.length - (64 * k)) (c - (64 * k))]) rfl) (take_any (folds iv8 bs k) (subA 1 (64 * k) c A) (bs.length - 64 * k) (c - 64 * k) (bs.drop (64 * k)) w23 hKt hrs (by omega)) ?_
   rintro _ w27 ⟨rfl, F26⟩
   refine ⟨_, rfl, ?_⟩
   have sD28 := F26.size
   have D28 : Fr No w13 w27 := D24.trans F26 (fun i hi h => (by first | exact h.elim | omega | (simp only [Value.ownBlock, Option.some.injEq] at h; omega) | (have h2 := h; simp at h2; omega) | exact h))
   refine d_next (fun _ => D28) ?_
   refine d_force (i := 5) rfl (by kernel_rfl) ?_
   have hB29 := hSt.fr F22 (fun f => f)
   have hB30 := hB29.fr F26 (fun f => f)
   refine r_store (v := .agg (takeI (folds iv8 bs k) (bs.drop (64 * k))).cells.toArray) (vs := (takeI (folds iv8 bs k) (bs.drop (64 * k))).cells) (o := 0) (l' := (takeI (folds iv8 bs k) (bs.drop (64 * k))).cells) rfl rfl size_166 rfl rfl rfl rfl hB30 (Nat.le_of_ble_eq_true rfl) rfl ?_
   intro w34 F31 z32 hB33
   refine d_next (fun hx => absurd hx (by decide)) ?_
   refine d_done (by kernel_rfl) ?_
   refine inBlk_n ?_
   refine thenW_n ?_
   refine W_region ?_
   refine r_val rfl (x_move (v := .int .i64 (64 * k : Int)) rfl) ?_
   refine r_val rfl (x_add64 (a := (64 * k : Int)) (b := 64) rfl rfl (by omega)) ?_
   refine r_val rfl (x_assign (v := .int .i64 ((64 * k : Int) + 64)) rfl) ?_
   refine RW_nil ?_
   refine thenW_n ?_
   have := F0.size
   have := F22.size
   have := F26.size
   have := F31.size
   exact ⟨_, (by omega), k + 1, _, rfl, ((ovl_cons (ovl_cons (ovl_cons (ovl_cons (ovl_cons (ovl_nil _) (congrArg (Value.int .i64) (by omega))) rfl) rfl) rfl) rfl)).symm, (((((Fr.refl (fun b => b = gs) _).trans F0 (fun j hj h => h)).trans F22 (fun j hj h => h.elim)).trans F26 (fun j hj h => h.elim)).trans F31 (fun j hj h => h)), by omega, hB33⟩
  ·skip
   refine W_exit ?_
   refine thenW_x ?_
   refine thenW_x ?_
   refine inBlk_xs ?_
   refine thenW_n ?_
   refine W_seq ?_
   obtain rfl : k = bs.length / 64 := by omega
   refine W_region ?_
   refine r_val rfl (x_move (v := .slice A bs.length c) rfl) ?_
   refine r_val rfl (x_move (v := .int .i64 (wn : Int)) rfl) ?_
   refine r_val rfl (x_sliceLo (l := wn) es_33 rfl rfl (by first | rfl | omega) (by omega)) ?_
   have hR35 := hR.fr F1 (fun _ _ f => f)
   have hR36 := hR35.fr F5 (fun _ _ f => f)
   have hR37 := hR36.fr F9 (fun b hb h => by have h1 := hrl b hb; have h2 : b = gs := h; omega)
   have hR38 := hR37.fr F0 (fun b hb h => by have h1 := hrl b hb; have h2 : b = gs := h; omega)
   have hrs := hR38.sub wn bs.length (by omega) (Nat.le_refl _) c (by omega)
   rw [BC_rest] at hrs
   refine r_call rfl (c88 (vs := [.slice (subA 1 wn c A) (bs.length - wn) (c - wn)]) rfl) (bcloneB (subA 1 wn c A) (bs.length - wn) (c - wn) (BC (bs.drop wn)) w13 hrs (fun h => by have := hnil (subA_none h); omega) (BC_one _) (by omega)) ?_
   have := F1.size
   have := F5.size
   have := F9.size
   have := F0.size
   rintro _ w40 ⟨vt, rfl, hOt, F39, hvt, _⟩
   obtain ⟨At, ct, hte, _⟩ := hOt.rd.form
   subst hte
   have hfr_t : ∀ b, (Value.slice At (bs.length - wn) ct).ownBlock = some b → w.heap.size ≤ b := fun b hb => (by have := hvt b hb; omega)
   refine ⟨_, rfl, ?_⟩
   have hB42 := hB3.fr F5 (fun f => f)
   have hB43 := hB42.fr F9 ne_gr_gs
   have hB44 := hB43.fr F0 ne_gr_gs
   have hB45 := hB44.fr F39 (fun f => f)
   have hB46 := hSt.fr F39 (fun f => f)
   obtain ⟨g41, hg41⟩ : ∃ n, w40.heap.size = n := ⟨_, rfl⟩
   have ne_gr_g41 : gr ≠ g41 := by have := hB45.lt; omega
   have ne_gs_g41 : gs ≠ g41 := by have := hB46.lt; omega
   refine r_lit (vs := [.int .u8 128]) (l := [.int .u8 128]) rfl g41 hg41 ei_33 (.inr ⟨_, rfl⟩) rfl rfl (by intro v hv; simp only [List.mem_cons, List.not_mem_nil, or_false] at hv; rcases hv with rfl <;> rfl) rfl (by decide) ?_
   intro w50 F47 z48 hB49
   have hR51 := hOt.fr F47 (fun _ _ f => f)
   have hB52 := hB46.fr F47 (fun f => f)
   have hB53 := hB45.fr F47 (fun f => f)
   have := F1.size
   have := F5.size
   have := F9.size
   have := F0.size
   have := F39.size
   have := F47.size
   refine r_append rfl rfl ei_33 rfl (by decide) (v := .slice At (bs.length - wn) ct) (u := .slice (some ⟨g41, 0, none⟩) 1 1) rfl rfl hR51 (Own.of_blk (l := BC [128]) hB49 1 1 rfl (by decide)).rd (BC_one _) (by unfold maxLen; omega) (by omega) ?_
   intro v54 w59 hO55 F56 hat57 hnil58
   have hfr_F56 := hfr_t
   have hfr_q60 : ∀ b, (v54).ownBlock = some b → w.heap.size ≤ b := fun b hb => (by rcases hat57 with e | e; (rw [e] at hb; exact hfr_t b hb); (rw [e] at hb; injection hb with hb; omega))
   rw [← BC_append] at hO55
   obtain ⟨A61, c62, he63, _⟩ := hO55.rd.form
   subst he63
   refine r_val rfl (x_assign (v := .slice A61 ((bs.length - wn) + 1) c62) rfl) ?_
   refine RW_nil ?_
   refine thenW_n ?_
   refine W_seq ?_
   refine W_block ?_
   refine W_loop (fun m σ w' => ∃ (k : Nat) (vt2 : Value), ∃ τ : Env, m = padN bs - k ∧ σ = ovl τ [(0, .slice A bs.length c), (2, .pointer (some ⟨gr, 0, none⟩)), (3, .pointer (some ⟨gs, 0, none⟩)), (6, vt2)] ∧ Fr No w w' ∧ Blk w' gs 166 ((folds iv8 bs (bs.length / 64))).cells ∧ Blk w' gr 54 (DC (List.replicate 32 0)) ∧ Own w' 5 1 vt2 (rest1 bs ++ List.replicate k 0).length (BC (rest1 bs ++ List.replicate k 0)) ∧ (∀ b, vt2.ownBlock = some b → w.heap.size ≤ b) ∧ k ≤ padN bs) (padN bs) ?_ ?_
   have hr1l : (rest1 bs ++ List.replicate 0 0).length = bs.length - wn + 1 := by subst hwn; simp only [rest1, wholeN, List.replicate_zero, List.append_nil, List.length_append, List.length_drop, List.length_cons, List.length_nil]
   have hr1e : rest1 bs ++ List.replicate 0 0 = bs.drop wn ++ [128] := by subst hwn; simp [rest1, wholeN]
   have := F1.size
   have := F5.size
   have := F9.size
   have := F0.size
   have := F39.size
   have := F47.size
   have := F56.size
   have hB64 := hB52.fr F56 (fun h => (hR51).type_ne hB52 (by decide) h)
   have hB65 := hB53.fr F56 (fun h => (hR51).type_ne hB53 (by decide) h)
   · exact ⟨0, .slice A61 ((bs.length - wn) + 1) c62, _, rfl, ((ovl_cons (ovl_cons (ovl_cons (ovl_cons (ovl_nil _) rfl) rfl) rfl) rfl)).symm, ((((((((Fr.refl No _).trans F1 (fun j hj h => h.elim)).trans F5 (fun j hj h => h.elim)).trans F9 (fun j hj h => (by have h2 : j = gs := h; omega))).trans F0 (fun j hj h => (by have h2 : j = gs := h; omega))).trans F39 (fun j hj h => h.elim)).trans F47 (fun j hj h => h.elim)).trans F56 (fun j hj h => (by have := hfr_F56 _ h; omega))), hB64, hB65, (by rw [hr1l, hr1e]; exact hO55), hfr_q60, Nat.zero_le _⟩
   ·skip
    rintro _ _ w66 ⟨k, vt2, τ, rfl, rfl, Fw, hgs, hgr, hOt2, hfr_t2, hk2⟩
    obtain ⟨At2, ct2, hte2, _⟩ := hOt2.rd.form
    subst hte2
    have := Fw.size
    have hr1 := rest1_len bs
    have hL : (rest1 bs ++ List.replicate k 0).length = (rest1 bs).length + k := by simp only [List.length_append, List.length_replicate]
    have hpad : padN bs ≤ 64 := by unfold padN; split <;> omega
    refine W_seq ?_
    refine W_seq ?_
    refine W_region ?_
    refine r_val rfl (x_move (v := .slice At2 ((rest1 bs ++ List.replicate k 0).length) ct2) rfl) ?_
    refine r_val rfl (x_len (n := (rest1 bs ++ List.replicate k 0).length) ul_33 rfl) ?_
    refine r_val rfl (x_rem64 (a := ((rest1 bs ++ List.replicate k 0).length : Int)) (b := 64) rfl rfl (by omega) (by omega)) ?_
    refine r_val rfl (x_neq (a := ((rest1 bs ++ List.replicate k 0).length : Int) % 64) (b := 56) rfl rfl) ?_
    refine RW_nil ?_
    refine thenW_n ?_
    refine W_condD (p := (((rest1 bs ++ List.replicate k 0).length : Int) % 64) ≠ 56) rfl rfl (fun hc67 => ?_) (fun hc67 => ?_)
    ·skip
     have hlt : k < padN bs := by unfold padN at hk2 ⊢; split at hk2 <;> split <;> omega
     refine W_skip ?_
     refine thenW_n ?_
     refine W_block ?_
     refine W_region ?_
     refine r_val rfl (x_move (v := .slice At2 ((rest1 bs ++ List.replicate k 0).length) ct2) rfl) ?_
     obtain ⟨g68, hg68⟩ : ∃ n, w66.heap.size = n := ⟨_, rfl⟩
     have ne_gs_g68 : gs ≠ g68 := by have := hgs.lt; omega
     have ne_gr_g68 : gr ≠ g68 := by have := hgr.lt; omega
     refine r_lit (vs := [.int .u8 0]) (l := [.int .u8 0]) rfl g68 hg68 ei_33 (.inr ⟨_, rfl⟩) rfl rfl (by intro v hv; simp only [List.mem_cons, List.not_mem_nil, or_false] at hv; rcases hv with rfl <;> rfl) rfl (by decide) ?_
     intro w72 F69 z70 hB71
     have hR73 := hOt2.fr F69 (fun _ _ f => f)
     have hB74 := hgs.fr F69 (fun f => f)
     have hB75 := hgr.fr F69 (fun f => f)
     have := Fw.size
     have := F69.size
     refine r_append rfl rfl ei_33 rfl (by decide) (v := .slice At2 ((rest1 bs ++ List.replicate k 0).length) ct2) (u := .slice (some ⟨g68, 0, none⟩) 1 1) rfl rfl hR73 (Own.of_blk (l := BC [0]) hB71 1 1 rfl (by decide)).rd (BC_one _) (by unfold maxLen; omega) (by omega) ?_
     intro v76 w81 hO77 F78 hat79 hnil80
     have hfr_F78 := hfr_t2
     have hfr_q82 : ∀ b, (v76).ownBlock = some b → w.heap.size ≤ b := fun b hb => (by rcases hat79 with e | e; (rw [e] at hb; exact hfr_t2 b hb); (rw [e] at hb; injection hb with hb; omega))
     rw [← BC_append] at hO77
     obtain ⟨A83, c84, he85, _⟩ := hO77.rd.form
     subst he85
     refine r_val rfl (x_assign (v := .slice A83 (((rest1 bs ++ List.replicate k 0).length) + 1) c84) rfl) ?_
     refine RW_nil ?_
     refine inBlk_n ?_
     refine thenW_n ?_
     have hnx : rest1 bs ++ List.replicate (k + 1) 0 = (rest1 bs ++ List.replicate k 0) ++ [0] := by rw [List.replicate_succ', List.append_assoc]
     have hl1 : ((rest1 bs ++ List.replicate k 0) ++ [0]).length = (rest1 bs ++ List.replicate k 0).length + 1 := List.length_append
     have := Fw.size
     have := F69.size
     have := F78.size
     have hB86 := hB74.fr F78 (fun h => (hR73).type_ne hB74 (by decide) h)
     have hB87 := hB75.fr F78 (fun h => (hR73).type_ne hB75 (by decide) h)
     exact ⟨_, (by omega), k + 1, .slice A83 (((rest1 bs ++ List.replicate k 0).length) + 1) c84, _, rfl, ((ovl_cons (ovl_cons (ovl_cons (ovl_cons (ovl_nil _) rfl) rfl) rfl) rfl)).symm, ((((Fr.refl No _).trans Fw (fun j hj h => h.elim)).trans F69 (fun j hj h => h.elim)).trans F78 (fun j hj h => (by have := hfr_F78 _ h; omega))), hB86, hB87, (by rw [hnx, hl1]; exact hO77), hfr_q82, by omega⟩
    ·skip
     refine W_exit ?_
     refine thenW_x ?_
     refine thenW_x ?_
     refine inBlk_xs ?_
     refine thenW_n ?_
     refine W_seq ?_
     refine W_seq ?_
     refine W_region ?_
     refine r_val rfl (x_move (v := .int .i64 0) rfl) ?_
     refine RW_nil ?_
     refine thenW_n ?_
     refine W_block ?_
     refine W_loop (fun m σ w' => ∃ (k : Nat) (vt2 : Value), ∃ τ : Env, m = 8 - k ∧ σ = ovl τ [(0, .slice A bs.length c), (2, .pointer (some ⟨gr, 0, none⟩)), (3, .pointer (some ⟨gs, 0, none⟩)), (6, vt2), (39, .int .i64 (k : Int))] ∧ Fr No w w' ∧ Blk w' gs 166 ((folds iv8 bs (bs.length / 64))).cells ∧ Blk w' gr 54 (DC (List.replicate 32 0)) ∧ Own w' 5 1 vt2 ((rest1 bs ++ List.replicate (padN bs) 0) ++ lenBs bs.length k).length (BC ((rest1 bs ++ List.replicate (padN bs) 0) ++ lenBs bs.length k)) ∧ (∀ b, vt2.ownBlock = some b → w.heap.size ≤ b) ∧ k ≤ 8) (8) ?_ ?_
     obtain rfl : k = padN bs := by unfold padN at hk2 ⊢; split at hk2 <;> split <;> omega
     have := Fw.size
     · exact ⟨0, .slice At2 ((rest1 bs ++ List.replicate (padN bs) 0).length) ct2, _, rfl, ((ovl_cons (ovl_cons (ovl_cons (ovl_cons (ovl_cons (ovl_nil _) rfl) rfl) rfl) rfl) rfl)).symm, ((Fr.refl No _).trans Fw (fun j hj h => h.elim)), hgs, hgr, (by simpa [lenBs] using hOt2), hfr_t2, Nat.zero_le _⟩
     ·skip
      rintro _ _ w88 ⟨k, vt2, τ, rfl, rfl, Fw, hgs, hgr, hOt2, hfr_t2, hk3⟩
      obtain ⟨At2, ct2, hte2, _⟩ := hOt2.rd.form
      subst hte2
      have := Fw.size
      have hr1 := rest1_len bs
      have hL : ((rest1 bs ++ List.replicate (padN bs) 0) ++ lenBs bs.length k).length = (rest1 bs).length + padN bs + k := by simp only [List.length_append, List.length_replicate, lenBs_length]
      have hpad : padN bs ≤ 64 := by unfold padN; split <;> omega
      refine W_seq ?_
      refine W_region ?_
      refine r_val rfl (x_lss (a := (k : Int)) (b := 8) rfl rfl) ?_
      refine RW_nil ?_
      refine thenW_n ?_
      refine W_seq ?_
      refine W_condD (p := (k : Int) < 8) rfl rfl (fun hc89 => ?_) (fun hc89 => ?_)
      ·skip
       refine W_skip ?_
       refine thenW_n ?_
       refine W_seq ?_
       refine W_block ?_
       refine W_seq ?_
       refine W_region ?_
       refine r_val rfl (x_move (v := .int .i64 (k : Int)) rfl) ?_
       refine r_val rfl (x_assign (v := .int .i64 (k : Int)) rfl) ?_
       refine RW_nil ?_
       refine thenW_n ?_
       refine W_region ?_
       refine r_val rfl (x_move (v := .slice At2 (((rest1 bs ++ List.replicate (padN bs) 0) ++ lenBs bs.length k).length) ct2) rfl) ?_
       refine r_val rfl (x_move (v := .slice A bs.length c) rfl) ?_
       refine r_val rfl (x_len (n := bs.length) ul_33 rfl) ?_
       refine r_val rfl (x_conv (a := (bs.length : Int)) ui_3 ui_49 rfl) ?_
       refine r_val rfl (x_shl (a := IntKind.u64.wrap (bs.length : Int)) (b := 3) rfl rfl (by omega)) ?_
       refine r_val rfl (x_move (v := .int .i64 (k : Int)) rfl) ?_
       refine r_val rfl (x_mul64 (a := 8) (b := (k : Int)) rfl rfl (by omega)) ?_
       refine r_val rfl (x_sub64 (a := 56) (b := 8 * (k : Int)) rfl rfl (by omega)) ?_
       refine r_val rfl (x_shr (a := IntKind.u64.wrap ((IntKind.u64.wrap (bs.length : Int)) * 2 ^ min (3 : Int).toNat (IntKind.u64).bits)) (b := 56 - (8 * (k : Int))) rfl rfl (by omega)) ?_
       refine r_val rfl (x_as (u := .int .u8 ((lenB bs.length k).toNat : Int)) (x_conv (a := (IntKind.u64.wrap ((IntKind.u64.wrap (bs.length : Int)) * 2 ^ min (3 : Int).toNat (IntKind.u64).bits)) / 2 ^ min (56 - (8 * (k : Int)) : Int).toNat (IntKind.u64).bits) ui_49 ui_5 rfl) (congrArg (Value.int .u8) (lenB_val _ _).symm)) ?_
       obtain ⟨g90, hg90⟩ : ∃ n, w88.heap.size = n := ⟨_, rfl⟩
       have ne_gs_g90 : gs ≠ g90 := by have := hgs.lt; omega
       have ne_gr_g90 : gr ≠ g90 := by have := hgr.lt; omega
       refine r_lit (vs := [.int .u8 ((lenB bs.length k).toNat : Int)]) (l := [.int .u8 ((lenB bs.length k).toNat : Int)]) rfl g90 hg90 ei_33 (.inr ⟨_, rfl⟩) rfl rfl (by intro v hv; simp only [List.mem_cons, List.not_mem_nil, or_false] at hv; rcases hv with rfl <;> rfl) rfl (by decide) ?_
       intro w94 F91 z92 hB93
       have hR95 := hOt2.fr F91 (fun _ _ f => f)
       have hB96 := hgs.fr F91 (fun f => f)
       have hB97 := hgr.fr F91 (fun f => f)
       have := Fw.size
       have := F91.size
       refine r_append rfl rfl ei_33 rfl (by decide) (v := .slice At2 (((rest1 bs ++ List.replicate (padN bs) 0) ++ lenBs bs.length k).length) ct2) (u := .slice (some ⟨g90, 0, none⟩) 1 1) rfl rfl hR95 (Own.of_blk (l := BC [lenB bs.length k]) hB93 1 1 rfl (by decide)).rd (BC_one _) (by unfold maxLen; omega) (by omega) ?_
       intro v98 w103 hO99 F100 hat101 hnil102
       have hfr_F100 := hfr_t2
       have hfr_q104 : ∀ b, (v98).ownBlock = some b → w.heap.size ≤ b := fun b hb => (by rcases hat101 with e | e; (rw [e] at hb; exact hfr_t2 b hb); (rw [e] at hb; injection hb with hb; omega))
       rw [← BC_append] at hO99
       obtain ⟨A105, c106, he107, _⟩ := hO99.rd.form
       subst he107
       refine r_val rfl (x_assign (v := .slice A105 ((((rest1 bs ++ List.replicate (padN bs) 0) ++ lenBs bs.length k).length) + 1) c106) rfl) ?_
       refine RW_nil ?_
       refine inBlk_n ?_
       refine thenW_n ?_
       refine W_region ?_
       refine r_val rfl (x_add64 (a := (k : Int)) (b := 1) rfl rfl (by omega)) ?_
       refine r_val rfl (x_move (v := .int .i64 ((k : Int) + 1)) rfl) ?_
       refine RW_nil ?_
       refine thenW_n ?_
       have hnx : (rest1 bs ++ List.replicate (padN bs) 0) ++ lenBs bs.length (k + 1) = ((rest1 bs ++ List.replicate (padN bs) 0) ++ lenBs bs.length k) ++ [lenB bs.length k] := by simp only [lenBs, List.append_assoc]
       have hl1 : (((rest1 bs ++ List.replicate (padN bs) 0) ++ lenBs bs.length k) ++ [lenB bs.length k]).length = ((rest1 bs ++ List.replicate (padN bs) 0) ++ lenBs bs.length k).length + 1 := List.length_append
       have := Fw.size
       have := F91.size
       have := F100.size
       have hB108 := hB96.fr F100 (fun h => (hR95).type_ne hB96 (by decide) h)
       have hB109 := hB97.fr F100 (fun h => (hR95).type_ne hB97 (by decide) h)
       exact ⟨_, (by omega), k + 1, .slice A105 ((((rest1 bs ++ List.replicate (padN bs) 0) ++ lenBs bs.length k).length) + 1) c106, _, rfl, ((ovl_cons (ovl_cons (ovl_cons (ovl_cons (ovl_cons (ovl_nil _) (by show Value.int .i64 ((k : Int) + 1) = _; rfl)) rfl) rfl) rfl) rfl)).symm, ((((Fr.refl No _).trans Fw (fun j hj h => h.elim)).trans F91 (fun j hj h => h.elim)).trans F100 (fun j hj h => (by have := hfr_F100 _ h; omega))), hB108, hB109, (by rw [hnx, hl1]; exact hO99), hfr_q104, by omega⟩
      ·skip
       refine W_exit ?_
       refine thenW_x ?_
       refine thenW_x ?_
       refine inBlk_xs ?_
       refine thenW_n ?_
       refine W_seq ?_
       refine W_seq ?_
       refine W_region ?_
       refine r_val rfl (x_assign (v := .int .i64 0) rfl) ?_
       refine RW_nil ?_
       refine thenW_n ?_
       refine W_block ?_
       refine W_loop (fun m σ w' => ∃ (k : Nat) (vt2 : Value), ∃ τ : Env, m = (rest3 bs).length / 64 - k ∧ σ = ovl τ [(2, .pointer (some ⟨gr, 0, none⟩)), (3, .pointer (some ⟨gs, 0, none⟩)), (6, vt2), (8, .int .i64 (64 * k : Int))] ∧ Fr No w w' ∧ Blk w' gs 166 ((folds (folds iv8 bs (bs.length / 64)) (rest3 bs) k)).cells ∧ Blk w' gr 54 (DC (List.replicate 32 0)) ∧ Own w' 5 1 vt2 (rest3 bs).length (BC (rest3 bs)) ∧ (∀ b, vt2.ownBlock = some b → w.heap.size ≤ b) ∧ k ≤ (rest3 bs).length / 64) ((rest3 bs).length / 64) ?_ ?_
       obtain rfl : k = 8 := by omega
       have := Fw.size
       · exact ⟨0, .slice At2 (((rest1 bs ++ List.replicate (padN bs) 0) ++ lenBs bs.length 8).length) ct2, _, rfl, ((ovl_cons (ovl_cons (ovl_cons (ovl_cons (ovl_nil _) rfl) rfl) rfl) rfl)).symm, ((Fr.refl No _).trans Fw (fun j hj h => h.elim)), hgs, hgr, hOt2, hfr_t2, Nat.zero_le _⟩
       ·skip
        rintro _ _ w110 ⟨k, vt2, τ, rfl, rfl, Fw, hgs, hgr, hOt2, hfr_t2, hk4⟩
        obtain ⟨At2, ct2, hte2, _⟩ := hOt2.rd.form
        subst hte2
        have := Fw.size
        have hr1 := rest1_len bs
        have hL := rest3_len bs
        refine W_seq ?_
        refine W_seq ?_
        refine W_region ?_
        refine r_val rfl (x_move (v := .int .i64 (64 * k : Int)) rfl) ?_
        refine r_val rfl (x_move (v := .slice At2 ((rest3 bs).length) ct2) rfl) ?_
        refine r_val rfl (x_len (n := (rest3 bs).length) ul_33 rfl) ?_
        refine r_val rfl (x_lss (a := (64 * k : Int)) (b := ((rest3 bs).length : Int)) rfl rfl) ?_
        refine RW_nil ?_
        refine thenW_n ?_
        refine W_condD (p := (64 * k : Int) < ((rest3 bs).length : Int)) rfl rfl (fun hc111 => ?_) (fun hc111 => ?_)
        ·skip
         refine W_skip ?_
         refine thenW_n ?_
         refine W_seq ?_
         refine W_block ?_
         have hR112 := hR.fr Fw (fun _ _ f => f)
         refine d_begin mo 5 (fun x => Fr No w110 x) ?_
         obtain ⟨w114, hw114⟩ : ∃ x, w110.drew = x := ⟨_, rfl⟩
         have F113 : Fr No w110 w114 := by rw [← hw114]; exact Fr.drew _ _
         have D115 : Fr No w110 w114 := Fr.of_No F113
         have sF113 := F113.size
         rw [hw114]
         refine d_load (i := 0) rfl (by kernel_rfl) (np_blk (np_then (np_then (np_blk (np_then np_body))))) rfl (by kernel_rfl) rfl (fun x hS => (x_loadRow (b := gs) (o := 0) (cs := [.int .u32 (((folds (folds iv8 bs (bs.length / 64)) (rest3 bs) k)).a), .int .u32 (((folds (folds iv8 bs (bs.length / 64)) (rest3 bs) k)).b), .int .u32 (((folds (folds iv8 bs (bs.length / 64)) (rest3 bs) k)).c), .int .u32 (((folds (folds iv8 bs (bs.length / 64)) (rest3 bs) k)).d), .int .u32 (((folds (folds iv8 bs (bs.length / 64)) (rest3 bs) k)).e), .int .u32 (((folds (folds iv8 bs (bs.length / 64)) (rest3 bs) k)).f), .int .u32 (((folds (folds iv8 bs (bs.length / 64)) (rest3 bs) k)).g), .int .u32 (((folds (folds iv8 bs (bs.length / 64)) (rest3 bs) k)).h)]) kind_166 size_166 rfl ((hgs.fr hS (fun f => f)).seg (m := 8) rfl))) D115 ?_
         refine d_pure (i := 1) rfl (by kernel_rfl) (np_blk (np_then (np_then (np_blk (np_then np_body))))) rfl (fun _ => (x_move (v := .slice At2 ((rest3 bs).length) ct2) rfl)) (fun _ => D115) ?_
         refine d_pure (i := 2) rfl (by kernel_rfl) (np_blk (np_then (np_then (np_blk (np_then np_body))))) rfl (fun _ => (x_move (v := .int .i64 (64 * k : Int)) rfl)) (fun _ => D115) ?_
         refine d_pure (i := 3) rfl (by kernel_rfl) (np_blk (np_then (np_then (np_blk (np_then np_body))))) rfl (fun _ => (x_sliceLo (l := 64 * k) es_33 rfl rfl (by first | rfl | omega) (by omega))) (fun _ => D115) ?_
         refine d_force (i := 4) rfl (by kernel_rfl) ?_
         have hR116 := hOt2.fr F113 (fun _ _ f => f)
         have hcd : (rest3 bs).length ≤ ct2 := (by obtain ⟨_, _, e, h⟩ := hR116.rd.form; injection e with _ _ e3 <;> omega)
         have hrs := hR116.rd.sub (64 * k) (rest3 bs).length (by omega) (Nat.le_refl _) ct2 hcd
         rw [BC_rest] at hrs
         have := Fw.size
         have := F113.size
         have hKt : Kst w114 := hK.fr (((Fr.refl No _).trans Fw (fun j hj h => h.elim)).trans F113 (fun j hj h => h.elim)) (fun f => f)
         refine r_call rfl (c87 (vs := [.agg #[.int .u32 (((folds (folds iv8 bs (bs.length / 64)) (rest3 bs) k)).a), .int .u32 (((folds (folds iv8 bs (bs.length / 64)) (rest3 bs) k)).b), .int .u32 (((folds (folds iv8 bs (bs.length / 64)) (rest3 bs) k)).c), .int .u32 (((folds (folds iv8 bs (bs.length / 64)) (rest3 bs) k)).d), .int .u32 (((folds (folds iv8 bs (bs.length / 64)) (rest3 bs) k)).e), .int .u32 (((folds (folds iv8 bs (bs.length / 64)) (rest3 bs) k)).f), .int .u32 (((folds (folds iv8 bs (bs.length / 64)) (rest3 bs) k)).g), .int .u32 (((folds (folds iv8 bs (bs.length / 64)) (rest3 bs) k)).h)], .slice (subA 1 (64 * k) ct2 At2) (((rest3 bs).length) - (64 * k)) (ct2 - (64 * k))]) rfl) (take_any (folds (folds iv8 bs (bs.length / 64)) (rest3 bs) k) (subA 1 (64 * k) ct2 At2) ((rest3 bs).length - 64 * k) (ct2 - 64 * k) ((rest3 bs).drop (64 * k)) w114 hKt hrs (by omega)) ?_
         rintro _ w118 ⟨rfl, F117⟩
         refine ⟨_, rfl, ?_⟩
         have sD119 := F117.size
         have D119 : Fr No w110 w118 := D115.trans F117 (fun i hi h => (by first | exact h.elim | omega | (simp only [Value.ownBlock, Option.some.injEq] at h; omega) | (have h2 := h; simp at h2; omega) | exact h))
         refine d_next (fun _ => D119) ?_
         refine d_force (i := 5) rfl (by kernel_rfl) ?_
         have hB120 := hgs.fr F113 (fun f => f)
         have hB121 := hB120.fr F117 (fun f => f)
         refine r_store (v := .agg (takeI (folds (folds iv8 bs (bs.length / 64)) (rest3 bs) k) ((rest3 bs).drop (64 * k))).cells.toArray) (vs := (takeI (folds (folds iv8 bs (bs.length / 64)) (rest3 bs) k) ((rest3 bs).drop (64 * k))).cells) (o := 0) (l' := (takeI (folds (folds iv8 bs (bs.length / 64)) (rest3 bs) k) ((rest3 bs).drop (64 * k))).cells) rfl rfl size_166 rfl rfl rfl rfl hB121 (Nat.le_of_ble_eq_true rfl) rfl ?_
         intro w125 F122 z123 hB124
         refine d_next (fun hx => absurd hx (by decide)) ?_
         refine d_done (by kernel_rfl) ?_
         refine inBlk_n ?_
         refine thenW_n ?_
         refine W_region ?_
         refine r_val rfl (x_move (v := .int .i64 (64 * k : Int)) rfl) ?_
         refine r_val rfl (x_add64 (a := (64 * k : Int)) (b := 64) rfl rfl (by omega)) ?_
         refine r_val rfl (x_assign (v := .int .i64 ((64 * k : Int) + 64)) rfl) ?_
         refine RW_nil ?_
         refine thenW_n ?_
         have hR126 := hR116.fr F117 (fun _ _ f => f)
         have hR127 := hR126.fr F122 (fun b hb h => hOt2.type_ne hgs (by decide) (h ▸ hb))
         have := Fw.size
         have := F113.size
         have := F117.size
         have := F122.size
         have hB128 := hgr.fr F113 (fun f => f)
         have hB129 := hB128.fr F117 (fun f => f)
         have hB130 := hB129.fr F122 ne_gr_gs
         exact ⟨_, (by omega), k + 1, .slice At2 (rest3 bs).length ct2, _, rfl, ((ovl_cons (ovl_cons (ovl_cons (ovl_cons (ovl_nil _) (congrArg (Value.int .i64) (by omega))) rfl) rfl) rfl)).symm, (((((Fr.refl No _).trans Fw (fun j hj h => h.elim)).trans F113 (fun j hj h => h.elim)).trans F117 (fun j hj h => h.elim)).trans F122 (fun j hj h => (by have h2 : j = gs := h; omega))), hB124, hB130, hR127, hfr_t2, by omega⟩
        ·skip
         refine W_exit ?_
         refine thenW_x ?_
         refine thenW_x ?_
         refine inBlk_xs ?_
         refine thenW_n ?_
         refine W_seq ?_
         refine W_region ?_
         obtain rfl : k = (rest3 bs).length / 64 := by omega
         obtain ⟨gd, hgd⟩ : ∃ n, w110.heap.size = n := ⟨_, rfl⟩
         have ne_gs_gd : gs ≠ gd := by have := hgs.lt; omega
         have ne_gr_gd : gr ≠ gd := by have := hgr.lt; omega
         refine r_alloc (l := [.int .u8 0, .int .u8 0, .int .u8 0, .int .u8 0, .int .u8 0, .int .u8 0, .int .u8 0, .int .u8 0, .int .u8 0, .int .u8 0, .int .u8 0, .int .u8 0, .int .u8 0, .int .u8 0, .int .u8 0, .int .u8 0, .int .u8 0, .int .u8 0, .int .u8 0, .int .u8 0, .int .u8 0, .int .u8 0, .int .u8 0, .int .u8 0, .int .u8 0, .int .u8 0, .int .u8 0, .int .u8 0, .int .u8 0, .int .u8 0, .int .u8 0, .int .u8 0]) gd hgd zero_54 rfl ?_
         intro w134 F131 z132 hB133
         refine RW_nil ?_
         refine thenW_n ?_
         refine W_seq ?_
         refine W_seq ?_
         refine W_region ?_
         refine r_val rfl (x_move (v := .int .i64 0) rfl) ?_
         refine RW_nil ?_
         refine thenW_n ?_
         refine W_block ?_
         refine W_loop (fun m σ w' => ∃ k : Nat, ∃ τ : Env, m = 32 - k ∧ σ = ovl τ [(2, .pointer (some ⟨gr, 0, none⟩)), (3, .pointer (some ⟨gs, 0, none⟩)), (9, .pointer (some ⟨gd, 0, none⟩)), (66, .int .i64 (k : Int))] ∧ Fr No w w' ∧ Blk w' gs 166 (last8 bs).cells ∧ Blk w' gr 54 (DC (List.replicate 32 0)) ∧ Blk w' gd 54 (DC (outs (last8 bs) k)) ∧ k ≤ 32) (32) ?_ ?_
         have := Fw.size
         have := F131.size
         have hB135 := hgs.fr F131 (fun f => f)
         have hB136 := hgr.fr F131 (fun f => f)
         · exact ⟨0, _, rfl, ((ovl_cons (ovl_cons (ovl_cons (ovl_cons (ovl_nil _) rfl) rfl) rfl) rfl)).symm, (((Fr.refl No _).trans Fw (fun j hj h => h.elim)).trans F131 (fun j hj h => h.elim)), hB135, hB136, hB133, Nat.zero_le _⟩
         ·skip
          rintro _ _ w137 ⟨k, τ, rfl, rfl, Fw, hgs, hgr, hgd, hk5⟩
          have := Fw.size
          refine W_seq ?_
          refine W_region ?_
          refine r_val rfl (x_lss (a := (k : Int)) (b := 32) rfl rfl) ?_
          refine RW_nil ?_
          refine thenW_n ?_
          refine W_seq ?_
          refine W_condD (p := (k : Int) < 32) rfl rfl (fun hc138 => ?_) (fun hc138 => ?_)
          ·skip
           refine W_skip ?_
           refine thenW_n ?_
           refine W_seq ?_
           refine W_block ?_
           refine W_seq ?_
           refine W_region ?_
           refine r_val rfl (x_move (v := .int .i64 (k : Int)) rfl) ?_
           refine r_val rfl (x_assign (v := .int .i64 (k : Int)) rfl) ?_
           refine RW_nil ?_
           refine thenW_n ?_
           refine W_region ?_
           refine r_val rfl (x_move (v := .int .i64 (k : Int)) rfl) ?_
           refine r_val rfl (x_move (v := .int .i64 (k : Int)) rfl) ?_
           refine r_val rfl (x_quo64 (a := (k : Int)) (b := 4) rfl rfl (by omega) (by omega)) ?_
           refine r_val rfl (x_indexArr (b := gs) (o := 0) (j := (k / 4)) as_166 rfl rfl (by omega) (by omega)) ?_
           refine r_val rfl (x_load (v := .int .u32 ((last8 bs).at_ (k / 4))) kind_164 rfl (by rw [Nat.mul_one, Nat.zero_add]; exact hgs.cell (S8_at _ _ (by omega)))) ?_
           refine r_val rfl (x_move (v := .int .i64 (k : Int)) rfl) ?_
           refine r_val rfl (x_rem64 (a := (k : Int)) (b := 4) rfl rfl (by omega) (by omega)) ?_
           refine r_val rfl (x_mul64 (a := 8) (b := (k : Int) % 4) rfl rfl (by omega)) ?_
           refine r_val rfl (x_sub64 (a := 24) (b := 8 * ((k : Int) % 4)) rfl rfl (by omega)) ?_
           refine r_val rfl (x_shr (a := (last8 bs).at_ (k / 4)) (b := 24 - (8 * ((k : Int) % 4))) rfl rfl (by omega)) ?_
           refine r_val rfl (x_as (u := .int .u8 (outV (last8 bs) k)) (x_conv (a := ((last8 bs).at_ (k / 4)) / 2 ^ min (24 - (8 * ((k : Int) % 4)) : Int).toNat (IntKind.u32).bits) ui_164 ui_5 rfl) rfl) ?_
           refine r_val rfl (x_indexArr (b := gd) (o := 0) (j := k) as_54 rfl rfl rfl (by omega)) ?_
           refine r_store (v := .int .u8 (outV (last8 bs) k)) (vs := [.int .u8 (outV (last8 bs) k)]) (o := k) (l' := DC (outs (last8 bs) (k + 1))) rfl rfl size_5 (by show Value.pointer (some ⟨gd, 0 + k * 1, none⟩) = _; rw [Nat.mul_one, Nat.zero_add]) rfl rfl rfl hgd (by rw [DC_length]; show k + 1 ≤ _; rw [outs_length]; omega) (DC_set _ _ _ (by rw [outs_length]; omega)) ?_
           intro w142 F139 z140 hB141
           refine RW_nil ?_
           refine inBlk_n ?_
           refine thenW_n ?_
           refine W_region ?_
           refine r_val rfl (x_add64 (a := (k : Int)) (b := 1) rfl rfl (by omega)) ?_
           refine r_val rfl (x_move (v := .int .i64 ((k : Int) + 1)) rfl) ?_
           refine RW_nil ?_
           refine thenW_n ?_
           have := Fw.size
           have := F139.size
           have hB143 := hgs.fr F139 ne_gs_gd
           have hB144 := hgr.fr F139 ne_gr_gd
           exact ⟨_, (by omega), k + 1, _, rfl, ((ovl_cons (ovl_cons (ovl_cons (ovl_cons (ovl_nil _) (by show Value.int .i64 ((k : Int) + 1) = _; rfl)) rfl) rfl) rfl)).symm, (((Fr.refl No _).trans Fw (fun j hj h => h.elim)).trans F139 (fun j hj h => (by have h2 : j = gd := h; omega))), hB143, hB144, hB141, by omega⟩
          ·skip
           refine W_exit ?_
           refine thenW_x ?_
           refine thenW_x ?_
           refine inBlk_xs ?_
           refine thenW_n ?_
           refine W_seq ?_
           refine W_region ?_
           obtain rfl : k = 32 := by omega
           refine r_val rfl (x_loadBlk (b := gd) (l := DC (sumI bs)) kind_54 (by rw [DC_length, sumI, outs_length]; exact size_54) rfl hgd) ?_
           refine r_store (v := .agg (DC (sumI bs)).toArray) (vs := DC (sumI bs)) (o := 0) (l' := DC (sumI bs)) rfl rfl (by rw [DC_length, sumI, outs_length]; exact size_54) rfl rfl rfl (DC_one _) hgr (by rw [DC_length, DC_length, sumI, outs_length]; exact Nat.le_refl 32) (store_all (by rw [DC_length, DC_length, sumI, outs_length]; rfl)) ?_
           intro w148 F145 z146 hB147
           refine RW_nil ?_
           refine thenW_n ?_
           refine W_ret ?_
           have := Fw.size
           have := F145.size
           refine q_retC rfl rfl rfl kind_54 (by rw [DC_length, sumI, outs_length]; exact size_54) hB147 ?_
           exact ⟨rfl, (((Fr.refl No _).trans Fw (fun j hj h => h.elim)).trans F145 (fun j hj h => (by have h2 : j = gr := h; omega)))⟩

end Go.Proofs.YthomkocjjkmnkaaDoor
