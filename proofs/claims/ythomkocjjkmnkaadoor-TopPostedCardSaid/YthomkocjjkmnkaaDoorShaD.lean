import Derived.Test.YthomkocjjkmnkaaDoorShaC
import Derived.Test.YthomkocjjkmnkaaDoorU33
/- PRINTED by gen.py (wip/tools) from the plan wip/plans: walks. -/
namespace Go.Proofs.YthomkocjjkmnkaaDoor
open Go Go.RowKit
set_option maxRecDepth 100000
set_option linter.unusedVariables false
def hexS : List UInt8 := [48, 49, 50, 51, 52, 53, 54, 55, 56, 57, 97, 98, 99, 100, 101, 102]
def hexB (k : Nat) : UInt8 := hexS.getD k 0
theorem hexS_at (k : Nat) (h : k < 16) : (⟨#[48, 49, 50, 51, 52, 53, 54, 55, 56, 57, 97, 98, 99, 100, 101, 102]⟩ : ByteArray).data[k]? = some (hexB k) := by
  have := getD_at hexS k 0 h
  rw [← List.getElem?_toArray] at this
  exact this
/-- A digest's text, after k bytes. -/
def txt (xs : List Int) : Nat → List UInt8
  | 0 => []
  | k + 1 => txt xs k ++ [hexB (xs.getD k 0 / 16).toNat, hexB (xs.getD k 0 % 16).toNat]
theorem txt_length (xs : List Int) : ∀ k, (txt xs k).length = 2 * k
  | 0 => rfl
  | k + 1 => by simp [txt, txt_length xs k]; omega
theorem outs_in (s : S8) : ∀ i, ∀ x ∈ outs s i, 0 ≤ x ∧ x < 256
  | 0, x, h => by simp [outs] at h; omega
  | i + 1, x, h => by
    rcases List.mem_or_eq_of_mem_set h with h | rfl
    · exact outs_in s i x h
    · unfold outV; rw [IntKind.wrap_u8]; omega
theorem sumI_in (bs : List UInt8) : ∀ k, k < 32 → 0 ≤ (sumI bs).getD k 0 ∧ (sumI bs).getD k 0 < 256 := fun k hk => outs_in _ 32 _ (getD_mem (by rw [outs_length]; exact hk))
theorem sumI_length (bs : List UInt8) : (sumI bs).length = 32 := outs_length _ 32
theorem DC_get (xs : List Int) (k : Nat) (h : k < xs.length) : (DC xs)[k]? = some (.int .u8 (xs.getD k 0)) := map_getD _ xs k 0 h
theorem shr4 (x : Int) : x / 2 ^ min (4 : Int).toNat (IntKind.u8).bits = x / 16 := rfl
def nextV (s : Int) : Int :=
  let z := IntKind.u64.wrap (s + 11400714819323198485)
  let y := IntKind.u64.wrap (bits .xor .u64 z (z / 2 ^ min (30 : Int).toNat (IntKind.u64).bits) * 13787848793156543929)
  let x := IntKind.u64.wrap (bits .xor .u64 y (y / 2 ^ min (27 : Int).toNat (IntKind.u64).bits) * 10723151780598845931)
  bits .xor .u64 x (x / 2 ^ min (31 : Int).toNat (IntKind.u64).bits)
theorem next0 : nextV 0 = 16294208416658607535 := by kernel_rfl
theorem extract_strB (bs : List UInt8) (h : Nat) : (strB bs).extract 0 h = strB (bs.take h) := by
  apply ByteArray.ext
  rw [ByteArray.data_extract]
  simp [strB]
set_option maxRecDepth 1000000 in
theorem sum_nil : (txt (sumI []) 32).take 8 = [101, 51, 98, 48, 99, 52, 52, 50] := by kernel_rfl

theorem text_any (xs : List Int) (w : World) (hl : xs.length = 32) (hx : ∀ k, k < 32 → 0 ≤ xs.getD k 0 ∧ xs.getD k 0 < 256) :
    Calls Tryd.prog 72 #[.agg (DC xs).toArray] w fun e w' => e = .returned (.string (strB (txt xs 32))) ∧ Fr No w w' := by
 refine calls_of_W Tryd.func72 rfl 23 rfl (Nat.le_of_ble_eq_true rfl) ?_
 refine W_seq ?_
 refine W_region ?_
 obtain ⟨gb, hgb⟩ : ∃ n, w.heap.size = n := ⟨_, rfl⟩
 refine r_box (v := .agg (DC xs).toArray) (l := DC xs) rfl gb hgb rfl rfl ?_
 intro w4 F1 z2 hB3
 refine r_val rfl (x_assign (v := .string ⟨#[]⟩) rfl) ?_
 refine RW_nil ?_
 refine thenW_n ?_
 refine W_seq ?_
 refine W_region ?_
 obtain ⟨gm, hgm⟩ : ∃ n, w4.heap.size = n := ⟨_, rfl⟩
 refine r_makeSlice (l := 0) (c := 64) rfl rfl ei_33 rfl rfl rfl rfl (by decide) (by decide) (by decide) gm hgm ?_
 intro w10 zs8 hz9 F5 z6 hB7
 have := F1.size
 have := F5.size
 have hOm : Own w10 5 1 (.slice (some ⟨gm, 0, none⟩) 0 64) 0 [] := Own.of_blk' hB7 (by rw [hz9]) (Nat.zero_le _) (by decide) rfl
 have hfr_m : ∀ b, (Value.slice (some ⟨gm, 0, none⟩) 0 64).ownBlock = some b → w.heap.size ≤ b := fun b hb => (by injection hb with hb; have h3 : gm = b := hb; omega)
 refine r_val rfl (x_assign (v := .slice (some ⟨gm, 0, none⟩) 0 64) rfl) ?_
 refine RW_nil ?_
 refine thenW_n ?_
 refine W_seq ?_
 refine W_seq ?_
 refine W_region ?_
 have hB11 := hB3.fr F5 (fun f => f)
 refine r_val rfl (x_loadBlk (b := gb) (l := DC xs) kind_54 (by rw [DC_length, hl]; exact size_54) rfl hB11) ?_
 refine r_val rfl (x_move (v := .int .i64 0) rfl) ?_
 refine RW_nil ?_
 refine thenW_n ?_
 refine W_block ?_
 refine W_loop (fun m σ w' => ∃ (k : Nat) (vt : Value), ∃ τ : Env, m = 32 - k ∧ σ = ovl τ [(3, vt), (7, .agg (DC xs).toArray), (8, .int .i64 (k : Int))] ∧ Fr No w w' ∧ Own w' 5 1 vt (txt xs k).length (BC (txt xs k)) ∧ (∀ b, vt.ownBlock = some b → w.heap.size ≤ b) ∧ k ≤ 32) (32) ?_ ?_
 have := F1.size
 have := F5.size
 · exact ⟨0, .slice (some ⟨gm, 0, none⟩) 0 64, _, rfl, ((ovl_cons (ovl_cons (ovl_cons (ovl_nil _) rfl) rfl) rfl)).symm, (((Fr.refl No _).trans F1 (fun j hj h => h.elim)).trans F5 (fun j hj h => h.elim)), hOm, hfr_m, Nat.zero_le _⟩
 ·skip
  rintro _ _ w12 ⟨k, vt, τ, rfl, rfl, Fw, hOt, hfr_t, hk⟩
  obtain ⟨At, ct, hte, _⟩ := hOt.rd.form
  subst hte
  have := Fw.size
  have htl := txt_length xs k
  refine W_seq ?_
  refine W_region ?_
  refine r_val rfl (x_lss (a := (k : Int)) (b := 32) rfl rfl) ?_
  refine RW_nil ?_
  refine thenW_n ?_
  refine W_seq ?_
  refine W_condD (p := (k : Int) < 32) rfl rfl (fun hc13 => ?_) (fun hc13 => ?_)
  ·skip
   refine W_skip ?_
   refine thenW_n ?_
   refine W_seq ?_
   refine W_block ?_
   refine W_seq ?_
   refine W_region ?_
   refine r_val rfl (x_indexV (n := 32) (e := 5) (l := DC xs) (j := k) (by kernel_rfl) (by kernel_rfl) (by kernel_rfl) rfl rfl rfl (by omega) (DC_get _ _ (by omega))) ?_
   refine r_val rfl (x_assign (v := .int .u8 (xs.getD k 0)) rfl) ?_
   refine RW_nil ?_
   refine thenW_n ?_
   refine d_begin mo 8 (fun x => Fr No w12 x) ?_
   obtain ⟨w15, hw15⟩ : ∃ x, w12.drew = x := ⟨_, rfl⟩
   have F14 : Fr No w12 w15 := by rw [← hw15]; exact Fr.drew _ _
   have D16 : Fr No w12 w15 := Fr.of_No F14
   have sF14 := F14.size
   rw [hw15]
   refine d_pure (i := 0) rfl (by kernel_rfl) (np_blk (np_then (np_then (np_blk (np_then np_body))))) rfl (fun _ => (x_move (v := .slice At ((txt xs k).length) ct) rfl)) (fun _ => D16) ?_
   refine d_pure (i := 1) rfl (by kernel_rfl) (np_blk (np_then (np_then (np_blk (np_then np_body))))) rfl (fun _ => (x_move (v := .int .u8 (xs.getD k 0)) rfl)) (fun _ => D16) ?_
   refine d_pure (i := 2) rfl (by kernel_rfl) (np_blk (np_then (np_then (np_blk (np_then np_body))))) rfl (fun _ => (x_as (u := .int .u8 (xs.getD k 0 / 16)) (x_shr (a := xs.getD k 0) (b := 4) rfl rfl (by omega)) rfl)) (fun _ => D16) ?_
   refine d_pure (i := 3) rfl (by kernel_rfl) (np_blk (np_then (np_then (np_blk (np_then np_body))))) rfl (fun _ => (x_indexS (j := (xs.getD k 0 / 16).toNat) (b := hexB (xs.getD k 0 / 16).toNat) us_9 rfl rfl (by have := (hx k (by omega)); omega) (hexS_at _ (by have := (hx k (by omega)); omega)))) (fun _ => D16) ?_
   refine d_pure (i := 4) rfl (by kernel_rfl) (np_blk (np_then (np_then (np_blk (np_then np_body))))) rfl (fun _ => (x_move (v := .int .u8 (xs.getD k 0)) rfl)) (fun _ => D16) ?_
   refine d_pure (i := 5) rfl (by kernel_rfl) (np_blk (np_then (np_then (np_blk (np_then np_body))))) rfl (fun _ => (x_as (u := .int .u8 (xs.getD k 0 % 16)) (x_bits (op := .and) (a := xs.getD k 0) (b := 15) rfl rfl rfl) (congrArg (Value.int .u8) (and15 _ (hx k (by omega)).1 (hx k (by omega)).2)))) (fun _ => D16) ?_
   refine d_pure (i := 6) rfl (by kernel_rfl) (np_blk (np_then (np_then (np_blk (np_then np_body))))) rfl (fun _ => (x_indexS (j := (xs.getD k 0 % 16).toNat) (b := hexB (xs.getD k 0 % 16).toNat) us_9 rfl rfl (by have := (hx k (by omega)); omega) (hexS_at _ (by have := (hx k (by omega)); omega)))) (fun _ => D16) ?_
   refine d_force (i := 7) rfl (by kernel_rfl) ?_
   obtain ⟨g17, hg17⟩ : ∃ n, w15.heap.size = n := ⟨_, rfl⟩
   refine r_lit (vs := [.int .u8 ((hexB (xs.getD k 0 / 16).toNat).toNat : Int), .int .u8 ((hexB (xs.getD k 0 % 16).toNat).toNat : Int)]) (l := [.int .u8 ((hexB (xs.getD k 0 / 16).toNat).toNat : Int), .int .u8 ((hexB (xs.getD k 0 % 16).toNat).toNat : Int)]) rfl g17 hg17 ei_33 (.inr ⟨_, rfl⟩) rfl rfl (by intro v hv; simp only [List.mem_cons, List.not_mem_nil, or_false] at hv; rcases hv with rfl | rfl <;> rfl) rfl (by decide) ?_
   intro w21 F18 z19 hB20
   have sD22 := F18.size
   have D22 : Fr No w12 w21 := D16.trans F18 (fun i hi h => (by first | exact h.elim | omega | (simp only [Value.ownBlock, Option.some.injEq] at h; omega) | (have h2 := h; simp at h2; omega) | exact h))
   refine d_next (fun _ => D22) ?_
   refine d_force (i := 8) rfl (by kernel_rfl) ?_
   have hR23 := hOt.fr F14 (fun _ _ f => f)
   have hR24 := hR23.fr F18 (fun _ _ f => f)
   have := Fw.size
   have := F14.size
   have := F18.size
   refine r_append rfl rfl ei_33 rfl (by decide) (v := .slice At ((txt xs k).length) ct) (u := .slice (some ⟨g17, 0, none⟩) 2 2) rfl rfl hR24 (Own.of_blk (l := BC [hexB (xs.getD k 0 / 16).toNat, hexB (xs.getD k 0 % 16).toNat]) hB20 1 2 rfl (by decide)).rd (BC_one _) (by unfold maxLen; omega) (by omega) ?_
   intro v25 w30 hO26 F27 hat28 hnil29
   have hfr_F27 := hfr_t
   have hfr_q31 : ∀ b, (v25).ownBlock = some b → w.heap.size ≤ b := fun b hb => (by rcases hat28 with e | e; (rw [e] at hb; exact hfr_t b hb); (rw [e] at hb; injection hb with hb; omega))
   rw [← BC_append] at hO26
   obtain ⟨A32, c33, he34, _⟩ := hO26.rd.form
   subst he34
   refine d_next (fun hx => absurd hx (by decide)) ?_
   refine d_pure (i := 9) rfl (by kernel_rfl) (np_blk (np_then (np_then (np_blk (np_then np_body))))) rfl (fun _ => (x_assign (v := .slice A32 ((txt xs k).length + 2) c33) rfl)) (fun hx => absurd hx (by decide)) ?_
   refine d_done (by kernel_rfl) ?_
   refine inBlk_n ?_
   refine thenW_n ?_
   refine W_region ?_
   refine r_val rfl (x_add64 (a := (k : Int)) (b := 1) rfl rfl (by omega)) ?_
   refine r_val rfl (x_move (v := .int .i64 ((k : Int) + 1)) rfl) ?_
   refine RW_nil ?_
   refine thenW_n ?_
   have := Fw.size
   have := F14.size
   have := F18.size
   have := F27.size
   exact ⟨_, (by omega), k + 1, .slice A32 ((txt xs k).length + 2) c33, _, rfl, ((ovl_cons (ovl_cons (ovl_cons (ovl_nil _) (by show Value.int .i64 ((k : Int) + 1) = _; rfl)) rfl) rfl)).symm, (((((Fr.refl No _).trans Fw (fun j hj h => h.elim)).trans F14 (fun j hj h => h.elim)).trans F18 (fun j hj h => h.elim)).trans F27 (fun j hj h => (by have := hfr_F27 _ h; omega))), (by rw [show (txt xs (k + 1)).length = (txt xs k).length + 2 from (by rw [txt_length, txt_length]; omega)]; exact hO26), hfr_q31, by omega⟩
  ·skip
   refine W_exit ?_
   refine thenW_x ?_
   refine thenW_x ?_
   refine inBlk_xs ?_
   refine thenW_n ?_
   refine W_seq ?_
   refine W_region ?_
   refine r_val rfl (x_move (v := .slice At ((txt xs k).length) ct) rfl) ?_
   obtain rfl : k = 32 := by omega
   refine r_val rfl (x_string (bs := txt xs 32) ul_33 ui_5 us_9 rfl hOt.rd) ?_
   refine r_val rfl (x_assign (v := .string (strB (txt xs 32))) rfl) ?_
   refine RW_nil ?_
   refine thenW_n ?_
   refine W_ret ?_
   have := Fw.size
   refine q_ret1 (v := .string (strB (txt xs 32))) rfl rfl rfl ?_
   exact ⟨rfl, ((Fr.refl No _).trans Fw (fun j hj h => h.elim))⟩

theorem drawNew (x : Int) (w : World) :
    Calls Tryd.prog 73 #[.int .u64 x] w fun e w' => ∃ g, e = .returned (.pointer (some ⟨g, 0, none⟩)) ∧ w.heap.size ≤ g ∧ Blk w' g 242 [.int .u64 x] ∧ Fr No w w' := by
 refine calls_of_W Tryd.func73 rfl 6 rfl (Nat.le_of_ble_eq_true rfl) ?_
 refine W_seq ?_
 refine W_region ?_
 refine r_val rfl (x_assign (v := .pointer none) rfl) ?_
 refine RW_nil ?_
 refine thenW_n ?_
 refine W_seq ?_
 refine W_region ?_
 refine r_val rfl (x_move (v := .int .u64 x) rfl) ?_
 refine r_val rfl (x_build (zl := [.int .u64 0]) (ps := [(0, .int .u64 x)]) (l := [.int .u64 x]) pl_242 zero_242 rfl rfl rfl) ?_
 obtain ⟨g1, hg1⟩ : ∃ n, w.heap.size = n := ⟨_, rfl⟩
 refine r_box (v := .agg #[.int .u64 x]) (l := [.int .u64 x]) rfl g1 hg1 rfl rfl ?_
 intro w5 F2 z3 hB4
 refine r_val rfl (x_assign (v := .pointer (some ⟨g1, 0, none⟩)) rfl) ?_
 refine RW_nil ?_
 refine thenW_n ?_
 refine W_ret ?_
 have := F2.size
 refine q_ret1 (v := .pointer (some ⟨g1, 0, none⟩)) rfl rfl rfl ?_
 exact ⟨_, rfl, by omega, hB4, ((Fr.refl No _).trans F2 (fun j hj h => h.elim))⟩

theorem drawNext (g : Nat) (x : Int) (w : World) (hb : Blk w g 242 [.int .u64 x]) :
    Calls Tryd.prog 74 #[.pointer (some ⟨g, 0, none⟩)] w fun e w' => e = .returned (.int .u64 (nextV x)) ∧ Blk w' g 242 [.int .u64 (IntKind.u64.wrap (x + 11400714819323198485))] ∧ Fr (fun b => b = g) w w' := by
 refine calls_of_W Tryd.func74 rfl 29 rfl (Nat.le_of_ble_eq_true rfl) ?_
 refine W_seq ?_
 refine W_region ?_
 refine r_val rfl (x_assign (v := .int .u64 0) rfl) ?_
 refine RW_nil ?_
 refine thenW_n ?_
 refine W_seq ?_
 refine W_region ?_
 refine r_val rfl (x_move (v := .pointer (some ⟨g, 0, none⟩)) rfl) ?_
 refine r_val rfl (x_nilCheck rfl) ?_
 refine r_val rfl (x_fieldAddr (b := g) (o := 0) fo_242_0 rfl) ?_
 refine r_val rfl (x_load (v := .int .u64 x) kind_49 rfl (hb.cell rfl)) ?_
 refine r_val rfl (x_add (a := x) (b := 11400714819323198485) rfl rfl) ?_
 refine r_val rfl (x_nilCheck rfl) ?_
 refine r_val rfl (x_fieldAddr (b := g) (o := 0) fo_242_0 rfl) ?_
 refine r_store (v := .int .u64 (IntKind.u64.wrap (x + 11400714819323198485))) (vs := [.int .u64 (IntKind.u64.wrap (x + 11400714819323198485))]) (l' := [.int .u64 (IntKind.u64.wrap (x + 11400714819323198485))]) rfl rfl size_49 rfl rfl rfl rfl hb (Nat.le_of_ble_eq_true rfl) rfl ?_
 intro w4 F1 z2 hB3
 refine RW_nil ?_
 refine thenW_n ?_
 refine W_seq ?_
 refine W_region ?_
 refine r_val rfl (x_move (v := .pointer (some ⟨g, 0, none⟩)) rfl) ?_
 refine r_val rfl (x_nilCheck rfl) ?_
 refine r_val rfl (x_fieldAddr (b := g) (o := 0) fo_242_0 rfl) ?_
 refine r_val rfl (x_load (v := .int .u64 (IntKind.u64.wrap (x + 11400714819323198485))) kind_49 rfl (hB3.cell rfl)) ?_
 refine r_val rfl (x_assign (v := .int .u64 (IntKind.u64.wrap (x + 11400714819323198485))) rfl) ?_
 refine RW_nil ?_
 refine thenW_n ?_
 refine W_seq ?_
 refine W_region ?_
 refine r_val rfl (x_move (v := .int .u64 (IntKind.u64.wrap (x + 11400714819323198485))) rfl) ?_
 refine r_val rfl (x_move (v := .int .u64 (IntKind.u64.wrap (x + 11400714819323198485))) rfl) ?_
 refine r_val rfl (x_shr (a := IntKind.u64.wrap (x + 11400714819323198485)) (b := 30) rfl rfl (by omega)) ?_
 refine r_val rfl (x_bits (op := .xor) (a := IntKind.u64.wrap (x + 11400714819323198485)) (b := (IntKind.u64.wrap (x + 11400714819323198485)) / 2 ^ min (30 : Int).toNat (IntKind.u64).bits) rfl rfl rfl) ?_
 refine r_val rfl (x_mul (a := bits .xor .u64 (IntKind.u64.wrap (x + 11400714819323198485)) ((IntKind.u64.wrap (x + 11400714819323198485)) / 2 ^ min (30 : Int).toNat (IntKind.u64).bits)) (b := 13787848793156543929) rfl rfl) ?_
 refine r_val rfl (x_assign (v := .int .u64 (IntKind.u64.wrap ((bits .xor .u64 (IntKind.u64.wrap (x + 11400714819323198485)) ((IntKind.u64.wrap (x + 11400714819323198485)) / 2 ^ min (30 : Int).toNat (IntKind.u64).bits)) * 13787848793156543929))) rfl) ?_
 refine RW_nil ?_
 refine thenW_n ?_
 refine W_seq ?_
 refine W_region ?_
 refine r_val rfl (x_move (v := .int .u64 (IntKind.u64.wrap ((bits .xor .u64 (IntKind.u64.wrap (x + 11400714819323198485)) ((IntKind.u64.wrap (x + 11400714819323198485)) / 2 ^ min (30 : Int).toNat (IntKind.u64).bits)) * 13787848793156543929))) rfl) ?_
 refine r_val rfl (x_move (v := .int .u64 (IntKind.u64.wrap ((bits .xor .u64 (IntKind.u64.wrap (x + 11400714819323198485)) ((IntKind.u64.wrap (x + 11400714819323198485)) / 2 ^ min (30 : Int).toNat (IntKind.u64).bits)) * 13787848793156543929))) rfl) ?_
 refine r_val rfl (x_shr (a := IntKind.u64.wrap ((bits .xor .u64 (IntKind.u64.wrap (x + 11400714819323198485)) ((IntKind.u64.wrap (x + 11400714819323198485)) / 2 ^ min (30 : Int).toNat (IntKind.u64).bits)) * 13787848793156543929)) (b := 27) rfl rfl (by omega)) ?_
 refine r_val rfl (x_bits (op := .xor) (a := IntKind.u64.wrap ((bits .xor .u64 (IntKind.u64.wrap (x + 11400714819323198485)) ((IntKind.u64.wrap (x + 11400714819323198485)) / 2 ^ min (30 : Int).toNat (IntKind.u64).bits)) * 13787848793156543929)) (b := (IntKind.u64.wrap ((bits .xor .u64 (IntKind.u64.wrap (x + 11400714819323198485)) ((IntKind.u64.wrap (x + 11400714819323198485)) / 2 ^ min (30 : Int).toNat (IntKind.u64).bits)) * 13787848793156543929)) / 2 ^ min (27 : Int).toNat (IntKind.u64).bits) rfl rfl rfl) ?_
 refine r_val rfl (x_mul (a := bits .xor .u64 (IntKind.u64.wrap ((bits .xor .u64 (IntKind.u64.wrap (x + 11400714819323198485)) ((IntKind.u64.wrap (x + 11400714819323198485)) / 2 ^ min (30 : Int).toNat (IntKind.u64).bits)) * 13787848793156543929)) ((IntKind.u64.wrap ((bits .xor .u64 (IntKind.u64.wrap (x + 11400714819323198485)) ((IntKind.u64.wrap (x + 11400714819323198485)) / 2 ^ min (30 : Int).toNat (IntKind.u64).bits)) * 13787848793156543929)) / 2 ^ min (27 : Int).toNat (IntKind.u64).bits)) (b := 10723151780598845931) rfl rfl) ?_
 refine r_val rfl (x_assign (v := .int .u64 (IntKind.u64.wrap ((bits .xor .u64 (IntKind.u64.wrap ((bits .xor .u64 (IntKind.u64.wrap (x + 11400714819323198485)) ((IntKind.u64.wrap (x + 11400714819323198485)) / 2 ^ min (30 : Int).toNat (IntKind.u64).bits)) * 13787848793156543929)) ((IntKind.u64.wrap ((bits .xor .u64 (IntKind.u64.wrap (x + 11400714819323198485)) ((IntKind.u64.wrap (x + 11400714819323198485)) / 2 ^ min (30 : Int).toNat (IntKind.u64).bits)) * 13787848793156543929)) / 2 ^ min (27 : Int).toNat (IntKind.u64).bits)) * 10723151780598845931))) rfl) ?_
 refine RW_nil ?_
 refine thenW_n ?_
 refine W_seq ?_
 refine W_region ?_
 refine r_val rfl (x_move (v := .int .u64 (IntKind.u64.wrap ((bits .xor .u64 (IntKind.u64.wrap ((bits .xor .u64 (IntKind.u64.wrap (x + 11400714819323198485)) ((IntKind.u64.wrap (x + 11400714819323198485)) / 2 ^ min (30 : Int).toNat (IntKind.u64).bits)) * 13787848793156543929)) ((IntKind.u64.wrap ((bits .xor .u64 (IntKind.u64.wrap (x + 11400714819323198485)) ((IntKind.u64.wrap (x + 11400714819323198485)) / 2 ^ min (30 : Int).toNat (IntKind.u64).bits)) * 13787848793156543929)) / 2 ^ min (27 : Int).toNat (IntKind.u64).bits)) * 10723151780598845931))) rfl) ?_
 refine r_val rfl (x_move (v := .int .u64 (IntKind.u64.wrap ((bits .xor .u64 (IntKind.u64.wrap ((bits .xor .u64 (IntKind.u64.wrap (x + 11400714819323198485)) ((IntKind.u64.wrap (x + 11400714819323198485)) / 2 ^ min (30 : Int).toNat (IntKind.u64).bits)) * 13787848793156543929)) ((IntKind.u64.wrap ((bits .xor .u64 (IntKind.u64.wrap (x + 11400714819323198485)) ((IntKind.u64.wrap (x + 11400714819323198485)) / 2 ^ min (30 : Int).toNat (IntKind.u64).bits)) * 13787848793156543929)) / 2 ^ min (27 : Int).toNat (IntKind.u64).bits)) * 10723151780598845931))) rfl) ?_
 refine r_val rfl (x_shr (a := IntKind.u64.wrap ((bits .xor .u64 (IntKind.u64.wrap ((bits .xor .u64 (IntKind.u64.wrap (x + 11400714819323198485)) ((IntKind.u64.wrap (x + 11400714819323198485)) / 2 ^ min (30 : Int).toNat (IntKind.u64).bits)) * 13787848793156543929)) ((IntKind.u64.wrap ((bits .xor .u64 (IntKind.u64.wrap (x + 11400714819323198485)) ((IntKind.u64.wrap (x + 11400714819323198485)) / 2 ^ min (30 : Int).toNat (IntKind.u64).bits)) * 13787848793156543929)) / 2 ^ min (27 : Int).toNat (IntKind.u64).bits)) * 10723151780598845931)) (b := 31) rfl rfl (by omega)) ?_
 refine r_val rfl (x_bits (op := .xor) (a := IntKind.u64.wrap ((bits .xor .u64 (IntKind.u64.wrap ((bits .xor .u64 (IntKind.u64.wrap (x + 11400714819323198485)) ((IntKind.u64.wrap (x + 11400714819323198485)) / 2 ^ min (30 : Int).toNat (IntKind.u64).bits)) * 13787848793156543929)) ((IntKind.u64.wrap ((bits .xor .u64 (IntKind.u64.wrap (x + 11400714819323198485)) ((IntKind.u64.wrap (x + 11400714819323198485)) / 2 ^ min (30 : Int).toNat (IntKind.u64).bits)) * 13787848793156543929)) / 2 ^ min (27 : Int).toNat (IntKind.u64).bits)) * 10723151780598845931)) (b := (IntKind.u64.wrap ((bits .xor .u64 (IntKind.u64.wrap ((bits .xor .u64 (IntKind.u64.wrap (x + 11400714819323198485)) ((IntKind.u64.wrap (x + 11400714819323198485)) / 2 ^ min (30 : Int).toNat (IntKind.u64).bits)) * 13787848793156543929)) ((IntKind.u64.wrap ((bits .xor .u64 (IntKind.u64.wrap (x + 11400714819323198485)) ((IntKind.u64.wrap (x + 11400714819323198485)) / 2 ^ min (30 : Int).toNat (IntKind.u64).bits)) * 13787848793156543929)) / 2 ^ min (27 : Int).toNat (IntKind.u64).bits)) * 10723151780598845931)) / 2 ^ min (31 : Int).toNat (IntKind.u64).bits) rfl rfl rfl) ?_
 refine r_val rfl (x_assign (v := .int .u64 (bits .xor .u64 (IntKind.u64.wrap ((bits .xor .u64 (IntKind.u64.wrap ((bits .xor .u64 (IntKind.u64.wrap (x + 11400714819323198485)) ((IntKind.u64.wrap (x + 11400714819323198485)) / 2 ^ min (30 : Int).toNat (IntKind.u64).bits)) * 13787848793156543929)) ((IntKind.u64.wrap ((bits .xor .u64 (IntKind.u64.wrap (x + 11400714819323198485)) ((IntKind.u64.wrap (x + 11400714819323198485)) / 2 ^ min (30 : Int).toNat (IntKind.u64).bits)) * 13787848793156543929)) / 2 ^ min (27 : Int).toNat (IntKind.u64).bits)) * 10723151780598845931)) ((IntKind.u64.wrap ((bits .xor .u64 (IntKind.u64.wrap ((bits .xor .u64 (IntKind.u64.wrap (x + 11400714819323198485)) ((IntKind.u64.wrap (x + 11400714819323198485)) / 2 ^ min (30 : Int).toNat (IntKind.u64).bits)) * 13787848793156543929)) ((IntKind.u64.wrap ((bits .xor .u64 (IntKind.u64.wrap (x + 11400714819323198485)) ((IntKind.u64.wrap (x + 11400714819323198485)) / 2 ^ min (30 : Int).toNat (IntKind.u64).bits)) * 13787848793156543929)) / 2 ^ min (27 : Int).toNat (IntKind.u64).bits)) * 10723151780598845931)) / 2 ^ min (31 : Int).toNat (IntKind.u64).bits))) rfl) ?_
 refine RW_nil ?_
 refine thenW_n ?_
 refine W_ret ?_
 have := F1.size
 refine q_ret1 (v := .int .u64 (bits .xor .u64 (IntKind.u64.wrap ((bits .xor .u64 (IntKind.u64.wrap ((bits .xor .u64 (IntKind.u64.wrap (x + 11400714819323198485)) ((IntKind.u64.wrap (x + 11400714819323198485)) / 2 ^ min (30 : Int).toNat (IntKind.u64).bits)) * 13787848793156543929)) ((IntKind.u64.wrap ((bits .xor .u64 (IntKind.u64.wrap (x + 11400714819323198485)) ((IntKind.u64.wrap (x + 11400714819323198485)) / 2 ^ min (30 : Int).toNat (IntKind.u64).bits)) * 13787848793156543929)) / 2 ^ min (27 : Int).toNat (IntKind.u64).bits)) * 10723151780598845931)) ((IntKind.u64.wrap ((bits .xor .u64 (IntKind.u64.wrap ((bits .xor .u64 (IntKind.u64.wrap (x + 11400714819323198485)) ((IntKind.u64.wrap (x + 11400714819323198485)) / 2 ^ min (30 : Int).toNat (IntKind.u64).bits)) * 13787848793156543929)) ((IntKind.u64.wrap ((bits .xor .u64 (IntKind.u64.wrap (x + 11400714819323198485)) ((IntKind.u64.wrap (x + 11400714819323198485)) / 2 ^ min (30 : Int).toNat (IntKind.u64).bits)) * 13787848793156543929)) / 2 ^ min (27 : Int).toNat (IntKind.u64).bits)) * 10723151780598845931)) / 2 ^ min (31 : Int).toNat (IntKind.u64).bits))) rfl rfl rfl ?_
 exact ⟨rfl, hB3, ((Fr.refl (fun b => b = g) _).trans F1 (fun j hj h => h))⟩

theorem awake_any (w : World) (hK : Kst w) :
    Calls Tryd.prog 8 #[] w fun e w' => e = .returned (.bool true) ∧ Fr No w w' := by
 refine calls_of_W Tryd.func8 rfl 10 rfl (Nat.le_of_ble_eq_true rfl) ?_
 refine W_seq ?_
 refine W_region ?_
 refine r_val rfl (x_assign (v := .bool false) rfl) ?_
 refine RW_nil ?_
 refine thenW_n ?_
 refine W_seq ?_
 refine W_region ?_
 refine r_call rfl (c23 (vs := [.slice none 0 0]) rfl) (sum_any none 0 [] w hK (Rd.nil _ _ _ _) (fun b h => by cases h) (fun _ => rfl) (by decide)) ?_
 rintro _ w2 ⟨rfl, F1⟩
 refine ⟨_, rfl, ?_⟩
 refine r_call rfl (c72 (vs := [.agg (DC (sumI [])).toArray]) rfl) (text_any (sumI []) w2 (sumI_length _) (sumI_in _)) ?_
 rintro _ w4 ⟨rfl, F3⟩
 refine ⟨_, rfl, ?_⟩
 refine r_val rfl (x_as (u := .string ⟨#[101, 51, 98, 48, 99, 52, 52, 50]⟩) (x_sliceS (h := 8) us_9 rfl rfl rfl (by show 8 ≤ (txt (sumI []) 32).length; rw [txt_length]; decide)) (by rw [extract_strB, sum_nil]; rfl)) ?_
 refine r_val rfl (x_as (u := .bool true) (x_eqlS us_9 rfl rfl) (by rw [beq_self_eq_true])) ?_
 refine r_val rfl (x_move (v := .bool true) rfl) ?_
 refine r_yes (t := 5) rfl rfl rfl rfl ?_
 refine r_call rfl (c73 (vs := [.int .u64 0]) rfl) (drawNew 0 w4) ?_
 rintro _ w6 ⟨gn, rfl, hgnl, hgn, F5⟩
 refine ⟨_, rfl, ?_⟩
 refine r_yes (t := 5) rfl rfl rfl rfl ?_
 refine r_call rfl (c74 (vs := [.pointer (some ⟨gn, 0, none⟩)]) rfl) (drawNext gn 0 w6 hgn) ?_
 rintro _ w8 ⟨rfl, _, F7⟩
 refine ⟨_, rfl, ?_⟩
 refine r_yes (t := 5) rfl rfl rfl rfl ?_
 refine r_val rfl (x_as (u := .bool true) (x_eql (a := nextV 0) (b := 16294208416658607535) rfl rfl) (congrArg Value.bool (decide_eq_true next0))) ?_
 refine r_val rfl (x_pickT (b := true) (v := .bool true) rfl rfl rfl) ?_
 refine r_val rfl (x_assign (v := .bool true) rfl) ?_
 refine RW_nil ?_
 refine thenW_n ?_
 refine W_ret ?_
 have := F1.size
 have := F3.size
 have := F5.size
 have := F7.size
 refine q_ret1 (v := .bool true) rfl rfl rfl ?_
 exact ⟨rfl, (((((Fr.refl No _).trans F1 (fun j hj h => h.elim)).trans F3 (fun j hj h => h.elim)).trans F5 (fun j hj h => h.elim)).trans F7 (fun j hj h => (by have h2 : j = gn := h; omega)))⟩

end Go.Proofs.YthomkocjjkmnkaaDoor
