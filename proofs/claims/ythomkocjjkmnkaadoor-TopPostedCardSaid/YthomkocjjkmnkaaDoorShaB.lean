import Derived.Test.YthomkocjjkmnkaaDoorShaA
/- PRINTED by gen.py (wip/tools) from the plan wip/plans: walks. -/
namespace Go.Proofs.YthomkocjjkmnkaaDoor
open Go Go.RowKit
set_option maxRecDepth 100000
set_option linter.unusedVariables false
/-- The constants. -/
def ksL : List Int := [1116352408, 1899447441, 3049323471, 3921009573, 961987163, 1508970993, 2453635748, 2870763221, 3624381080, 310598401, 607225278, 1426881987, 1925078388, 2162078206, 2614888103, 3248222580, 3835390401, 4022224774, 264347078, 604807628, 770255983, 1249150122, 1555081692, 1996064986, 2554220882, 2821834349, 2952996808, 3210313671, 3336571891, 3584528711, 113926993, 338241895, 666307205, 773529912, 1294757372, 1396182291, 1695183700, 1986661051, 2177026350, 2456956037, 2730485921, 2820302411, 3259730800, 3345764771, 3516065817, 3600352804, 4094571909, 275423344, 430227734, 506948616, 659060556, 883997877, 958139571, 1322822218, 1537002063, 1747873779, 1955562222, 2024104815, 2227730452, 2361852424, 2428436474, 2756734187, 3204031479, 3329325298]
def Kst (w : World) : Prop := ∀ k, k < 64 → w.cell? ⟨0, k, none⟩ = some (.int .u32 (ksL.getD k 0))
theorem Kst.fr {w w' : World} (h : Kst w) {S : Nat → Prop} (hf : Fr S w w') (hS : ¬ S 0) : Kst w' := fun k hk => hf.cell (h k hk) hS
structure S8 where
  a : Int
  b : Int
  c : Int
  d : Int
  e : Int
  f : Int
  g : Int
  h : Int
def S8.cells (s : S8) : List Value := [.int .u32 s.a, .int .u32 s.b, .int .u32 s.c, .int .u32 s.d, .int .u32 s.e, .int .u32 s.f, .int .u32 s.g, .int .u32 s.h]
def rnd1 (s : S8) (kk ww : Int) : Int := IntKind.u32.wrap (IntKind.u32.wrap (IntKind.u32.wrap (IntKind.u32.wrap (s.h + bits .xor .u32 (bits .xor .u32 (rotr s.e 6) (rotr s.e 11)) (rotr s.e 25)) + bits .xor .u32 s.g (bits .and .u32 s.e (bits .xor .u32 s.f s.g))) + kk) + ww)
def rnd2 (s : S8) : Int := IntKind.u32.wrap (bits .xor .u32 (bits .xor .u32 (rotr s.a 2) (rotr s.a 13)) (rotr s.a 22) + bits .or .u32 (bits .and .u32 s.a s.b) (bits .and .u32 s.c (bits .or .u32 s.a s.b)))
def rnd (s : S8) (kk ww : Int) : S8 := ⟨IntKind.u32.wrap (rnd1 s kk ww + rnd2 s), s.a, s.b, s.c, IntKind.u32.wrap (s.d + rnd1 s kk ww), s.e, s.f, s.g⟩
def rnds (s : S8) (ws : List Int) : Nat → S8
  | 0 => s
  | k + 1 => rnd (rnds s ws k) (ksL.getD k 0) (ws.getD k 0)
def takeI (s : S8) (bs : List UInt8) : S8 :=
  let r := rnds s (spread2 bs 48) 64
  ⟨IntKind.u32.wrap (s.a + r.a), IntKind.u32.wrap (s.b + r.b), IntKind.u32.wrap (s.c + r.c), IntKind.u32.wrap (s.d + r.d), IntKind.u32.wrap (s.e + r.e), IntKind.u32.wrap (s.f + r.f), IntKind.u32.wrap (s.g + r.g), IntKind.u32.wrap (s.h + r.h)⟩

theorem take_any (s : S8) (A : Option Addr) (n c : Nat) (bs : List UInt8) (w : World) (hK : Kst w) (hR : Rd w 1 (.slice A n c) n (BC bs)) (hn : 64 ≤ n) :
    Calls Tryd.prog 87 #[.agg #[.int .u32 s.a, .int .u32 s.b, .int .u32 s.c, .int .u32 s.d, .int .u32 s.e, .int .u32 s.f, .int .u32 s.g, .int .u32 s.h], .slice A n c] w fun e w' => e = .returned (.agg (takeI s bs).cells.toArray) ∧ Fr No w w' := by
 obtain ⟨b0, hb0, hb0l⟩ := hR.lt (by omega) (by decide)
 refine calls_of_W Tryd.func87 rfl 127 rfl (Nat.le_of_ble_eq_true rfl) ?_
 refine W_seq ?_
 refine W_region ?_
 obtain ⟨gs, hgs⟩ : ∃ n, w.heap.size = n := ⟨_, rfl⟩
 refine r_box (v := .agg #[.int .u32 s.a, .int .u32 s.b, .int .u32 s.c, .int .u32 s.d, .int .u32 s.e, .int .u32 s.f, .int .u32 s.g, .int .u32 s.h]) (l := [.int .u32 s.a, .int .u32 s.b, .int .u32 s.c, .int .u32 s.d, .int .u32 s.e, .int .u32 s.f, .int .u32 s.g, .int .u32 s.h]) rfl gs hgs rfl rfl ?_
 intro w4 F1 z2 hB3
 obtain ⟨gr, hgr⟩ : ∃ n, w4.heap.size = n := ⟨_, rfl⟩
 have ne_gs_gr : gs ≠ gr := by have := hB3.lt; omega
 refine r_alloc (l := [.int .u32 0, .int .u32 0, .int .u32 0, .int .u32 0, .int .u32 0, .int .u32 0, .int .u32 0, .int .u32 0]) gr hgr zero_166 rfl ?_
 intro w8 F5 z6 hB7
 refine RW_nil ?_
 refine thenW_n ?_
 refine W_seq ?_
 have hB9 := hB3.fr F5 (fun f => f)
 have hR10 := hR.fr F1 (fun _ _ f => f)
 have hR11 := hR10.fr F5 (fun _ _ f => f)
 refine d_begin mo 24 (fun x => Fr No w8 x) ?_
 obtain ⟨w13, hw13⟩ : ∃ x, w8.drew = x := ⟨_, rfl⟩
 have F12 : Fr No w8 w13 := by rw [← hw13]; exact Fr.drew _ _
 have D14 : Fr No w8 w13 := Fr.of_No F12
 have sF12 := F12.size
 rw [hw13]
 refine d_pure (i := 0) rfl (by kernel_rfl) (np_then np_body) rfl (fun _ => (x_indexArr (b := gs) (o := 0) (j := 0) as_166 rfl rfl rfl (by decide))) (fun _ => D14) ?_
 refine d_load (i := 1) rfl (by kernel_rfl) (np_then np_body) rfl (by kernel_rfl) rfl (fun x hS => (x_load (v := .int .u32 s.a) kind_164 rfl ((hB9.fr hS (fun f => f)).cell rfl))) D14 ?_
 refine d_pure (i := 2) rfl (by kernel_rfl) (np_then np_body) rfl (fun _ => (x_indexArr (b := gs) (o := 0) (j := 1) as_166 rfl rfl rfl (by decide))) (fun _ => D14) ?_
 refine d_load (i := 3) rfl (by kernel_rfl) (np_then np_body) rfl (by kernel_rfl) rfl (fun x hS => (x_load (v := .int .u32 s.b) kind_164 rfl ((hB9.fr hS (fun f => f)).cell rfl))) D14 ?_
 refine d_pure (i := 4) rfl (by kernel_rfl) (np_then np_body) rfl (fun _ => (x_indexArr (b := gs) (o := 0) (j := 2) as_166 rfl rfl rfl (by decide))) (fun _ => D14) ?_
 refine d_load (i := 5) rfl (by kernel_rfl) (np_then np_body) rfl (by kernel_rfl) rfl (fun x hS => (x_load (v := .int .u32 s.c) kind_164 rfl ((hB9.fr hS (fun f => f)).cell rfl))) D14 ?_
 refine d_pure (i := 6) rfl (by kernel_rfl) (np_then np_body) rfl (fun _ => (x_indexArr (b := gs) (o := 0) (j := 3) as_166 rfl rfl rfl (by decide))) (fun _ => D14) ?_
 refine d_load (i := 7) rfl (by kernel_rfl) (np_then np_body) rfl (by kernel_rfl) rfl (fun x hS => (x_load (v := .int .u32 s.d) kind_164 rfl ((hB9.fr hS (fun f => f)).cell rfl))) D14 ?_
 refine d_pure (i := 8) rfl (by kernel_rfl) (np_then np_body) rfl (fun _ => (x_indexArr (b := gs) (o := 0) (j := 4) as_166 rfl rfl rfl (by decide))) (fun _ => D14) ?_
 refine d_load (i := 9) rfl (by kernel_rfl) (np_then np_body) rfl (by kernel_rfl) rfl (fun x hS => (x_load (v := .int .u32 s.e) kind_164 rfl ((hB9.fr hS (fun f => f)).cell rfl))) D14 ?_
 refine d_pure (i := 10) rfl (by kernel_rfl) (np_then np_body) rfl (fun _ => (x_indexArr (b := gs) (o := 0) (j := 5) as_166 rfl rfl rfl (by decide))) (fun _ => D14) ?_
 refine d_load (i := 11) rfl (by kernel_rfl) (np_then np_body) rfl (by kernel_rfl) rfl (fun x hS => (x_load (v := .int .u32 s.f) kind_164 rfl ((hB9.fr hS (fun f => f)).cell rfl))) D14 ?_
 refine d_pure (i := 12) rfl (by kernel_rfl) (np_then np_body) rfl (fun _ => (x_indexArr (b := gs) (o := 0) (j := 6) as_166 rfl rfl rfl (by decide))) (fun _ => D14) ?_
 refine d_load (i := 13) rfl (by kernel_rfl) (np_then np_body) rfl (by kernel_rfl) rfl (fun x hS => (x_load (v := .int .u32 s.g) kind_164 rfl ((hB9.fr hS (fun f => f)).cell rfl))) D14 ?_
 refine d_pure (i := 14) rfl (by kernel_rfl) (np_then np_body) rfl (fun _ => (x_indexArr (b := gs) (o := 0) (j := 7) as_166 rfl rfl rfl (by decide))) (fun _ => D14) ?_
 refine d_load (i := 15) rfl (by kernel_rfl) (np_then np_body) rfl (by kernel_rfl) rfl (fun x hS => (x_load (v := .int .u32 s.h) kind_164 rfl ((hB9.fr hS (fun f => f)).cell rfl))) D14 ?_
 refine d_pure (i := 16) rfl (by kernel_rfl) (np_then np_body) rfl (fun _ => (x_assign (v := .int .u32 s.a) rfl)) (fun _ => D14) ?_
 refine d_pure (i := 17) rfl (by kernel_rfl) (np_then np_body) rfl (fun _ => (x_assign (v := .int .u32 s.b) rfl)) (fun _ => D14) ?_
 refine d_pure (i := 18) rfl (by kernel_rfl) (np_then np_body) rfl (fun _ => (x_assign (v := .int .u32 s.c) rfl)) (fun _ => D14) ?_
 refine d_pure (i := 19) rfl (by kernel_rfl) (np_then np_body) rfl (fun _ => (x_assign (v := .int .u32 s.d) rfl)) (fun _ => D14) ?_
 refine d_pure (i := 20) rfl (by kernel_rfl) (np_then np_body) rfl (fun _ => (x_assign (v := .int .u32 s.e) rfl)) (fun _ => D14) ?_
 refine d_pure (i := 21) rfl (by kernel_rfl) (np_then np_body) rfl (fun _ => (x_assign (v := .int .u32 s.f) rfl)) (fun _ => D14) ?_
 refine d_pure (i := 22) rfl (by kernel_rfl) (np_then np_body) rfl (fun _ => (x_assign (v := .int .u32 s.g) rfl)) (fun _ => D14) ?_
 refine d_pure (i := 23) rfl (by kernel_rfl) (np_then np_body) rfl (fun _ => (x_assign (v := .int .u32 s.h) rfl)) (fun _ => D14) ?_
 refine d_done (by kernel_rfl) ?_
 refine thenW_n ?_
 refine W_seq ?_
 refine W_seq ?_
 refine W_region ?_
 refine r_val rfl (x_move (v := .slice A n c) rfl) ?_
 have hR15 := hR11.fr F12 (fun _ _ f => f)
 refine r_call rfl (c136 (vs := [.slice A n c]) rfl) (spread_any A n c bs w13 hR15 hn) ?_
 rintro _ w17 ⟨rfl, F16⟩
 refine ⟨_, rfl, ?_⟩
 refine r_val rfl (x_move (v := .int .i64 0) rfl) ?_
 refine RW_nil ?_
 refine thenW_n ?_
 refine W_block ?_
 refine W_loop (fun m σ w' => ∃ k : Nat, ∃ τ : Env, m = 64 - k ∧ σ = ovl τ [(2, .pointer (some ⟨gs, 0, none⟩)), (4, .pointer (some ⟨gr, 0, none⟩)), (34, .agg (UC (spread2 bs 48)).toArray), (35, .int .i64 (k : Int)), (5, .int .u32 ((rnds s (spread2 bs 48) k).a)), (6, .int .u32 ((rnds s (spread2 bs 48) k).b)), (7, .int .u32 ((rnds s (spread2 bs 48) k).c)), (8, .int .u32 ((rnds s (spread2 bs 48) k).d)), (9, .int .u32 ((rnds s (spread2 bs 48) k).e)), (10, .int .u32 ((rnds s (spread2 bs 48) k).f)), (11, .int .u32 ((rnds s (spread2 bs 48) k).g)), (12, .int .u32 ((rnds s (spread2 bs 48) k).h))] ∧ Fr No w17 w' ∧ k ≤ 64) (64) ?_ ?_
 · exact ⟨0, _, rfl, ((ovl_cons (ovl_cons (ovl_cons (ovl_cons (ovl_cons (ovl_cons (ovl_cons (ovl_cons (ovl_cons (ovl_cons (ovl_cons (ovl_cons (ovl_nil _) rfl) rfl) rfl) rfl) rfl) rfl) rfl) rfl) rfl) rfl) rfl) rfl)).symm, Fr.refl _ _, Nat.zero_le _⟩
 ·skip
  rintro _ _ w18 ⟨k, τ, rfl, rfl, F0, hk⟩
  refine W_seq ?_
  refine W_region ?_
  refine r_val rfl (x_lss (a := (k : Int)) (b := 64) rfl rfl) ?_
  refine RW_nil ?_
  refine thenW_n ?_
  refine W_seq ?_
  refine W_condD (p := (k : Int) < 64) rfl rfl (fun hc19 => ?_) (fun hc19 => ?_)
  ·skip
   refine W_skip ?_
   refine thenW_n ?_
   refine W_seq ?_
   refine W_block ?_
   refine W_seq ?_
   refine W_region ?_
   refine r_val rfl (x_move (v := .int .i64 (k : Int)) rfl) ?_
   refine r_val rfl (x_indexV (n := 64) (e := 164) (l := UC (spread2 bs 48)) (j := k) (by kernel_rfl) (by kernel_rfl) (by kernel_rfl) rfl rfl rfl (by omega) (UC_get _ _ (by rw [spread2_length]; omega))) ?_
   refine r_val rfl (x_assign (v := .int .i64 (k : Int)) rfl) ?_
   refine r_val rfl (x_assign (v := .int .u32 ((spread2 bs 48).getD k 0)) rfl) ?_
   refine RW_nil ?_
   refine thenW_n ?_
   refine W_seq ?_
   have := F1.size
   have := F5.size
   have := F12.size
   have := F16.size
   have := F0.size
   have hKw : Kst w18 := hK.fr ((((((Fr.refl No _).trans F1 (fun j hj h => h.elim)).trans F5 (fun j hj h => h.elim)).trans F12 (fun j hj h => h.elim)).trans F16 (fun j hj h => h.elim)).trans F0 (fun j hj h => h.elim)) (fun f => f)
   have hB20 := hB9.fr F12 (fun f => f)
   have hB21 := hB20.fr F16 (fun f => f)
   have hB22 := hB21.fr F0 (fun f => f)
   have hB23 := hB7.fr F12 (fun f => f)
   have hB24 := hB23.fr F16 (fun f => f)
   have hB25 := hB24.fr F0 (fun f => f)
   have hR26 := hR15.fr F16 (fun _ _ f => f)
   have hR27 := hR26.fr F0 (fun _ _ f => f)
   refine d_begin mo 25 (fun x => Fr No w18 x) ?_
   obtain ⟨w29, hw29⟩ : ∃ x, w18.drew = x := ⟨_, rfl⟩
   have F28 : Fr No w18 w29 := by rw [← hw29]; exact Fr.drew _ _
   have D30 : Fr No w18 w29 := Fr.of_No F28
   have sF28 := F28.size
   rw [hw29]
   refine d_pure (i := 0) rfl (by kernel_rfl) (np_then (np_blk (np_then (np_then (np_blk (np_then np_body)))))) rfl (fun _ => (x_move (v := .int .u32 ((rnds s (spread2 bs 48) k).h)) rfl)) (fun _ => D30) ?_
   refine d_pure (i := 1) rfl (by kernel_rfl) (np_then (np_blk (np_then (np_then (np_blk (np_then np_body)))))) rfl (fun _ => (x_move (v := .int .u32 ((rnds s (spread2 bs 48) k).e)) rfl)) (fun _ => D30) ?_
   refine d_pure (i := 3) rfl (by kernel_rfl) (np_then (np_blk (np_then (np_then (np_blk (np_then np_body)))))) rfl (fun _ => (x_move (v := .int .u32 ((rnds s (spread2 bs 48) k).e)) rfl)) (fun _ => D30) ?_
   refine d_pure (i := 6) rfl (by kernel_rfl) (np_then (np_blk (np_then (np_then (np_blk (np_then np_body)))))) rfl (fun _ => (x_move (v := .int .u32 ((rnds s (spread2 bs 48) k).e)) rfl)) (fun _ => D30) ?_
   refine d_pure (i := 10) rfl (by kernel_rfl) (np_then (np_blk (np_then (np_then (np_blk (np_then np_body)))))) rfl (fun _ => (x_move (v := .int .u32 ((rnds s (spread2 bs 48) k).g)) rfl)) (fun _ => D30) ?_
   refine d_pure (i := 11) rfl (by kernel_rfl) (np_then (np_blk (np_then (np_then (np_blk (np_then np_body)))))) rfl (fun _ => (x_move (v := .int .u32 ((rnds s (spread2 bs 48) k).e)) rfl)) (fun _ => D30) ?_
   refine d_pure (i := 12) rfl (by kernel_rfl) (np_then (np_blk (np_then (np_then (np_blk (np_then np_body)))))) rfl (fun _ => (x_move (v := .int .u32 ((rnds s (spread2 bs 48) k).f)) rfl)) (fun _ => D30) ?_
   refine d_pure (i := 13) rfl (by kernel_rfl) (np_then (np_blk (np_then (np_then (np_blk (np_then np_body)))))) rfl (fun _ => (x_move (v := .int .u32 ((rnds s (spread2 bs 48) k).g)) rfl)) (fun _ => D30) ?_
   refine d_pure (i := 14) rfl (by kernel_rfl) (np_then (np_blk (np_then (np_then (np_blk (np_then np_body)))))) rfl (fun _ => (x_bits (op := .xor) (a := (rnds s (spread2 bs 48) k).f) (b := (rnds s (spread2 bs 48) k).g) rfl rfl rfl)) (fun _ => D30) ?_
   refine d_pure (i := 15) rfl (by kernel_rfl) (np_then (np_blk (np_then (np_then (np_blk (np_then np_body)))))) rfl (fun _ => (x_bits (op := .and) (a := (rnds s (spread2 bs 48) k).e) (b := bits .xor .u32 ((rnds s (spread2 bs 48) k).f) ((rnds s (spread2 bs 48) k).g)) rfl rfl rfl)) (fun _ => D30) ?_
   refine d_pure (i := 16) rfl (by kernel_rfl) (np_then (np_blk (np_then (np_then (np_blk (np_then np_body)))))) rfl (fun _ => (x_bits (op := .xor) (a := (rnds s (spread2 bs 48) k).g) (b := bits .and .u32 ((rnds s (spread2 bs 48) k).e) (bits .xor .u32 ((rnds s (spread2 bs 48) k).f) ((rnds s (spread2 bs 48) k).g))) rfl rfl rfl)) (fun _ => D30) ?_
   refine d_pure (i := 18) rfl (by kernel_rfl) (np_then (np_blk (np_then (np_then (np_blk (np_then np_body)))))) rfl (fun _ => (x_move (v := .int .i64 (k : Int)) rfl)) (fun _ => D30) ?_
   refine d_pure (i := 19) rfl (by kernel_rfl) (np_then (np_blk (np_then (np_then (np_blk (np_then np_body)))))) rfl (fun _ => (x_indexArr (b := 0) (o := 0) (j := k) as_247 rfl rfl rfl (by omega))) (fun _ => D30) ?_
   refine d_load (i := 20) rfl (by kernel_rfl) (np_then (np_blk (np_then (np_then (np_blk (np_then np_body)))))) rfl (by kernel_rfl) rfl (fun x hS => (x_load (v := .int .u32 (ksL.getD k 0)) kind_164 rfl (by rw [Nat.mul_one, Nat.zero_add]; exact hS.cell (hKw k (by omega)) (fun f => f)))) D30 ?_
   refine d_pure (i := 22) rfl (by kernel_rfl) (np_then (np_blk (np_then (np_then (np_blk (np_then np_body)))))) rfl (fun _ => (x_move (v := .int .u32 ((spread2 bs 48).getD k 0)) rfl)) (fun _ => D30) ?_
   refine d_force (i := 2) rfl (by kernel_rfl) ?_
   refine r_call rfl (c137 (vs := [.int .u32 ((rnds s (spread2 bs 48) k).e), .int .i64 6]) rfl) (turn_any ((rnds s (spread2 bs 48) k).e) 6 w29 (by decide)) ?_
   rintro _ _ ⟨rfl, rfl⟩
   refine ⟨_, rfl, ?_⟩
   refine d_next (fun _ => D30) ?_
   refine d_force (i := 4) rfl (by kernel_rfl) ?_
   refine r_call rfl (c137 (vs := [.int .u32 ((rnds s (spread2 bs 48) k).e), .int .i64 11]) rfl) (turn_any ((rnds s (spread2 bs 48) k).e) 11 w29 (by decide)) ?_
   rintro _ _ ⟨rfl, rfl⟩
   refine ⟨_, rfl, ?_⟩
   refine d_next (fun _ => D30) ?_
   refine d_pure (i := 5) rfl (by kernel_rfl) (np_then (np_blk (np_then (np_then (np_blk (np_then np_body)))))) rfl (fun _ => (x_bits (op := .xor) (a := rotr ((rnds s (spread2 bs 48) k).e) 6) (b := rotr ((rnds s (spread2 bs 48) k).e) 11) rfl rfl rfl)) (fun _ => D30) ?_
   refine d_force (i := 7) rfl (by kernel_rfl) ?_
   refine r_call rfl (c137 (vs := [.int .u32 ((rnds s (spread2 bs 48) k).e), .int .i64 25]) rfl) (turn_any ((rnds s (spread2 bs 48) k).e) 25 w29 (by decide)) ?_
   rintro _ _ ⟨rfl, rfl⟩
   refine ⟨_, rfl, ?_⟩
   refine d_next (fun _ => D30) ?_
   refine d_pure (i := 8) rfl (by kernel_rfl) (np_then (np_blk (np_then (np_then (np_blk (np_then np_body)))))) rfl (fun _ => (x_bits (op := .xor) (a := bits .xor .u32 (rotr ((rnds s (spread2 bs 48) k).e) 6) (rotr ((rnds s (spread2 bs 48) k).e) 11)) (b := rotr ((rnds s (spread2 bs 48) k).e) 25) rfl rfl rfl)) (fun _ => D30) ?_
   refine d_pure (i := 9) rfl (by kernel_rfl) (np_then (np_blk (np_then (np_then (np_blk (np_then np_body)))))) rfl (fun _ => (x_add (a := (rnds s (spread2 bs 48) k).h) (b := bits .xor .u32 (bits .xor .u32 (rotr ((rnds s (spread2 bs 48) k).e) 6) (rotr ((rnds s (spread2 bs 48) k).e) 11)) (rotr ((rnds s (spread2 bs 48) k).e) 25)) rfl rfl)) (fun _ => D30) ?_
   refine d_pure (i := 17) rfl (by kernel_rfl) (np_then (np_blk (np_then (np_then (np_blk (np_then np_body)))))) rfl (fun _ => (x_add (a := IntKind.u32.wrap (((rnds s (spread2 bs 48) k).h) + (bits .xor .u32 (bits .xor .u32 (rotr ((rnds s (spread2 bs 48) k).e) 6) (rotr ((rnds s (spread2 bs 48) k).e) 11)) (rotr ((rnds s (spread2 bs 48) k).e) 25)))) (b := bits .xor .u32 ((rnds s (spread2 bs 48) k).g) (bits .and .u32 ((rnds s (spread2 bs 48) k).e) (bits .xor .u32 ((rnds s (spread2 bs 48) k).f) ((rnds s (spread2 bs 48) k).g)))) rfl rfl)) (fun _ => D30) ?_
   refine d_pure (i := 21) rfl (by kernel_rfl) (np_then (np_blk (np_then (np_then (np_blk (np_then np_body)))))) rfl (fun _ => (x_add (a := IntKind.u32.wrap ((IntKind.u32.wrap (((rnds s (spread2 bs 48) k).h) + (bits .xor .u32 (bits .xor .u32 (rotr ((rnds s (spread2 bs 48) k).e) 6) (rotr ((rnds s (spread2 bs 48) k).e) 11)) (rotr ((rnds s (spread2 bs 48) k).e) 25)))) + (bits .xor .u32 ((rnds s (spread2 bs 48) k).g) (bits .and .u32 ((rnds s (spread2 bs 48) k).e) (bits .xor .u32 ((rnds s (spread2 bs 48) k).f) ((rnds s (spread2 bs 48) k).g)))))) (b := ksL.getD k 0) rfl rfl)) (fun _ => D30) ?_
   refine d_pure (i := 23) rfl (by kernel_rfl) (np_then (np_blk (np_then (np_then (np_blk (np_then np_body)))))) rfl (fun _ => (x_add (a := IntKind.u32.wrap ((IntKind.u32.wrap ((IntKind.u32.wrap (((rnds s (spread2 bs 48) k).h) + (bits .xor .u32 (bits .xor .u32 (rotr ((rnds s (spread2 bs 48) k).e) 6) (rotr ((rnds s (spread2 bs 48) k).e) 11)) (rotr ((rnds s (spread2 bs 48) k).e) 25)))) + (bits .xor .u32 ((rnds s (spread2 bs 48) k).g) (bits .and .u32 ((rnds s (spread2 bs 48) k).e) (bits .xor .u32 ((rnds s (spread2 bs 48) k).f) ((rnds s (spread2 bs 48) k).g)))))) + (ksL.getD k 0))) (b := (spread2 bs 48).getD k 0) rfl rfl)) (fun _ => D30) ?_
   refine d_pure (i := 24) rfl (by kernel_rfl) (np_then (np_blk (np_then (np_then (np_blk (np_then np_body)))))) rfl (fun _ => (x_assign (v := .int .u32 (IntKind.u32.wrap ((IntKind.u32.wrap ((IntKind.u32.wrap ((IntKind.u32.wrap (((rnds s (spread2 bs 48) k).h) + (bits .xor .u32 (bits .xor .u32 (rotr ((rnds s (spread2 bs 48) k).e) 6) (rotr ((rnds s (spread2 bs 48) k).e) 11)) (rotr ((rnds s (spread2 bs 48) k).e) 25)))) + (bits .xor .u32 ((rnds s (spread2 bs 48) k).g) (bits .and .u32 ((rnds s (spread2 bs 48) k).e) (bits .xor .u32 ((rnds s (spread2 bs 48) k).f) ((rnds s (spread2 bs 48) k).g)))))) + (ksL.getD k 0))) + ((spread2 bs 48).getD k 0)))) rfl)) (fun _ => D30) ?_
   refine d_done (by kernel_rfl) ?_
   refine thenW_n ?_
   refine W_seq ?_
   refine W_region ?_
   refine r_val rfl (x_move (v := .int .u32 ((rnds s (spread2 bs 48) k).a)) rfl) ?_
   refine r_call rfl (c137 (vs := [.int .u32 ((rnds s (spread2 bs 48) k).a), .int .i64 2]) rfl) (turn_any ((rnds s (spread2 bs 48) k).a) 2 w29 (by decide)) ?_
   rintro _ _ ⟨rfl, rfl⟩
   refine ⟨_, rfl, ?_⟩
   refine r_val rfl (x_move (v := .int .u32 ((rnds s (spread2 bs 48) k).a)) rfl) ?_
   refine r_call rfl (c137 (vs := [.int .u32 ((rnds s (spread2 bs 48) k).a), .int .i64 13]) rfl) (turn_any ((rnds s (spread2 bs 48) k).a) 13 w29 (by decide)) ?_
   rintro _ _ ⟨rfl, rfl⟩
   refine ⟨_, rfl, ?_⟩
   refine r_val rfl (x_bits (op := .xor) (a := rotr ((rnds s (spread2 bs 48) k).a) 2) (b := rotr ((rnds s (spread2 bs 48) k).a) 13) rfl rfl rfl) ?_
   refine r_val rfl (x_move (v := .int .u32 ((rnds s (spread2 bs 48) k).a)) rfl) ?_
   refine r_call rfl (c137 (vs := [.int .u32 ((rnds s (spread2 bs 48) k).a), .int .i64 22]) rfl) (turn_any ((rnds s (spread2 bs 48) k).a) 22 w29 (by decide)) ?_
   rintro _ _ ⟨rfl, rfl⟩
   refine ⟨_, rfl, ?_⟩
   refine r_val rfl (x_bits (op := .xor) (a := bits .xor .u32 (rotr ((rnds s (spread2 bs 48) k).a) 2) (rotr ((rnds s (spread2 bs 48) k).a) 13)) (b := rotr ((rnds s (spread2 bs 48) k).a) 22) rfl rfl rfl) ?_
   refine r_val rfl (x_move (v := .int .u32 ((rnds s (spread2 bs 48) k).a)) rfl) ?_
   refine r_val rfl (x_move (v := .int .u32 ((rnds s (spread2 bs 48) k).b)) rfl) ?_
   refine r_val rfl (x_bits (op := .and) (a := (rnds s (spread2 bs 48) k).a) (b := (rnds s (spread2 bs 48) k).b) rfl rfl rfl) ?_
   refine r_val rfl (x_move (v := .int .u32 ((rnds s (spread2 bs 48) k).c)) rfl) ?_
   refine r_val rfl (x_move (v := .int .u32 ((rnds s (spread2 bs 48) k).a)) rfl) ?_
   refine r_val rfl (x_move (v := .int .u32 ((rnds s (spread2 bs 48) k).b)) rfl) ?_
   refine r_val rfl (x_bits (op := .or) (a := (rnds s (spread2 bs 48) k).a) (b := (rnds s (spread2 bs 48) k).b) rfl rfl rfl) ?_
   refine r_val rfl (x_bits (op := .and) (a := (rnds s (spread2 bs 48) k).c) (b := bits .or .u32 ((rnds s (spread2 bs 48) k).a) ((rnds s (spread2 bs 48) k).b)) rfl rfl rfl) ?_
   refine r_val rfl (x_bits (op := .or) (a := bits .and .u32 ((rnds s (spread2 bs 48) k).a) ((rnds s (spread2 bs 48) k).b)) (b := bits .and .u32 ((rnds s (spread2 bs 48) k).c) (bits .or .u32 ((rnds s (spread2 bs 48) k).a) ((rnds s (spread2 bs 48) k).b))) rfl rfl rfl) ?_
   refine r_val rfl (x_add (a := bits .xor .u32 (bits .xor .u32 (rotr ((rnds s (spread2 bs 48) k).a) 2) (rotr ((rnds s (spread2 bs 48) k).a) 13)) (rotr ((rnds s (spread2 bs 48) k).a) 22)) (b := bits .or .u32 (bits .and .u32 ((rnds s (spread2 bs 48) k).a) ((rnds s (spread2 bs 48) k).b)) (bits .and .u32 ((rnds s (spread2 bs 48) k).c) (bits .or .u32 ((rnds s (spread2 bs 48) k).a) ((rnds s (spread2 bs 48) k).b)))) rfl rfl) ?_
   refine r_val rfl (x_assign (v := .int .u32 (IntKind.u32.wrap ((bits .xor .u32 (bits .xor .u32 (rotr ((rnds s (spread2 bs 48) k).a) 2) (rotr ((rnds s (spread2 bs 48) k).a) 13)) (rotr ((rnds s (spread2 bs 48) k).a) 22)) + (bits .or .u32 (bits .and .u32 ((rnds s (spread2 bs 48) k).a) ((rnds s (spread2 bs 48) k).b)) (bits .and .u32 ((rnds s (spread2 bs 48) k).c) (bits .or .u32 ((rnds s (spread2 bs 48) k).a) ((rnds s (spread2 bs 48) k).b))))))) rfl) ?_
   refine RW_nil ?_
   refine thenW_n ?_
   refine W_region ?_
   refine r_val rfl (x_move (v := .int .u32 ((rnds s (spread2 bs 48) k).g)) rfl) ?_
   refine r_val rfl (x_move (v := .int .u32 ((rnds s (spread2 bs 48) k).f)) rfl) ?_
   refine r_val rfl (x_move (v := .int .u32 ((rnds s (spread2 bs 48) k).e)) rfl) ?_
   refine r_val rfl (x_move (v := .int .u32 ((rnds s (spread2 bs 48) k).d)) rfl) ?_
   refine r_val rfl (x_move (v := .int .u32 (IntKind.u32.wrap ((IntKind.u32.wrap ((IntKind.u32.wrap ((IntKind.u32.wrap (((rnds s (spread2 bs 48) k).h) + (bits .xor .u32 (bits .xor .u32 (rotr ((rnds s (spread2 bs 48) k).e) 6) (rotr ((rnds s (spread2 bs 48) k).e) 11)) (rotr ((rnds s (spread2 bs 48) k).e) 25)))) + (bits .xor .u32 ((rnds s (spread2 bs 48) k).g) (bits .and .u32 ((rnds s (spread2 bs 48) k).e) (bits .xor .u32 ((rnds s (spread2 bs 48) k).f) ((rnds s (spread2 bs 48) k).g)))))) + (ksL.getD k 0))) + ((spread2 bs 48).getD k 0)))) rfl) ?_
   refine r_val rfl (x_add (a := (rnds s (spread2 bs 48) k).d) (b := IntKind.u32.wrap ((IntKind.u32.wrap ((IntKind.u32.wrap ((IntKind.u32.wrap (((rnds s (spread2 bs 48) k).h) + (bits .xor .u32 (bits .xor .u32 (rotr ((rnds s (spread2 bs 48) k).e) 6) (rotr ((rnds s (spread2 bs 48) k).e) 11)) (rotr ((rnds s (spread2 bs 48) k).e) 25)))) + (bits .xor .u32 ((rnds s (spread2 bs 48) k).g) (bits .and .u32 ((rnds s (spread2 bs 48) k).e) (bits .xor .u32 ((rnds s (spread2 bs 48) k).f) ((rnds s (spread2 bs 48) k).g)))))) + (ksL.getD k 0))) + ((spread2 bs 48).getD k 0))) rfl rfl) ?_
   refine r_val rfl (x_move (v := .int .u32 ((rnds s (spread2 bs 48) k).c)) rfl) ?_
   refine r_val rfl (x_move (v := .int .u32 ((rnds s (spread2 bs 48) k).b)) rfl) ?_
   refine r_val rfl (x_move (v := .int .u32 ((rnds s (spread2 bs 48) k).a)) rfl) ?_
   refine r_val rfl (x_move (v := .int .u32 (IntKind.u32.wrap ((IntKind.u32.wrap ((IntKind.u32.wrap ((IntKind.u32.wrap (((rnds s (spread2 bs 48) k).h) + (bits .xor .u32 (bits .xor .u32 (rotr ((rnds s (spread2 bs 48) k).e) 6) (rotr ((rnds s (spread2 bs 48) k).e) 11)) (rotr ((rnds s (spread2 bs 48) k).e) 25)))) + (bits .xor .u32 ((rnds s (spread2 bs 48) k).g) (bits .and .u32 ((rnds s (spread2 bs 48) k).e) (bits .xor .u32 ((rnds s (spread2 bs 48) k).f) ((rnds s (spread2 bs 48) k).g)))))) + (ksL.getD k 0))) + ((spread2 bs 48).getD k 0)))) rfl) ?_
   refine r_val rfl (x_move (v := .int .u32 (IntKind.u32.wrap ((bits .xor .u32 (bits .xor .u32 (rotr ((rnds s (spread2 bs 48) k).a) 2) (rotr ((rnds s (spread2 bs 48) k).a) 13)) (rotr ((rnds s (spread2 bs 48) k).a) 22)) + (bits .or .u32 (bits .and .u32 ((rnds s (spread2 bs 48) k).a) ((rnds s (spread2 bs 48) k).b)) (bits .and .u32 ((rnds s (spread2 bs 48) k).c) (bits .or .u32 ((rnds s (spread2 bs 48) k).a) ((rnds s (spread2 bs 48) k).b))))))) rfl) ?_
   refine r_val rfl (x_add (a := IntKind.u32.wrap ((IntKind.u32.wrap ((IntKind.u32.wrap ((IntKind.u32.wrap (((rnds s (spread2 bs 48) k).h) + (bits .xor .u32 (bits .xor .u32 (rotr ((rnds s (spread2 bs 48) k).e) 6) (rotr ((rnds s (spread2 bs 48) k).e) 11)) (rotr ((rnds s (spread2 bs 48) k).e) 25)))) + (bits .xor .u32 ((rnds s (spread2 bs 48) k).g) (bits .and .u32 ((rnds s (spread2 bs 48) k).e) (bits .xor .u32 ((rnds s (spread2 bs 48) k).f) ((rnds s (spread2 bs 48) k).g)))))) + (ksL.getD k 0))) + ((spread2 bs 48).getD k 0))) (b := IntKind.u32.wrap ((bits .xor .u32 (bits .xor .u32 (rotr ((rnds s (spread2 bs 48) k).a) 2) (rotr ((rnds s (spread2 bs 48) k).a) 13)) (rotr ((rnds s (spread2 bs 48) k).a) 22)) + (bits .or .u32 (bits .and .u32 ((rnds s (spread2 bs 48) k).a) ((rnds s (spread2 bs 48) k).b)) (bits .and .u32 ((rnds s (spread2 bs 48) k).c) (bits .or .u32 ((rnds s (spread2 bs 48) k).a) ((rnds s (spread2 bs 48) k).b)))))) rfl rfl) ?_
   refine r_val rfl (x_assign (v := .int .u32 ((rnds s (spread2 bs 48) k).g)) rfl) ?_
   refine r_val rfl (x_assign (v := .int .u32 ((rnds s (spread2 bs 48) k).f)) rfl) ?_
   refine r_val rfl (x_assign (v := .int .u32 ((rnds s (spread2 bs 48) k).e)) rfl) ?_
   refine r_val rfl (x_assign (v := .int .u32 (IntKind.u32.wrap (((rnds s (spread2 bs 48) k).d) + (IntKind.u32.wrap ((IntKind.u32.wrap ((IntKind.u32.wrap ((IntKind.u32.wrap (((rnds s (spread2 bs 48) k).h) + (bits .xor .u32 (bits .xor .u32 (rotr ((rnds s (spread2 bs 48) k).e) 6) (rotr ((rnds s (spread2 bs 48) k).e) 11)) (rotr ((rnds s (spread2 bs 48) k).e) 25)))) + (bits .xor .u32 ((rnds s (spread2 bs 48) k).g) (bits .and .u32 ((rnds s (spread2 bs 48) k).e) (bits .xor .u32 ((rnds s (spread2 bs 48) k).f) ((rnds s (spread2 bs 48) k).g)))))) + (ksL.getD k 0))) + ((spread2 bs 48).getD k 0)))))) rfl) ?_
   refine r_val rfl (x_assign (v := .int .u32 ((rnds s (spread2 bs 48) k).c)) rfl) ?_
   refine r_val rfl (x_assign (v := .int .u32 ((rnds s (spread2 bs 48) k).b)) rfl) ?_
   refine r_val rfl (x_assign (v := .int .u32 ((rnds s (spread2 bs 48) k).a)) rfl) ?_
   refine r_val rfl (x_assign (v := .int .u32 (IntKind.u32.wrap ((IntKind.u32.wrap ((IntKind.u32.wrap ((IntKind.u32.wrap ((IntKind.u32.wrap (((rnds s (spread2 bs 48) k).h) + (bits .xor .u32 (bits .xor .u32 (rotr ((rnds s (spread2 bs 48) k).e) 6) (rotr ((rnds s (spread2 bs 48) k).e) 11)) (rotr ((rnds s (spread2 bs 48) k).e) 25)))) + (bits .xor .u32 ((rnds s (spread2 bs 48) k).g) (bits .and .u32 ((rnds s (spread2 bs 48) k).e) (bits .xor .u32 ((rnds s (spread2 bs 48) k).f) ((rnds s (spread2 bs 48) k).g)))))) + (ksL.getD k 0))) + ((spread2 bs 48).getD k 0))) + (IntKind.u32.wrap ((bits .xor .u32 (bits .xor .u32 (rotr ((rnds s (spread2 bs 48) k).a) 2) (rotr ((rnds s (spread2 bs 48) k).a) 13)) (rotr ((rnds s (spread2 bs 48) k).a) 22)) + (bits .or .u32 (bits .and .u32 ((rnds s (spread2 bs 48) k).a) ((rnds s (spread2 bs 48) k).b)) (bits .and .u32 ((rnds s (spread2 bs 48) k).c) (bits .or .u32 ((rnds s (spread2 bs 48) k).a) ((rnds s (spread2 bs 48) k).b))))))))) rfl) ?_
   refine RW_nil ?_
   refine inBlk_n ?_
   refine thenW_n ?_
   refine W_region ?_
   refine r_val rfl (x_add64 (a := (k : Int)) (b := 1) rfl rfl (by omega)) ?_
   refine r_val rfl (x_move (v := .int .i64 ((k : Int) + 1)) rfl) ?_
   refine RW_nil ?_
   refine thenW_n ?_
   have := F0.size
   have := F28.size
   exact ⟨_, (by omega), k + 1, _, rfl, ((ovl_cons (ovl_cons (ovl_cons (ovl_cons (ovl_cons (ovl_cons (ovl_cons (ovl_cons (ovl_cons (ovl_cons (ovl_cons (ovl_cons (ovl_nil _) rfl) rfl) rfl) rfl) rfl) rfl) rfl) rfl) (by show Value.int .i64 ((k : Int) + 1) = _; rfl)) rfl) rfl) rfl)).symm, (((Fr.refl No _).trans F0 (fun j hj h => h.elim)).trans F28 (fun j hj h => h.elim)), by omega⟩
  ·skip
   refine W_exit ?_
   refine thenW_x ?_
   refine thenW_x ?_
   refine inBlk_xs ?_
   refine thenW_n ?_
   refine W_seq ?_
   refine W_region ?_
   refine r_val rfl (x_indexArr (b := gs) (o := 0) (j := 0) as_166 rfl rfl rfl (by decide)) ?_
   have hB31 := hB9.fr F12 (fun f => f)
   have hB32 := hB31.fr F16 (fun f => f)
   have hB33 := hB32.fr F0 (fun f => f)
   refine r_val rfl (x_load (v := .int .u32 s.a) kind_164 rfl (hB33.cell rfl)) ?_
   refine r_val rfl (x_move (v := .int .u32 ((rnds s (spread2 bs 48) k).a)) rfl) ?_
   refine r_val rfl (x_add (a := s.a) (b := (rnds s (spread2 bs 48) k).a) rfl rfl) ?_
   refine r_val rfl (x_indexArr (b := gs) (o := 0) (j := 1) as_166 rfl rfl rfl (by decide)) ?_
   refine r_val rfl (x_load (v := .int .u32 s.b) kind_164 rfl (hB33.cell rfl)) ?_
   refine r_val rfl (x_move (v := .int .u32 ((rnds s (spread2 bs 48) k).b)) rfl) ?_
   refine r_val rfl (x_add (a := s.b) (b := (rnds s (spread2 bs 48) k).b) rfl rfl) ?_
   refine r_val rfl (x_indexArr (b := gs) (o := 0) (j := 2) as_166 rfl rfl rfl (by decide)) ?_
   refine r_val rfl (x_load (v := .int .u32 s.c) kind_164 rfl (hB33.cell rfl)) ?_
   refine r_val rfl (x_move (v := .int .u32 ((rnds s (spread2 bs 48) k).c)) rfl) ?_
   refine r_val rfl (x_add (a := s.c) (b := (rnds s (spread2 bs 48) k).c) rfl rfl) ?_
   refine r_val rfl (x_indexArr (b := gs) (o := 0) (j := 3) as_166 rfl rfl rfl (by decide)) ?_
   refine r_val rfl (x_load (v := .int .u32 s.d) kind_164 rfl (hB33.cell rfl)) ?_
   refine r_val rfl (x_move (v := .int .u32 ((rnds s (spread2 bs 48) k).d)) rfl) ?_
   refine r_val rfl (x_add (a := s.d) (b := (rnds s (spread2 bs 48) k).d) rfl rfl) ?_
   refine r_val rfl (x_indexArr (b := gs) (o := 0) (j := 4) as_166 rfl rfl rfl (by decide)) ?_
   refine r_val rfl (x_load (v := .int .u32 s.e) kind_164 rfl (hB33.cell rfl)) ?_
   refine r_val rfl (x_move (v := .int .u32 ((rnds s (spread2 bs 48) k).e)) rfl) ?_
   refine r_val rfl (x_add (a := s.e) (b := (rnds s (spread2 bs 48) k).e) rfl rfl) ?_
   refine r_val rfl (x_indexArr (b := gs) (o := 0) (j := 5) as_166 rfl rfl rfl (by decide)) ?_
   refine r_val rfl (x_load (v := .int .u32 s.f) kind_164 rfl (hB33.cell rfl)) ?_
   refine r_val rfl (x_move (v := .int .u32 ((rnds s (spread2 bs 48) k).f)) rfl) ?_
   refine r_val rfl (x_add (a := s.f) (b := (rnds s (spread2 bs 48) k).f) rfl rfl) ?_
   refine r_val rfl (x_indexArr (b := gs) (o := 0) (j := 6) as_166 rfl rfl rfl (by decide)) ?_
   refine r_val rfl (x_load (v := .int .u32 s.g) kind_164 rfl (hB33.cell rfl)) ?_
   refine r_val rfl (x_move (v := .int .u32 ((rnds s (spread2 bs 48) k).g)) rfl) ?_
   refine r_val rfl (x_add (a := s.g) (b := (rnds s (spread2 bs 48) k).g) rfl rfl) ?_
   refine r_val rfl (x_indexArr (b := gs) (o := 0) (j := 7) as_166 rfl rfl rfl (by decide)) ?_
   refine r_val rfl (x_load (v := .int .u32 s.h) kind_164 rfl (hB33.cell rfl)) ?_
   refine r_val rfl (x_move (v := .int .u32 ((rnds s (spread2 bs 48) k).h)) rfl) ?_
   refine r_val rfl (x_add (a := s.h) (b := (rnds s (spread2 bs 48) k).h) rfl rfl) ?_
   refine r_val rfl (x_buildA (n := 8) (e := 164) (size := 1) (vs := [.int .u32 (IntKind.u32.wrap (s.a + ((rnds s (spread2 bs 48) k).a))), .int .u32 (IntKind.u32.wrap (s.b + ((rnds s (spread2 bs 48) k).b))), .int .u32 (IntKind.u32.wrap (s.c + ((rnds s (spread2 bs 48) k).c))), .int .u32 (IntKind.u32.wrap (s.d + ((rnds s (spread2 bs 48) k).d))), .int .u32 (IntKind.u32.wrap (s.e + ((rnds s (spread2 bs 48) k).e))), .int .u32 (IntKind.u32.wrap (s.f + ((rnds s (spread2 bs 48) k).f))), .int .u32 (IntKind.u32.wrap (s.g + ((rnds s (spread2 bs 48) k).g))), .int .u32 (IntKind.u32.wrap (s.h + ((rnds s (spread2 bs 48) k).h)))]) (l := [.int .u32 (IntKind.u32.wrap (s.a + ((rnds s (spread2 bs 48) k).a))), .int .u32 (IntKind.u32.wrap (s.b + ((rnds s (spread2 bs 48) k).b))), .int .u32 (IntKind.u32.wrap (s.c + ((rnds s (spread2 bs 48) k).c))), .int .u32 (IntKind.u32.wrap (s.d + ((rnds s (spread2 bs 48) k).d))), .int .u32 (IntKind.u32.wrap (s.e + ((rnds s (spread2 bs 48) k).e))), .int .u32 (IntKind.u32.wrap (s.f + ((rnds s (spread2 bs 48) k).f))), .int .u32 (IntKind.u32.wrap (s.g + ((rnds s (spread2 bs 48) k).g))), .int .u32 (IntKind.u32.wrap (s.h + ((rnds s (spread2 bs 48) k).h)))]) (by kernel_rfl) (by kernel_rfl) zero_166 rfl rfl rfl (by intro v hv; simp only [List.mem_cons, List.not_mem_nil, or_false] at hv; rcases hv with rfl | rfl | rfl | rfl | rfl | rfl | rfl | rfl <;> rfl) rfl) ?_
   have hB34 := hB7.fr F12 (fun f => f)
   have hB35 := hB34.fr F16 (fun f => f)
   have hB36 := hB35.fr F0 (fun f => f)
   refine r_store (v := .agg #[.int .u32 (IntKind.u32.wrap (s.a + ((rnds s (spread2 bs 48) k).a))), .int .u32 (IntKind.u32.wrap (s.b + ((rnds s (spread2 bs 48) k).b))), .int .u32 (IntKind.u32.wrap (s.c + ((rnds s (spread2 bs 48) k).c))), .int .u32 (IntKind.u32.wrap (s.d + ((rnds s (spread2 bs 48) k).d))), .int .u32 (IntKind.u32.wrap (s.e + ((rnds s (spread2 bs 48) k).e))), .int .u32 (IntKind.u32.wrap (s.f + ((rnds s (spread2 bs 48) k).f))), .int .u32 (IntKind.u32.wrap (s.g + ((rnds s (spread2 bs 48) k).g))), .int .u32 (IntKind.u32.wrap (s.h + ((rnds s (spread2 bs 48) k).h)))]) (vs := [.int .u32 (IntKind.u32.wrap (s.a + ((rnds s (spread2 bs 48) k).a))), .int .u32 (IntKind.u32.wrap (s.b + ((rnds s (spread2 bs 48) k).b))), .int .u32 (IntKind.u32.wrap (s.c + ((rnds s (spread2 bs 48) k).c))), .int .u32 (IntKind.u32.wrap (s.d + ((rnds s (spread2 bs 48) k).d))), .int .u32 (IntKind.u32.wrap (s.e + ((rnds s (spread2 bs 48) k).e))), .int .u32 (IntKind.u32.wrap (s.f + ((rnds s (spread2 bs 48) k).f))), .int .u32 (IntKind.u32.wrap (s.g + ((rnds s (spread2 bs 48) k).g))), .int .u32 (IntKind.u32.wrap (s.h + ((rnds s (spread2 bs 48) k).h)))]) (l' := [.int .u32 (IntKind.u32.wrap (s.a + ((rnds s (spread2 bs 48) k).a))), .int .u32 (IntKind.u32.wrap (s.b + ((rnds s (spread2 bs 48) k).b))), .int .u32 (IntKind.u32.wrap (s.c + ((rnds s (spread2 bs 48) k).c))), .int .u32 (IntKind.u32.wrap (s.d + ((rnds s (spread2 bs 48) k).d))), .int .u32 (IntKind.u32.wrap (s.e + ((rnds s (spread2 bs 48) k).e))), .int .u32 (IntKind.u32.wrap (s.f + ((rnds s (spread2 bs 48) k).f))), .int .u32 (IntKind.u32.wrap (s.g + ((rnds s (spread2 bs 48) k).g))), .int .u32 (IntKind.u32.wrap (s.h + ((rnds s (spread2 bs 48) k).h)))]) rfl rfl size_166 rfl rfl rfl rfl hB36 (Nat.le_of_ble_eq_true rfl) rfl ?_
   intro w40 F37 z38 hB39
   refine RW_nil ?_
   refine thenW_n ?_
   refine W_ret ?_
   have := F1.size
   have := F5.size
   have := F12.size
   have := F16.size
   have := F0.size
   have := F37.size
   refine q_retC (l := [.int .u32 (IntKind.u32.wrap (s.a + ((rnds s (spread2 bs 48) k).a))), .int .u32 (IntKind.u32.wrap (s.b + ((rnds s (spread2 bs 48) k).b))), .int .u32 (IntKind.u32.wrap (s.c + ((rnds s (spread2 bs 48) k).c))), .int .u32 (IntKind.u32.wrap (s.d + ((rnds s (spread2 bs 48) k).d))), .int .u32 (IntKind.u32.wrap (s.e + ((rnds s (spread2 bs 48) k).e))), .int .u32 (IntKind.u32.wrap (s.f + ((rnds s (spread2 bs 48) k).f))), .int .u32 (IntKind.u32.wrap (s.g + ((rnds s (spread2 bs 48) k).g))), .int .u32 (IntKind.u32.wrap (s.h + ((rnds s (spread2 bs 48) k).h)))]) rfl rfl rfl kind_166 size_166 hB39 ?_
   obtain rfl : k = 64 := by omega
   exact ⟨rfl, (((((((Fr.refl No _).trans F1 (fun j hj h => h.elim)).trans F5 (fun j hj h => h.elim)).trans F12 (fun j hj h => h.elim)).trans F16 (fun j hj h => h.elim)).trans F0 (fun j hj h => h.elim)).trans F37 (fun j hj h => (by have h2 : j = gr := h; omega)))⟩

end Go.Proofs.YthomkocjjkmnkaaDoor
