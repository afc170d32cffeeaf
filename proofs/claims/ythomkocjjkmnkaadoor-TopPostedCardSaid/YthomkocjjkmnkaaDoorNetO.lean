import Derived.Test.YthomkocjjkmnkaaDoorTab
import Derived.Test.YthomkocjjkmnkaaDoorNetN
/- PRINTED by gen.py (wip/tools) from the plan wip/plans: walks. -/
namespace Go.Proofs.YthomkocjjkmnkaaDoor
open Go Go.RowKit
set_option maxRecDepth 100000
set_option linter.unusedVariables false
theorem due1 (fn ff ft fd now : Int) (fv : Value) (nb : Nat) (w : World) (hb : Blk w nb 3 [.int .i64 now]) :
    Calls Tryd.prog 79 #[.agg #[.int .i64 fn, .int .i64 ff, .int .i64 ft, .int .i64 fd, fv], .pointer (some ⟨nb, 0, none⟩)] w fun e w' => e = .returned (.bool (decide (now < fd))) ∧ Fr No w w' := by
 refine calls_of_W Tryd.func79 rfl 8 rfl (Nat.le_of_ble_eq_true rfl) ?_
 refine W_seq ?_
 refine W_region ?_
 obtain ⟨g1, hg1⟩ : ∃ n, w.heap.size = n := ⟨_, rfl⟩
 have ne_nb_g1 : nb ≠ g1 := by have := hb.lt; omega
 refine r_box (v := .agg #[.int .i64 fn, .int .i64 ff, .int .i64 ft, .int .i64 fd, fv]) (l := [.int .i64 fn, .int .i64 ff, .int .i64 ft, .int .i64 fd, fv]) rfl g1 hg1 rfl rfl ?_
 intro w5 F2 z3 hB4
 refine r_val rfl (x_assign (v := .bool false) rfl) ?_
 refine RW_nil ?_
 refine thenW_n ?_
 refine W_seq ?_
 refine W_region ?_
 refine r_val rfl (x_fieldAddr (b := g1) (o := 0) fo_37_3 rfl) ?_
 refine r_val rfl (x_load (v := .int .i64 fd) kind_3 rfl (hB4.cell rfl)) ?_
 have hB6 := hb.fr F2 (fun f => f)
 refine r_val rfl (x_load (v := .int .i64 now) kind_3 rfl (hB6.cell rfl)) ?_
 refine r_val rfl (x_gtr (a := fd) (b := now) rfl rfl) ?_
 refine r_val rfl (x_assign (v := .bool (decide (now < fd))) rfl) ?_
 refine RW_nil ?_
 refine thenW_n ?_
 refine W_ret ?_
 have := F2.size
 refine q_ret1 (v := .bool (decide (now < fd))) rfl rfl rfl ?_
 exact ⟨rfl, ((Fr.refl No _).trans F2 (fun j hj h => h.elim))⟩

theorem indexF (A : Option Addr) (n c : Nat) (l : List (Fl × Value)) (now : Int) (nb : Nat) (w : World) (hR : Rd w 5 (.slice A n c) n (encL FC l)) (hl : l.length = n) (hn : n ≤ 1000000) (hb : Blk w nb 3 [.int .i64 now]) :
    Calls Tryd.prog 78 #[.slice A n c, .func (.func 79) #[] #[.pointer (some ⟨nb, 0, none⟩)]] w fun e w' => ∃ k : Nat, e = .returned (.int .i64 (if k < n then (k : Int) else -1)) ∧ k ≤ n ∧ (∀ i, i < k → ¬ now < (l.getD i fl0).1.due) ∧ (k < n → now < (l.getD k fl0).1.due) ∧ Fr No w w' := by
 refine calls_of_W Tryd.func78 rfl 19 rfl (Nat.le_of_ble_eq_true rfl) ?_
 refine W_seq ?_
 refine W_region ?_
 refine r_val rfl (x_assign (v := .int .i64 0) rfl) ?_
 refine RW_nil ?_
 refine thenW_n ?_
 refine W_seq ?_
 refine W_seq ?_
 refine W_region ?_
 refine r_val rfl (x_move (v := .slice A n c) rfl) ?_
 refine r_val rfl (x_len (n := n) ul_26 rfl) ?_
 refine r_val rfl (x_move (v := .int .i64 0) rfl) ?_
 refine RW_nil ?_
 refine thenW_n ?_
 refine W_block ?_
 refine W_loop (fun m σ w' => ∃ k : Nat, ∃ τ : Env, m = n - k ∧ σ = ovl τ [(0, .slice A n c), (1, .func (.func 79) #[] #[.pointer (some ⟨nb, 0, none⟩)]), (7, .int .i64 (n : Int)), (8, .int .i64 (k : Int)), (4, .int .i64 0)] ∧ Fr No w w' ∧ k ≤ n ∧ ∀ i, i < k → ¬ now < (l.getD i fl0).1.due) (n) ?_ ?_
 · exact ⟨0, _, rfl, ((ovl_cons (ovl_cons (ovl_cons (ovl_cons (ovl_cons (ovl_nil _) rfl) rfl) rfl) rfl) rfl)).symm, Fr.refl _ _, Nat.zero_le _, fun j hj => absurd hj (Nat.not_lt_zero _)⟩
 ·skip
  rintro _ _ w1 ⟨k, τ, rfl, rfl, F0, hk, hz⟩
  refine W_seq ?_
  refine W_region ?_
  refine r_val rfl (x_lss (a := (k : Int)) (b := (n : Int)) rfl rfl) ?_
  refine RW_nil ?_
  refine thenW_n ?_
  refine W_seq ?_
  refine W_condD (p := (k : Int) < (n : Int)) rfl rfl (fun hc2 => ?_) (fun hc2 => ?_)
  ·skip
   refine W_skip ?_
   refine thenW_n ?_
   refine W_seq ?_
   refine W_block ?_
   refine W_seq ?_
   refine W_region ?_
   refine r_val rfl (x_move (v := .int .i64 (k : Int)) rfl) ?_
   refine r_val rfl (x_assign (v := .int .i64 (k : Int)) rfl) ?_
   refine RW_nil ?_
   refine thenW_n ?_
   refine W_seq ?_
   have hR3 := hR.fr F0 (fun _ _ f => f)
   obtain ⟨rb, ro, _, hv4, _, hcell5⟩ := hR3.at_ (by omega)
   injection hv4 with hv4A
   subst hv4A
   refine W_region ?_
   refine r_val rfl (x_move (v := .func (.func 79) #[] #[.pointer (some ⟨nb, 0, none⟩)]) rfl) ?_
   refine r_val rfl (x_move (v := .slice (some ⟨rb, ro, none⟩) n c) rfl) ?_
   refine r_val rfl (x_move (v := .int .i64 (k : Int)) rfl) ?_
   refine r_val rfl (x_indexAddr (b := rb) (o := ro) (j := k) es_26 rfl rfl rfl (by omega)) ?_
   refine r_val rfl (x_loadRow (b := rb) (o := ro + k * 5) (cs := [.int .i64 ((l.getD k fl0).1.num), .int .i64 ((l.getD k fl0).1.frm), .int .i64 ((l.getD k fl0).1.dst), .int .i64 ((l.getD k fl0).1.due), (l.getD k fl0).2]) kind_37 size_37 rfl (fun m u hu => (by rw [Nat.add_assoc]; exact hcell5 _ _ (encL_get (size := 5) FC_len (getD_at l k fl0 (by omega)) hu)))) ?_
   have hB6 := hb.fr F0 (fun f => f)
   refine r_call rfl (x_callV (f := 79) (fs := []) (cs := [.pointer (some ⟨nb, 0, none⟩)]) (vs := [.agg #[.int .i64 ((l.getD k fl0).1.num), .int .i64 ((l.getD k fl0).1.frm), .int .i64 ((l.getD k fl0).1.dst), .int .i64 ((l.getD k fl0).1.due), (l.getD k fl0).2], .pointer (some ⟨nb, 0, none⟩)]) rfl Tryd.func79 (by kernel_rfl) rfl rfl) (due1 (l.getD k fl0).1.num (l.getD k fl0).1.frm (l.getD k fl0).1.dst (l.getD k fl0).1.due now (l.getD k fl0).2 nb w1 hB6) ?_
   rintro _ w8 ⟨rfl, F7⟩
   refine ⟨_, rfl, ?_⟩
   refine RW_nil ?_
   refine thenW_n ?_
   refine W_condD (p := now < (l.getD k fl0).1.due) rfl rfl (fun hc9 => ?_) (fun hc9 => ?_)
   ·skip
    refine W_seq ?_
    refine W_region ?_
    refine r_val rfl (x_move (v := .int .i64 (k : Int)) rfl) ?_
    refine r_val rfl (x_assign (v := .int .i64 (k : Int)) rfl) ?_
    refine RW_nil ?_
    refine thenW_n ?_
    refine W_ret ?_
    refine inBlk_r ?_
    refine thenW_r ?_
    refine thenW_r ?_
    refine inBlk_r ?_
    refine thenW_r ?_
    have := F0.size
    have := F7.size
    refine q_ret1 (v := .int .i64 (k : Int)) rfl rfl rfl ?_
    exact ⟨k, by rw [if_pos (by omega)], by omega, hz, fun _ => hc9, (((Fr.refl No _).trans F0 (fun j hj h => h.elim)).trans F7 (fun j hj h => h.elim))⟩
   ·skip
    refine W_skip ?_
    refine inBlk_n ?_
    refine thenW_n ?_
    refine W_region ?_
    refine r_val rfl (x_add64 (a := (k : Int)) (b := 1) rfl rfl (by omega)) ?_
    refine r_val rfl (x_move (v := .int .i64 ((k : Int) + 1)) rfl) ?_
    refine RW_nil ?_
    refine thenW_n ?_
    have := F0.size
    have := F7.size
    exact ⟨_, (by omega), k + 1, _, rfl, ((ovl_cons (ovl_cons (ovl_cons (ovl_cons (ovl_cons (ovl_nil _) rfl) (by show Value.int .i64 ((k : Int) + 1) = _; rfl)) rfl) rfl) rfl)).symm, (((Fr.refl No _).trans F0 (fun j hj h => h.elim)).trans F7 (fun j hj h => h.elim)), by omega, fun i hi => (by rcases Nat.lt_succ_iff_lt_or_eq.1 hi with h | h; exact hz i h; subst h; exact hc9)⟩
  ·skip
   refine W_exit ?_
   refine thenW_x ?_
   refine thenW_x ?_
   refine inBlk_xs ?_
   refine thenW_n ?_
   refine W_seq ?_
   refine W_region ?_
   refine r_val rfl (x_assign (v := .int .i64 (-1)) rfl) ?_
   refine RW_nil ?_
   refine thenW_n ?_
   refine W_ret ?_
   have := F0.size
   refine q_ret1 (v := .int .i64 (-1)) rfl rfl rfl ?_
   exact ⟨k, by rw [if_neg (by omega)], by omega, hz, fun h => absurd h (by omega), ((Fr.refl No _).trans F0 (fun j hj h => h.elim))⟩

theorem subA_none {size l m : Nat} {A : Option Addr} (h : subA size l m A = none) : A = none := by
  unfold subA at h
  split at h
  · exact h
  · cases A with
    | none => rfl
    | some a => cases h

theorem netDue_no (B : Nat) (now : Int) (w : World) (hx : ¬ (0 ≤ now ∧ now ≤ 1099511627776)) :
    Calls Tryd.prog 13 #[.pointer (some ⟨B, 0, none⟩), .int .i64 now] w fun e w' => e = .returned (.tuple #[.slice none 0 0, .int .i64 1]) ∧ Fr No w w' := by
 refine calls_of_W Tryd.func13 rfl 42 rfl (Nat.le_of_ble_eq_true rfl) ?_
 refine W_seq ?_
 refine W_region ?_
 obtain ⟨g1, hg1⟩ : ∃ n, w.heap.size = n := ⟨_, rfl⟩
 refine r_box (v := .int .i64 now) (l := [.int .i64 now]) rfl g1 hg1 rfl rfl ?_
 intro w5 F2 z3 hB4
 refine r_val rfl (x_assign (v := .slice none 0 0) rfl) ?_
 refine r_val rfl (x_assign (v := .int .i64 0) rfl) ?_
 refine RW_nil ?_
 refine thenW_n ?_
 refine W_seq ?_
 refine W_seq ?_
 refine W_region ?_
 refine r_val rfl (x_load (v := .int .i64 now) kind_3 rfl (hB4.cell rfl)) ?_
 refine r_call rfl (c76 (vs := [.int .i64 now]) rfl) (moment_any now w5) ?_
 rintro _ _ ⟨rfl, rfl⟩
 refine ⟨_, rfl, ?_⟩
 refine r_val rfl (x_not (b := (decide (0 ≤ now) && decide (now ≤ 1099511627776))) rfl) ?_
 refine RW_nil ?_
 refine thenW_n ?_
 refine W_condT (b := !(decide (0 ≤ now) && decide (now ≤ 1099511627776))) rfl rfl (by have : (decide (0 ≤ now) && decide (now ≤ 1099511627776)) = false := (by simpa using (fun h1 => Int.not_le.1 (fun h2 => hx ⟨h1, h2⟩))); rw [this]; rfl) ?_
 refine W_seq ?_
 refine W_region ?_
 refine r_val rfl (x_assign (v := .slice none 0 0) rfl) ?_
 refine r_val rfl (x_assign (v := .int .i64 1) rfl) ?_
 refine RW_nil ?_
 refine thenW_n ?_
 refine W_ret ?_
 refine thenW_r ?_
 have := F2.size
 refine q_ret2 (v := .slice none 0 0) (u := .int .i64 1) rfl rfl rfl rfl rfl ?_
 exact ⟨rfl, ((Fr.refl No _).trans F2 (fun j hj h => h.elim))⟩

theorem one_take2 {l : List (Fl × Value)} {k : Nat} (h : ∀ p ∈ l, p.2.oneCell' = true) : ∀ u ∈ encL FC (l.take k), u.oneCell' = true := FC_one fun p hp => h p (List.mem_of_mem_take hp)
theorem one_drop2 {l : List (Fl × Value)} {k : Nat} (h : ∀ p ∈ l, p.2.oneCell' = true) : ∀ u ∈ encL FC (l.drop k), u.oneCell' = true := FC_one fun p hp => h p (List.mem_of_mem_drop hp)

theorem netDue {w : World} {K : Nat → Prop} {B : Nat} {nodes : Int} {mst : Nat} {sent lost : Int} {l : List (Fl × Value)} (hN : NetS w K B nodes mst sent lost l) (hl : l.length ≤ 1000000) (hse : 0 ≤ sent ∧ sent ≤ 1000000) (hlo : 0 ≤ lost ∧ lost ≤ 1000000) (hmo : mst ≤ 1000000) (now : Int) (hx : 0 ≤ now ∧ now ≤ 1099511627776) :
    Calls Tryd.prog 13 #[.pointer (some ⟨B, 0, none⟩), .int .i64 now] w fun e w' => ∃ v k, e = .returned (.tuple #[v, .int .i64 0]) ∧ k ≤ l.length ∧ (∀ i, i < k → ¬ now < (l.getD i fl0).1.due) ∧ (k < l.length → now < (l.getD k fl0).1.due) ∧ Own w' 37 5 v k (encL FC (l.take k)) ∧ (∀ b, v.ownBlock = some b → w.heap.size ≤ b) ∧ NetS w' (grow K w) B nodes mst sent lost (l.drop k) ∧ Fr K w w' ∧ (∀ p ∈ l.take k, Own w' 5 1 p.2 p.1.bs.length (BC p.1.bs)) := by
 obtain ⟨A, c, hB, hO, hK⟩ := hN.net
 obtain ⟨_, _, e0, hnc⟩ := hO.rd.form
 injection e0 with _ _ e3
 subst e3
 refine calls_of_W Tryd.func13 rfl 42 rfl (Nat.le_of_ble_eq_true rfl) ?_
 refine W_seq ?_
 refine W_region ?_
 obtain ⟨nb, hnb⟩ : ∃ n, w.heap.size = n := ⟨_, rfl⟩
 have ne_B_nb : B ≠ nb := by have := hB.lt; omega
 refine r_box (v := .int .i64 now) (l := [.int .i64 now]) rfl nb hnb rfl rfl ?_
 intro w4 F1 z2 hB3
 refine r_val rfl (x_assign (v := .slice none 0 0) rfl) ?_
 refine r_val rfl (x_assign (v := .int .i64 0) rfl) ?_
 refine RW_nil ?_
 refine thenW_n ?_
 refine W_seq ?_
 refine W_seq ?_
 refine W_region ?_
 refine r_val rfl (x_load (v := .int .i64 now) kind_3 rfl (hB3.cell rfl)) ?_
 refine r_call rfl (c76 (vs := [.int .i64 now]) rfl) (moment_any now w4) ?_
 rintro _ _ ⟨rfl, rfl⟩
 refine ⟨_, rfl, ?_⟩
 refine r_val rfl (x_not (b := (decide (0 ≤ now) && decide (now ≤ 1099511627776))) rfl) ?_
 refine RW_nil ?_
 refine thenW_n ?_
 refine W_condF (b := !(decide (0 ≤ now) && decide (now ≤ 1099511627776))) rfl rfl (by rw [decide_eq_true hx.1, decide_eq_true hx.2]; rfl) ?_
 refine W_skip ?_
 refine thenW_n ?_
 refine W_seq ?_
 refine W_region ?_
 refine r_val rfl (x_move (v := .pointer (some ⟨B, 0, none⟩)) rfl) ?_
 refine r_val rfl (x_nilCheck rfl) ?_
 refine r_val rfl (x_fieldAddr (b := B) (o := 0) fo_154_2 rfl) ?_
 have hB5 := hB.fr F1 (fun f => f)
 refine r_val rfl (x_load (v := .slice A l.length c) kind_26 rfl (hB5.cell rfl)) ?_
 refine r_val rfl (x_makeFunc (fs := []) (cs := [.pointer (some ⟨nb, 0, none⟩)]) rfl rfl) ?_
 have hR6 := hO.fr F1 (fun _ _ f => f)
 refine r_call rfl (c78 (vs := [.slice A l.length c, .func (.func 79) #[] #[.pointer (some ⟨nb, 0, none⟩)]]) rfl) (indexF A l.length c l now nb w4 hR6.rd rfl hl hB3) ?_
 rintro _ w8 ⟨k, rfl, hk, hlo2, hhi2, F7⟩
 refine ⟨_, rfl, ?_⟩
 refine r_val rfl (x_assign (v := .int .i64 (if k < l.length then (k : Int) else -1)) rfl) ?_
 refine RW_nil ?_
 refine thenW_n ?_
 refine W_seq ?_
 refine W_seq ?_
 refine W_region ?_
 refine r_val rfl (x_move (v := .int .i64 (if k < l.length then (k : Int) else -1)) rfl) ?_
 refine r_val rfl (x_lss (a := if k < l.length then (k : Int) else -1) (b := 0) rfl rfl) ?_
 refine RW_nil ?_
 refine thenW_n ?_
 refine W_condD (p := (if k < l.length then (k : Int) else -1) < 0) rfl rfl (fun HC => ?_) (fun HC => ?_)
 ·skip
  have hkn : ¬ k < l.length := fun h => by rw [if_pos h] at HC; omega
  obtain rfl : k = l.length := by omega
  refine W_region ?_
  refine r_val rfl (x_move (v := .pointer (some ⟨B, 0, none⟩)) rfl) ?_
  refine r_val rfl (x_nilCheck rfl) ?_
  refine r_val rfl (x_fieldAddr (b := B) (o := 0) fo_154_2 rfl) ?_
  have hB9 := hB5.fr F7 (fun f => f)
  refine r_val rfl (x_load (v := .slice A l.length c) kind_26 rfl (hB9.cell rfl)) ?_
  refine r_val rfl (x_len (n := l.length) ul_26 rfl) ?_
  refine r_val rfl (x_assign (v := .int .i64 (l.length : Int)) rfl) ?_
  refine RW_nil ?_
  refine thenW_n ?_
  refine W_seq ?_
  refine W_region ?_
  refine r_val rfl (x_move (v := .pointer (some ⟨B, 0, none⟩)) rfl) ?_
  refine r_val rfl (x_nilCheck rfl) ?_
  refine r_val rfl (x_fieldAddr (b := B) (o := 0) fo_154_2 rfl) ?_
  refine r_val rfl (x_load (v := .slice A l.length c) kind_26 rfl (hB9.cell rfl)) ?_
  refine r_val rfl (x_move (v := .int .i64 (l.length : Int)) rfl) ?_
  refine r_val rfl (x_sliceHi (h := (l.length)) es_26 rfl rfl (by first | rfl | omega) (by omega)) ?_
  have hR10 := hR6.fr F7 (fun _ _ f => f)
  have hr1 := (hR10.rd.take l.length (by omega) c (by omega))
  rw [encL_take FC_len] at hr1
  refine r_call rfl (c80 (vs := [.slice A (l.length) c]) rfl) (cloneF A l.length c (encL FC (l.take l.length)) w8 hr1 (fun h => by have := hO.nil_len h; omega) (one_take2 hN.one) (by omega)) ?_
  rintro _ w12 ⟨v1, rfl, hOut, F11, hv1, _⟩
  have hB13 := hB9.fr F11 (fun f => f)
  obtain ⟨A1, c1, hve1, hc1⟩ := hOut.rd.form
  subst hve1
  have hBo := hB13
  refine ⟨_, rfl, ?_⟩
  refine r_val rfl (x_assign (v := .slice A1 l.length c1) rfl) ?_
  refine RW_nil ?_
  refine thenW_n ?_
  refine W_seq ?_
  refine W_region ?_
  refine r_val rfl (x_move (v := .pointer (some ⟨B, 0, none⟩)) rfl) ?_
  refine r_val rfl (x_move (v := .pointer (some ⟨B, 0, none⟩)) rfl) ?_
  refine r_val rfl (x_nilCheck rfl) ?_
  refine r_val rfl (x_fieldAddr (b := B) (o := 0) fo_154_2 rfl) ?_
  refine r_val rfl (x_load (v := .slice A l.length c) kind_26 rfl (hB13.cell rfl)) ?_
  refine r_val rfl (x_move (v := .int .i64 (l.length : Int)) rfl) ?_
  refine r_val rfl (x_sliceLo (l := (l.length)) es_26 rfl rfl (by first | rfl | omega) (by omega)) ?_
  have hR14 := hR10.fr F11 (fun _ _ f => f)
  have hr2 := hR14.rd.sub l.length l.length (by omega) (Nat.le_refl _) c hnc
  rw [encL_drop FC_len, List.take_of_length_le (by rw [encL_length FC_len, List.length_drop]; omega)] at hr2
  refine r_call rfl (c80 (vs := [.slice (subA 5 (l.length) c A) (l.length - (l.length)) (c - (l.length))]) rfl) (cloneF (subA 5 l.length c A) (l.length - l.length) (c - l.length) (encL FC (l.drop l.length)) w12 hr2 (fun h => by have := hO.nil_len (subA_none h); omega) (one_drop2 hN.one) (by omega)) ?_
  rintro _ w16 ⟨v2, rfl, hO2, F15, hv2, _⟩
  have hB17 := hB13.fr F15 (fun f => f)
  obtain ⟨A2, c2, hve2, hc2⟩ := hO2.rd.form
  subst hve2
  have hB2 := hB17
  refine ⟨_, rfl, ?_⟩
  refine r_val rfl (x_nilCheck rfl) ?_
  refine r_val rfl (x_fieldAddr (b := B) (o := 0) fo_154_2 rfl) ?_
  refine r_store (v := .slice A2 (l.length - l.length) c2) (vs := [.slice A2 (l.length - l.length) c2]) (l' := [.int .i64 nodes, .int .i64 (mst : Int), .slice A2 (l.length - l.length) c2, .int .i64 sent, .int .i64 lost]) rfl rfl size_26 rfl rfl rfl rfl hB17 (Nat.le_of_ble_eq_true rfl) rfl ?_
  intro w21 F18 z19 hB20
  refine RW_nil ?_
  refine thenW_n ?_
  refine W_seq ?_
  refine W_region ?_
  refine r_val rfl (x_move (v := .slice A1 l.length c1) rfl) ?_
  refine r_val rfl (x_assign (v := .slice A1 l.length c1) rfl) ?_
  refine r_val rfl (x_assign (v := .int .i64 0) rfl) ?_
  refine RW_nil ?_
  refine thenW_n ?_
  refine W_ret ?_
  have hR22 := hOut.fr F15 (fun _ _ f => f)
  have hR23 := hR22.fr F18 (fun b hb h => (hOut.type_ne hBo (by decide)) (h ▸ hb))
  have hR24 := hO2.fr F18 (fun b hb h => (hO2.type_ne hB2 (by decide)) (h ▸ hb))
  have := F1.size
  have := F7.size
  have := F11.size
  have := F15.size
  have := F18.size
  refine q_ret2 (v := .slice A1 l.length c1) (u := .int .i64 0) rfl rfl rfl rfl rfl ?_
  have hFF := ((((((Fr.refl (fun b => b = B ∨ (Value.slice A l.length c).ownBlock = some b) _).trans F1 (fun j hj h => h.elim)).trans F7 (fun j hj h => h.elim)).trans F11 (fun j hj h => h.elim)).trans F15 (fun j hj h => h.elim)).trans F18 (fun j hj h => (.inl h)))
  have hgr := hN.re (l' := l.drop l.length) hB hO hK hFF hB20 (by rw [List.length_drop]) hR24 (fun b hb => .inr (by have := hv2 b hb; omega)) (fun p hp => ⟨p, List.mem_of_mem_drop hp, rfl, rfl⟩) (hN.apart.sublist (List.drop_sublist _ _)) (hN.sorted.sublist ((List.drop_sublist _ _).map _))
  exact ⟨_, l.length, rfl, by omega, hlo2, hhi2, hR23, fun b hb => (by have := hv1 b hb; omega), hgr.1, hgr.2, fun p hp => (hN.bytes p (List.mem_of_mem_take hp)).1.fr hFF (fun b h => by rintro (h4 | h4); (exact (hN.bytes p (List.mem_of_mem_take hp)).1.type_ne hB (by decide) (h4 ▸ h)); (exact (hN.bytes p (List.mem_of_mem_take hp)).1.ne2 hO (by decide) h h4))⟩
 ·skip
  have hkn : k < l.length := by rcases Nat.lt_or_ge k l.length with h | h; (exact h); (rw [if_neg (by omega)] at HC; omega)
  rw [if_pos hkn]
  refine W_skip ?_
  refine thenW_n ?_
  refine W_seq ?_
  refine W_region ?_
  refine r_val rfl (x_move (v := .pointer (some ⟨B, 0, none⟩)) rfl) ?_
  refine r_val rfl (x_nilCheck rfl) ?_
  refine r_val rfl (x_fieldAddr (b := B) (o := 0) fo_154_2 rfl) ?_
  have hB25 := hB5.fr F7 (fun f => f)
  refine r_val rfl (x_load (v := .slice A l.length c) kind_26 rfl (hB25.cell rfl)) ?_
  refine r_val rfl (x_move (v := .int .i64 (k : Int)) rfl) ?_
  refine r_val rfl (x_sliceHi (h := k) es_26 rfl rfl (by first | rfl | omega) (by omega)) ?_
  have hR26 := hR6.fr F7 (fun _ _ f => f)
  have hr1 := (hR26.rd.take k (by omega) c (by omega))
  rw [encL_take FC_len] at hr1
  refine r_call rfl (c80 (vs := [.slice A k c]) rfl) (cloneF A k c (encL FC (l.take k)) w8 hr1 (fun h => by have := hO.nil_len h; omega) (one_take2 hN.one) (by omega)) ?_
  rintro _ w28 ⟨v1, rfl, hOut, F27, hv1, _⟩
  have hB29 := hB25.fr F27 (fun f => f)
  obtain ⟨A1, c1, hve1, hc1⟩ := hOut.rd.form
  subst hve1
  have hBo := hB29
  refine ⟨_, rfl, ?_⟩
  refine r_val rfl (x_assign (v := .slice A1 k c1) rfl) ?_
  refine RW_nil ?_
  refine thenW_n ?_
  refine W_seq ?_
  refine W_region ?_
  refine r_val rfl (x_move (v := .pointer (some ⟨B, 0, none⟩)) rfl) ?_
  refine r_val rfl (x_move (v := .pointer (some ⟨B, 0, none⟩)) rfl) ?_
  refine r_val rfl (x_nilCheck rfl) ?_
  refine r_val rfl (x_fieldAddr (b := B) (o := 0) fo_154_2 rfl) ?_
  refine r_val rfl (x_load (v := .slice A l.length c) kind_26 rfl (hB29.cell rfl)) ?_
  refine r_val rfl (x_move (v := .int .i64 (k : Int)) rfl) ?_
  refine r_val rfl (x_sliceLo (l := k) es_26 rfl rfl (by first | rfl | omega) (by omega)) ?_
  have hR30 := hR26.fr F27 (fun _ _ f => f)
  have hr2 := hR30.rd.sub k l.length (by omega) (Nat.le_refl _) c hnc
  rw [encL_drop FC_len, List.take_of_length_le (by rw [encL_length FC_len, List.length_drop]; omega)] at hr2
  refine r_call rfl (c80 (vs := [.slice (subA 5 k c A) (l.length - k) (c - k)]) rfl) (cloneF (subA 5 k c A) (l.length - k) (c - k) (encL FC (l.drop k)) w28 hr2 (fun h => by have := hO.nil_len (subA_none h); omega) (one_drop2 hN.one) (by omega)) ?_
  rintro _ w32 ⟨v2, rfl, hO2, F31, hv2, _⟩
  have hB33 := hB29.fr F31 (fun f => f)
  obtain ⟨A2, c2, hve2, hc2⟩ := hO2.rd.form
  subst hve2
  have hB2 := hB33
  refine ⟨_, rfl, ?_⟩
  refine r_val rfl (x_nilCheck rfl) ?_
  refine r_val rfl (x_fieldAddr (b := B) (o := 0) fo_154_2 rfl) ?_
  refine r_store (v := .slice A2 (l.length - k) c2) (vs := [.slice A2 (l.length - k) c2]) (l' := [.int .i64 nodes, .int .i64 (mst : Int), .slice A2 (l.length - k) c2, .int .i64 sent, .int .i64 lost]) rfl rfl size_26 rfl rfl rfl rfl hB33 (Nat.le_of_ble_eq_true rfl) rfl ?_
  intro w37 F34 z35 hB36
  refine RW_nil ?_
  refine thenW_n ?_
  refine W_seq ?_
  refine W_region ?_
  refine r_val rfl (x_move (v := .slice A1 k c1) rfl) ?_
  refine r_val rfl (x_assign (v := .slice A1 k c1) rfl) ?_
  refine r_val rfl (x_assign (v := .int .i64 0) rfl) ?_
  refine RW_nil ?_
  refine thenW_n ?_
  refine W_ret ?_
  have hR38 := hOut.fr F31 (fun _ _ f => f)
  have hR39 := hR38.fr F34 (fun b hb h => (hOut.type_ne hBo (by decide)) (h ▸ hb))
  have hR40 := hO2.fr F34 (fun b hb h => (hO2.type_ne hB2 (by decide)) (h ▸ hb))
  have := F1.size
  have := F7.size
  have := F27.size
  have := F31.size
  have := F34.size
  refine q_ret2 (v := .slice A1 k c1) (u := .int .i64 0) rfl rfl rfl rfl rfl ?_
  have hFF := ((((((Fr.refl (fun b => b = B ∨ (Value.slice A l.length c).ownBlock = some b) _).trans F1 (fun j hj h => h.elim)).trans F7 (fun j hj h => h.elim)).trans F27 (fun j hj h => h.elim)).trans F31 (fun j hj h => h.elim)).trans F34 (fun j hj h => (.inl h)))
  have hgr := hN.re (l' := l.drop k) hB hO hK hFF hB36 (by rw [List.length_drop]) hR40 (fun b hb => .inr (by have := hv2 b hb; omega)) (fun p hp => ⟨p, List.mem_of_mem_drop hp, rfl, rfl⟩) (hN.apart.sublist (List.drop_sublist _ _)) (hN.sorted.sublist ((List.drop_sublist _ _).map _))
  exact ⟨_, k, rfl, by omega, hlo2, hhi2, hR39, fun b hb => (by have := hv1 b hb; omega), hgr.1, hgr.2, fun p hp => (hN.bytes p (List.mem_of_mem_take hp)).1.fr hFF (fun b h => by rintro (h4 | h4); (exact (hN.bytes p (List.mem_of_mem_take hp)).1.type_ne hB (by decide) (h4 ▸ h)); (exact (hN.bytes p (List.mem_of_mem_take hp)).1.ne2 hO (by decide) h h4))⟩

end Go.Proofs.YthomkocjjkmnkaaDoor
