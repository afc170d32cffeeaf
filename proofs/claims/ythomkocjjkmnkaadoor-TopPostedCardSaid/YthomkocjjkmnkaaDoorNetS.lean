import Derived.Test.YthomkocjjkmnkaaDoorTab
import Derived.Test.YthomkocjjkmnkaaDoorStr
import Derived.Test.YthomkocjjkmnkaaDoorNetR
/- PRINTED by gen.py (wip/tools) from the plan wip/plans: walks. -/
namespace Go.Proofs.YthomkocjjkmnkaaDoor
open Go Go.RowKit
set_option maxRecDepth 100000
set_option linter.unusedVariables false
theorem roostWay_eq (A A2 : Option Addr) (n c c2 : Nat) (la lb : List (Fl × Value)) (w : World) (hRa : Rd w 5 (.slice A n c) n (encL FC la)) (hRb : Rd w 5 (.slice A2 n c2) n (encL FC lb)) (hla : la.length = n) (hlb : lb.length = n) (hn : n ≤ 1000000) (heqs : la.map (·.1) = lb.map (·.1))
    (hb_a : ∀ p ∈ la, Rd w 1 p.2 p.1.bs.length (BC p.1.bs)) (hb_b : ∀ p ∈ lb, Rd w 1 p.2 p.1.bs.length (BC p.1.bs)) :
    Calls Tryd.prog 14 #[.slice A n c, .slice A2 n c2] w fun e w' => e = .returned (.bool true) ∧ Fr No w w' := by
 refine calls_of_W Tryd.func14 rfl 62 rfl (Nat.le_of_ble_eq_true rfl) ?_
 refine W_seq ?_
 refine W_region ?_
 refine r_val rfl (x_assign (v := .bool false) rfl) ?_
 refine RW_nil ?_
 refine thenW_n ?_
 refine W_seq ?_
 refine W_seq ?_
 refine W_region ?_
 refine r_val rfl (x_move (v := .slice A n c) rfl) ?_
 refine r_val rfl (x_len (n := n) ul_26 rfl) ?_
 refine r_val rfl (x_move (v := .slice A2 n c2) rfl) ?_
 refine r_val rfl (x_len (n := n) ul_26 rfl) ?_
 refine r_val rfl (x_neq (a := (n : Int)) (b := (n : Int)) rfl rfl) ?_
 refine RW_nil ?_
 refine thenW_n ?_
 refine W_condF (b := decide ((n : Int) ≠ (n : Int))) rfl rfl (decide_eq_false (by omega)) ?_
 refine W_skip ?_
 refine thenW_n ?_
 refine W_seq ?_
 refine W_seq ?_
 refine W_region ?_
 refine r_val rfl (x_move (v := .slice A n c) rfl) ?_
 refine r_val rfl (x_len (n := n) ul_26 rfl) ?_
 refine r_val rfl (x_move (v := .int .i64 0) rfl) ?_
 refine RW_nil ?_
 refine thenW_n ?_
 refine W_block ?_
 refine W_loop (fun m σ w' => ∃ k : Nat, ∃ τ : Env, m = n - k ∧ σ = ovl τ [(0, .slice A n c), (1, .slice A2 n c2), (14, .int .i64 (n : Int)), (15, .int .i64 (k : Int))] ∧ Fr No w w' ∧ k ≤ n) (n) ?_ ?_
 · exact ⟨0, _, rfl, ((ovl_cons (ovl_cons (ovl_cons (ovl_cons (ovl_nil _) rfl) rfl) rfl) rfl)).symm, Fr.refl _ _, Nat.zero_le _⟩
 ·skip
  rintro _ _ w1 ⟨k, τ, rfl, rfl, F0, hk⟩
  refine W_seq ?_
  refine W_region ?_
  refine r_val rfl (x_lss (a := (k : Int)) (b := (n : Int)) rfl rfl) ?_
  refine RW_nil ?_
  refine thenW_n ?_
  refine W_seq ?_
  refine W_condD (p := (k : Int) < (n : Int)) rfl rfl (fun hc2 => ?_) (fun hc2 => ?_)
  ·skip
   refine W_skip ?_
   refine thenW_n ?_
   refine W_seq ?_
   refine W_block ?_
   refine W_seq ?_
   refine W_region ?_
   refine r_val rfl (x_move (v := .int .i64 (k : Int)) rfl) ?_
   refine r_val rfl (x_assign (v := .int .i64 (k : Int)) rfl) ?_
   refine RW_nil ?_
   refine thenW_n ?_
   refine W_seq ?_
   have hka : k < la.length := by omega
   have hkb : k < lb.length := by omega
   have hR3 := hRa.fr F0 (fun _ _ f => f)
   obtain ⟨ra, oa, _, hv4, _, hcell5⟩ := hR3.at_ (by omega)
   injection hv4 with hv4A
   subst hv4A
   have hR6 := hRb.fr F0 (fun _ _ f => f)
   obtain ⟨rb, ob, _, hv7, _, hcell8⟩ := hR6.at_ (by omega)
   injection hv7 with hv7A
   subst hv7A
   have hba := hb_a (la.getD k fl0) (getD_mem (by omega))
   obtain ⟨FAa, mca, hfea, _⟩ := hba.form
   have hFCa : FC (la.getD k fl0) = [.int .i64 (la.getD k fl0).1.num, .int .i64 (la.getD k fl0).1.frm, .int .i64 (la.getD k fl0).1.dst, .int .i64 (la.getD k fl0).1.due, .slice FAa (la.getD k fl0).1.bs.length mca] := by unfold FC; rw [hfea]
   rw [hfea] at hba
   have hbb := hb_b (lb.getD k fl0) (getD_mem (by omega))
   obtain ⟨FAb, mcb, hfeb, _⟩ := hbb.form
   have hFCb : FC (lb.getD k fl0) = [.int .i64 (lb.getD k fl0).1.num, .int .i64 (lb.getD k fl0).1.frm, .int .i64 (lb.getD k fl0).1.dst, .int .i64 (lb.getD k fl0).1.due, .slice FAb (lb.getD k fl0).1.bs.length mcb] := by unfold FC; rw [hfeb]
   rw [hfeb] at hbb
   have heq : (la.getD k fl0).1 = (lb.getD k fl0).1 := by have := congrArg (·[k]?) heqs; simpa [List.getD_eq_getElem?_getD, List.getElem?_eq_getElem hka, List.getElem?_eq_getElem hkb] using this
   refine d_begin mo 11 (fun x => Fr No w1 x) ?_
   obtain ⟨w10, hw10⟩ : ∃ x, w1.drew = x := ⟨_, rfl⟩
   have F9 : Fr No w1 w10 := by rw [← hw10]; exact Fr.drew _ _
   have D11 : Fr No w1 w10 := Fr.of_No F9
   have sF9 := F9.size
   rw [hw10]
   refine d_pure (i := 0) rfl (by kernel_rfl) (np_then (np_blk (np_then (np_then (np_blk (np_then np_body)))))) rfl (fun _ => (x_move (v := .slice (some ⟨ra, oa, none⟩) n c) rfl)) (fun _ => D11) ?_
   refine d_pure (i := 1) rfl (by kernel_rfl) (np_then (np_blk (np_then (np_then (np_blk (np_then np_body)))))) rfl (fun _ => (x_move (v := .int .i64 (k : Int)) rfl)) (fun _ => D11) ?_
   refine d_pure (i := 2) rfl (by kernel_rfl) (np_then (np_blk (np_then (np_then (np_blk (np_then np_body)))))) rfl (fun _ => (x_indexAddr (b := ra) (o := oa) (j := k) es_26 rfl rfl rfl (by omega))) (fun _ => D11) ?_
   refine d_load (i := 3) rfl (by kernel_rfl) (np_then (np_blk (np_then (np_then (np_blk (np_then np_body)))))) rfl (by kernel_rfl) rfl (fun x hS => (x_loadRow (b := ra) (o := oa + k * 5) (cs := [.int .i64 ((la.getD k fl0).1.num), .int .i64 ((la.getD k fl0).1.frm), .int .i64 ((la.getD k fl0).1.dst), .int .i64 ((la.getD k fl0).1.due), .slice FAa ((la.getD k fl0).1.bs.length) mca]) kind_37 size_37 rfl (fun m u hu => (by rw [Nat.add_assoc]; exact hS.cell (hcell5 _ _ (encL_get (a := (la.getD k fl0)) (size := 5) FC_len (getD_at la k fl0 (by omega)) (hFCa ▸ hu))) (fun f => f))))) D11 ?_
   refine d_pure (i := 4) rfl (by kernel_rfl) (np_then (np_blk (np_then (np_then (np_blk (np_then np_body)))))) rfl (fun _ => (x_move (v := .slice (some ⟨rb, ob, none⟩) n c2) rfl)) (fun _ => D11) ?_
   refine d_pure (i := 5) rfl (by kernel_rfl) (np_then (np_blk (np_then (np_then (np_blk (np_then np_body)))))) rfl (fun _ => (x_move (v := .int .i64 (k : Int)) rfl)) (fun _ => D11) ?_
   refine d_pure (i := 6) rfl (by kernel_rfl) (np_then (np_blk (np_then (np_then (np_blk (np_then np_body)))))) rfl (fun _ => (x_indexAddr (b := rb) (o := ob) (j := k) es_26 rfl rfl rfl (by omega))) (fun _ => D11) ?_
   refine d_load (i := 7) rfl (by kernel_rfl) (np_then (np_blk (np_then (np_then (np_blk (np_then np_body)))))) rfl (by kernel_rfl) rfl (fun x hS => (x_loadRow (b := rb) (o := ob + k * 5) (cs := [.int .i64 ((lb.getD k fl0).1.num), .int .i64 ((lb.getD k fl0).1.frm), .int .i64 ((lb.getD k fl0).1.dst), .int .i64 ((lb.getD k fl0).1.due), .slice FAb ((lb.getD k fl0).1.bs.length) mcb]) kind_37 size_37 rfl (fun m u hu => (by rw [Nat.add_assoc]; exact hS.cell (hcell8 _ _ (encL_get (a := (lb.getD k fl0)) (size := 5) FC_len (getD_at lb k fl0 (by omega)) (hFCb ▸ hu))) (fun f => f))))) D11 ?_
   refine d_two (i := 8) (j := 9) rfl rfl (by kernel_rfl) ?_ ?_
   ·skip
    obtain ⟨ga, hga⟩ : ∃ n, w10.heap.size = n := ⟨_, rfl⟩
    refine r_alloc (l := [.int .i64 0, .int .i64 0, .int .i64 0, .int .i64 0, .slice none 0 0]) ga hga zero_37 rfl ?_
    intro w15 F12 z13 hB14
    have sD16 := F12.size
    have D16 : Fr No w1 w15 := D11.trans F12 (fun i hi h => (by first | exact h.elim | omega | (simp only [Value.ownBlock, Option.some.injEq] at h; omega) | (have h2 := h; simp at h2; omega) | exact h))
    refine d_next (fun _ => D16) ?_
    refine d_force (i := 9) rfl (by kernel_rfl) ?_
    obtain ⟨gb, hgb⟩ : ∃ n, w15.heap.size = n := ⟨_, rfl⟩
    have ne_ga_gb : ga ≠ gb := by have := hB14.lt; omega
    refine r_alloc (l := [.int .i64 0, .int .i64 0, .int .i64 0, .int .i64 0, .slice none 0 0]) gb hgb zero_37 rfl ?_
    intro w20 F17 z18 hB19
    have sD21 := F17.size
    have D21 : Fr No w1 w20 := D16.trans F17 (fun i hi h => (by first | exact h.elim | omega | (simp only [Value.ownBlock, Option.some.injEq] at h; omega) | (have h2 := h; simp at h2; omega) | exact h))
    refine d_next (fun _ => D21) ?_
    refine d_force (i := 10) rfl (by kernel_rfl) ?_
    have hB22 := hB14.fr F17 (fun f => f)
    refine r_store (v := .agg #[.int .i64 ((la.getD k fl0).1.num), .int .i64 ((la.getD k fl0).1.frm), .int .i64 ((la.getD k fl0).1.dst), .int .i64 ((la.getD k fl0).1.due), .slice FAa ((la.getD k fl0).1.bs.length) mca]) (vs := [.int .i64 ((la.getD k fl0).1.num), .int .i64 ((la.getD k fl0).1.frm), .int .i64 ((la.getD k fl0).1.dst), .int .i64 ((la.getD k fl0).1.due), .slice FAa ((la.getD k fl0).1.bs.length) mca]) (l' := [.int .i64 ((la.getD k fl0).1.num), .int .i64 ((la.getD k fl0).1.frm), .int .i64 ((la.getD k fl0).1.dst), .int .i64 ((la.getD k fl0).1.due), .slice FAa ((la.getD k fl0).1.bs.length) mca]) rfl rfl size_37 rfl rfl rfl rfl hB22 (Nat.le_of_ble_eq_true rfl) rfl ?_
    intro w26 F23 z24 hB25
    have sD27 := F23.size
    have D27 : Fr No w1 w26 := D21.trans F23 (fun i hi h => (by first | exact h.elim | omega | (simp only [Value.ownBlock, Option.some.injEq] at h; omega) | (have h2 := h; simp at h2; omega) | exact h))
    refine d_next (fun _ => D27) ?_
    refine d_force (i := 11) rfl (by kernel_rfl) ?_
    have hB28 := hB19.fr F23 (Ne.symm ne_ga_gb)
    refine r_store (v := .agg #[.int .i64 ((lb.getD k fl0).1.num), .int .i64 ((lb.getD k fl0).1.frm), .int .i64 ((lb.getD k fl0).1.dst), .int .i64 ((lb.getD k fl0).1.due), .slice FAb ((lb.getD k fl0).1.bs.length) mcb]) (vs := [.int .i64 ((lb.getD k fl0).1.num), .int .i64 ((lb.getD k fl0).1.frm), .int .i64 ((lb.getD k fl0).1.dst), .int .i64 ((lb.getD k fl0).1.due), .slice FAb ((lb.getD k fl0).1.bs.length) mcb]) (l' := [.int .i64 ((lb.getD k fl0).1.num), .int .i64 ((lb.getD k fl0).1.frm), .int .i64 ((lb.getD k fl0).1.dst), .int .i64 ((lb.getD k fl0).1.due), .slice FAb ((lb.getD k fl0).1.bs.length) mcb]) rfl rfl size_37 rfl rfl rfl rfl hB28 (Nat.le_of_ble_eq_true rfl) rfl ?_
    intro w32 F29 z30 hB31
    refine d_next (fun hx => absurd hx (by decide)) ?_
    refine d_done (by kernel_rfl) ?_
    refine thenW_n ?_
    refine W_seq ?_
    have := F0.size
    have := F9.size
    have := F12.size
    have := F17.size
    have := F23.size
    have := F29.size
    have hFst := (((((((Fr.refl No _).trans F0 (fun j hj h => h.elim)).trans F9 (fun j hj h => h.elim)).trans F12 (fun j hj h => h.elim)).trans F17 (fun j hj h => h.elim)).trans F23 (fun j hj h => (by have h2 : j = ga := h; omega))).trans F29 (fun j hj h => (by have h2 : j = gb := h; omega)))
    refine W_region ?_
    refine r_val rfl (x_fieldAddr (b := ga) (o := 0) fo_37_0 rfl) ?_
    have hB33 := hB25.fr F29 ne_ga_gb
    refine r_val rfl (x_load (v := .int .i64 ((la.getD k fl0).1.num)) kind_3 rfl (hB33.cell rfl)) ?_
    refine r_val rfl (x_fieldAddr (b := gb) (o := 0) fo_37_0 rfl) ?_
    refine r_val rfl (x_load (v := .int .i64 ((lb.getD k fl0).1.num)) kind_3 rfl (hB31.cell rfl)) ?_
    refine r_val rfl (x_as (u := .bool false) (x_neq (a := (la.getD k fl0).1.num) (b := (lb.getD k fl0).1.num) rfl rfl) (congrArg Value.bool (decide_eq_false (fun h => h (congrArg Fl.num heq))))) ?_
    refine r_val rfl (x_move (v := .bool false) rfl) ?_
    refine r_yes (t := 31) rfl rfl rfl rfl ?_
    refine r_val rfl (x_fieldAddr (b := ga) (o := 0) fo_37_1 rfl) ?_
    refine r_yes (t := 31) rfl rfl rfl rfl ?_
    refine r_val rfl (x_load (v := .int .i64 ((la.getD k fl0).1.frm)) kind_3 rfl (hB33.cell rfl)) ?_
    refine r_yes (t := 31) rfl rfl rfl rfl ?_
    refine r_val rfl (x_fieldAddr (b := gb) (o := 0) fo_37_1 rfl) ?_
    refine r_yes (t := 31) rfl rfl rfl rfl ?_
    refine r_val rfl (x_load (v := .int .i64 ((lb.getD k fl0).1.frm)) kind_3 rfl (hB31.cell rfl)) ?_
    refine r_yes (t := 31) rfl rfl rfl rfl ?_
    refine r_val rfl (x_as (u := .bool false) (x_neq (a := (la.getD k fl0).1.frm) (b := (lb.getD k fl0).1.frm) rfl rfl) (congrArg Value.bool (decide_eq_false (fun h => h (congrArg Fl.frm heq))))) ?_
    refine r_val rfl (x_pickF (b := false) (v := .bool false) rfl rfl rfl) ?_
    refine r_val rfl (x_move (v := .bool false) rfl) ?_
    refine r_yes (t := 38) rfl rfl rfl rfl ?_
    refine r_val rfl (x_fieldAddr (b := ga) (o := 0) fo_37_2 rfl) ?_
    refine r_yes (t := 38) rfl rfl rfl rfl ?_
    refine r_val rfl (x_load (v := .int .i64 ((la.getD k fl0).1.dst)) kind_3 rfl (hB33.cell rfl)) ?_
    refine r_yes (t := 38) rfl rfl rfl rfl ?_
    refine r_val rfl (x_fieldAddr (b := gb) (o := 0) fo_37_2 rfl) ?_
    refine r_yes (t := 38) rfl rfl rfl rfl ?_
    refine r_val rfl (x_load (v := .int .i64 ((lb.getD k fl0).1.dst)) kind_3 rfl (hB31.cell rfl)) ?_
    refine r_yes (t := 38) rfl rfl rfl rfl ?_
    refine r_val rfl (x_as (u := .bool false) (x_neq (a := (la.getD k fl0).1.dst) (b := (lb.getD k fl0).1.dst) rfl rfl) (congrArg Value.bool (decide_eq_false (fun h => h (congrArg Fl.dst heq))))) ?_
    refine r_val rfl (x_pickF (b := false) (v := .bool false) rfl rfl rfl) ?_
    refine r_val rfl (x_move (v := .bool false) rfl) ?_
    refine r_yes (t := 45) rfl rfl rfl rfl ?_
    refine r_val rfl (x_fieldAddr (b := ga) (o := 0) fo_37_3 rfl) ?_
    refine r_yes (t := 45) rfl rfl rfl rfl ?_
    refine r_val rfl (x_load (v := .int .i64 ((la.getD k fl0).1.due)) kind_3 rfl (hB33.cell rfl)) ?_
    refine r_yes (t := 45) rfl rfl rfl rfl ?_
    refine r_val rfl (x_fieldAddr (b := gb) (o := 0) fo_37_3 rfl) ?_
    refine r_yes (t := 45) rfl rfl rfl rfl ?_
    refine r_val rfl (x_load (v := .int .i64 ((lb.getD k fl0).1.due)) kind_3 rfl (hB31.cell rfl)) ?_
    refine r_yes (t := 45) rfl rfl rfl rfl ?_
    refine r_val rfl (x_as (u := .bool false) (x_neq (a := (la.getD k fl0).1.due) (b := (lb.getD k fl0).1.due) rfl rfl) (congrArg Value.bool (decide_eq_false (fun h => h (congrArg Fl.due heq))))) ?_
    refine r_val rfl (x_pickF (b := false) (v := .bool false) rfl rfl rfl) ?_
    refine r_val rfl (x_move (v := .bool false) rfl) ?_
    refine r_yes (t := 52) rfl rfl rfl rfl ?_
    refine r_val rfl (x_fieldAddr (b := ga) (o := 0) fo_37_4 rfl) ?_
    refine r_yes (t := 52) rfl rfl rfl rfl ?_
    refine r_val rfl (x_load (v := .slice FAa ((la.getD k fl0).1.bs.length) mca) kind_33 rfl (hB33.cell rfl)) ?_
    refine r_yes (t := 52) rfl rfl rfl rfl ?_
    refine r_val rfl (x_string (bs := (la.getD k fl0).1.bs) ul_33 ui_5 us_9 rfl (hba.fr hFst (fun _ _ h => h.elim))) ?_
    refine r_yes (t := 52) rfl rfl rfl rfl ?_
    refine r_val rfl (x_fieldAddr (b := gb) (o := 0) fo_37_4 rfl) ?_
    refine r_yes (t := 52) rfl rfl rfl rfl ?_
    refine r_val rfl (x_load (v := .slice FAb ((lb.getD k fl0).1.bs.length) mcb) kind_33 rfl (hB31.cell rfl)) ?_
    refine r_yes (t := 52) rfl rfl rfl rfl ?_
    refine r_val rfl (x_string (bs := (lb.getD k fl0).1.bs) ul_33 ui_5 us_9 rfl (hbb.fr hFst (fun _ _ h => h.elim))) ?_
    refine r_yes (t := 52) rfl rfl rfl rfl ?_
    refine r_val rfl (x_as (u := .bool false) (x_neqS us_9 rfl rfl) (congrArg Value.bool (by rw [congrArg Fl.bs heq, beq_self_eq_true]; rfl))) ?_
    refine r_val rfl (x_pickF (b := false) (v := .bool false) rfl rfl rfl) ?_
    refine RW_nil ?_
    refine thenW_n ?_
    refine W_condF (b := false) rfl rfl rfl ?_
    refine W_skip ?_
    refine inBlk_n ?_
    refine thenW_n ?_
    refine W_region ?_
    refine r_val rfl (x_add64 (a := (k : Int)) (b := 1) rfl rfl (by omega)) ?_
    refine r_val rfl (x_move (v := .int .i64 ((k : Int) + 1)) rfl) ?_
    refine RW_nil ?_
    refine thenW_n ?_
    have := F0.size
    have := F9.size
    have := F12.size
    have := F17.size
    have := F23.size
    have := F29.size
    exact ⟨_, (by omega), k + 1, _, rfl, ((ovl_cons (ovl_cons (ovl_cons (ovl_cons (ovl_nil _) (by show Value.int .i64 ((k : Int) + 1) = _; rfl)) rfl) rfl) rfl)).symm, (((((((Fr.refl No _).trans F0 (fun j hj h => h.elim)).trans F9 (fun j hj h => h.elim)).trans F12 (fun j hj h => h.elim)).trans F17 (fun j hj h => h.elim)).trans F23 (fun j hj h => (by have h2 : j = ga := h; omega))).trans F29 (fun j hj h => (by have h2 : j = gb := h; omega))), by omega⟩
   ·skip
    obtain ⟨gb, hgb⟩ : ∃ n, w10.heap.size = n := ⟨_, rfl⟩
    refine r_alloc (l := [.int .i64 0, .int .i64 0, .int .i64 0, .int .i64 0, .slice none 0 0]) gb hgb zero_37 rfl ?_
    intro w37 F34 z35 hB36
    have sD38 := F34.size
    have D38 : Fr No w1 w37 := D11.trans F34 (fun i hi h => (by first | exact h.elim | omega | (simp only [Value.ownBlock, Option.some.injEq] at h; omega) | (have h2 := h; simp at h2; omega) | exact h))
    refine d_next (fun _ => D38) ?_
    refine d_force (i := 8) rfl (by kernel_rfl) ?_
    obtain ⟨ga, hga⟩ : ∃ n, w37.heap.size = n := ⟨_, rfl⟩
    have ne_gb_ga : gb ≠ ga := by have := hB36.lt; omega
    refine r_alloc (l := [.int .i64 0, .int .i64 0, .int .i64 0, .int .i64 0, .slice none 0 0]) ga hga zero_37 rfl ?_
    intro w42 F39 z40 hB41
    have sD43 := F39.size
    have D43 : Fr No w1 w42 := D38.trans F39 (fun i hi h => (by first | exact h.elim | omega | (simp only [Value.ownBlock, Option.some.injEq] at h; omega) | (have h2 := h; simp at h2; omega) | exact h))
    refine d_next (fun _ => D43) ?_
    refine d_force (i := 10) rfl (by kernel_rfl) ?_
    refine r_store (v := .agg #[.int .i64 ((la.getD k fl0).1.num), .int .i64 ((la.getD k fl0).1.frm), .int .i64 ((la.getD k fl0).1.dst), .int .i64 ((la.getD k fl0).1.due), .slice FAa ((la.getD k fl0).1.bs.length) mca]) (vs := [.int .i64 ((la.getD k fl0).1.num), .int .i64 ((la.getD k fl0).1.frm), .int .i64 ((la.getD k fl0).1.dst), .int .i64 ((la.getD k fl0).1.due), .slice FAa ((la.getD k fl0).1.bs.length) mca]) (l' := [.int .i64 ((la.getD k fl0).1.num), .int .i64 ((la.getD k fl0).1.frm), .int .i64 ((la.getD k fl0).1.dst), .int .i64 ((la.getD k fl0).1.due), .slice FAa ((la.getD k fl0).1.bs.length) mca]) rfl rfl size_37 rfl rfl rfl rfl hB41 (Nat.le_of_ble_eq_true rfl) rfl ?_
    intro w47 F44 z45 hB46
    have sD48 := F44.size
    have D48 : Fr No w1 w47 := D43.trans F44 (fun i hi h => (by first | exact h.elim | omega | (simp only [Value.ownBlock, Option.some.injEq] at h; omega) | (have h2 := h; simp at h2; omega) | exact h))
    refine d_next (fun _ => D48) ?_
    refine d_force (i := 11) rfl (by kernel_rfl) ?_
    have hB49 := hB36.fr F39 (fun f => f)
    have hB50 := hB49.fr F44 ne_gb_ga
    refine r_store (v := .agg #[.int .i64 ((lb.getD k fl0).1.num), .int .i64 ((lb.getD k fl0).1.frm), .int .i64 ((lb.getD k fl0).1.dst), .int .i64 ((lb.getD k fl0).1.due), .slice FAb ((lb.getD k fl0).1.bs.length) mcb]) (vs := [.int .i64 ((lb.getD k fl0).1.num), .int .i64 ((lb.getD k fl0).1.frm), .int .i64 ((lb.getD k fl0).1.dst), .int .i64 ((lb.getD k fl0).1.due), .slice FAb ((lb.getD k fl0).1.bs.length) mcb]) (l' := [.int .i64 ((lb.getD k fl0).1.num), .int .i64 ((lb.getD k fl0).1.frm), .int .i64 ((lb.getD k fl0).1.dst), .int .i64 ((lb.getD k fl0).1.due), .slice FAb ((lb.getD k fl0).1.bs.length) mcb]) rfl rfl size_37 rfl rfl rfl rfl hB50 (Nat.le_of_ble_eq_true rfl) rfl ?_
    intro w54 F51 z52 hB53
    refine d_next (fun hx => absurd hx (by decide)) ?_
    refine d_done (by kernel_rfl) ?_
    refine thenW_n ?_
    refine W_seq ?_
    have := F0.size
    have := F9.size
    have := F34.size
    have := F39.size
    have := F44.size
    have := F51.size
    have hFst := (((((((Fr.refl No _).trans F0 (fun j hj h => h.elim)).trans F9 (fun j hj h => h.elim)).trans F34 (fun j hj h => h.elim)).trans F39 (fun j hj h => h.elim)).trans F44 (fun j hj h => (by have h2 : j = ga := h; omega))).trans F51 (fun j hj h => (by have h2 : j = gb := h; omega)))
    refine W_region ?_
    refine r_val rfl (x_fieldAddr (b := ga) (o := 0) fo_37_0 rfl) ?_
    have hB55 := hB46.fr F51 (Ne.symm ne_gb_ga)
    refine r_val rfl (x_load (v := .int .i64 ((la.getD k fl0).1.num)) kind_3 rfl (hB55.cell rfl)) ?_
    refine r_val rfl (x_fieldAddr (b := gb) (o := 0) fo_37_0 rfl) ?_
    refine r_val rfl (x_load (v := .int .i64 ((lb.getD k fl0).1.num)) kind_3 rfl (hB53.cell rfl)) ?_
    refine r_val rfl (x_as (u := .bool false) (x_neq (a := (la.getD k fl0).1.num) (b := (lb.getD k fl0).1.num) rfl rfl) (congrArg Value.bool (decide_eq_false (fun h => h (congrArg Fl.num heq))))) ?_
    refine r_val rfl (x_move (v := .bool false) rfl) ?_
    refine r_yes (t := 31) rfl rfl rfl rfl ?_
    refine r_val rfl (x_fieldAddr (b := ga) (o := 0) fo_37_1 rfl) ?_
    refine r_yes (t := 31) rfl rfl rfl rfl ?_
    refine r_val rfl (x_load (v := .int .i64 ((la.getD k fl0).1.frm)) kind_3 rfl (hB55.cell rfl)) ?_
    refine r_yes (t := 31) rfl rfl rfl rfl ?_
    refine r_val rfl (x_fieldAddr (b := gb) (o := 0) fo_37_1 rfl) ?_
    refine r_yes (t := 31) rfl rfl rfl rfl ?_
    refine r_val rfl (x_load (v := .int .i64 ((lb.getD k fl0).1.frm)) kind_3 rfl (hB53.cell rfl)) ?_
    refine r_yes (t := 31) rfl rfl rfl rfl ?_
    refine r_val rfl (x_as (u := .bool false) (x_neq (a := (la.getD k fl0).1.frm) (b := (lb.getD k fl0).1.frm) rfl rfl) (congrArg Value.bool (decide_eq_false (fun h => h (congrArg Fl.frm heq))))) ?_
    refine r_val rfl (x_pickF (b := false) (v := .bool false) rfl rfl rfl) ?_
    refine r_val rfl (x_move (v := .bool false) rfl) ?_
    refine r_yes (t := 38) rfl rfl rfl rfl ?_
    refine r_val rfl (x_fieldAddr (b := ga) (o := 0) fo_37_2 rfl) ?_
    refine r_yes (t := 38) rfl rfl rfl rfl ?_
    refine r_val rfl (x_load (v := .int .i64 ((la.getD k fl0).1.dst)) kind_3 rfl (hB55.cell rfl)) ?_
    refine r_yes (t := 38) rfl rfl rfl rfl ?_
    refine r_val rfl (x_fieldAddr (b := gb) (o := 0) fo_37_2 rfl) ?_
    refine r_yes (t := 38) rfl rfl rfl rfl ?_
    refine r_val rfl (x_load (v := .int .i64 ((lb.getD k fl0).1.dst)) kind_3 rfl (hB53.cell rfl)) ?_
    refine r_yes (t := 38) rfl rfl rfl rfl ?_
    refine r_val rfl (x_as (u := .bool false) (x_neq (a := (la.getD k fl0).1.dst) (b := (lb.getD k fl0).1.dst) rfl rfl) (congrArg Value.bool (decide_eq_false (fun h => h (congrArg Fl.dst heq))))) ?_
    refine r_val rfl (x_pickF (b := false) (v := .bool false) rfl rfl rfl) ?_
    refine r_val rfl (x_move (v := .bool false) rfl) ?_
    refine r_yes (t := 45) rfl rfl rfl rfl ?_
    refine r_val rfl (x_fieldAddr (b := ga) (o := 0) fo_37_3 rfl) ?_
    refine r_yes (t := 45) rfl rfl rfl rfl ?_
    refine r_val rfl (x_load (v := .int .i64 ((la.getD k fl0).1.due)) kind_3 rfl (hB55.cell rfl)) ?_
    refine r_yes (t := 45) rfl rfl rfl rfl ?_
    refine r_val rfl (x_fieldAddr (b := gb) (o := 0) fo_37_3 rfl) ?_
    refine r_yes (t := 45) rfl rfl rfl rfl ?_
    refine r_val rfl (x_load (v := .int .i64 ((lb.getD k fl0).1.due)) kind_3 rfl (hB53.cell rfl)) ?_
    refine r_yes (t := 45) rfl rfl rfl rfl ?_
    refine r_val rfl (x_as (u := .bool false) (x_neq (a := (la.getD k fl0).1.due) (b := (lb.getD k fl0).1.due) rfl rfl) (congrArg Value.bool (decide_eq_false (fun h => h (congrArg Fl.due heq))))) ?_
    refine r_val rfl (x_pickF (b := false) (v := .bool false) rfl rfl rfl) ?_
    refine r_val rfl (x_move (v := .bool false) rfl) ?_
    refine r_yes (t := 52) rfl rfl rfl rfl ?_
    refine r_val rfl (x_fieldAddr (b := ga) (o := 0) fo_37_4 rfl) ?_
    refine r_yes (t := 52) rfl rfl rfl rfl ?_
    refine r_val rfl (x_load (v := .slice FAa ((la.getD k fl0).1.bs.length) mca) kind_33 rfl (hB55.cell rfl)) ?_
    refine r_yes (t := 52) rfl rfl rfl rfl ?_
    refine r_val rfl (x_string (bs := (la.getD k fl0).1.bs) ul_33 ui_5 us_9 rfl (hba.fr hFst (fun _ _ h => h.elim))) ?_
    refine r_yes (t := 52) rfl rfl rfl rfl ?_
    refine r_val rfl (x_fieldAddr (b := gb) (o := 0) fo_37_4 rfl) ?_
    refine r_yes (t := 52) rfl rfl rfl rfl ?_
    refine r_val rfl (x_load (v := .slice FAb ((lb.getD k fl0).1.bs.length) mcb) kind_33 rfl (hB53.cell rfl)) ?_
    refine r_yes (t := 52) rfl rfl rfl rfl ?_
    refine r_val rfl (x_string (bs := (lb.getD k fl0).1.bs) ul_33 ui_5 us_9 rfl (hbb.fr hFst (fun _ _ h => h.elim))) ?_
    refine r_yes (t := 52) rfl rfl rfl rfl ?_
    refine r_val rfl (x_as (u := .bool false) (x_neqS us_9 rfl rfl) (congrArg Value.bool (by rw [congrArg Fl.bs heq, beq_self_eq_true]; rfl))) ?_
    refine r_val rfl (x_pickF (b := false) (v := .bool false) rfl rfl rfl) ?_
    refine RW_nil ?_
    refine thenW_n ?_
    refine W_condF (b := false) rfl rfl rfl ?_
    refine W_skip ?_
    refine inBlk_n ?_
    refine thenW_n ?_
    refine W_region ?_
    refine r_val rfl (x_add64 (a := (k : Int)) (b := 1) rfl rfl (by omega)) ?_
    refine r_val rfl (x_move (v := .int .i64 ((k : Int) + 1)) rfl) ?_
    refine RW_nil ?_
    refine thenW_n ?_
    have := F0.size
    have := F9.size
    have := F34.size
    have := F39.size
    have := F44.size
    have := F51.size
    exact ⟨_, (by omega), k + 1, _, rfl, ((ovl_cons (ovl_cons (ovl_cons (ovl_cons (ovl_nil _) (by show Value.int .i64 ((k : Int) + 1) = _; rfl)) rfl) rfl) rfl)).symm, (((((((Fr.refl No _).trans F0 (fun j hj h => h.elim)).trans F9 (fun j hj h => h.elim)).trans F34 (fun j hj h => h.elim)).trans F39 (fun j hj h => h.elim)).trans F44 (fun j hj h => (by have h2 : j = ga := h; omega))).trans F51 (fun j hj h => (by have h2 : j = gb := h; omega))), by omega⟩
  ·skip
   refine W_exit ?_
   refine thenW_x ?_
   refine thenW_x ?_
   refine inBlk_xs ?_
   refine thenW_n ?_
   refine W_seq ?_
   refine W_region ?_
   refine r_val rfl (x_assign (v := .bool true) rfl) ?_
   refine RW_nil ?_
   refine thenW_n ?_
   refine W_ret ?_
   have := F0.size
   refine q_ret1 (v := .bool true) rfl rfl rfl ?_
   exact ⟨rfl, ((Fr.refl No _).trans F0 (fun j hj h => h.elim))⟩

end Go.Proofs.YthomkocjjkmnkaaDoor
