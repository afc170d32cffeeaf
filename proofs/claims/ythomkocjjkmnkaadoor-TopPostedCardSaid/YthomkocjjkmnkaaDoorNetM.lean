import Derived.Test.YthomkocjjkmnkaaDoorTab
import Derived.Test.YthomkocjjkmnkaaDoorNetL
/- PRINTED by gen.py (wip/tools) from the plan wip/plans: walks. -/
namespace Go.Proofs.YthomkocjjkmnkaaDoor
open Go Go.RowKit
set_option maxRecDepth 100000
set_option linter.unusedVariables false
/-- What 'later' answers. -/
def laterC (n : Nat) (x due : Int) : Int := if 0 ≤ x ∧ x < (n : Int) then if 0 ≤ due ∧ due ≤ 1099511627776 then 0 else 1 else 4
theorem Own.nil_len {w : World} {e : TypeId} {size n c : Nat} {A : Option Addr} {xs : List Value} (h : Own w e size (.slice A n c) n xs) (hA : A = none) : n = 0 := by
  rcases h.2 with ⟨_, h0⟩ | ⟨g, cap, cur, h0, _⟩
  · exact h0
  · subst hA; cases h0
theorem getD_mem {α : Type} {l : List α} {k : Nat} {d : α} (h : k < l.length) : l.getD k d ∈ l := by
  rw [List.getD_eq_getElem?_getD, List.getElem?_eq_getElem h]; exact List.getElem_mem h
theorem split_at {α : Type} {l : List α} {k : Nat} {d : α} (h : k < l.length) : l = l.take k ++ l.getD k d :: l.drop (k + 1) := by
  have e : l.getD k d = l[k] := by rw [List.getD_eq_getElem?_getD, List.getElem?_eq_getElem h]; rfl
  rw [e, ← List.drop_eq_getElem_cons h, List.take_append_drop]

theorem later_any {w : World} {K : Nat → Prop} {B : Nat} {nodes : Int} {mst : Nat} {sent lost : Int} {l : List (Fl × Value)} (hN : NetS w K B nodes mst sent lost l) (hl : l.length ≤ 1000000) (hse : 0 ≤ sent ∧ sent ≤ 1000000) (hlo : 0 ≤ lost ∧ lost ≤ 1000000) (hmo : mst ≤ 1000000) (x due : Int) :
    Calls Tryd.prog 83 #[.pointer (some ⟨B, 0, none⟩), .int .i64 x, .int .i64 due] w fun e w' => e = .returned (.int .i64 (laterC l.length x due)) ∧ w = w' := by
 obtain ⟨A, c, hB, hO, hK⟩ := hN.net
 refine calls_of_W Tryd.func83 rfl 16 rfl (Nat.le_of_ble_eq_true rfl) ?_
 refine W_seq ?_
 refine W_region ?_
 refine r_val rfl (x_assign (v := .int .i64 0) rfl) ?_
 refine RW_nil ?_
 refine thenW_n ?_
 refine W_seq ?_
 refine W_block ?_
 refine W_seq ?_
 refine W_region ?_
 refine r_val rfl (x_move (v := .pointer (some ⟨B, 0, none⟩)) rfl) ?_
 refine r_val rfl (x_move (v := .int .i64 x) rfl) ?_
 refine r_call rfl (c81 (vs := [.pointer (some ⟨B, 0, none⟩), .int .i64 x]) rfl) (at_any B nodes (mst : Int) sent lost A l.length c w hB x) ?_
 rintro _ _ ⟨rfl, rfl⟩
 refine ⟨_, rfl, ?_⟩
 refine r_val rfl (x_not (b := (decide (0 ≤ x) && decide (x < (l.length : Int)))) rfl) ?_
 refine r_val rfl (x_assign (v := .bool (!(decide (0 ≤ x) && decide (x < (l.length : Int))))) rfl) ?_
 refine RW_nil ?_
 refine thenW_n ?_
 refine W_cond (b := !(decide (0 ≤ x) && decide (x < (l.length : Int)))) rfl rfl (fun hc1 => ?_) (fun hc1 => ?_)
 ·skip
  refine W_seq ?_
  refine W_region ?_
  refine r_val rfl (x_assign (v := .int .i64 4) rfl) ?_
  refine RW_nil ?_
  refine thenW_n ?_
  refine W_ret ?_
  refine inBlk_r ?_
  refine thenW_r ?_
  refine q_ret1 (v := .int .i64 4) rfl rfl rfl ?_
  refine ⟨?_, rfl⟩
  unfold laterC
  simp_all <;> omega
 ·skip
  refine W_seq ?_
  refine W_region ?_
  refine r_val rfl (x_move (v := .int .i64 due) rfl) ?_
  refine r_call rfl (c76 (vs := [.int .i64 due]) rfl) (moment_any due w) ?_
  rintro _ _ ⟨rfl, rfl⟩
  refine ⟨_, rfl, ?_⟩
  refine r_val rfl (x_not (b := (decide (0 ≤ due) && decide (due ≤ 1099511627776))) rfl) ?_
  refine r_val rfl (x_assign (v := .bool (!(decide (0 ≤ due) && decide (due ≤ 1099511627776)))) rfl) ?_
  refine RW_nil ?_
  refine thenW_n ?_
  refine W_cond (b := !(decide (0 ≤ due) && decide (due ≤ 1099511627776))) rfl rfl (fun hc2 => ?_) (fun hc2 => ?_)
  ·skip
   refine W_seq ?_
   refine W_region ?_
   refine r_val rfl (x_assign (v := .int .i64 1) rfl) ?_
   refine RW_nil ?_
   refine thenW_n ?_
   refine W_ret ?_
   refine inBlk_r ?_
   refine thenW_r ?_
   refine q_ret1 (v := .int .i64 1) rfl rfl rfl ?_
   refine ⟨?_, rfl⟩
   unfold laterC
   simp_all <;> omega
  ·skip
   refine W_skip ?_
   refine inBlk_n ?_
   refine thenW_n ?_
   refine W_seq ?_
   refine W_region ?_
   refine r_val rfl (x_assign (v := .int .i64 0) rfl) ?_
   refine RW_nil ?_
   refine thenW_n ?_
   refine W_ret ?_
   refine q_ret1 (v := .int .i64 0) rfl rfl rfl ?_
   refine ⟨?_, rfl⟩
   unfold laterC
   simp_all <;> omega

theorem netDouble_no {w : World} {K : Nat → Prop} {B : Nat} {nodes : Int} {mst : Nat} {sent lost : Int} {l : List (Fl × Value)} (hN : NetS w K B nodes mst sent lost l) (hl : l.length ≤ 1000000) (hse : 0 ≤ sent ∧ sent ≤ 1000000) (hlo : 0 ≤ lost ∧ lost ≤ 1000000) (hmo : mst ≤ 1000000) (x due : Int) (hx : laterC l.length x due ≠ 0) :
    Calls Tryd.prog 17 #[.pointer (some ⟨B, 0, none⟩), .int .i64 x, .int .i64 due] w fun e w' => e = .returned (.int .i64 (laterC l.length x due)) ∧ w = w' := by
 refine calls_of_W Tryd.func17 rfl 28 rfl (Nat.le_of_ble_eq_true rfl) ?_
 refine W_seq ?_
 refine W_region ?_
 refine r_val rfl (x_assign (v := .int .i64 0) rfl) ?_
 refine RW_nil ?_
 refine thenW_n ?_
 refine W_seq ?_
 refine W_seq ?_
 refine W_region ?_
 refine r_val rfl (x_move (v := .pointer (some ⟨B, 0, none⟩)) rfl) ?_
 refine r_val rfl (x_move (v := .int .i64 x) rfl) ?_
 refine r_val rfl (x_move (v := .int .i64 due) rfl) ?_
 refine r_call rfl (c83 (vs := [.pointer (some ⟨B, 0, none⟩), .int .i64 x, .int .i64 due]) rfl) (later_any hN hl hse hlo hmo x due) ?_
 rintro _ _ ⟨rfl, rfl⟩
 refine ⟨_, rfl, ?_⟩
 refine r_val rfl (x_assign (v := .int .i64 (laterC l.length x due)) rfl) ?_
 refine RW_nil ?_
 refine thenW_n ?_
 refine W_seq ?_
 refine W_region ?_
 refine r_val rfl (x_move (v := .int .i64 (laterC l.length x due)) rfl) ?_
 refine r_val rfl (x_neq (a := laterC l.length x due) (b := 0) rfl rfl) ?_
 refine RW_nil ?_
 refine thenW_n ?_
 refine W_condT (b := decide ((laterC l.length x due) ≠ 0)) rfl rfl (decide_eq_true hx) ?_
 refine W_seq ?_
 refine W_region ?_
 refine r_val rfl (x_move (v := .int .i64 (laterC l.length x due)) rfl) ?_
 refine r_val rfl (x_assign (v := .int .i64 (laterC l.length x due)) rfl) ?_
 refine RW_nil ?_
 refine thenW_n ?_
 refine W_ret ?_
 refine thenW_r ?_
 refine q_ret1 (v := .int .i64 (laterC l.length x due)) rfl rfl rfl ?_
 exact ⟨rfl, rfl⟩

theorem netHold_no {w : World} {K : Nat → Prop} {B : Nat} {nodes : Int} {mst : Nat} {sent lost : Int} {l : List (Fl × Value)} (hN : NetS w K B nodes mst sent lost l) (hl : l.length ≤ 1000000) (hse : 0 ≤ sent ∧ sent ≤ 1000000) (hlo : 0 ≤ lost ∧ lost ≤ 1000000) (hmo : mst ≤ 1000000) (x due : Int) (hx : laterC l.length x due ≠ 0) :
    Calls Tryd.prog 18 #[.pointer (some ⟨B, 0, none⟩), .int .i64 x, .int .i64 due] w fun e w' => e = .returned (.int .i64 (laterC l.length x due)) ∧ w = w' := by
 refine calls_of_W Tryd.func18 rfl 39 rfl (Nat.le_of_ble_eq_true rfl) ?_
 refine W_seq ?_
 refine W_region ?_
 refine r_val rfl (x_assign (v := .int .i64 0) rfl) ?_
 refine RW_nil ?_
 refine thenW_n ?_
 refine W_seq ?_
 refine W_seq ?_
 refine W_region ?_
 refine r_val rfl (x_move (v := .pointer (some ⟨B, 0, none⟩)) rfl) ?_
 refine r_val rfl (x_move (v := .int .i64 x) rfl) ?_
 refine r_val rfl (x_move (v := .int .i64 due) rfl) ?_
 refine r_call rfl (c83 (vs := [.pointer (some ⟨B, 0, none⟩), .int .i64 x, .int .i64 due]) rfl) (later_any hN hl hse hlo hmo x due) ?_
 rintro _ _ ⟨rfl, rfl⟩
 refine ⟨_, rfl, ?_⟩
 refine r_val rfl (x_assign (v := .int .i64 (laterC l.length x due)) rfl) ?_
 refine RW_nil ?_
 refine thenW_n ?_
 refine W_seq ?_
 refine W_region ?_
 refine r_val rfl (x_move (v := .int .i64 (laterC l.length x due)) rfl) ?_
 refine r_val rfl (x_neq (a := laterC l.length x due) (b := 0) rfl rfl) ?_
 refine RW_nil ?_
 refine thenW_n ?_
 refine W_condT (b := decide ((laterC l.length x due) ≠ 0)) rfl rfl (decide_eq_true hx) ?_
 refine W_seq ?_
 refine W_region ?_
 refine r_val rfl (x_move (v := .int .i64 (laterC l.length x due)) rfl) ?_
 refine r_val rfl (x_assign (v := .int .i64 (laterC l.length x due)) rfl) ?_
 refine RW_nil ?_
 refine thenW_n ?_
 refine W_ret ?_
 refine thenW_r ?_
 refine q_ret1 (v := .int .i64 (laterC l.length x due)) rfl rfl rfl ?_
 exact ⟨rfl, rfl⟩

theorem netDouble {w : World} {K : Nat → Prop} {B : Nat} {nodes : Int} {mst : Nat} {sent lost : Int} {l : List (Fl × Value)} (hN : NetS w K B nodes mst sent lost l) (hl : l.length ≤ 1000000) (hse : 0 ≤ sent ∧ sent ≤ 1000000) (hlo : 0 ≤ lost ∧ lost ≤ 1000000) (hmo : mst ≤ 1000000) (hbs : ∀ p ∈ l, p.1.bs.length ≤ 1000000) (i : Nat) (hi : i < l.length) (due : Int) (hx : laterC l.length (i : Int) due = 0) :
    Calls Tryd.prog 17 #[.pointer (some ⟨B, 0, none⟩), .int .i64 (i : Int), .int .i64 due] w fun e w' => e = .returned (.int .i64 0) ∧ Fr K w w' ∧ ∃ l' lost', NetS w' (grow K w) B nodes mst (sent + 1) lost' l' ∧ (l'.map (·.1), lost') = absFresh mst ⟨sent + 1, (l.getD i fl0).1.frm, (l.getD i fl0).1.dst, due, (l.getD i fl0).1.bs⟩ (l.map (·.1)) lost := by
 obtain ⟨A, c, hB, hO, hK⟩ := hN.net
 obtain ⟨q, hq⟩ : ∃ q, l.length = q + 1 := ⟨l.length - 1, by omega⟩
 have hbi := hN.bytes (l.getD i fl0) (getD_mem hi)
 obtain ⟨FA, mc, hfe, hmc⟩ := hbi.1.rd.form
 have hFC : FC (l.getD i fl0) = [.int .i64 (l.getD i fl0).1.num, .int .i64 (l.getD i fl0).1.frm, .int .i64 (l.getD i fl0).1.dst, .int .i64 (l.getD i fl0).1.due, .slice FA (l.getD i fl0).1.bs.length mc] := by unfold FC; rw [hfe]
 have hbl : (l.getD i fl0).1.bs.length ≤ 1000000 := hbs _ (getD_mem hi)
 rw [hfe] at hbi
 rw [hq] at hB hO hK
 obtain ⟨ga, cur, hA, hBA, hnc, hcm, hcl, hcx⟩ := hO.open_ (by omega)
 subst hA
 refine calls_of_W Tryd.func17 rfl 28 rfl (Nat.le_of_ble_eq_true rfl) ?_
 refine W_seq ?_
 refine W_region ?_
 refine r_val rfl (x_assign (v := .int .i64 0) rfl) ?_
 refine RW_nil ?_
 refine thenW_n ?_
 refine W_seq ?_
 refine W_seq ?_
 refine W_region ?_
 refine r_val rfl (x_move (v := .pointer (some ⟨B, 0, none⟩)) rfl) ?_
 refine r_val rfl (x_move (v := .int .i64 (i : Int)) rfl) ?_
 refine r_val rfl (x_move (v := .int .i64 due) rfl) ?_
 refine r_call rfl (c83 (vs := [.pointer (some ⟨B, 0, none⟩), .int .i64 (i : Int), .int .i64 due]) rfl) (later_any hN hl hse hlo hmo (i : Int) due) ?_
 rintro _ _ ⟨rfl, rfl⟩
 refine ⟨_, rfl, ?_⟩
 refine r_val rfl (x_assign (v := .int .i64 (laterC l.length (i : Int) due)) rfl) ?_
 refine RW_nil ?_
 refine thenW_n ?_
 refine W_seq ?_
 refine W_region ?_
 refine r_val rfl (x_move (v := .int .i64 (laterC l.length (i : Int) due)) rfl) ?_
 refine r_val rfl (x_neq (a := laterC l.length (i : Int) due) (b := 0) rfl rfl) ?_
 refine RW_nil ?_
 refine thenW_n ?_
 refine W_condF (b := decide ((laterC l.length (i : Int) due) ≠ 0)) rfl rfl (decide_eq_false (by simpa using hx)) ?_
 refine W_skip ?_
 refine thenW_n ?_
 refine W_seq ?_
 refine W_region ?_
 refine r_val rfl (x_move (v := .pointer (some ⟨B, 0, none⟩)) rfl) ?_
 refine r_val rfl (x_nilCheck rfl) ?_
 refine r_val rfl (x_fieldAddr (b := B) (o := 0) fo_154_2 rfl) ?_
 refine r_val rfl (x_load (v := .slice (some ⟨ga, 0, none⟩) (q + 1) c) kind_26 rfl (hB.cell rfl)) ?_
 refine r_val rfl (x_move (v := .int .i64 (i : Int)) rfl) ?_
 refine r_val rfl (x_indexAddr (b := ga) (o := 0) (j := i) es_26 rfl rfl rfl (by omega)) ?_
 refine r_val rfl (x_loadRow (b := ga) (o := 0 + i * 5) (cs := [.int .i64 ((l.getD i fl0).1.num), .int .i64 ((l.getD i fl0).1.frm), .int .i64 ((l.getD i fl0).1.dst), .int .i64 ((l.getD i fl0).1.due), .slice FA ((l.getD i fl0).1.bs.length) mc]) kind_37 size_37 rfl (fun m u hu => by rw [Nat.add_assoc, Nat.zero_add]; have := (hO.rd.at_ (by omega)); obtain ⟨b, o, c', hv, _, hcell⟩ := this; injection hv with hv _ _; injection hv with hv; injection hv with h1 h2 _; subst h1; subst h2; have := hcell _ _ (encL_get (a := (l.getD i fl0)) (size := 5) FC_len (getD_at l i fl0 hi) (hFC ▸ hu)); rwa [Nat.zero_add] at this)) ?_
 obtain ⟨e, he⟩ : ∃ n, w.heap.size = n := ⟨_, rfl⟩
 have ne_B_e : B ≠ e := by have := hB.lt; omega
 refine r_alloc (l := [.int .i64 0, .int .i64 0, .int .i64 0, .int .i64 0, .slice none 0 0]) e he zero_37 rfl ?_
 intro w4 F1 z2 hB3
 refine r_store (v := .agg #[.int .i64 ((l.getD i fl0).1.num), .int .i64 ((l.getD i fl0).1.frm), .int .i64 ((l.getD i fl0).1.dst), .int .i64 ((l.getD i fl0).1.due), .slice FA ((l.getD i fl0).1.bs.length) mc]) (vs := [.int .i64 ((l.getD i fl0).1.num), .int .i64 ((l.getD i fl0).1.frm), .int .i64 ((l.getD i fl0).1.dst), .int .i64 ((l.getD i fl0).1.due), .slice FA ((l.getD i fl0).1.bs.length) mc]) (l' := [.int .i64 ((l.getD i fl0).1.num), .int .i64 ((l.getD i fl0).1.frm), .int .i64 ((l.getD i fl0).1.dst), .int .i64 ((l.getD i fl0).1.due), .slice FA ((l.getD i fl0).1.bs.length) mc]) rfl rfl size_37 rfl rfl rfl rfl hB3 (Nat.le_of_ble_eq_true rfl) rfl ?_
 intro w8 F5 z6 hB7
 refine RW_nil ?_
 refine thenW_n ?_
 refine W_seq ?_
 refine W_region ?_
 refine r_val rfl (x_move (v := .int .i64 due) rfl) ?_
 refine r_val rfl (x_fieldAddr (b := e) (o := 0) fo_37_3 rfl) ?_
 refine r_store (v := .int .i64 due) (vs := [.int .i64 due]) (l' := [.int .i64 ((l.getD i fl0).1.num), .int .i64 ((l.getD i fl0).1.frm), .int .i64 ((l.getD i fl0).1.dst), .int .i64 due, .slice FA ((l.getD i fl0).1.bs.length) mc]) rfl rfl size_3 rfl rfl rfl rfl hB7 (Nat.le_of_ble_eq_true rfl) rfl ?_
 intro w12 F9 z10 hB11
 refine RW_nil ?_
 refine thenW_n ?_
 refine W_seq ?_
 refine W_region ?_
 refine r_val rfl (x_move (v := .pointer (some ⟨B, 0, none⟩)) rfl) ?_
 refine r_val rfl (x_loadBlk (b := e) (l := [.int .i64 ((l.getD i fl0).1.num), .int .i64 ((l.getD i fl0).1.frm), .int .i64 ((l.getD i fl0).1.dst), .int .i64 due, .slice FA ((l.getD i fl0).1.bs.length) mc]) kind_37 size_37 rfl hB11) ?_
 have := F1.size
 have := F5.size
 have := F9.size
 have hF0 : Fr (fun b => b = e) w w12 := ((((Fr.refl (fun b => b = e) _).trans F1 (fun j hj h => h.elim)).trans F5 (fun j hj h => h)).trans F9 (fun j hj h => h))
 have hN0 := hN.fr hF0 (fun b _ hb h => by have h2 : b = e := h; omega)
 refine r_call rfl (c77 (vs := [.pointer (some ⟨B, 0, none⟩), .agg #[.int .i64 ((l.getD i fl0).1.num), .int .i64 ((l.getD i fl0).1.frm), .int .i64 ((l.getD i fl0).1.dst), .int .i64 due, .slice FA ((l.getD i fl0).1.bs.length) mc]]) rfl) (netFresh hN0 hl hse hlo hmo (l.getD i fl0).1.num (l.getD i fl0).1.frm (l.getD i fl0).1.dst due (hbi.1.rd.fr hF0 (fun b hb h => by have h2 : b = e := h; have := hbi.1.lt hb; omega)) (fun b hb h => (hbi.1.type_ne hB (by decide)) (h ▸ hb)) hbi.1.nil_len hbl) ?_
 rintro _ w13 ⟨rfl, hF, l', lost', hN2, habs⟩
 refine ⟨_, rfl, ?_⟩
 refine RW_nil ?_
 refine thenW_n ?_
 refine W_seq ?_
 refine W_region ?_
 refine r_val rfl (x_assign (v := .int .i64 0) rfl) ?_
 refine RW_nil ?_
 refine thenW_n ?_
 refine W_ret ?_
 have := F1.size
 have := F5.size
 have := F9.size
 have := hF.size
 refine q_ret1 (v := .int .i64 0) rfl rfl rfl ?_
 refine ⟨rfl, (((((Fr.refl K _).trans F1 (fun j hj h => h.elim)).trans F5 (fun j hj h => (by have h2 : j = e := h; omega))).trans F9 (fun j hj h => (by have h2 : j = e := h; omega))).trans hF (fun j hj h => h)), l', lost', hN2.mono (fun b _ h => h.imp id fun h => by have := hF0.size; omega), habs⟩

theorem netHold {w : World} {K : Nat → Prop} {B : Nat} {nodes : Int} {mst : Nat} {sent lost : Int} {l : List (Fl × Value)} (hN : NetS w K B nodes mst sent lost l) (hl : l.length ≤ 1000000) (hse : 0 ≤ sent ∧ sent ≤ 1000000) (hlo : 0 ≤ lost ∧ lost ≤ 1000000) (hmo : mst ≤ 1000000) (hbs : ∀ p ∈ l, p.1.bs.length ≤ 1000000) (i : Nat) (hi : i < l.length) (due : Int) (hx : laterC l.length (i : Int) due = 0) :
    Calls Tryd.prog 18 #[.pointer (some ⟨B, 0, none⟩), .int .i64 (i : Int), .int .i64 due] w fun e w' => e = .returned (.int .i64 0) ∧ Fr K w w' ∧ ∃ l', NetS w' (grow K w) B nodes mst sent lost l' ∧ l'.map (·.1) = insF ⟨(l.getD i fl0).1.num, (l.getD i fl0).1.frm, (l.getD i fl0).1.dst, due, (l.getD i fl0).1.bs⟩ ((l.take i ++ l.drop (i + 1)).map (·.1)) := by
 obtain ⟨A, c, hB, hO, hK⟩ := hN.net
 obtain ⟨q, hq⟩ : ∃ q, l.length = q + 1 := ⟨l.length - 1, by omega⟩
 have hbi := hN.bytes (l.getD i fl0) (getD_mem hi)
 obtain ⟨FA, mc, hfe, hmc⟩ := hbi.1.rd.form
 have hFC : FC (l.getD i fl0) = [.int .i64 (l.getD i fl0).1.num, .int .i64 (l.getD i fl0).1.frm, .int .i64 (l.getD i fl0).1.dst, .int .i64 (l.getD i fl0).1.due, .slice FA (l.getD i fl0).1.bs.length mc] := by unfold FC; rw [hfe]
 have hbl : (l.getD i fl0).1.bs.length ≤ 1000000 := hbs _ (getD_mem hi)
 rw [hfe] at hbi
 rw [hq] at hB hO hK
 obtain ⟨ga, cur, hA, hBA, hnc, hcm, hcl, hcx⟩ := hO.open_ (by omega)
 subst hA
 refine calls_of_W Tryd.func18 rfl 39 rfl (Nat.le_of_ble_eq_true rfl) ?_
 refine W_seq ?_
 refine W_region ?_
 refine r_val rfl (x_assign (v := .int .i64 0) rfl) ?_
 refine RW_nil ?_
 refine thenW_n ?_
 refine W_seq ?_
 refine W_seq ?_
 refine W_region ?_
 refine r_val rfl (x_move (v := .pointer (some ⟨B, 0, none⟩)) rfl) ?_
 refine r_val rfl (x_move (v := .int .i64 (i : Int)) rfl) ?_
 refine r_val rfl (x_move (v := .int .i64 due) rfl) ?_
 refine r_call rfl (c83 (vs := [.pointer (some ⟨B, 0, none⟩), .int .i64 (i : Int), .int .i64 due]) rfl) (later_any hN hl hse hlo hmo (i : Int) due) ?_
 rintro _ _ ⟨rfl, rfl⟩
 refine ⟨_, rfl, ?_⟩
 refine r_val rfl (x_assign (v := .int .i64 (laterC l.length (i : Int) due)) rfl) ?_
 refine RW_nil ?_
 refine thenW_n ?_
 refine W_seq ?_
 refine W_region ?_
 refine r_val rfl (x_move (v := .int .i64 (laterC l.length (i : Int) due)) rfl) ?_
 refine r_val rfl (x_neq (a := laterC l.length (i : Int) due) (b := 0) rfl rfl) ?_
 refine RW_nil ?_
 refine thenW_n ?_
 refine W_condF (b := decide ((laterC l.length (i : Int) due) ≠ 0)) rfl rfl (decide_eq_false (by simpa using hx)) ?_
 refine W_skip ?_
 refine thenW_n ?_
 refine W_seq ?_
 refine W_region ?_
 refine r_val rfl (x_move (v := .pointer (some ⟨B, 0, none⟩)) rfl) ?_
 refine r_val rfl (x_nilCheck rfl) ?_
 refine r_val rfl (x_fieldAddr (b := B) (o := 0) fo_154_2 rfl) ?_
 refine r_val rfl (x_load (v := .slice (some ⟨ga, 0, none⟩) (q + 1) c) kind_26 rfl (hB.cell rfl)) ?_
 refine r_val rfl (x_move (v := .int .i64 (i : Int)) rfl) ?_
 refine r_val rfl (x_indexAddr (b := ga) (o := 0) (j := i) es_26 rfl rfl rfl (by omega)) ?_
 refine r_val rfl (x_loadRow (b := ga) (o := 0 + i * 5) (cs := [.int .i64 ((l.getD i fl0).1.num), .int .i64 ((l.getD i fl0).1.frm), .int .i64 ((l.getD i fl0).1.dst), .int .i64 ((l.getD i fl0).1.due), .slice FA ((l.getD i fl0).1.bs.length) mc]) kind_37 size_37 rfl (fun m u hu => by rw [Nat.add_assoc, Nat.zero_add]; have := (hO.rd.at_ (by omega)); obtain ⟨b, o, c', hv, _, hcell⟩ := this; injection hv with hv _ _; injection hv with hv; injection hv with h1 h2 _; subst h1; subst h2; have := hcell _ _ (encL_get (a := (l.getD i fl0)) (size := 5) FC_len (getD_at l i fl0 hi) (hFC ▸ hu)); rwa [Nat.zero_add] at this)) ?_
 obtain ⟨e, he⟩ : ∃ n, w.heap.size = n := ⟨_, rfl⟩
 have ne_B_e : B ≠ e := by have := hB.lt; omega
 refine r_alloc (l := [.int .i64 0, .int .i64 0, .int .i64 0, .int .i64 0, .slice none 0 0]) e he zero_37 rfl ?_
 intro w4 F1 z2 hB3
 refine r_store (v := .agg #[.int .i64 ((l.getD i fl0).1.num), .int .i64 ((l.getD i fl0).1.frm), .int .i64 ((l.getD i fl0).1.dst), .int .i64 ((l.getD i fl0).1.due), .slice FA ((l.getD i fl0).1.bs.length) mc]) (vs := [.int .i64 ((l.getD i fl0).1.num), .int .i64 ((l.getD i fl0).1.frm), .int .i64 ((l.getD i fl0).1.dst), .int .i64 ((l.getD i fl0).1.due), .slice FA ((l.getD i fl0).1.bs.length) mc]) (l' := [.int .i64 ((l.getD i fl0).1.num), .int .i64 ((l.getD i fl0).1.frm), .int .i64 ((l.getD i fl0).1.dst), .int .i64 ((l.getD i fl0).1.due), .slice FA ((l.getD i fl0).1.bs.length) mc]) rfl rfl size_37 rfl rfl rfl rfl hB3 (Nat.le_of_ble_eq_true rfl) rfl ?_
 intro w8 F5 z6 hB7
 refine RW_nil ?_
 refine thenW_n ?_
 refine W_seq ?_
 refine W_region ?_
 refine r_val rfl (x_move (v := .int .i64 due) rfl) ?_
 refine r_val rfl (x_fieldAddr (b := e) (o := 0) fo_37_3 rfl) ?_
 refine r_store (v := .int .i64 due) (vs := [.int .i64 due]) (l' := [.int .i64 ((l.getD i fl0).1.num), .int .i64 ((l.getD i fl0).1.frm), .int .i64 ((l.getD i fl0).1.dst), .int .i64 due, .slice FA ((l.getD i fl0).1.bs.length) mc]) rfl rfl size_3 rfl rfl rfl rfl hB7 (Nat.le_of_ble_eq_true rfl) rfl ?_
 intro w12 F9 z10 hB11
 refine RW_nil ?_
 refine thenW_n ?_
 refine W_seq ?_
 refine W_region ?_
 refine r_val rfl (x_move (v := .pointer (some ⟨B, 0, none⟩)) rfl) ?_
 refine r_val rfl (x_move (v := .pointer (some ⟨B, 0, none⟩)) rfl) ?_
 refine r_val rfl (x_nilCheck rfl) ?_
 refine r_val rfl (x_fieldAddr (b := B) (o := 0) fo_154_2 rfl) ?_
 have hB13 := hB.fr F1 (fun f => f)
 have hB14 := hB13.fr F5 ne_B_e
 have hB15 := hB14.fr F9 ne_B_e
 refine r_val rfl (x_load (v := .slice (some ⟨ga, 0, none⟩) (q + 1) c) kind_26 rfl (hB15.cell rfl)) ?_
 refine r_val rfl (x_move (v := .int .i64 (i : Int)) rfl) ?_
 refine r_val rfl (x_move (v := .int .i64 (i : Int)) rfl) ?_
 refine r_val rfl (x_add64 (a := (i : Int)) (b := 1) rfl rfl (by omega)) ?_
 have := F1.size
 have := F5.size
 have := F9.size
 have hF0 : Fr (fun b => b = e) w w12 := ((((Fr.refl (fun b => b = e) _).trans F1 (fun j hj h => h.elim)).trans F5 (fun j hj h => h)).trans F9 (fun j hj h => h))
 have hO0 := hO.fr hF0 (fun b hb h => by have h2 : b = e := h; have := hO.lt hb; omega)
 refine r_call rfl (c82 (vs := [.slice (some ⟨ga, 0, none⟩) (q + 1) c, .int .i64 (i : Int), .int .i64 ((i : Int) + 1)]) rfl) (deleteF (some ⟨ga, 0, none⟩) q c i (encL FC l) w12 hO0 (by omega) (by omega) (FC_one hN.one)) ?_
 rintro _ w16 ⟨v, rfl, hO2, hFd, hv⟩
 obtain ⟨A2, c2, hve, hc2⟩ := hO2.rd.form
 subst hve
 rw [encL_take FC_len, encL_drop FC_len, ← encL_append] at hO2
 refine ⟨_, rfl, ?_⟩
 refine r_val rfl (x_nilCheck rfl) ?_
 refine r_val rfl (x_fieldAddr (b := B) (o := 0) fo_154_2 rfl) ?_
 have hB17 := hB15.fr hFd (fun h => hO.type_ne hB (by decide) h)
 have hB2 := hB17
 refine r_store (v := .slice A2 q c2) (vs := [.slice A2 q c2]) (l' := [.int .i64 nodes, .int .i64 (mst : Int), .slice A2 q c2, .int .i64 sent, .int .i64 lost]) rfl rfl size_26 rfl rfl rfl rfl hB17 (Nat.le_of_ble_eq_true rfl) rfl ?_
 intro w21 F18 z19 hB20
 have hO3 := hO2.fr F18 (fun b hb h => (hO2.type_ne hB2 (by decide)) (h ▸ hb))
 refine RW_nil ?_
 refine thenW_n ?_
 refine W_seq ?_
 refine W_region ?_
 refine r_val rfl (x_move (v := .pointer (some ⟨B, 0, none⟩)) rfl) ?_
 have hB22 := hB11.fr hFd (fun h => by have := hO.lt h; omega)
 have hB23 := hB22.fr F18 (Ne.symm ne_B_e)
 refine r_val rfl (x_loadBlk (b := e) (l := [.int .i64 ((l.getD i fl0).1.num), .int .i64 ((l.getD i fl0).1.frm), .int .i64 ((l.getD i fl0).1.dst), .int .i64 due, .slice FA ((l.getD i fl0).1.bs.length) mc]) kind_37 size_37 rfl hB23) ?_
 have hB3 := hB20
 refine r_call rfl (c84 (vs := [.pointer (some ⟨B, 0, none⟩), .agg #[.int .i64 ((l.getD i fl0).1.num), .int .i64 ((l.getD i fl0).1.frm), .int .i64 ((l.getD i fl0).1.dst), .int .i64 due, .slice FA ((l.getD i fl0).1.bs.length) mc]]) rfl) (put_any B q c2 A2 nodes (mst : Int) sent lost (l.take i ++ l.drop (i + 1)) (l.getD i fl0).1.num (l.getD i fl0).1.frm (l.getD i fl0).1.dst due (.slice FA (l.getD i fl0).1.bs.length mc) (l.getD i fl0).1.bs w21 hB3 hO3 (by simp only [List.length_append, List.length_take, List.length_drop]; omega) (by omega) (fun p hp => hN.one p ((List.mem_append.1 hp).elim List.mem_of_mem_take List.mem_of_mem_drop)) rfl (fun a b h1 h2 => ahead_mono (hN.sorted.sublist ((take_drop_sublist l i).map _)) a b h1 (by simp only [List.length_append, List.length_take, List.length_drop]; omega))) ?_
 rintro _ w24 ⟨rfl, v4, k, hB4, hk, hlo4, hhi4, hO4, hFp, hv4⟩
 obtain ⟨A4, c4, hve4, hc4⟩ := hO4.rd.form
 subst hve4
 refine ⟨_, rfl, ?_⟩
 refine RW_nil ?_
 refine thenW_n ?_
 refine W_seq ?_
 refine W_region ?_
 refine r_val rfl (x_assign (v := .int .i64 0) rfl) ?_
 refine RW_nil ?_
 refine thenW_n ?_
 refine W_ret ?_
 have := F1.size
 have := F5.size
 have := F9.size
 have := hFd.size
 have := F18.size
 have := hFp.size
 refine q_ret1 (v := .int .i64 0) rfl rfl rfl ?_
 have hlen : (l.take i ++ l.drop (i + 1)).length = q := by simp only [List.length_append, List.length_take, List.length_drop]; omega
 have hins := ins_at (f := ⟨(l.getD i fl0).1.num, (l.getD i fl0).1.frm, (l.getD i fl0).1.dst, due, (l.getD i fl0).1.bs⟩) (v := .slice FA (l.getD i fl0).1.bs.length mc) (l := (l.take i ++ l.drop (i + 1))) (k := k) (by omega) hlo4 (fun i h1 h2 => hhi4 i h1 (by omega))
 have hsp := split_at (d := fl0) hi
 have hap := hN.apart
 rw [hsp, List.pairwise_append] at hap
 have hgr := hN.re (l' := (l.take i ++ l.drop (i + 1)).take k ++ ((⟨(l.getD i fl0).1.num, (l.getD i fl0).1.frm, (l.getD i fl0).1.dst, due, (l.getD i fl0).1.bs⟩ : Fl), .slice FA (l.getD i fl0).1.bs.length mc) :: (l.take i ++ l.drop (i + 1)).drop k) hB hO hK (((((((Fr.refl (fun b => b = B ∨ (Value.slice (some ⟨ga, 0, none⟩) (q + 1) c).ownBlock = some b) _).trans F1 (fun j hj h => h.elim)).trans F5 (fun j hj h => (by have h2 : j = e := h; omega))).trans F9 (fun j hj h => (by have h2 : j = e := h; omega))).trans hFd (fun j hj h => (.inr h))).trans F18 (fun j hj h => (.inl h))).trans hFp (fun j hj h => (h.imp id (hv j)))) hB4 (by simp only [List.length_append, List.length_cons, List.length_take, List.length_drop]; omega) hO4 (fun b hb => (hv4 b hb).imp (hv b) (fun h => by omega)) ?_ ?_ (by rw [hins]; exact ins_sorted (hN.sorted.sublist ((take_drop_sublist l i).map _)))
 · exact ⟨rfl, hgr.2, _, hgr.1, hins⟩
 · intro p hp
   rcases mem_ins hp with rfl | hp
   · exact ⟨(l.getD i fl0), getD_mem hi, hfe.symm, rfl⟩
   · exact ⟨p, (List.mem_append.1 hp).elim List.mem_of_mem_take List.mem_of_mem_drop, rfl, rfl⟩
 · refine apart_ins (hN.apart.sublist (take_drop_sublist l i)) fun p hp b hb h2 => ?_
   have h3 : (l.getD i fl0).2.ownBlock = some b := by rw [hfe]; exact h2
   rcases List.mem_append.1 hp with hp | hp
   · exact hap.2.2 p hp _ (List.mem_cons_self ..) b hb h3
   · exact (List.pairwise_cons.1 hap.2.1).1 p hp b h3 hb

end Go.Proofs.YthomkocjjkmnkaaDoor
