import Derived.Test.YthomkocjjkmnkaaDoorTab
import Derived.Test.YthomkocjjkmnkaaDoorNetK
import Derived.Test.YthomkocjjkmnkaaDoorNetA
/- PRINTED by gen.py (wip/tools) from the plan wip/plans: walks. -/
namespace Go.Proofs.YthomkocjjkmnkaaDoor
open Go Go.RowKit
set_option maxRecDepth 100000
set_option linter.unusedVariables false
theorem netSend {w : World} {K : Nat → Prop} {B : Nat} {nodes : Int} {mst : Nat} {sent lost : Int} {l : List (Fl × Value)} (hN : NetS w K B nodes mst sent lost l) (hl : l.length ≤ 1000000) (hse : 0 ≤ sent ∧ sent ≤ 1000000) (hlo : 0 ≤ lost ∧ lost ≤ 1000000) (hmo : mst ≤ 1000000)
    (ff ft fd : Int) {FA : Option Addr} {m mc : Nat} {bs : List UInt8} (hR : Rd w 1 (.slice FA m mc) m (BC bs)) (hfB : ∀ b, (Value.slice FA m mc).ownBlock = some b → b ≠ B) (hnil : FA = none → m = 0) (hm : m ≤ 1000000) :
    Calls Tryd.prog 12 #[.pointer (some ⟨B, 0, none⟩), .int .i64 ff, .int .i64 ft, .int .i64 fd, .slice FA m mc] w fun e w' => (((0 ≤ ff ∧ ff < nodes) ∧ (0 ≤ ft ∧ ft < nodes) ∧ (0 ≤ fd ∧ fd ≤ 1099511627776) ∧ m ≤ 20000) ∧ e = .returned (.int .i64 0) ∧ Fr K w w' ∧ ∃ l' lost', NetS w' (grow K w) B nodes mst (sent + 1) lost' l' ∧ (l'.map (·.1), lost') = absFresh mst ⟨sent + 1, ff, ft, fd, bs⟩ (l.map (·.1)) lost) ∨
      (¬ ((0 ≤ ff ∧ ff < nodes) ∧ (0 ≤ ft ∧ ft < nodes) ∧ (0 ≤ fd ∧ fd ≤ 1099511627776) ∧ m ≤ 20000) ∧ e = .returned (.int .i64 1) ∧ w' = w) := by
 obtain ⟨A, c, hB, hO, hK⟩ := hN.net
 refine calls_of_W Tryd.func12 rfl 38 rfl (Nat.le_of_ble_eq_true rfl) ?_
 refine W_seq ?_
 refine W_region ?_
 refine r_val rfl (x_assign (v := .int .i64 0) rfl) ?_
 refine RW_nil ?_
 refine thenW_n ?_
 refine W_seq ?_
 refine W_seq ?_
 refine W_region ?_
 refine r_val rfl (x_move (v := .pointer (some ⟨B, 0, none⟩)) rfl) ?_
 refine r_val rfl (x_move (v := .int .i64 ff) rfl) ?_
 refine r_call rfl (c75 (vs := [.pointer (some ⟨B, 0, none⟩), .int .i64 ff]) rfl) (has_any B nodes (mst : Int) sent lost A l.length c w hB ff) ?_
 rintro _ _ ⟨rfl, rfl⟩
 refine ⟨_, rfl, ?_⟩
 refine r_val rfl (x_not (b := (decide (0 ≤ ff) && decide (ff < nodes))) rfl) ?_
 refine r_val rfl (x_move (v := .bool (!(decide (0 ≤ ff) && decide (ff < nodes)))) rfl) ?_
 rcases Bool.eq_false_or_eq_true (!(decide (0 ≤ ff) && decide (ff < nodes))) with hc1 | hc1
 ·skip
  refine r_no (t := 15) rfl rfl rfl hc1 ?_
  refine r_no (t := 15) rfl rfl rfl hc1 ?_
  refine r_no (t := 15) rfl rfl rfl hc1 ?_
  refine r_no (t := 15) rfl rfl rfl hc1 ?_
  refine r_val rfl (x_pickT (b := !(decide (0 ≤ ff) && decide (ff < nodes))) (v := .bool true) rfl hc1 rfl) ?_
  refine r_val rfl (x_move (v := .bool true) rfl) ?_
  refine r_no (t := 21) rfl rfl rfl rfl ?_
  refine r_no (t := 21) rfl rfl rfl rfl ?_
  refine r_no (t := 21) rfl rfl rfl rfl ?_
  refine r_val rfl (x_pickT (b := true) (v := .bool true) rfl rfl rfl) ?_
  refine r_val rfl (x_move (v := .bool true) rfl) ?_
  refine r_no (t := 26) rfl rfl rfl rfl ?_
  refine r_no (t := 26) rfl rfl rfl rfl ?_
  refine r_no (t := 26) rfl rfl rfl rfl ?_
  refine r_val rfl (x_pickT (b := true) (v := .bool true) rfl rfl rfl) ?_
  refine RW_nil ?_
  refine thenW_n ?_
  refine W_condT (b := true) rfl rfl rfl ?_
  refine W_seq ?_
  refine W_region ?_
  refine r_val rfl (x_assign (v := .int .i64 1) rfl) ?_
  refine RW_nil ?_
  refine thenW_n ?_
  refine W_ret ?_
  refine thenW_r ?_
  refine q_ret1 (v := .int .i64 1) rfl rfl rfl ?_
  refine .inr ⟨?_, rfl, rfl⟩
  rintro ⟨⟨h1, h2⟩, ⟨h3, h4⟩, ⟨h5, h6⟩, h7⟩
  simp_all
  try omega
 ·skip
  refine r_yes (t := 15) rfl rfl rfl hc1 ?_
  refine r_val rfl (x_move (v := .pointer (some ⟨B, 0, none⟩)) rfl) ?_
  refine r_yes (t := 15) rfl rfl rfl hc1 ?_
  refine r_val rfl (x_move (v := .int .i64 ft) rfl) ?_
  refine r_yes (t := 15) rfl rfl rfl hc1 ?_
  refine r_call rfl (c75 (vs := [.pointer (some ⟨B, 0, none⟩), .int .i64 ft]) rfl) (has_any B nodes (mst : Int) sent lost A l.length c w hB ft) ?_
  rintro _ _ ⟨rfl, rfl⟩
  refine ⟨_, rfl, ?_⟩
  refine r_yes (t := 15) rfl rfl rfl hc1 ?_
  refine r_val rfl (x_not (b := (decide (0 ≤ ft) && decide (ft < nodes))) rfl) ?_
  refine r_val rfl (x_pickF (b := !(decide (0 ≤ ff) && decide (ff < nodes))) (v := .bool (!(decide (0 ≤ ft) && decide (ft < nodes)))) rfl hc1 rfl) ?_
  refine r_val rfl (x_move (v := .bool (!(decide (0 ≤ ft) && decide (ft < nodes)))) rfl) ?_
  rcases Bool.eq_false_or_eq_true (!(decide (0 ≤ ft) && decide (ft < nodes))) with hc2 | hc2
  ·skip
   refine r_no (t := 21) rfl rfl rfl hc2 ?_
   refine r_no (t := 21) rfl rfl rfl hc2 ?_
   refine r_no (t := 21) rfl rfl rfl hc2 ?_
   refine r_val rfl (x_pickT (b := !(decide (0 ≤ ft) && decide (ft < nodes))) (v := .bool true) rfl hc2 rfl) ?_
   refine r_val rfl (x_move (v := .bool true) rfl) ?_
   refine r_no (t := 26) rfl rfl rfl rfl ?_
   refine r_no (t := 26) rfl rfl rfl rfl ?_
   refine r_no (t := 26) rfl rfl rfl rfl ?_
   refine r_val rfl (x_pickT (b := true) (v := .bool true) rfl rfl rfl) ?_
   refine RW_nil ?_
   refine thenW_n ?_
   refine W_condT (b := true) rfl rfl rfl ?_
   refine W_seq ?_
   refine W_region ?_
   refine r_val rfl (x_assign (v := .int .i64 1) rfl) ?_
   refine RW_nil ?_
   refine thenW_n ?_
   refine W_ret ?_
   refine thenW_r ?_
   refine q_ret1 (v := .int .i64 1) rfl rfl rfl ?_
   refine .inr ⟨?_, rfl, rfl⟩
   rintro ⟨⟨h1, h2⟩, ⟨h3, h4⟩, ⟨h5, h6⟩, h7⟩
   simp_all
   try omega
  ·skip
   refine r_yes (t := 21) rfl rfl rfl hc2 ?_
   refine r_val rfl (x_move (v := .int .i64 fd) rfl) ?_
   refine r_yes (t := 21) rfl rfl rfl hc2 ?_
   refine r_call rfl (c76 (vs := [.int .i64 fd]) rfl) (moment_any fd w) ?_
   rintro _ _ ⟨rfl, rfl⟩
   refine ⟨_, rfl, ?_⟩
   refine r_yes (t := 21) rfl rfl rfl hc2 ?_
   refine r_val rfl (x_not (b := (decide (0 ≤ fd) && decide (fd ≤ 1099511627776))) rfl) ?_
   refine r_val rfl (x_pickF (b := !(decide (0 ≤ ft) && decide (ft < nodes))) (v := .bool (!(decide (0 ≤ fd) && decide (fd ≤ 1099511627776)))) rfl hc2 rfl) ?_
   refine r_val rfl (x_move (v := .bool (!(decide (0 ≤ fd) && decide (fd ≤ 1099511627776)))) rfl) ?_
   rcases Bool.eq_false_or_eq_true (!(decide (0 ≤ fd) && decide (fd ≤ 1099511627776))) with hc3 | hc3
   ·skip
    refine r_no (t := 26) rfl rfl rfl hc3 ?_
    refine r_no (t := 26) rfl rfl rfl hc3 ?_
    refine r_no (t := 26) rfl rfl rfl hc3 ?_
    refine r_val rfl (x_pickT (b := !(decide (0 ≤ fd) && decide (fd ≤ 1099511627776))) (v := .bool true) rfl hc3 rfl) ?_
    refine RW_nil ?_
    refine thenW_n ?_
    refine W_condT (b := true) rfl rfl rfl ?_
    refine W_seq ?_
    refine W_region ?_
    refine r_val rfl (x_assign (v := .int .i64 1) rfl) ?_
    refine RW_nil ?_
    refine thenW_n ?_
    refine W_ret ?_
    refine thenW_r ?_
    refine q_ret1 (v := .int .i64 1) rfl rfl rfl ?_
    refine .inr ⟨?_, rfl, rfl⟩
    rintro ⟨⟨h1, h2⟩, ⟨h3, h4⟩, ⟨h5, h6⟩, h7⟩
    simp_all
    try omega
   ·skip
    refine r_yes (t := 26) rfl rfl rfl hc3 ?_
    refine r_val rfl (x_move (v := .slice FA m mc) rfl) ?_
    refine r_yes (t := 26) rfl rfl rfl hc3 ?_
    refine r_val rfl (x_len (n := m) ul_33 rfl) ?_
    refine r_yes (t := 26) rfl rfl rfl hc3 ?_
    refine r_val rfl (x_gtr (a := (m : Int)) (b := 20000) rfl rfl) ?_
    refine r_val rfl (x_pickF (b := !(decide (0 ≤ fd) && decide (fd ≤ 1099511627776))) (v := .bool (decide (20000 < (m : Int)))) rfl hc3 rfl) ?_
    refine RW_nil ?_
    refine thenW_n ?_
    refine W_condD (p := 20000 < (m : Int)) rfl rfl (fun hc4 => ?_) (fun hc4 => ?_)
    ·skip
     refine W_seq ?_
     refine W_region ?_
     refine r_val rfl (x_assign (v := .int .i64 1) rfl) ?_
     refine RW_nil ?_
     refine thenW_n ?_
     refine W_ret ?_
     refine thenW_r ?_
     refine q_ret1 (v := .int .i64 1) rfl rfl rfl ?_
     refine .inr ⟨?_, rfl, rfl⟩
     rintro ⟨⟨h1, h2⟩, ⟨h3, h4⟩, ⟨h5, h6⟩, h7⟩
     simp_all
     try omega
    ·skip
     refine W_skip ?_
     refine thenW_n ?_
     refine W_seq ?_
     refine W_region ?_
     refine r_val rfl (x_move (v := .pointer (some ⟨B, 0, none⟩)) rfl) ?_
     refine r_val rfl (x_move (v := .int .i64 ff) rfl) ?_
     refine r_val rfl (x_move (v := .int .i64 ft) rfl) ?_
     refine r_val rfl (x_move (v := .int .i64 fd) rfl) ?_
     refine r_val rfl (x_move (v := .slice FA m mc) rfl) ?_
     refine r_val rfl (x_build (zl := [.int .i64 0, .int .i64 0, .int .i64 0, .int .i64 0, .slice none 0 0]) (ps := [(1, .int .i64 ff), (2, .int .i64 ft), (3, .int .i64 fd), (4, .slice FA m mc)]) (l := [.int .i64 0, .int .i64 ff, .int .i64 ft, .int .i64 fd, .slice FA m mc]) pl_37 zero_37 rfl rfl rfl) ?_
     refine r_call rfl (c77 (vs := [.pointer (some ⟨B, 0, none⟩), .agg #[.int .i64 0, .int .i64 ff, .int .i64 ft, .int .i64 fd, .slice FA m mc]]) rfl) (netFresh hN hl hse hlo hmo 0 ff ft fd hR hfB hnil (by omega)) ?_
     rintro _ w5 ⟨rfl, hF, hN2⟩
     refine ⟨_, rfl, ?_⟩
     refine RW_nil ?_
     refine thenW_n ?_
     refine W_seq ?_
     refine W_region ?_
     refine r_val rfl (x_assign (v := .int .i64 0) rfl) ?_
     refine RW_nil ?_
     refine thenW_n ?_
     refine W_ret ?_
     refine q_ret1 (v := .int .i64 0) rfl rfl rfl ?_
     refine .inl ⟨?_, rfl, hF, hN2⟩
     simp_all
     omega

theorem take_drop_sublist {α : Type} (l : List α) (i : Nat) : (l.take i ++ l.drop (i + 1)).Sublist l := by
  have h := List.Sublist.append (List.Sublist.refl (l.take i)) (List.drop_sublist_drop_left l (Nat.le_succ i))
  rwa [List.take_append_drop] at h

theorem netLose {w : World} {K : Nat → Prop} {B : Nat} {nodes : Int} {mst : Nat} {sent lost : Int} {l : List (Fl × Value)} (hN : NetS w K B nodes mst sent lost l) (hl : l.length ≤ 1000000) (hse : 0 ≤ sent ∧ sent ≤ 1000000) (hlo : 0 ≤ lost ∧ lost ≤ 1000000) (hmo : mst ≤ 1000000) (i : Nat) (hi : i < l.length) :
    Calls Tryd.prog 15 #[.pointer (some ⟨B, 0, none⟩), .int .i64 (i : Int)] w fun e w' => e = .returned (.int .i64 0) ∧ NetS w' (grow K w) B nodes mst sent lost (l.take i ++ l.drop (i + 1)) ∧ Fr K w w' := by
 obtain ⟨A, c, hB, hO, hK⟩ := hN.net
 obtain ⟨q, hq⟩ : ∃ q, l.length = q + 1 := ⟨l.length - 1, by omega⟩
 rw [hq] at hB hO hK
 refine calls_of_W Tryd.func15 rfl 20 rfl (Nat.le_of_ble_eq_true rfl) ?_
 refine W_seq ?_
 refine W_region ?_
 refine r_val rfl (x_assign (v := .int .i64 0) rfl) ?_
 refine RW_nil ?_
 refine thenW_n ?_
 refine W_seq ?_
 refine W_seq ?_
 refine W_region ?_
 refine r_val rfl (x_move (v := .pointer (some ⟨B, 0, none⟩)) rfl) ?_
 refine r_val rfl (x_move (v := .int .i64 (i : Int)) rfl) ?_
 refine r_call rfl (c81 (vs := [.pointer (some ⟨B, 0, none⟩), .int .i64 (i : Int)]) rfl) (at_any B nodes (mst : Int) sent lost A (q + 1) c w hB (i : Int)) ?_
 rintro _ _ ⟨rfl, rfl⟩
 refine ⟨_, rfl, ?_⟩
 refine r_val rfl (x_not (b := (decide (0 ≤ (i : Int)) && decide ((i : Int) < ((q + 1 : Nat) : Int)))) rfl) ?_
 refine RW_nil ?_
 refine thenW_n ?_
 refine W_condF (b := !(decide (0 ≤ (i : Int)) && decide ((i : Int) < ((q + 1 : Nat) : Int)))) rfl rfl (by have h1 : (0 : Int) ≤ (i : Int) := (by omega); have h2 : (i : Int) < ((q + 1 : Nat) : Int) := (by omega); rw [decide_eq_true h1, decide_eq_true h2]; rfl) ?_
 refine W_skip ?_
 refine thenW_n ?_
 refine W_seq ?_
 refine W_region ?_
 refine r_val rfl (x_move (v := .pointer (some ⟨B, 0, none⟩)) rfl) ?_
 refine r_val rfl (x_move (v := .pointer (some ⟨B, 0, none⟩)) rfl) ?_
 refine r_val rfl (x_nilCheck rfl) ?_
 refine r_val rfl (x_fieldAddr (b := B) (o := 0) fo_154_2 rfl) ?_
 refine r_val rfl (x_load (v := .slice A (q + 1) c) kind_26 rfl (hB.cell rfl)) ?_
 refine r_val rfl (x_move (v := .int .i64 (i : Int)) rfl) ?_
 refine r_val rfl (x_move (v := .int .i64 (i : Int)) rfl) ?_
 refine r_val rfl (x_add64 (a := (i : Int)) (b := 1) rfl rfl (by omega)) ?_
 refine r_call rfl (c82 (vs := [.slice A (q + 1) c, .int .i64 (i : Int), .int .i64 ((i : Int) + 1)]) rfl) (deleteF A q c i (encL FC l) w hO (by omega) (by omega) (FC_one hN.one)) ?_
 rintro _ w1 ⟨v, rfl, hO2, hF, hv⟩
 obtain ⟨A2, c2, hve, hc2⟩ := hO2.rd.form
 subst hve
 rw [encL_take FC_len, encL_drop FC_len, ← encL_append] at hO2
 refine ⟨_, rfl, ?_⟩
 refine r_val rfl (x_nilCheck rfl) ?_
 refine r_val rfl (x_fieldAddr (b := B) (o := 0) fo_154_2 rfl) ?_
 have hB2 := hB.fr hF (fun h => hO.type_ne hB (by decide) h)
 have hB2 := hB2
 refine r_store (v := .slice A2 q c2) (vs := [.slice A2 q c2]) (l' := [.int .i64 nodes, .int .i64 (mst : Int), .slice A2 q c2, .int .i64 sent, .int .i64 lost]) rfl rfl size_26 rfl rfl rfl rfl hB2 (Nat.le_of_ble_eq_true rfl) rfl ?_
 intro w6 F3 z4 hB5
 refine RW_nil ?_
 refine thenW_n ?_
 refine W_seq ?_
 refine W_region ?_
 refine r_val rfl (x_assign (v := .int .i64 0) rfl) ?_
 refine RW_nil ?_
 refine thenW_n ?_
 refine W_ret ?_
 have := hF.size
 have := F3.size
 refine q_ret1 (v := .int .i64 0) rfl rfl rfl ?_
 refine ⟨rfl, hN.re hB hO hK (((Fr.refl (fun b => b = B ∨ (Value.slice A (q + 1) c).ownBlock = some b) _).trans hF (fun j hj h => (.inr h))).trans F3 (fun j hj h => (.inl h))) hB5 ?_ (hO2.fr F3 (fun b hb h => (hO2.type_ne hB2 (by decide)) (h ▸ hb))) (fun b hb => .inl (hv b hb)) ?_ ?_ ?_⟩
 · simp only [List.length_append, List.length_take, List.length_drop]; omega
 · intro p hp; exact ⟨p, (List.mem_append.1 hp).elim List.mem_of_mem_take List.mem_of_mem_drop, rfl, rfl⟩
 · exact hN.apart.sublist (take_drop_sublist l i)
 · exact hN.sorted.sublist ((take_drop_sublist l i).map _)

theorem netLose_no {w : World} {K : Nat → Prop} {B : Nat} {nodes : Int} {mst : Nat} {sent lost : Int} {l : List (Fl × Value)} (hN : NetS w K B nodes mst sent lost l) (hl : l.length ≤ 1000000) (hse : 0 ≤ sent ∧ sent ≤ 1000000) (hlo : 0 ≤ lost ∧ lost ≤ 1000000) (hmo : mst ≤ 1000000) (x : Int) (hx : ¬ 0 ≤ x ∨ ¬ x < (l.length : Int)) :
    Calls Tryd.prog 15 #[.pointer (some ⟨B, 0, none⟩), .int .i64 x] w fun e w' => e = .returned (.int .i64 4) ∧ w = w' := by
 obtain ⟨A, c, hB, hO, hK⟩ := hN.net
 refine calls_of_W Tryd.func15 rfl 20 rfl (Nat.le_of_ble_eq_true rfl) ?_
 refine W_seq ?_
 refine W_region ?_
 refine r_val rfl (x_assign (v := .int .i64 0) rfl) ?_
 refine RW_nil ?_
 refine thenW_n ?_
 refine W_seq ?_
 refine W_seq ?_
 refine W_region ?_
 refine r_val rfl (x_move (v := .pointer (some ⟨B, 0, none⟩)) rfl) ?_
 refine r_val rfl (x_move (v := .int .i64 x) rfl) ?_
 refine r_call rfl (c81 (vs := [.pointer (some ⟨B, 0, none⟩), .int .i64 x]) rfl) (at_any B nodes (mst : Int) sent lost A l.length c w hB x) ?_
 rintro _ _ ⟨rfl, rfl⟩
 refine ⟨_, rfl, ?_⟩
 refine r_val rfl (x_not (b := (decide (0 ≤ x) && decide (x < (l.length : Int)))) rfl) ?_
 refine RW_nil ?_
 refine thenW_n ?_
 refine W_condT (b := !(decide (0 ≤ x) && decide (x < (l.length : Int)))) rfl rfl (by rcases hx with hx | hx; (rw [decide_eq_false hx]; rfl); (rw [decide_eq_false hx, Bool.and_false]; rfl)) ?_
 refine W_seq ?_
 refine W_region ?_
 refine r_val rfl (x_assign (v := .int .i64 4) rfl) ?_
 refine RW_nil ?_
 refine thenW_n ?_
 refine W_ret ?_
 refine thenW_r ?_
 refine q_ret1 (v := .int .i64 4) rfl rfl rfl ?_
 exact ⟨rfl, rfl⟩

end Go.Proofs.YthomkocjjkmnkaaDoor
