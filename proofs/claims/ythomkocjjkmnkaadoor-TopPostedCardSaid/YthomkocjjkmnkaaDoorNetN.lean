import Derived.Test.YthomkocjjkmnkaaDoorTab
import Derived.Test.YthomkocjjkmnkaaDoorNetM
/- PRINTED by gen.py (wip/tools) from the plan wip/plans: walks. -/
namespace Go.Proofs.YthomkocjjkmnkaaDoor
open Go Go.RowKit
set_option maxRecDepth 100000
set_option linter.unusedVariables false
/-- Bytes spoilt at a place. -/
def spoilB (bs : List UInt8) (p : Nat) (t : UInt8) : List UInt8 := if bs.length = 0 then bs else bs.set (p % bs.length) (bs.getD (p % bs.length) 0 ^^^ t)
theorem spoilB_length (bs : List UInt8) (p : Nat) (t : UInt8) : (spoilB bs p t).length = bs.length := by unfold spoilB; split <;> simp
/-- One datagram's bytes are written anew, in their own block. -/
theorem NetS.wr {w w' : World} {K : Nat → Prop} {B : Nat} {nodes : Int} {mst : Nat} {sent lost : Int} {l : List (Fl × Value)} (h : NetS w K B nodes mst sent lost l) {i : Nat} (hi : i < l.length) {bs : List UInt8}
    (hF : Fr (fun b => (l.getD i fl0).2.ownBlock = some b) w w') (hO : Own w' 5 1 (l.getD i fl0).2 bs.length (BC bs)) :
    NetS w' K B nodes mst sent lost (l.take i ++ ({ (l.getD i fl0).1 with bs := bs }, (l.getD i fl0).2) :: l.drop (i + 1)) ∧ Fr K w w' := by
  obtain ⟨⟨A, c, hB, hO1, hK⟩, hh, hb, ha, hs⟩ := h
  have hsp := split_at (d := fl0) hi
  obtain ⟨f, hf⟩ : ∃ f, l.getD i fl0 = f := ⟨_, rfl⟩
  rw [hf] at hF hO hsp ⊢
  have hfm : f ∈ l := hf ▸ getD_mem hi
  have hfb := hb f hfm
  have hlen : (l.take i ++ (({ f.1 with bs := bs } : Fl), f.2) :: l.drop (i + 1)).length = l.length := by simp only [List.length_append, List.length_cons, List.length_take, List.length_drop]; omega
  have henc : encL FC (l.take i ++ (({ f.1 with bs := bs } : Fl), f.2) :: l.drop (i + 1)) = encL FC l := by
    conv => rhs; rw [hsp]
    rw [encL_append, encL_append, encL_cons, encL_cons]; rfl
  have hmap : (l.take i ++ (({ f.1 with bs := bs } : Fl), f.2) :: l.drop (i + 1)).map (fun p => (p.1.due, p.1.num)) = l.map (fun p => (p.1.due, p.1.num)) := by
    conv => rhs; rw [hsp]
    simp
  rw [hsp, List.pairwise_append] at ha
  have hap : ∀ p, (p ∈ l.take i ∨ p ∈ l.drop (i + 1)) → ∀ b, p.2.ownBlock = some b → f.2.ownBlock ≠ some b := fun p hp b h1 => by
    rcases hp with hp | hp
    · exact ha.2.2 p hp f (List.mem_cons_self ..) b h1
    · intro h2; exact (List.pairwise_cons.1 ha.2.1).1 p hp b h2 h1
  refine ⟨⟨⟨A, c, ?_, ?_, ?_⟩, hh, ?_, ?_, ?_⟩, hF.mono fun b _ h2 => hfb.2 b h2⟩
  · rw [hlen]; exact hB.fr hF fun h2 => hfb.1.type_ne hB (by decide) h2
  · rw [hlen, henc]; exact hO1.fr hF fun b h1 h2 => hO1.ne2 hfb.1 (by decide) h1 h2
  · rw [hlen]; exact hK
  · intro p hp
    simp only [List.mem_append, List.mem_cons] at hp
    rcases hp with hp | rfl | hp
    · exact ⟨(hb p (List.mem_of_mem_take hp)).1.fr hF (hap p (.inl hp)), (hb p (List.mem_of_mem_take hp)).2⟩
    · exact ⟨hO, hfb.2⟩
    · exact ⟨(hb p (List.mem_of_mem_drop hp)).1.fr hF (hap p (.inr hp)), (hb p (List.mem_of_mem_drop hp)).2⟩
  · refine List.pairwise_append.2 ⟨ha.1, List.pairwise_cons.2 ⟨fun q hq => (List.pairwise_cons.1 ha.2.1).1 q hq, (List.pairwise_cons.1 ha.2.1).2⟩, fun p hp q hq => ?_⟩
    rcases List.mem_cons.1 hq with rfl | hq
    · exact ha.2.2 p hp f (List.mem_cons_self ..)
    · exact ha.2.2 p hp q (List.mem_cons_of_mem _ hq)
  · have e : ∀ m : List (Fl × Value), (m.map (·.1)).Pairwise lef ↔ (m.map (fun p => (p.1.due, p.1.num))).Pairwise (fun a b => a.1 < b.1 ∨ a.1 = b.1 ∧ a.2 ≤ b.2) := fun m => by
      rw [List.pairwise_map, List.pairwise_map]; rfl
    rw [e, hmap, ← e]; exact hs

theorem netSpoil {w : World} {K : Nat → Prop} {B : Nat} {nodes : Int} {mst : Nat} {sent lost : Int} {l : List (Fl × Value)} (hN : NetS w K B nodes mst sent lost l) (hl : l.length ≤ 1000000) (hse : 0 ≤ sent ∧ sent ≤ 1000000) (hlo : 0 ≤ lost ∧ lost ≤ 1000000) (hmo : mst ≤ 1000000) (i : Nat) (hi : i < l.length) (p : Nat) (hp : p ≤ 1000000) (t : UInt8) :
    Calls Tryd.prog 19 #[.pointer (some ⟨B, 0, none⟩), .int .i64 (i : Int), .int .i64 (p : Int), .int .u8 (t.toNat : Int)] w fun e w' => e = .returned (.int .i64 0) ∧ Fr K w w' ∧ NetS w' K B nodes mst sent lost (l.take i ++ ({ (l.getD i fl0).1 with bs := spoilB (l.getD i fl0).1.bs p t }, (l.getD i fl0).2) :: l.drop (i + 1)) := by
 obtain ⟨A, c, hB, hO, hK⟩ := hN.net
 obtain ⟨q, hq⟩ : ∃ q, l.length = q + 1 := ⟨l.length - 1, by omega⟩
 have hbi := hN.bytes (l.getD i fl0) (getD_mem hi)
 obtain ⟨FA, mc, hfe, hmc⟩ := hbi.1.rd.form
 obtain ⟨m, hm⟩ : ∃ m, (l.getD i fl0).1.bs.length = m := ⟨_, rfl⟩
 rw [hm] at hfe hmc hbi
 have hFC : FC (l.getD i fl0) = [.int .i64 (l.getD i fl0).1.num, .int .i64 (l.getD i fl0).1.frm, .int .i64 (l.getD i fl0).1.dst, .int .i64 (l.getD i fl0).1.due, .slice FA m mc] := by unfold FC; rw [hfe]
 rw [hfe] at hbi
 rw [hq] at hB hO hK
 obtain ⟨ga, cur, hA, hBA, hnc, hcm, hcl, hcx⟩ := hO.open_ (by omega)
 subst hA
 refine calls_of_W Tryd.func19 rfl 39 rfl (Nat.le_of_ble_eq_true rfl) ?_
 refine W_seq ?_
 refine W_region ?_
 refine r_val rfl (x_assign (v := .int .i64 0) rfl) ?_
 refine RW_nil ?_
 refine thenW_n ?_
 refine W_seq ?_
 refine W_block ?_
 refine W_seq ?_
 refine W_region ?_
 refine r_val rfl (x_move (v := .pointer (some ⟨B, 0, none⟩)) rfl) ?_
 refine r_val rfl (x_move (v := .int .i64 (i : Int)) rfl) ?_
 refine r_call rfl (c81 (vs := [.pointer (some ⟨B, 0, none⟩), .int .i64 (i : Int)]) rfl) (at_any B nodes (mst : Int) sent lost (some ⟨ga, 0, none⟩) (q + 1) c w hB (i : Int)) ?_
 rintro _ _ ⟨rfl, rfl⟩
 refine ⟨_, rfl, ?_⟩
 refine r_val rfl (x_not (b := (decide (0 ≤ (i : Int)) && decide ((i : Int) < ((q + 1 : Nat) : Int)))) rfl) ?_
 refine r_val rfl (x_assign (v := .bool (!(decide (0 ≤ (i : Int)) && decide ((i : Int) < ((q + 1 : Nat) : Int))))) rfl) ?_
 refine RW_nil ?_
 refine thenW_n ?_
 refine W_condF (b := !(decide (0 ≤ (i : Int)) && decide ((i : Int) < ((q + 1 : Nat) : Int)))) rfl rfl (by have h1 : (0 : Int) ≤ (i : Int) := (by omega); have h2 : (i : Int) < ((q + 1 : Nat) : Int) := (by omega); rw [decide_eq_true h1, decide_eq_true h2]; rfl) ?_
 refine W_seq ?_
 refine W_region ?_
 refine r_val rfl (x_move (v := .int .i64 (p : Int)) rfl) ?_
 refine r_val rfl (x_lss (a := (p : Int)) (b := 0) rfl rfl) ?_
 refine r_val rfl (x_assign (v := .bool (decide ((p : Int) < 0))) rfl) ?_
 refine RW_nil ?_
 refine thenW_n ?_
 refine W_condF (b := decide ((p : Int) < 0)) rfl rfl (decide_eq_false (by omega)) ?_
 refine W_skip ?_
 refine inBlk_n ?_
 refine thenW_n ?_
 refine W_seq ?_
 refine W_seq ?_
 refine W_region ?_
 refine r_val rfl (x_move (v := .pointer (some ⟨B, 0, none⟩)) rfl) ?_
 refine r_val rfl (x_nilCheck rfl) ?_
 refine r_val rfl (x_fieldAddr (b := B) (o := 0) fo_154_2 rfl) ?_
 refine r_val rfl (x_load (v := .slice (some ⟨ga, 0, none⟩) (q + 1) c) kind_26 rfl (hB.cell rfl)) ?_
 refine r_val rfl (x_move (v := .int .i64 (i : Int)) rfl) ?_
 refine r_val rfl (x_indexAddr (b := ga) (o := 0) (j := i) es_26 rfl rfl rfl (by omega)) ?_
 refine r_val rfl (x_fieldAddr (b := ga) (o := 0 + i * 5) fo_37_4 rfl) ?_
 refine r_val rfl (x_load (v := .slice FA m mc) kind_33 rfl (by have := (hO.rd.at_ (by omega)); obtain ⟨b, o, c', hv, _, hcell⟩ := this; injection hv with hv _ _; injection hv with hv; injection hv with h1 h2 _; subst h1; subst h2; exact hcell _ _ (encL_get (a := (l.getD i fl0)) (size := 5) (f := 4) FC_len (getD_at l i fl0 hi) (by rw [hFC]; rfl)))) ?_
 refine r_val rfl (x_assign (v := .slice FA m mc) rfl) ?_
 refine RW_nil ?_
 refine thenW_n ?_
 refine W_seq ?_
 refine W_region ?_
 refine r_val rfl (x_move (v := .slice FA m mc) rfl) ?_
 refine r_val rfl (x_len (n := m) ul_33 rfl) ?_
 refine r_val rfl (x_gtr (a := (m : Int)) (b := 0) rfl rfl) ?_
 refine RW_nil ?_
 refine thenW_n ?_
 refine W_condD (p := 0 < (m : Int)) rfl rfl (fun hc1 => ?_) (fun hc1 => ?_)
 ·skip
  have hm0 : 0 < m := by omega
  obtain ⟨gb, cb, hgb, hBb, hbc, hbm, hbl, hbx⟩ := hbi.1.open_ hm0
  subst hgb
  rw [Nat.mul_one] at hbl hbx
  have hpm : p % m < m := Nat.mod_lt _ hm0
  refine W_region ?_
  refine r_val rfl (x_move (v := .slice (some ⟨gb, 0, none⟩) m mc) rfl) ?_
  refine r_val rfl (x_move (v := .int .i64 (p : Int)) rfl) ?_
  refine r_val rfl (x_move (v := .slice (some ⟨gb, 0, none⟩) m mc) rfl) ?_
  refine r_val rfl (x_len (n := m) ul_33 rfl) ?_
  refine r_val rfl (x_rem64 (a := (p : Int)) (b := (m : Int)) rfl rfl (by omega) (by omega)) ?_
  refine r_val rfl (x_indexAddr (b := gb) (o := 0) (j := (p % m)) es_33 rfl rfl rfl (by omega)) ?_
  refine r_val rfl (x_load (v := .int .u8 (((l.getD i fl0).1.bs.getD (p % m) 0).toNat : Int)) kind_5 rfl (by rw [Nat.mul_one, Nat.zero_add]; refine hBb.cell ?_; have := BC_get (l.getD i fl0).1.bs (p % m) (by omega); rw [← hbx, List.getElem?_take, if_pos hpm] at this; exact this)) ?_
  refine r_val rfl (x_move (v := .int .u8 (t.toNat : Int)) rfl) ?_
  refine r_val rfl (x_as (u := .int .u8 (((l.getD i fl0).1.bs.getD (p % m) 0 ^^^ t).toNat : Int)) (x_bits (op := .xor) (a := (((l.getD i fl0).1.bs.getD (p % m) 0).toNat : Int)) (b := (t.toNat : Int)) rfl rfl rfl) (congrArg (Value.int .u8) (xor8 _ _))) ?_
  refine r_val rfl (x_indexAddr (b := gb) (o := 0) (j := (p % m)) es_33 rfl rfl rfl (by omega)) ?_
  refine r_store (v := .int .u8 (((l.getD i fl0).1.bs.getD (p % m) 0 ^^^ t).toNat : Int)) (vs := [.int .u8 (((l.getD i fl0).1.bs.getD (p % m) 0 ^^^ t).toNat : Int)]) (o := (p % m)) (l' := cb.take (p % m) ++ [.int .u8 (((l.getD i fl0).1.bs.getD (p % m) 0 ^^^ t).toNat : Int)] ++ cb.drop ((p % m) + 1)) rfl rfl size_5 (by show Value.pointer (some ⟨gb, 0 + (p % m) * 1, none⟩) = _; rw [Nat.mul_one, Nat.zero_add]) rfl rfl rfl hBb (by show (p % m) + 1 ≤ cb.length; omega) rfl ?_
  intro w5 F2 z3 hB4
  refine RW_nil ?_
  refine thenW_n ?_
  refine W_seq ?_
  refine W_region ?_
  refine r_val rfl (x_assign (v := .int .i64 0) rfl) ?_
  refine RW_nil ?_
  refine thenW_n ?_
  refine W_ret ?_
  refine q_ret1 (v := .int .i64 0) rfl rfl rfl ?_
  have hset := BC_set (y := (l.getD i fl0).1.bs.getD (p % m) 0 ^^^ t) hbx hm.symm hpm (by omega)
  have hsb : spoilB (l.getD i fl0).1.bs p t = (l.getD i fl0).1.bs.set (p % m) ((l.getD i fl0).1.bs.getD (p % m) 0 ^^^ t) := by unfold spoilB; rw [hm, if_neg (by omega)]
  have hw := hN.wr hi (bs := spoilB (l.getD i fl0).1.bs p t) (F2.mono fun b _ h => by rw [hfe]; exact congrArg some (show gb = b from h.symm)) (by rw [hfe, spoilB_length, hm, hsb]; exact Own.of_blk' (c := mc) hB4 (by simp only [List.length_append, List.length_take, List.length_drop, List.length_cons, List.length_nil]; omega) hbc hbm (by rw [Nat.mul_one]; exact hset))
  exact ⟨rfl, hw.2, hw.1⟩
 ·skip
  refine W_skip ?_
  refine thenW_n ?_
  refine W_seq ?_
  refine W_region ?_
  refine r_val rfl (x_assign (v := .int .i64 0) rfl) ?_
  refine RW_nil ?_
  refine thenW_n ?_
  refine W_ret ?_
  refine q_ret1 (v := .int .i64 0) rfl rfl rfl ?_
  have hm0 : m = 0 := by omega
  have hsb : spoilB (l.getD i fl0).1.bs p t = (l.getD i fl0).1.bs := by unfold spoilB; rw [hm, if_pos hm0]
  have hw := hN.wr hi (bs := spoilB (l.getD i fl0).1.bs p t) (Fr.refl _ w) (by rw [hsb, hfe, hm]; exact hbi.1)
  exact ⟨rfl, hw.2, hw.1⟩

theorem netSpoil_no {w : World} {K : Nat → Prop} {B : Nat} {nodes : Int} {mst : Nat} {sent lost : Int} {l : List (Fl × Value)} (hN : NetS w K B nodes mst sent lost l) (hl : l.length ≤ 1000000) (hse : 0 ≤ sent ∧ sent ≤ 1000000) (hlo : 0 ≤ lost ∧ lost ≤ 1000000) (hmo : mst ≤ 1000000) (x p t : Int) (hx : ¬ 0 ≤ x ∨ ¬ x < (l.length : Int)) :
    Calls Tryd.prog 19 #[.pointer (some ⟨B, 0, none⟩), .int .i64 x, .int .i64 p, .int .u8 t] w fun e w' => e = .returned (.int .i64 4) ∧ w = w' := by
 obtain ⟨A, c, hB, hO, hK⟩ := hN.net
 refine calls_of_W Tryd.func19 rfl 39 rfl (Nat.le_of_ble_eq_true rfl) ?_
 refine W_seq ?_
 refine W_region ?_
 refine r_val rfl (x_assign (v := .int .i64 0) rfl) ?_
 refine RW_nil ?_
 refine thenW_n ?_
 refine W_seq ?_
 refine W_block ?_
 refine W_seq ?_
 refine W_region ?_
 refine r_val rfl (x_move (v := .pointer (some ⟨B, 0, none⟩)) rfl) ?_
 refine r_val rfl (x_move (v := .int .i64 x) rfl) ?_
 refine r_call rfl (c81 (vs := [.pointer (some ⟨B, 0, none⟩), .int .i64 x]) rfl) (at_any B nodes (mst : Int) sent lost A l.length c w hB x) ?_
 rintro _ _ ⟨rfl, rfl⟩
 refine ⟨_, rfl, ?_⟩
 refine r_val rfl (x_not (b := (decide (0 ≤ x) && decide (x < (l.length : Int)))) rfl) ?_
 refine r_val rfl (x_assign (v := .bool (!(decide (0 ≤ x) && decide (x < (l.length : Int))))) rfl) ?_
 refine RW_nil ?_
 refine thenW_n ?_
 refine W_condT (b := !(decide (0 ≤ x) && decide (x < (l.length : Int)))) rfl rfl (by rcases hx with hx | hx; (rw [decide_eq_false hx]; rfl); (rw [decide_eq_false hx, Bool.and_false]; rfl)) ?_
 refine W_seq ?_
 refine W_region ?_
 refine r_val rfl (x_assign (v := .int .i64 4) rfl) ?_
 refine RW_nil ?_
 refine thenW_n ?_
 refine W_ret ?_
 refine inBlk_r ?_
 refine thenW_r ?_
 refine q_ret1 (v := .int .i64 4) rfl rfl rfl ?_
 exact ⟨rfl, rfl⟩

end Go.Proofs.YthomkocjjkmnkaaDoor
