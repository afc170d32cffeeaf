import Derived.Test.YthomkocjjkmnkaaDoorTab
import Derived.Test.YthomkocjjkmnkaaDoorNetO
/- PRINTED by gen.py (wip/tools) from the plan wip/plans: walks. -/
namespace Go.Proofs.YthomkocjjkmnkaaDoor
open Go Go.RowKit
set_option maxRecDepth 100000
set_option linter.unusedVariables false
theorem enc_set : ∀ (l : List (Fl × Value)) (k : Nat) (v : Value), k < l.length → (encL FC l).set (k * 5 + 4) v = encL FC (l.set k ((l.getD k fl0).1, v))
  | [], k, v, h => by simp at h
  | a :: l, 0, v, _ => by
    rw [encL_cons, List.set_cons_zero, encL_cons]; rfl
  | a :: l, k + 1, v, h => by
    rw [List.set_cons_succ, encL_cons, encL_cons, List.set_append_right (h := by rw [FC_len]; omega), FC_len]
    rw [show (k + 1) * 5 + 4 - 5 = k * 5 + 4 from by omega, enc_set l k v (by simpa using h)]
    rfl
theorem map_set_same (l : List (Fl × Value)) (k : Nat) (v : Value) : (l.set k ((l.getD k fl0).1, v)).map (·.1) = l.map (·.1) := by
  rw [List.map_set]
  rcases Nat.lt_or_ge k l.length with h | h
  · apply List.ext_getElem?
    intro j
    rw [List.getElem?_set]
    split
    · rename_i e
      subst e
      simp [h, List.getD_eq_getElem?_getD, List.getElem?_eq_getElem h]
    · rfl
  · rw [List.set_eq_of_length_le (by simpa using h)]

theorem netWay {w : World} {K : Nat → Prop} {B : Nat} {nodes : Int} {mst : Nat} {sent lost : Int} {l : List (Fl × Value)} (hN : NetS w K B nodes mst sent lost l) (hl : l.length ≤ 1000000) (hse : 0 ≤ sent ∧ sent ≤ 1000000) (hlo : 0 ≤ lost ∧ lost ≤ 1000000) (hmo : mst ≤ 1000000) (hbs : ∀ p ∈ l, p.1.bs.length ≤ 1000000) :
    Calls Tryd.prog 20 #[.pointer (some ⟨B, 0, none⟩)] w fun e w' => ∃ v l2, e = .returned v ∧ l2.length = l.length ∧ l2.map (·.1) = l.map (·.1) ∧ Own w' 37 5 v l.length (encL FC l2) ∧ (∀ p ∈ l2, Own w' 5 1 p.2 p.1.bs.length (BC p.1.bs)) ∧ (∀ b, v.ownBlock = some b → w.heap.size ≤ b) ∧ Fr No w w' := by
 obtain ⟨A, c, hB, hO, hK⟩ := hN.net
 refine calls_of_W Tryd.func20 rfl 27 rfl (Nat.le_of_ble_eq_true rfl) ?_
 refine W_seq ?_
 refine W_region ?_
 refine r_val rfl (x_assign (v := .slice none 0 0) rfl) ?_
 refine RW_nil ?_
 refine thenW_n ?_
 refine W_seq ?_
 refine W_region ?_
 refine r_val rfl (x_move (v := .pointer (some ⟨B, 0, none⟩)) rfl) ?_
 refine r_val rfl (x_nilCheck rfl) ?_
 refine r_val rfl (x_fieldAddr (b := B) (o := 0) fo_154_2 rfl) ?_
 refine r_val rfl (x_load (v := .slice A l.length c) kind_26 rfl (hB.cell rfl)) ?_
 refine r_call rfl (c80 (vs := [.slice A l.length c]) rfl) (cloneF A l.length c (encL FC l) w hO.rd (fun h => hO.nil_len h) (FC_one hN.one) (by omega)) ?_
 rintro _ w2 ⟨v1, rfl, hOut, F1, hv1, _⟩
 obtain ⟨A1, c1, hve1, hc1⟩ := hOut.rd.form
 subst hve1
 refine ⟨_, rfl, ?_⟩
 refine r_val rfl (x_assign (v := .slice A1 l.length c1) rfl) ?_
 refine RW_nil ?_
 refine thenW_n ?_
 refine W_seq ?_
 refine W_seq ?_
 refine W_region ?_
 refine r_val rfl (x_move (v := .slice A1 l.length c1) rfl) ?_
 refine r_val rfl (x_len (n := l.length) ul_26 rfl) ?_
 refine r_val rfl (x_move (v := .int .i64 0) rfl) ?_
 refine RW_nil ?_
 refine thenW_n ?_
 refine W_block ?_
 refine W_loop (fun m σ w' => ∃ (k : Nat) (l2 : List (Fl × Value)), ∃ τ : Env, m = l.length - k ∧ σ = ovl τ [(3, .slice A1 l.length c1), (11, .int .i64 (l.length : Int)), (12, .int .i64 (k : Int))] ∧ Fr (fun b => (Value.slice A1 l.length c1).ownBlock = some b) w2 w' ∧ k ≤ l.length ∧ l2.length = l.length ∧ l2.map (·.1) = l.map (·.1) ∧ Own w' 37 5 (.slice A1 l.length c1) l.length (encL FC l2) ∧ ∀ p ∈ l2, Own w' 5 1 p.2 p.1.bs.length (BC p.1.bs)) (l.length) ?_ ?_
 have := F1.size
 have hFs := ((Fr.refl No _).trans F1 (fun j hj h => h.elim))
 · exact ⟨0, l, _, rfl, ((ovl_cons (ovl_cons (ovl_cons (ovl_nil _) rfl) rfl) rfl)).symm, Fr.refl _ _, Nat.zero_le _, rfl, rfl, hOut, fun p hp => (hN.bytes p hp).1.fr hFs (fun _ _ h => h.elim)⟩
 ·skip
  rintro _ _ w3 ⟨k, l2, τ, rfl, rfl, F0, hk, hll, hmap, hOw, hby⟩
  have hbs2 : ∀ p ∈ l2, p.1.bs.length ≤ 1000000 := fun p hp => by have h1 : p.1 ∈ l2.map (·.1) := List.mem_map_of_mem hp; rw [hmap] at h1; obtain ⟨q, hq, e⟩ := List.mem_map.1 h1; rw [← e]; exact hbs q hq
  refine W_seq ?_
  refine W_region ?_
  refine r_val rfl (x_lss (a := (k : Int)) (b := (l.length : Int)) rfl rfl) ?_
  refine RW_nil ?_
  refine thenW_n ?_
  refine W_seq ?_
  refine W_condD (p := (k : Int) < (l.length : Int)) rfl rfl (fun hc4 => ?_) (fun hc4 => ?_)
  ·skip
   refine W_skip ?_
   refine thenW_n ?_
   refine W_seq ?_
   refine W_block ?_
   refine W_seq ?_
   refine W_region ?_
   refine r_val rfl (x_move (v := .int .i64 (k : Int)) rfl) ?_
   refine r_val rfl (x_assign (v := .int .i64 (k : Int)) rfl) ?_
   refine RW_nil ?_
   refine thenW_n ?_
   have hk2 : k < l2.length := by omega
   obtain ⟨g, cur, hA1, hBg, hnc, hcm, hcl, hcx⟩ := hOw.open_ (by omega)
   subst hA1
   have hbk := hby (l2.getD k fl0) (getD_mem hk2)
   obtain ⟨FA, mc, hfe, hmc⟩ := hbk.rd.form
   obtain ⟨m, hm⟩ : ∃ m, (l2.getD k fl0).1.bs.length = m := ⟨_, rfl⟩
   rw [hm] at hfe hmc
   have hbk2 := hbk
   rw [hfe, hm] at hbk2
   have hFC : FC (l2.getD k fl0) = [.int .i64 (l2.getD k fl0).1.num, .int .i64 (l2.getD k fl0).1.frm, .int .i64 (l2.getD k fl0).1.dst, .int .i64 (l2.getD k fl0).1.due, .slice FA m mc] := by unfold FC; rw [hfe]
   have hml : m ≤ 1000000 := by rw [← hm]; exact hbs2 _ (getD_mem hk2)
   refine W_region ?_
   refine r_val rfl (x_move (v := .slice (some ⟨g, 0, none⟩) l.length c1) rfl) ?_
   refine r_val rfl (x_move (v := .int .i64 (k : Int)) rfl) ?_
   refine r_val rfl (x_move (v := .slice (some ⟨g, 0, none⟩) l.length c1) rfl) ?_
   refine r_val rfl (x_move (v := .int .i64 (k : Int)) rfl) ?_
   refine r_val rfl (x_indexAddr (b := g) (o := 0) (j := k) es_26 rfl rfl rfl (by omega)) ?_
   refine r_val rfl (x_fieldAddr (b := g) (o := 0 + k * 5) fo_37_4 rfl) ?_
   refine r_val rfl (x_load (v := .slice FA m mc) kind_33 rfl (by have := (hOw.rd.at_ (by omega)); obtain ⟨b, o, c', hv, _, hcell⟩ := this; injection hv with hv _ _; injection hv with hv; injection hv with h1 h2 _; subst h1; subst h2; exact hcell _ _ (encL_get (a := (l2.getD k fl0)) (size := 5) (f := 4) FC_len (getD_at l2 k fl0 hk2) (by rw [hFC]; rfl)))) ?_
   refine r_call rfl (c85 (vs := [.slice FA m mc]) rfl) (cloneB FA m mc (BC (l2.getD k fl0).1.bs) w3 hbk2.rd hbk2.nil_len (BC_one _) (by omega)) ?_
   rintro _ w6 ⟨v3, rfl, hO3, F5, hv3, _⟩
   obtain ⟨A3, c3, hve3, hc3⟩ := hO3.rd.form
   subst hve3
   refine ⟨_, rfl, ?_⟩
   refine r_val rfl (x_indexAddr (b := g) (o := 0) (j := k) es_26 rfl rfl rfl (by omega)) ?_
   refine r_val rfl (x_fieldAddr (b := g) (o := 0 + k * 5) fo_37_4 rfl) ?_
   have hB7 := hBg.fr F5 (fun f => f)
   refine r_store (v := .slice A3 m c3) (vs := [.slice A3 m c3]) (o := 0 + k * 5 + 4) (l' := cur.take (0 + k * 5 + 4) ++ [.slice A3 m c3] ++ cur.drop (0 + k * 5 + 4 + 1)) rfl rfl size_33 rfl rfl rfl rfl hB7 (by show 0 + k * 5 + 4 + 1 ≤ cur.length; omega) rfl ?_
   intro w11 F8 z9 hB10
   refine RW_nil ?_
   refine inBlk_n ?_
   refine thenW_n ?_
   refine W_region ?_
   refine r_val rfl (x_add64 (a := (k : Int)) (b := 1) rfl rfl (by omega)) ?_
   refine r_val rfl (x_move (v := .int .i64 ((k : Int) + 1)) rfl) ?_
   refine RW_nil ?_
   refine thenW_n ?_
   have := F5.size
   have := F8.size
   have hF5 := (((Fr.refl (fun b => (Value.slice (some ⟨g, 0, none⟩) l.length c1).ownBlock = some b) _).trans F5 (fun j hj h => h.elim)).trans F8 (fun j hj h => (congrArg some (show g = j from h.symm))))
   have hset : (cur.take (0 + k * 5 + 4) ++ [Value.slice A3 m c3] ++ cur.drop (0 + k * 5 + 4 + 1)) = cur.set (k * 5 + 4) (.slice A3 m c3) := by rw [List.set_eq_take_append_cons_drop, if_pos (by omega), Nat.zero_add]; simp
   have hB5 := hB10
   rw [hset] at hB5
   have hOn : Own w11 37 5 (.slice (some ⟨g, 0, none⟩) l.length c1) l.length (encL FC (l2.set k ((l2.getD k fl0).1, .slice A3 m c3))) := Own.of_blk' hB5 (by rw [List.length_set]; exact hcl) (by omega) hcm (by rw [List.take_set, hcx, enc_set _ _ _ hk2])
   have hO3' := hO3.fr F8 (fun b hb h => (hO3.type_ne hB7 (by decide)) (h ▸ hb))
   have hbn : ∀ p ∈ l2.set k ((l2.getD k fl0).1, .slice A3 m c3), Own w11 5 1 p.2 p.1.bs.length (BC p.1.bs) := fun p hp => by
     rcases List.mem_or_eq_of_mem_set hp with hp | rfl
     · exact (hby p hp).fr hF5 (fun b hb h => (hby p hp).ne2 hOw (by decide) hb h)
     · show Own _ _ _ (.slice A3 m c3) (l2.getD k fl0).1.bs.length _; rw [hm]; exact hO3'
   exact ⟨_, (by omega), k + 1, l2.set k ((l2.getD k fl0).1, .slice A3 m c3), _, rfl, ((ovl_cons (ovl_cons (ovl_cons (ovl_nil _) (by show Value.int .i64 ((k : Int) + 1) = _; rfl)) rfl) rfl)).symm, F0.trans hF5 (fun _ _ h => h), by omega, by rw [List.length_set]; exact hll, by rw [map_set_same]; exact hmap, hOn, hbn⟩
  ·skip
   refine W_exit ?_
   refine thenW_x ?_
   refine thenW_x ?_
   refine inBlk_xs ?_
   refine thenW_n ?_
   refine W_seq ?_
   refine W_region ?_
   refine r_val rfl (x_move (v := .slice A1 l.length c1) rfl) ?_
   refine r_val rfl (x_assign (v := .slice A1 l.length c1) rfl) ?_
   refine RW_nil ?_
   refine thenW_n ?_
   refine W_ret ?_
   have := F1.size
   have := F0.size
   refine q_ret1 (v := .slice A1 l.length c1) rfl rfl rfl ?_
   refine ⟨_, l2, rfl, hll, hmap, hOw, hby, fun b hb => by have := hv1 b hb; omega, ?_⟩
   exact (((Fr.refl No _).trans F1 (fun j hj h => h.elim)).trans F0 (fun j hj h => (by have := hv1 j h; omega)))

end Go.Proofs.YthomkocjjkmnkaaDoor
