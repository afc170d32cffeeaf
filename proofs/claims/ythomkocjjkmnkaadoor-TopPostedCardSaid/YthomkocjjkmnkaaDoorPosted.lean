import Derived.Test.YthomkocjjkmnkaaDoorTab
import Derived.Test.YthomkocjjkmnkaaDoorPap
import Derived.Test.YthomkocjjkmnkaaDoorShaD
/- PRINTED by gen.py (wip/tools) from the plan wip/plans: walks. -/
namespace Go.Proofs.YthomkocjjkmnkaaDoor
open Go Go.RowKit
set_option maxRecDepth 100000
set_option linter.unusedVariables false
structure Inv (w : World) (K : Nat → Prop) (B N : Nat) (many : Int) (mst : Nat) (sent lost : Int) (l lp : List (Fl × Value)) (m : Nat) : Prop where
  net : NetS w K B many mst sent lost l
  pap : PapS w K N mst sent lost lp
  same : lp.map (·.1) = l.map (·.1)
  cs : 0 ≤ sent ∧ sent ≤ m
  cl : 0 ≤ lost ∧ lost ≤ m
  len : l.length ≤ m
  small : ∀ p ∈ l, p.1.bs.length ≤ 30 ∧ 0 ≤ p.1.due
section
variable {w w' : World} {K : Nat → Prop} {B N mst m m' : Nat} {many sent lost : Int} {l lp : List (Fl × Value)}
theorem Inv.no (h : Inv w K B N many mst sent lost l lp m) (hF : Fr No w w') : Inv w' K B N many mst sent lost l lp m :=
  ⟨h.net.fr hF (fun _ _ _ s => s), h.pap.no hF, h.same, h.cs, h.cl, h.len, h.small⟩
theorem Inv.up (h : Inv w K B N many mst sent lost l lp m) (hm : m ≤ m') : Inv w K B N many mst sent lost l lp m' :=
  ⟨h.net, h.pap, h.same, ⟨h.cs.1, by have := h.cs.2; omega⟩, ⟨h.cl.1, by have := h.cl.2; omega⟩, by have := h.len; omega, h.small⟩
theorem Inv.plen (h : Inv w K B N many mst sent lost l lp m) : lp.length = l.length := by have := congrArg List.length h.same; simpa using this
end

theorem same_del {l lp : List (Fl × Value)} (h : lp.map (·.1) = l.map (·.1)) (i j : Nat) : (lp.take i ++ lp.drop j).map (·.1) = (l.take i ++ l.drop j).map (·.1) := by
  rw [List.map_append, List.map_append, List.map_take, List.map_drop, List.map_take, List.map_drop, h]
theorem same_at {l lp : List (Fl × Value)} (h : lp.map (·.1) = l.map (·.1)) (i : Nat) (hi : i < l.length) : (lp.getD i fl0).1 = (l.getD i fl0).1 := by
  have hl : lp.length = l.length := by have := congrArg List.length h; simpa using this
  have := congrArg (·[i]?) h
  simpa [List.getD_eq_getElem?_getD, List.getElem?_eq_getElem hi, List.getElem?_eq_getElem (show i < lp.length by omega)] using this
theorem small_map {P : Fl → Prop} {l : List (Fl × Value)} (h : ∀ f ∈ l.map (·.1), P f) : ∀ p ∈ l, P p.1 := fun p hp => h p.1 (List.mem_map_of_mem hp)
theorem small_of {P : Fl → Prop} {l : List (Fl × Value)} (h : ∀ p ∈ l, P p.1) : ∀ f ∈ l.map (·.1), P f := fun f hf => by obtain ⟨p, hp, rfl⟩ := List.mem_map.1 hf; exact h p hp
theorem mem_insF {f g : Fl} {l : List Fl} (h : g ∈ insF f l) : g = f ∨ g ∈ l := by
  simp only [insF, List.mem_append, List.mem_cons] at h
  rcases h with h | h | h
  · exact .inr (List.takeWhile_sublist _ |>.subset h)
  · exact .inl h
  · exact .inr (List.dropWhile_sublist _ |>.subset h)
theorem mem_absFresh {mst : Nat} {f g : Fl} {l : List Fl} {lost : Int} (h : g ∈ (absFresh mst f l lost).1) : g = f ∨ g ∈ l := by
  unfold absFresh at h
  split at h
  · exact mem_insF (List.mem_of_mem_take h)
  · exact mem_insF h
theorem absFresh_len (mst : Nat) (f : Fl) (l : List Fl) (lost : Int) : (absFresh mst f l lost).1.length ≤ l.length + 1 ∧ ((absFresh mst f l lost).2 = lost ∨ (absFresh mst f l lost).2 = lost + 1) := by
  unfold absFresh
  split
  · refine ⟨?_, .inr rfl⟩
    rw [List.length_take, insF_length]; omega
  · refine ⟨?_, .inl rfl⟩
    rw [insF_length]; omega

theorem Inv.fresh {w0 w3 : World} {K0 K3 : Nat → Prop} {B N mst m : Nat} {many sent lost lost' lostp : Int} {l lp l' lp' : List (Fl × Value)} (hI : Inv w0 K0 B N many mst sent lost l lp m) {f g : Fl} (hfg : f = g) (hf : g.bs.length ≤ 30 ∧ 0 ≤ g.due)
    (h1 : (lp'.map (·.1), lostp) = absFresh mst f (lp.map (·.1)) lost) (h2 : (l'.map (·.1), lost') = absFresh mst g (l.map (·.1)) lost) (hN : NetS w3 K3 B many mst (sent + 1) lost' l') (hP : PapS w3 K3 N mst (sent + 1) lostp lp') : Inv w3 K3 B N many mst (sent + 1) lost' l' lp' (m + 1) := by
  subst hfg
  rw [hI.same, ← h2] at h1
  injection h1 with e1 e2
  subst e2
  have hl := absFresh_len mst f (l.map (·.1)) lost
  rw [← h2] at hl
  simp only [List.length_map] at hl
  have h3 := hI.cs; have h4 := hI.cl; have h5 := hI.len
  refine ⟨hN, hP, e1, ⟨by omega, by omega⟩, ⟨by omega, by omega⟩, by omega, small_map (P := fun f => f.bs.length ≤ 30 ∧ 0 ≤ f.due) fun g hg => ?_⟩
  have : g ∈ (absFresh mst f (l.map (·.1)) lost).1 := by rw [← h2]; exact hg
  rcases mem_absFresh this with rfl | h
  · exact hf
  · exact small_of (P := fun f => f.bs.length ≤ 30 ∧ 0 ≤ f.due) hI.small g h
theorem Inv.hold {w0 w3 : World} {K0 K3 : Nat → Prop} {B N mst m : Nat} {many sent lost : Int} {l lp l' lp' : List (Fl × Value)} (hI : Inv w0 K0 B N many mst sent lost l lp m) {f g : Fl} {i : Nat} (hi : i < l.length) (hfg : f = g) (hf : g.bs.length ≤ 30 ∧ 0 ≤ g.due)
    (h1 : lp'.map (·.1) = insF f ((lp.take i ++ lp.drop (i + 1)).map (·.1))) (h2 : l'.map (·.1) = insF g ((l.take i ++ l.drop (i + 1)).map (·.1))) (hN : NetS w3 K3 B many mst sent lost l') (hP : PapS w3 K3 N mst sent lost lp') : Inv w3 K3 B N many mst sent lost l' lp' (m + 1) := by
  subst hfg
  rw [same_del hI.same, ← h2] at h1
  have hl := congrArg List.length h2
  rw [insF_length] at hl
  simp only [List.length_map, List.length_append, List.length_take, List.length_drop] at hl
  have h3 := hI.cs; have h4 := hI.cl; have h5 := hI.len
  refine ⟨hN, hP, h1, ⟨by omega, by omega⟩, ⟨by omega, by omega⟩, by omega, small_map (P := fun f => f.bs.length ≤ 30 ∧ 0 ≤ f.due) fun g hg => ?_⟩
  rw [h2] at hg
  rcases mem_insF hg with rfl | h
  · exact hf
  · refine small_of (P := fun f => f.bs.length ≤ 30 ∧ 0 ≤ f.due) hI.small g ?_
    obtain ⟨q, hq, rfl⟩ := List.mem_map.1 h
    exact List.mem_map_of_mem ((List.mem_append.1 hq).elim List.mem_of_mem_take List.mem_of_mem_drop)

theorem shr_in {K : Nat → Prop} {w : World} {j : Nat} (h : shrink K w j) : K j := h.1

theorem drop_head {l : List (Fl × Value)} {j : Nat} (h : j < l.length) : (l.drop j)[0]? = some (l.getD j fl0) := by
  rw [List.getElem?_drop, Nat.add_zero]; exact getD_at l j fl0 h
theorem take_snoc {l : List (Fl × Value)} {j : Nat} (h : j < l.length) : l.take (j + 1) = l.take j ++ [l.getD j fl0] := by
  rw [List.take_succ_eq_append_getElem h]
  have e : l.getD j fl0 = l[j] := by rw [List.getD_eq_getElem?_getD, List.getElem?_eq_getElem h]; rfl
  rw [e]

section
variable {w : World} {K : Nat → Prop} {B : Nat} {nodes : Int} {mst : Nat} {sent lost : Int} {l : List (Fl × Value)}
theorem BC_take (bs : List UInt8) (k : Nat) : (BC bs).take k = BC (bs.take k) := by unfold BC; rw [List.map_take]
theorem netSend_yes (hN : NetS w K B nodes mst sent lost l) (hl : l.length ≤ 1000000) (hse : 0 ≤ sent ∧ sent ≤ 1000000) (hlo : 0 ≤ lost ∧ lost ≤ 1000000) (hmo : mst ≤ 1000000)
    (ff ft fd : Int) {FA : Option Addr} {m mc : Nat} {bs : List UInt8} (hR : Rd w 1 (.slice FA m mc) m (BC bs)) (hfB : ∀ b, (Value.slice FA m mc).ownBlock = some b → b ≠ B) (hnil : FA = none → m = 0) (hm : m ≤ 1000000)
    (hv : (0 ≤ ff ∧ ff < nodes) ∧ (0 ≤ ft ∧ ft < nodes) ∧ (0 ≤ fd ∧ fd ≤ 1099511627776) ∧ m ≤ 20000) :
    Calls Tryd.prog 12 #[.pointer (some ⟨B, 0, none⟩), .int .i64 ff, .int .i64 ft, .int .i64 fd, .slice FA m mc] w fun e w' =>
      e = .returned (.int .i64 0) ∧ Fr K w w' ∧ ∃ l' lost', NetS w' (grow K w) B nodes mst (sent + 1) lost' l' ∧ (l'.map (·.1), lost') = absFresh mst ⟨sent + 1, ff, ft, fd, bs⟩ (l.map (·.1)) lost :=
  (netSend hN hl hse hlo hmo ff ft fd hR hfB hnil hm).mono fun _ _ h => h.elim (fun h => h.2) (fun h => absurd hv h.1)
theorem netSend_no (hN : NetS w K B nodes mst sent lost l) (hl : l.length ≤ 1000000) (hse : 0 ≤ sent ∧ sent ≤ 1000000) (hlo : 0 ≤ lost ∧ lost ≤ 1000000) (hmo : mst ≤ 1000000)
    (ff ft fd : Int) {FA : Option Addr} {m mc : Nat} {bs : List UInt8} (hR : Rd w 1 (.slice FA m mc) m (BC bs)) (hfB : ∀ b, (Value.slice FA m mc).ownBlock = some b → b ≠ B) (hnil : FA = none → m = 0) (hm : m ≤ 1000000)
    (hv : ¬ ((0 ≤ ff ∧ ff < nodes) ∧ (0 ≤ ft ∧ ft < nodes) ∧ (0 ≤ fd ∧ fd ≤ 1099511627776) ∧ m ≤ 20000)) :
    Calls Tryd.prog 12 #[.pointer (some ⟨B, 0, none⟩), .int .i64 ff, .int .i64 ft, .int .i64 fd, .slice FA m mc] w fun e w' =>
      e = .returned (.int .i64 1) ∧ w = w' :=
  (netSend hN hl hse hlo hmo ff ft fd hR hfB hnil hm).mono fun _ _ h => h.elim (fun h => absurd h.1 hv) (fun h => ⟨h.2.1, h.2.2.symm⟩)
end

theorem encL_setB {lp : List (Fl × Value)} {i : Nat} (hi : i < lp.length) {cur : List Value} (h : cur.take (lp.length * 5) = encL FC lp) (hc : lp.length * 5 ≤ cur.length) (v : Value) (bs : List UInt8) :
    (cur.take (i * 5 + 4) ++ [v] ++ cur.drop (i * 5 + 4 + 1)).take (lp.length * 5) = encL FC (lp.take i ++ (({ (lp.getD i fl0).1 with bs := bs } : Fl), v) :: lp.drop (i + 1)) := by
  have e : cur.take (i * 5 + 4) ++ [v] ++ cur.drop (i * 5 + 4 + 1) = cur.set (i * 5 + 4) v := by
    rw [List.set_eq_take_append_cons_drop, if_pos (by omega)]; simp
  have hl : (encL FC (lp.take i)).length = i * 5 := by rw [encL_length FC_len, List.length_take, Nat.min_eq_left (by omega)]
  rw [e, List.take_set, h]
  conv => lhs; rw [split_at (d := fl0) hi]
  rw [encL_append, encL_append, encL_cons, encL_cons, List.set_append_right _ _ (by omega), hl, show i * 5 + 4 - i * 5 = 4 from by omega]
  rfl
theorem spoil_map {l lp : List (Fl × Value)} (h : lp.map (·.1) = l.map (·.1)) {i : Nat} (hi : i < l.length) (g : List UInt8 → List UInt8) (v u : Value) :
    (lp.take i ++ (({ (lp.getD i fl0).1 with bs := g (lp.getD i fl0).1.bs } : Fl), v) :: lp.drop (i + 1)).map (·.1) = (l.take i ++ (({ (l.getD i fl0).1 with bs := g (l.getD i fl0).1.bs } : Fl), u) :: l.drop (i + 1)).map (·.1) := by
  rw [List.map_append, List.map_append, List.map_cons, List.map_cons, List.map_take, List.map_take, List.map_drop, List.map_drop, h, same_at h i hi]
theorem mem_mid {α : Type} {l : List α} {i : Nat} {a p : α} (h : p ∈ l.take i ++ a :: l.drop (i + 1)) : p = a ∨ p ∈ l := by
  rcases List.mem_append.1 h with h | h
  · exact .inr (List.mem_of_mem_take h)
  · exact (List.mem_cons.1 h).imp id List.mem_of_mem_drop

set_option maxHeartbeats 8000000 in
theorem posted_any (A : Option Addr) (n c : Nat) (acts : List (Fl × Value)) (nodes most : Int) (w : World) (hK : Kst w) (hR : Rd w 5 (.slice A n c) n (encL FC acts)) (hla : acts.length = n)
    (hac : ∀ p ∈ acts, Rd w 1 p.2 p.1.bs.length (BC p.1.bs) ∧ (-9223372036854775808 ≤ p.1.num ∧ p.1.num ≤ 9223372036854775807) ∧ (-9223372036854775808 ≤ p.1.frm ∧ p.1.frm ≤ 9223372036854775807) ∧ (-9223372036854775808 ≤ p.1.dst ∧ p.1.dst ≤ 9223372036854775807) ∧ (-9223372036854775808 ≤ p.1.due ∧ p.1.due ≤ 9223372036854775807))
    (hno : -9223372036854775808 ≤ nodes ∧ nodes ≤ 9223372036854775807) (hmo : -9223372036854775808 ≤ most ∧ most ≤ 9223372036854775807) :
    Calls Tryd.prog 3 #[.slice A n c, .int .i64 nodes, .int .i64 most] w fun e w' => e = .returned (.bool true) ∧ Fr No w w' := by
 obtain ⟨many, hmany⟩ : ∃ x, 2 + roostV nodes 4 = x := ⟨_, rfl⟩
 have hmb := roostV_in (x := nodes) (n := 4) (by decide)
 have hmb2 := roostV_in (x := most) (n := 12) (by decide)
 obtain ⟨mst, hmst⟩ : ∃ x : Nat, 1 + roostV most 12 = (x : Int) := ⟨(1 + roostV most 12).toNat, by omega⟩
 refine calls_of_W Tryd.func3 rfl 405 rfl (Nat.le_of_ble_eq_true rfl) ?_
 refine W_seq ?_
 refine W_region ?_
 refine r_val rfl (x_assign (v := .bool false) rfl) ?_
 refine RW_nil ?_
 refine thenW_n ?_
 refine W_seq ?_
 refine W_region ?_
 refine r_call rfl (c8 (vs := []) rfl) (awake_any w hK) ?_
 rintro _ w2 ⟨rfl, F1⟩
 refine ⟨_, rfl, ?_⟩
 refine r_val rfl (x_assign (v := .bool true) rfl) ?_
 refine RW_nil ?_
 refine thenW_n ?_
 refine W_seq ?_
 refine W_region ?_
 refine r_val rfl (x_move (v := .int .i64 nodes) rfl) ?_
 refine r_call rfl (c9 (vs := [.int .i64 nodes, .int .i64 4]) rfl) (roostOf_any nodes 4 w2 (by first | assumption | omega) (by omega)) ?_
 rintro _ _ ⟨rfl, rfl⟩
 refine ⟨_, rfl, ?_⟩
 refine r_val rfl (x_as (u := .int .i64 many) (x_add64 (a := 2) (b := roostV nodes 4) rfl rfl (by omega)) (congrArg (Value.int .i64) hmany)) ?_
 refine r_val rfl (x_assign (v := .int .i64 many) rfl) ?_
 refine RW_nil ?_
 refine thenW_n ?_
 refine W_seq ?_
 refine W_region ?_
 refine r_val rfl (x_move (v := .int .i64 most) rfl) ?_
 refine r_call rfl (c9 (vs := [.int .i64 most, .int .i64 12]) rfl) (roostOf_any most 12 w2 (by first | assumption | omega) (by omega)) ?_
 rintro _ _ ⟨rfl, rfl⟩
 refine ⟨_, rfl, ?_⟩
 refine r_val rfl (x_as (u := .int .i64 (mst : Int)) (x_add64 (a := 1) (b := roostV most 12) rfl rfl (by omega)) (congrArg (Value.int .i64) hmst)) ?_
 refine r_val rfl (x_build (zl := [.slice none 0 0, .int .i64 0, .int .i64 0, .int .i64 0]) (ps := [(3, .int .i64 (mst : Int))]) (l := [.slice none 0 0, .int .i64 0, .int .i64 0, .int .i64 (mst : Int)]) pl_28 zero_28 rfl rfl rfl) ?_
 obtain ⟨N, hN⟩ : ∃ n, w2.heap.size = n := ⟨_, rfl⟩
 refine r_box (v := .agg #[.slice none 0 0, .int .i64 0, .int .i64 0, .int .i64 (mst : Int)]) (l := [.slice none 0 0, .int .i64 0, .int .i64 0, .int .i64 (mst : Int)]) rfl N hN rfl rfl ?_
 intro w6 F3 z4 hB5
 refine r_val rfl (x_assign (v := .pointer (some ⟨N, 0, none⟩)) rfl) ?_
 refine RW_nil ?_
 refine thenW_n ?_
 refine W_seq ?_
 refine W_region ?_
 refine r_val rfl (x_move (v := .int .i64 many) rfl) ?_
 refine r_val rfl (x_move (v := .pointer (some ⟨N, 0, none⟩)) rfl) ?_
 refine r_val rfl (x_nilCheck rfl) ?_
 refine r_val rfl (x_fieldAddr (b := N) (o := 0) fo_28_3 rfl) ?_
 refine r_val rfl (x_load (v := .int .i64 (mst : Int)) kind_3 rfl (hB5.cell rfl)) ?_
 refine r_call rfl (c10 (vs := [.int .i64 many, .int .i64 (mst : Int)]) rfl) (netNew_any many (mst : Int) w6) ?_
 rintro _ w7 (⟨hnot, _, _⟩ | ⟨_, rfl, hFn, hszn, hBn⟩)
 · exact absurd (show 1 ≤ many ∧ many ≤ 65537 ∧ 1 ≤ (mst : Int) ∧ (mst : Int) ≤ 5000 from ⟨by omega, by omega, by omega, by omega⟩) hnot
 obtain ⟨B, hBd⟩ : ∃ n, w6.heap.size = n := ⟨_, rfl⟩
 rw [hBd] at hBn hszn ⊢
 refine ⟨_, rfl, ?_⟩
 refine r_val rfl (x_move (v := .tuple #[.pointer (some ⟨B, 0, none⟩), .int .i64 0]) rfl) ?_
 refine r_val rfl (x_extract (v := .pointer (some ⟨B, 0, none⟩)) rfl rfl) ?_
 refine r_val rfl (x_extract (v := .int .i64 0) rfl rfl) ?_
 refine r_val rfl (x_assign (v := .pointer (some ⟨B, 0, none⟩)) rfl) ?_
 refine r_val rfl (x_assign (v := .int .i64 0) rfl) ?_
 refine RW_nil ?_
 refine thenW_n ?_
 refine W_seq ?_
 refine W_seq ?_
 refine W_region ?_
 refine r_val rfl (x_move (v := .bool true) rfl) ?_
 refine r_val rfl (x_not (b := true) rfl) ?_
 refine r_val rfl (x_move (v := .bool false) rfl) ?_
 refine r_yes (t := 50) rfl rfl rfl rfl ?_
 refine r_val rfl (x_move (v := .int .i64 0) rfl) ?_
 refine r_yes (t := 50) rfl rfl rfl rfl ?_
 refine r_val rfl (x_as (u := .bool false) (x_neq (a := 0) (b := 0) rfl rfl) rfl) ?_
 refine r_val rfl (x_pickF (b := false) (v := .bool false) rfl rfl rfl) ?_
 refine r_val rfl (x_move (v := .bool false) rfl) ?_
 refine r_yes (t := 54) rfl rfl rfl rfl ?_
 refine r_val rfl (x_move (v := .pointer (some ⟨B, 0, none⟩)) rfl) ?_
 refine r_yes (t := 54) rfl rfl rfl rfl ?_
 refine r_val rfl (x_eqlP (e := 154) (by kernel_rfl) rfl rfl) ?_
 refine r_val rfl (x_pickF (b := false) (v := .bool false) rfl rfl rfl) ?_
 refine RW_nil ?_
 refine thenW_n ?_
 refine W_condF (b := false) rfl rfl rfl ?_
 refine W_skip ?_
 refine thenW_n ?_
 refine W_seq ?_
 refine W_seq ?_
 have := F1.size
 have := F3.size
 have := hFn.size
 have hyN : w.heap.size ≤ N := by omega
 refine W_region ?_
 refine r_val rfl (x_assign (v := .int .i64 0) rfl) ?_
 refine RW_nil ?_
 refine thenW_n ?_
 refine W_block ?_
 refine W_loop (fun m σ w' => ∃ (k : Nat) (K : Nat → Prop) (l lp : List (Fl × Value)) (sent lost : Int), ∃ τ : Env, m = 80 - k ∧ σ = ovl τ [(0, .slice A n c), (8, .int .i64 many), (9, .pointer (some ⟨N, 0, none⟩)), (10, .pointer (some ⟨B, 0, none⟩)), (12, .int .i64 (k : Int))] ∧ Fr No w w' ∧ (∀ b, b < w.heap.size → ¬ K b) ∧ k ≤ n ∧ k ≤ 80 ∧ Inv w' K B N many mst sent lost l lp k) (80) ?_ ?_
 have := F1.size
 have := F3.size
 have := hFn.size
 have := F1.size
 have := F3.size
 have := hFn.size
 have hB8 := hB5.fr hFn (fun f => f)
 have hInv0 : Inv w7 (fun b => b = B) B N many mst 0 0 [] [] 0 := ⟨⟨⟨none, 0, hBn, Own.nil _ _ _, fun b h => (by cases h)⟩, rfl, fun p h => (by cases h), List.Pairwise.nil, List.Pairwise.nil⟩, ⟨⟨none, 0, hB8, Rd.nil _ _ _ _, fun b h => (by cases h)⟩, fun h => (by have h2 : N = B := h; omega), fun p h => (by cases h)⟩, rfl, ⟨by decide, by decide⟩, ⟨by decide, by decide⟩, Nat.le_refl 0, fun p h => (by cases h)⟩
 · exact ⟨0, (fun b => b = B), [], [], 0, 0, _, rfl, ((ovl_cons (ovl_cons (ovl_cons (ovl_cons (ovl_cons (ovl_nil _) rfl) rfl) rfl) rfl) rfl)).symm, ((((Fr.refl No _).trans F1 (fun j hj h => h.elim)).trans F3 (fun j hj h => h.elim)).trans hFn (fun j hj h => h.elim)), (fun b h1 h2 => by have h3 : b = B := h2; omega), Nat.zero_le _, by decide, hInv0⟩
 ·skip
  rintro _ _ w9 ⟨k, K, l, lp, sent, lost, τ, rfl, rfl, Fw, hyK, hkn, hk80, hI⟩
  have hcs := hI.cs
  have hcl := hI.cl
  have hlen := hI.len
  have hsz0 := Fw.size
  obtain ⟨AP, cP, hNb, hRp, hPb⟩ := hI.pap.pap
  rw [hI.plen] at hNb hRp hPb
  refine W_seq ?_
  refine W_seq ?_
  refine W_region ?_
  refine r_val rfl (x_move (v := .int .i64 (k : Int)) rfl) ?_
  refine r_val rfl (x_move (v := .slice A n c) rfl) ?_
  refine r_val rfl (x_len (n := n) ul_22 rfl) ?_
  refine r_val rfl (x_lss (a := (k : Int)) (b := (n : Int)) rfl rfl) ?_
  refine r_val rfl (x_move (v := .bool (decide ((k : Int) < (n : Int)))) rfl) ?_
  by_cases hc10 : (k : Int) < (n : Int)
  ·skip
   refine r_yes (t := 62) rfl rfl rfl (decide_eq_true hc10) ?_
   refine r_val rfl (x_move (v := .int .i64 (k : Int)) rfl) ?_
   refine r_yes (t := 62) rfl rfl rfl (decide_eq_true hc10) ?_
   refine r_val rfl (x_lss (a := (k : Int)) (b := 80) rfl rfl) ?_
   refine r_val rfl (x_pickT (b := decide ((k : Int) < (n : Int))) (v := .bool (decide ((k : Int) < 80))) rfl (decide_eq_true hc10) rfl) ?_
   refine RW_nil ?_
   refine thenW_n ?_
   refine W_condD (p := (k : Int) < 80) rfl rfl (fun hc11 => ?_) (fun hc11 => ?_)
   ·skip
    refine W_skip ?_
    refine thenW_n ?_
    refine W_seq ?_
    refine W_block ?_
    refine W_seq ?_
    have hR12 := hR.fr Fw (fun _ _ f => f)
    have hka : k < acts.length := by omega
    obtain ⟨rb, ro, _, hv, _, hcell⟩ := hR12.at_ (by omega)
    injection hv with hvA
    subst hvA
    have hak := hac (acts.getD k fl0) (getD_mem hka)
    obtain ⟨FA, mc, hfe, hmc⟩ := hak.1.form
    obtain ⟨m, hm⟩ : ∃ m, (acts.getD k fl0).1.bs.length = m := ⟨_, rfl⟩
    rw [hm] at hfe hmc
    obtain ⟨hakR, hak0, hak1, hak2, hak3⟩ := hak
    rw [hfe, hm] at hakR
    have hakb : ∀ b, (Value.slice FA m mc).ownBlock = some b → 0 < m → b < w.heap.size := fun b hb h0 => hakR.lt' h0 (by decide) hb
    have hFC : FC (acts.getD k fl0) = [.int .i64 (acts.getD k fl0).1.num, .int .i64 (acts.getD k fl0).1.frm, .int .i64 (acts.getD k fl0).1.dst, .int .i64 (acts.getD k fl0).1.due, .slice FA m mc] := by unfold FC; rw [hfe]
    obtain ⟨f0, hf0⟩ : ∃ x, (acts.getD k fl0).1.num = x := ⟨_, rfl⟩
    obtain ⟨f1, hf1⟩ : ∃ x, (acts.getD k fl0).1.frm = x := ⟨_, rfl⟩
    obtain ⟨f2, hf2⟩ : ∃ x, (acts.getD k fl0).1.dst = x := ⟨_, rfl⟩
    obtain ⟨f3, hf3⟩ : ∃ x, (acts.getD k fl0).1.due = x := ⟨_, rfl⟩
    obtain ⟨abs, habs⟩ : ∃ x, (acts.getD k fl0).1.bs = x := ⟨_, rfl⟩
    rw [hf0] at hak0 hFC
    rw [hf1] at hak1 hFC
    rw [hf2] at hak2 hFC
    rw [hf3] at hak3 hFC
    rw [habs] at hakR hm
    refine W_region ?_
    refine r_val rfl (x_move (v := .slice (some ⟨rb, ro, none⟩) n c) rfl) ?_
    refine r_val rfl (x_move (v := .int .i64 (k : Int)) rfl) ?_
    refine r_val rfl (x_indexAddr (b := rb) (o := ro) (j := k) es_22 rfl rfl rfl (by omega)) ?_
    refine r_val rfl (x_loadRow (b := rb) (o := ro + k * 5) (cs := [.int .i64 f0, .int .i64 f1, .int .i64 f2, .int .i64 f3, .slice FA m mc]) kind_35 size_35 rfl (fun mm u hu => (by rw [Nat.add_assoc]; exact hcell _ _ (encL_get (a := (acts.getD k fl0)) (size := 5) FC_len (getD_at acts k fl0 hka) (hFC ▸ hu))))) ?_
    obtain ⟨ab, hab⟩ : ∃ n, w9.heap.size = n := ⟨_, rfl⟩
    have ne_N_ab : N ≠ ab := by have := hNb.lt; omega
    refine r_alloc (l := [.int .i64 0, .int .i64 0, .int .i64 0, .int .i64 0, .slice none 0 0]) ab hab zero_35 rfl ?_
    intro w16 F13 z14 hB15
    refine r_store (v := .agg #[.int .i64 f0, .int .i64 f1, .int .i64 f2, .int .i64 f3, .slice FA m mc]) (vs := [.int .i64 f0, .int .i64 f1, .int .i64 f2, .int .i64 f3, .slice FA m mc]) (l' := [.int .i64 f0, .int .i64 f1, .int .i64 f2, .int .i64 f3, .slice FA m mc]) rfl rfl size_35 rfl rfl rfl rfl hB15 (Nat.le_of_ble_eq_true rfl) rfl ?_
    intro w20 F17 z18 hB19
    refine RW_nil ?_
    refine thenW_n ?_
    refine W_seq ?_
    have hrv := roostV_in (x := f1) (n := (l.length : Int) + 2) (by omega)
    obtain ⟨at_, hat⟩ : ∃ x, roostV f1 ((l.length : Int) + 2) - 1 = x := ⟨_, rfl⟩
    have hB21 := hNb.fr F13 (fun f => f)
    have hB22 := hB21.fr F17 ne_N_ab
    have hR23 := hRp.fr F13 (fun _ _ f => f)
    have hR24 := hR23.fr F17 (fun b hb h => by have h1 := (hPb b hb).2.2; have h2 : b = ab := h; omega)
    have hR27 := hakR.frz Fw (fun _ _ _ f => f)
    have hR28 := hR27.frz F13 (fun _ _ _ f => f)
    have hR29 := hR28.frz F17 (fun b hb h0 h => by have h1 := hakb b hb h0; have h2 : b = ab := h; omega)
    refine d_begin mo 11 (fun x => Fr No w20 x) ?_
    obtain ⟨w31, hw31⟩ : ∃ x, w20.drew = x := ⟨_, rfl⟩
    have F30 : Fr No w20 w31 := by rw [← hw31]; exact Fr.drew _ _
    have D32 : Fr No w20 w31 := Fr.of_No F30
    have sF30 := F30.size
    rw [hw31]
    refine d_pure (i := 0) rfl (by kernel_rfl) (np_then (np_blk (np_then (np_then (np_blk (np_then np_body)))))) rfl (fun _ => (x_fieldAddr (b := ab) (o := 0) fo_35_1 rfl)) (fun _ => D32) ?_
    refine d_load (i := 1) rfl (by kernel_rfl) (np_then (np_blk (np_then (np_then (np_blk (np_then np_body)))))) rfl (by kernel_rfl) rfl (fun x hS => (x_load (v := .int .i64 f1) kind_3 rfl ((hB19.fr hS (fun f => f)).cell rfl))) D32 ?_
    refine d_pure (i := 2) rfl (by kernel_rfl) (np_then (np_blk (np_then (np_then (np_blk (np_then np_body)))))) rfl (fun _ => (x_move (v := .pointer (some ⟨N, 0, none⟩)) rfl)) (fun _ => D32) ?_
    refine d_pure (i := 3) rfl (by kernel_rfl) (np_then (np_blk (np_then (np_then (np_blk (np_then np_body)))))) rfl (fun _ => (x_nilCheck rfl)) (fun _ => D32) ?_
    refine d_pure (i := 4) rfl (by kernel_rfl) (np_then (np_blk (np_then (np_then (np_blk (np_then np_body)))))) rfl (fun _ => (x_fieldAddr (b := N) (o := 0) fo_28_0 rfl)) (fun _ => D32) ?_
    refine d_load (i := 5) rfl (by kernel_rfl) (np_then (np_blk (np_then (np_then (np_blk (np_then np_body)))))) rfl (by kernel_rfl) rfl (fun x hS => (x_load (v := .slice AP l.length cP) kind_26 rfl ((hB22.fr hS (fun f => f)).cell rfl))) D32 ?_
    refine d_pure (i := 6) rfl (by kernel_rfl) (np_then (np_blk (np_then (np_then (np_blk (np_then np_body)))))) rfl (fun _ => (x_len (n := l.length) ul_26 rfl)) (fun _ => D32) ?_
    refine d_pure (i := 7) rfl (by kernel_rfl) (np_then (np_blk (np_then (np_then (np_blk (np_then np_body)))))) rfl (fun _ => (x_add64 (a := (l.length : Int)) (b := 2) rfl rfl (by omega))) (fun _ => D32) ?_
    refine d_call (i := 8) rfl (by kernel_rfl) (np_then (np_blk (np_then (np_then (np_blk (np_then np_body)))))) rfl (fun _ => c9 (vs := [.int .i64 f1, .int .i64 ((l.length : Int) + 2)]) rfl) (fun w_ => roostOf_any f1 ((l.length : Int) + 2) w_ (by first | assumption | omega) (by omega)) (fun _ => D32) ?_
    refine d_pure (i := 9) rfl (by kernel_rfl) (np_then (np_blk (np_then (np_then (np_blk (np_then np_body)))))) rfl (fun _ => (x_as (u := .int .i64 at_) (x_sub64 (a := roostV f1 ((l.length : Int) + 2)) (b := 1) rfl rfl (by omega)) (congrArg (Value.int .i64) hat))) (fun _ => D32) ?_
    refine d_pure (i := 10) rfl (by kernel_rfl) (np_then (np_blk (np_then (np_then (np_blk (np_then np_body)))))) rfl (fun _ => (x_assign (v := .int .i64 at_) rfl)) (fun _ => D32) ?_
    refine d_done (by kernel_rfl) ?_
    refine thenW_n ?_
    refine W_mid (fun σ w' => w31 = w' ∧ ∃ isb : Bool, ∃ τ : Env, σ = ovl τ [(0, .slice (some ⟨rb, ro, none⟩) n c), (8, .int .i64 many), (9, .pointer (some ⟨N, 0, none⟩)), (10, .pointer (some ⟨B, 0, none⟩)), (12, .int .i64 (k : Int)), (13, .pointer (some ⟨ab, 0, none⟩)), (14, .int .i64 at_), (15, .bool isb)] ∧ isb = decide (0 ≤ at_ ∧ at_ < (l.length : Int))) ?_ ?_
    ·skip
     refine W_region ?_
     refine r_val rfl (x_move (v := .int .i64 at_) rfl) ?_
     refine r_val rfl (x_geq (a := at_) (b := 0) rfl rfl) ?_
     refine r_val rfl (x_move (v := .bool (decide (0 ≤ at_))) rfl) ?_
     by_cases hc33 : 0 ≤ at_
     ·skip
      refine r_yes (t := 84) rfl rfl rfl (decide_eq_true hc33) ?_
      refine r_val rfl (x_move (v := .int .i64 at_) rfl) ?_
      refine r_yes (t := 84) rfl rfl rfl (decide_eq_true hc33) ?_
      refine r_val rfl (x_move (v := .pointer (some ⟨N, 0, none⟩)) rfl) ?_
      refine r_yes (t := 84) rfl rfl rfl (decide_eq_true hc33) ?_
      refine r_val rfl (x_nilCheck rfl) ?_
      refine r_yes (t := 84) rfl rfl rfl (decide_eq_true hc33) ?_
      refine r_val rfl (x_fieldAddr (b := N) (o := 0) fo_28_0 rfl) ?_
      refine r_yes (t := 84) rfl rfl rfl (decide_eq_true hc33) ?_
      have hB34 := hB22.fr F30 (fun f => f)
      refine r_val rfl (x_load (v := .slice AP l.length cP) kind_26 rfl (hB34.cell rfl)) ?_
      refine r_yes (t := 84) rfl rfl rfl (decide_eq_true hc33) ?_
      refine r_val rfl (x_len (n := l.length) ul_26 rfl) ?_
      refine r_yes (t := 84) rfl rfl rfl (decide_eq_true hc33) ?_
      refine r_val rfl (x_lss (a := at_) (b := (l.length : Int)) rfl rfl) ?_
      refine r_val rfl (x_pickT (b := decide (0 ≤ at_)) (v := .bool (decide (at_ < (l.length : Int)))) rfl (decide_eq_true hc33) rfl) ?_
      refine r_val rfl (x_assign (v := .bool (decide (at_ < (l.length : Int)))) rfl) ?_
      refine RW_nil ?_
      refine thenW_n ?_
      exact ⟨rfl, decide (at_ < (l.length : Int)), _, ((ovl_cons (ovl_cons (ovl_cons (ovl_cons (ovl_cons (ovl_cons (ovl_cons (ovl_cons (ovl_nil _) rfl) rfl) rfl) rfl) rfl) rfl) rfl) rfl)).symm, by rw [eq_comm]; simp; omega⟩
     ·skip
      refine r_no (t := 84) rfl rfl rfl (decide_eq_false hc33) ?_
      refine r_no (t := 84) rfl rfl rfl (decide_eq_false hc33) ?_
      refine r_no (t := 84) rfl rfl rfl (decide_eq_false hc33) ?_
      refine r_no (t := 84) rfl rfl rfl (decide_eq_false hc33) ?_
      refine r_no (t := 84) rfl rfl rfl (decide_eq_false hc33) ?_
      refine r_no (t := 84) rfl rfl rfl (decide_eq_false hc33) ?_
      refine r_no (t := 84) rfl rfl rfl (decide_eq_false hc33) ?_
      refine r_val rfl (x_pickF (b := decide (0 ≤ at_)) (v := .bool false) rfl (decide_eq_false hc33) rfl) ?_
      refine r_val rfl (x_assign (v := .bool false) rfl) ?_
      refine RW_nil ?_
      refine thenW_n ?_
      exact ⟨rfl, false, _, ((ovl_cons (ovl_cons (ovl_cons (ovl_cons (ovl_cons (ovl_cons (ovl_cons (ovl_cons (ovl_nil _) rfl) rfl) rfl) rfl) rfl) rfl) rfl) rfl)).symm, by rw [eq_comm]; simp; omega⟩
    ·skip
     rintro σ _ ⟨rfl, isb, τ, rfl, his⟩
     refine W_seq ?_
     have hrd := roostV_in (x := f2) (n := 40) (by decide)
     obtain ⟨due, hdue⟩ : ∃ x, roostV f2 40 - 1 = x := ⟨_, rfl⟩
     refine W_region ?_
     refine r_val rfl (x_fieldAddr (b := ab) (o := 0) fo_35_2 rfl) ?_
     have hB35 := hB19.fr F30 (fun f => f)
     refine r_val rfl (x_load (v := .int .i64 f2) kind_3 rfl (hB35.cell rfl)) ?_
     refine r_call rfl (c9 (vs := [.int .i64 f2, .int .i64 40]) rfl) (roostOf_any f2 40 w31 (by first | assumption | omega) (by omega)) ?_
     rintro _ _ ⟨rfl, rfl⟩
     refine ⟨_, rfl, ?_⟩
     refine r_val rfl (x_as (u := .int .i64 due) (x_sub64 (a := roostV f2 40) (b := 1) rfl rfl (by omega)) (congrArg (Value.int .i64) hdue)) ?_
     refine r_val rfl (x_assign (v := .int .i64 due) rfl) ?_
     refine RW_nil ?_
     refine thenW_n ?_
     refine W_seq ?_
     refine W_region ?_
     refine r_val rfl (x_assign (v := .bool true) rfl) ?_
     refine RW_nil ?_
     refine thenW_n ?_
     refine W_mid (fun σ w' => ∃ (K2 : Nat → Prop) (l2 lp2 : List (Fl × Value)) (sent2 lost2 : Int), ∃ τ : Env, σ = ovl τ [(0, .slice (some ⟨rb, ro, none⟩) n c), (8, .int .i64 many), (9, .pointer (some ⟨N, 0, none⟩)), (10, .pointer (some ⟨B, 0, none⟩)), (12, .int .i64 (k : Int)), (17, .bool true)] ∧ Fr No w w' ∧ (∀ b, b < w.heap.size → ¬ K2 b) ∧ Inv w' K2 B N many mst sent2 lost2 l2 lp2 (k + 1)) ?_ ?_
     ·skip
      refine W_seq ?_
      refine W_region ?_
      refine r_val rfl (x_fieldAddr (b := ab) (o := 0) fo_35_0 rfl) ?_
      refine r_val rfl (x_load (v := .int .i64 f0) kind_3 rfl (hB35.cell rfl)) ?_
      refine r_call rfl (c9 (vs := [.int .i64 f0, .int .i64 9]) rfl) (roostOf_any f0 9 w31 (by first | assumption | omega) (by omega)) ?_
      rintro _ _ ⟨rfl, rfl⟩
      refine ⟨_, rfl, ?_⟩
      have hrk := roostV_in (x := f0) (n := 9) (by decide)
      obtain ⟨kd, hkd⟩ : ∃ x, roostV f0 9 = x := ⟨_, rfl⟩
      rw [hkd] at hrk ⊢
      refine RW_nil ?_
      refine thenW_n ?_
      refine W_block ?_
      refine W_mid (fun σ w' => w31 = w' ∧ ∃ sb : Bool, ∃ τ : Env, σ = ovl τ [(0, .slice (some ⟨rb, ro, none⟩) n c), (8, .int .i64 many), (9, .pointer (some ⟨N, 0, none⟩)), (10, .pointer (some ⟨B, 0, none⟩)), (12, .int .i64 (k : Int)), (13, .pointer (some ⟨ab, 0, none⟩)), (14, .int .i64 at_), (15, .bool isb), (16, .int .i64 due), (17, .bool true), (99, .int .i64 kd), (155, .bool sb)] ∧ sb = decide (kd ≤ 3)) ?_ ?_
      ·skip
       refine W_seq ?_
       refine W_region ?_
       refine r_val rfl (x_eql (a := kd) (b := 0) rfl rfl) ?_
       refine r_val rfl (x_assign (v := .bool (decide (kd = 0))) rfl) ?_
       refine RW_nil ?_
       refine thenW_n ?_
       refine W_condD (p := kd = 0) rfl rfl (fun hc36 => ?_) (fun hc36 => ?_)
       ·skip
        refine W_skip ?_
        refine thenW_n ?_
        exact ⟨rfl, decide (kd = 0), _, ((ovl_cons (ovl_cons (ovl_cons (ovl_cons (ovl_cons (ovl_cons (ovl_cons (ovl_cons (ovl_cons (ovl_cons (ovl_cons (ovl_cons (ovl_nil _) rfl) rfl) rfl) rfl) rfl) rfl) rfl) rfl) rfl) rfl) rfl) rfl)).symm, by rw [eq_comm]; simp; omega⟩
       ·skip
        refine W_seq ?_
        refine W_region ?_
        refine r_val rfl (x_eql (a := kd) (b := 1) rfl rfl) ?_
        refine r_val rfl (x_assign (v := .bool (decide (kd = 1))) rfl) ?_
        refine RW_nil ?_
        refine thenW_n ?_
        refine W_condD (p := kd = 1) rfl rfl (fun hc37 => ?_) (fun hc37 => ?_)
        ·skip
         refine W_skip ?_
         refine thenW_n ?_
         exact ⟨rfl, decide (kd = 1), _, ((ovl_cons (ovl_cons (ovl_cons (ovl_cons (ovl_cons (ovl_cons (ovl_cons (ovl_cons (ovl_cons (ovl_cons (ovl_cons (ovl_cons (ovl_nil _) rfl) rfl) rfl) rfl) rfl) rfl) rfl) rfl) rfl) rfl) rfl) rfl)).symm, by rw [eq_comm]; simp; omega⟩
        ·skip
         refine W_seq ?_
         refine W_region ?_
         refine r_val rfl (x_eql (a := kd) (b := 2) rfl rfl) ?_
         refine r_val rfl (x_assign (v := .bool (decide (kd = 2))) rfl) ?_
         refine RW_nil ?_
         refine thenW_n ?_
         refine W_condD (p := kd = 2) rfl rfl (fun hc38 => ?_) (fun hc38 => ?_)
         ·skip
          refine W_skip ?_
          refine thenW_n ?_
          exact ⟨rfl, decide (kd = 2), _, ((ovl_cons (ovl_cons (ovl_cons (ovl_cons (ovl_cons (ovl_cons (ovl_cons (ovl_cons (ovl_cons (ovl_cons (ovl_cons (ovl_cons (ovl_nil _) rfl) rfl) rfl) rfl) rfl) rfl) rfl) rfl) rfl) rfl) rfl) rfl)).symm, by rw [eq_comm]; simp; omega⟩
         ·skip
          refine W_region ?_
          refine r_val rfl (x_eql (a := kd) (b := 3) rfl rfl) ?_
          refine r_val rfl (x_assign (v := .bool (decide (kd = 3))) rfl) ?_
          refine RW_nil ?_
          refine thenW_n ?_
          exact ⟨rfl, decide (kd = 3), _, ((ovl_cons (ovl_cons (ovl_cons (ovl_cons (ovl_cons (ovl_cons (ovl_cons (ovl_cons (ovl_cons (ovl_cons (ovl_cons (ovl_cons (ovl_nil _) rfl) rfl) rfl) rfl) rfl) rfl) rfl) rfl) rfl) rfl) rfl) rfl)).symm, by rw [eq_comm]; simp; omega⟩
      ·skip
       rintro σ _ ⟨rfl, sb, τ, rfl, hsb⟩
       refine W_cond (b := sb) rfl rfl (fun hc39 => ?_) (fun hc39 => ?_)
       ·skip
        refine W_mid (fun σ w' => ∃ (fb : Nat) (vb : Value) (frm dst : Int), ∃ τ : Env, σ = ovl τ [(0, .slice (some ⟨rb, ro, none⟩) n c), (8, .int .i64 many), (9, .pointer (some ⟨N, 0, none⟩)), (10, .pointer (some ⟨B, 0, none⟩)), (12, .int .i64 (k : Int)), (13, .pointer (some ⟨ab, 0, none⟩)), (14, .int .i64 at_), (15, .bool isb), (16, .int .i64 due), (17, .bool true), (99, .int .i64 kd), (18, .pointer (some ⟨fb, 0, none⟩))] ∧ (0 ≤ frm ∧ frm < many + 1) ∧ (0 ≤ dst ∧ dst < many + 1) ∧ Fr No w31 w' ∧ w31.heap.size ≤ fb ∧ Blk w' fb 37 [.int .i64 0, .int .i64 frm, .int .i64 dst, .int .i64 due, vb] ∧ Own w' 5 1 vb (abs.take 30).length (BC (abs.take 30)) ∧ ∀ b, vb.ownBlock = some b → w31.heap.size ≤ b ∧ b ≠ fb ∧ b < w'.heap.size) ?_ ?_
        ·skip
         have := F13.size
         have := F17.size
         have := F30.size
         have hR40 := hR29.frz F30 (fun _ _ _ f => f)
         have hr1 := roostV_in (x := f1) (n := many + 1) (by omega)
         have hr3 := roostV_in (x := f3) (n := many + 1) (by omega)
         obtain ⟨frm, hfrm⟩ : ∃ x, roostV f1 (many + 1) = x := ⟨_, rfl⟩
         obtain ⟨dst, hdst⟩ : ∃ x, roostV f3 (many + 1) = x := ⟨_, rfl⟩
         rw [hfrm] at hr1
         rw [hdst] at hr3
         obtain ⟨m30, hm30, hm3⟩ : ∃ q : Nat, (if 30 < (m : Int) then (30 : Int) else (m : Int)) = (q : Int) ∧ q = min m 30 := ⟨min m 30, by split <;> omega, rfl⟩
         have htk : (abs.take 30).length = m30 := by rw [List.length_take, hm]; omega
         have hR30 := hR40
         have hB41 := hB22.fr F30 (fun f => f)
         have hR42 := hR24.fr F30 (fun _ _ f => f)
         refine d_begin mo 22 (fun x => Fr No w31 x) ?_
         obtain ⟨w44, hw44⟩ : ∃ x, w31.drew = x := ⟨_, rfl⟩
         have F43 : Fr No w31 w44 := by rw [← hw44]; exact Fr.drew _ _
         have D45 : Fr No w31 w44 := Fr.of_No F43
         have sF43 := F43.size
         rw [hw44]
         refine d_pure (i := 0) rfl (by kernel_rfl) (np_then (np_blk (np_then (np_blk (np_then (np_then (np_blk (np_then np_body)))))))) rfl (fun _ => (x_fieldAddr (b := ab) (o := 0) fo_35_1 rfl)) (fun _ => D45) ?_
         refine d_load (i := 1) rfl (by kernel_rfl) (np_then (np_blk (np_then (np_blk (np_then (np_then (np_blk (np_then np_body)))))))) rfl (by kernel_rfl) rfl (fun x hS => (x_load (v := .int .i64 f1) kind_3 rfl ((hB35.fr hS (fun f => f)).cell rfl))) D45 ?_
         refine d_pure (i := 2) rfl (by kernel_rfl) (np_then (np_blk (np_then (np_blk (np_then (np_then (np_blk (np_then np_body)))))))) rfl (fun _ => (x_move (v := .int .i64 many) rfl)) (fun _ => D45) ?_
         refine d_pure (i := 3) rfl (by kernel_rfl) (np_then (np_blk (np_then (np_blk (np_then (np_then (np_blk (np_then np_body)))))))) rfl (fun _ => (x_add64 (a := many) (b := 1) rfl rfl (by omega))) (fun _ => D45) ?_
         refine d_call (i := 4) rfl (by kernel_rfl) (np_then (np_blk (np_then (np_blk (np_then (np_then (np_blk (np_then np_body)))))))) rfl (fun _ => c9 (vs := [.int .i64 f1, .int .i64 (many + 1)]) rfl) (fun w_ => roostOf_any f1 (many + 1) w_ (by assumption) (by omega)) (fun _ => D45) ?_
         rw [hfrm]
         refine d_pure (i := 5) rfl (by kernel_rfl) (np_then (np_blk (np_then (np_blk (np_then (np_then (np_blk (np_then np_body)))))))) rfl (fun _ => (x_fieldAddr (b := ab) (o := 0) fo_35_3 rfl)) (fun _ => D45) ?_
         refine d_load (i := 6) rfl (by kernel_rfl) (np_then (np_blk (np_then (np_blk (np_then (np_then (np_blk (np_then np_body)))))))) rfl (by kernel_rfl) rfl (fun x hS => (x_load (v := .int .i64 f3) kind_3 rfl ((hB35.fr hS (fun f => f)).cell rfl))) D45 ?_
         refine d_pure (i := 7) rfl (by kernel_rfl) (np_then (np_blk (np_then (np_blk (np_then (np_then (np_blk (np_then np_body)))))))) rfl (fun _ => (x_move (v := .int .i64 many) rfl)) (fun _ => D45) ?_
         refine d_pure (i := 8) rfl (by kernel_rfl) (np_then (np_blk (np_then (np_blk (np_then (np_then (np_blk (np_then np_body)))))))) rfl (fun _ => (x_add64 (a := many) (b := 1) rfl rfl (by omega))) (fun _ => D45) ?_
         refine d_call (i := 9) rfl (by kernel_rfl) (np_then (np_blk (np_then (np_blk (np_then (np_then (np_blk (np_then np_body)))))))) rfl (fun _ => c9 (vs := [.int .i64 f3, .int .i64 (many + 1)]) rfl) (fun w_ => roostOf_any f3 (many + 1) w_ (by assumption) (by omega)) (fun _ => D45) ?_
         rw [hdst]
         refine d_pure (i := 10) rfl (by kernel_rfl) (np_then (np_blk (np_then (np_blk (np_then (np_then (np_blk (np_then np_body)))))))) rfl (fun _ => (x_move (v := .int .i64 due) rfl)) (fun _ => D45) ?_
         refine d_pure (i := 12) rfl (by kernel_rfl) (np_then (np_blk (np_then (np_blk (np_then (np_then (np_blk (np_then np_body)))))))) rfl (fun _ => (x_fieldAddr (b := ab) (o := 0) fo_35_4 rfl)) (fun _ => D45) ?_
         refine d_load (i := 13) rfl (by kernel_rfl) (np_then (np_blk (np_then (np_blk (np_then (np_then (np_blk (np_then np_body)))))))) rfl (by kernel_rfl) rfl (fun x hS => (x_load (v := .slice FA m mc) kind_33 rfl ((hB35.fr hS (fun f => f)).cell rfl))) D45 ?_
         refine d_pure (i := 14) rfl (by kernel_rfl) (np_then (np_blk (np_then (np_blk (np_then (np_then (np_blk (np_then np_body)))))))) rfl (fun _ => (x_fieldAddr (b := ab) (o := 0) fo_35_4 rfl)) (fun _ => D45) ?_
         refine d_load (i := 15) rfl (by kernel_rfl) (np_then (np_blk (np_then (np_blk (np_then (np_then (np_blk (np_then np_body)))))))) rfl (by kernel_rfl) rfl (fun x hS => (x_load (v := .slice FA m mc) kind_33 rfl ((hB35.fr hS (fun f => f)).cell rfl))) D45 ?_
         refine d_pure (i := 16) rfl (by kernel_rfl) (np_then (np_blk (np_then (np_blk (np_then (np_then (np_blk (np_then np_body)))))))) rfl (fun _ => (x_len (n := m) ul_33 rfl)) (fun _ => D45) ?_
         refine d_pure (i := 17) rfl (by kernel_rfl) (np_then (np_blk (np_then (np_blk (np_then (np_then (np_blk (np_then np_body)))))))) rfl (fun _ => (x_as (u := .int .i64 (m30 : Int)) (x_min (a := (m : Int)) (b := 30) rfl rfl) (congrArg (Value.int .i64) hm30))) (fun _ => D45) ?_
         refine d_pure (i := 18) rfl (by kernel_rfl) (np_then (np_blk (np_then (np_blk (np_then (np_then (np_blk (np_then np_body)))))))) rfl (fun _ => (x_sliceHi (h := m30) es_33 rfl rfl (by first | rfl | omega) (by omega))) (fun _ => D45) ?_
         refine d_two (i := 11) (j := 21) rfl rfl (by kernel_rfl) ?_ ?_
         ·skip
          have hB46 := hB41.fr F43 (fun f => f)
          have hB47 := hB35.fr F43 (fun f => f)
          obtain ⟨g0, hg0⟩ : ∃ n, w44.heap.size = n := ⟨_, rfl⟩
          have ne_N_g0 : N ≠ g0 := by have := hB46.lt; omega
          have ne_ab_g0 : ab ≠ g0 := by have := hB47.lt; omega
          refine r_lit (vs := []) (l := []) rfl g0 hg0 ei_33 (.inr ⟨_, rfl⟩) rfl rfl (by simp) rfl (by decide) ?_
          intro w51 F48 z49 hB50
          have sD52 := F48.size
          have D52 : Fr No w31 w51 := D45.trans F48 (fun i hi h => (by first | exact h.elim | omega | (simp only [Value.ownBlock, Option.some.injEq] at h; omega) | (have h2 := h; simp at h2; omega) | exact h))
          refine d_next (fun _ => D52) ?_
          refine d_two (i := 19) (j := 21) rfl rfl (by kernel_rfl) ?_ ?_
          ·skip
           have := F13.size
           have := F17.size
           have := F30.size
           have := F43.size
           have := F48.size
           have hq53 : ∀ b, (Value.slice (some ⟨g0, 0, none⟩) 0 0).ownBlock = some b → w31.heap.size ≤ b := fun b hb => (by have h1 : g0 = b := (by injection hb); omega)
           refine r_append rfl rfl ei_33 rfl (by decide) (v := .slice (some ⟨g0, 0, none⟩) 0 0) (u := .slice FA m30 mc) rfl rfl (Own.of_blk hB50 1 0 rfl (by decide)) ((hR30.fr D52 (fun _ _ f => f)).take m30 (by omega) mc (by omega)) (one_take (BC_one abs)) (by unfold maxLen; omega) (by omega) ?_
           intro v54 w60 hO55 F56 hat57 hnil58
           have hfr59 : ∀ b, (v54).ownBlock = some b → w31.heap.size ≤ b := fun b hb => (by rcases hat57 with e | e; (rw [e] at hb; exact hq53 b hb); (rw [e] at hb; injection hb with hb; omega))
           rw [Nat.zero_add, List.nil_append] at hO55
           obtain ⟨A_, c_, hv_e, _⟩ := hO55.rd.form
           subst hv_e
           have sD61 := F56.size
           have D61 : Fr No w31 w60 := D52.trans F56 (fun i hi h => (by have h1 := hq53 i h; omega))
           refine d_next (fun _ => D61) ?_
           refine d_pure (i := 20) rfl (by kernel_rfl) (np_then (np_blk (np_then (np_blk (np_then (np_then (np_blk (np_then np_body)))))))) rfl (fun _ => (x_build (zl := [.int .i64 0, .int .i64 0, .int .i64 0, .int .i64 0, .slice none 0 0]) (ps := [(1, .int .i64 frm), (2, .int .i64 dst), (3, .int .i64 due), (4, .slice A_ m30 c_)]) (l := [.int .i64 0, .int .i64 frm, .int .i64 dst, .int .i64 due, .slice A_ m30 c_]) pl_37 zero_37 rfl rfl rfl)) (fun _ => D61) ?_
           refine d_force (i := 21) rfl (by kernel_rfl) ?_
           have hB62 := hB46.fr F48 (fun f => f)
           have hB63 := hB62.fr F56 (fun h => by have h1 : g0 = N := (by injection h); exact ne_N_g0 h1.symm)
           have hB64 := hB47.fr F48 (fun f => f)
           have hB65 := hB64.fr F56 (fun h => by have h1 : g0 = ab := (by injection h); exact ne_ab_g0 h1.symm)
           obtain ⟨fb, hfb⟩ : ∃ n, w60.heap.size = n := ⟨_, rfl⟩
           have ne_N_fb : N ≠ fb := by have := hB63.lt; omega
           have ne_ab_fb : ab ≠ fb := by have := hB65.lt; omega
           refine r_alloc (l := [.int .i64 0, .int .i64 0, .int .i64 0, .int .i64 0, .slice none 0 0]) fb hfb zero_37 rfl ?_
           intro w69 F66 z67 hB68
           have sD70 := F66.size
           have D70 : Fr No w31 w69 := D61.trans F66 (fun i hi h => (by first | exact h.elim | omega | (simp only [Value.ownBlock, Option.some.injEq] at h; omega) | (have h2 := h; simp at h2; omega) | exact h))
           refine d_next (fun _ => D70) ?_
           refine d_force (i := 22) rfl (by kernel_rfl) ?_
           have hR71 := hO55.fr F66 (fun _ _ f => f)
           have hvne : ∀ b, ((Value.slice A_ m30 c_)).ownBlock = some b → b ≠ fb := fun b hb h => hR71.type_ne hB68 (by decide) (h ▸ hb)
           refine r_store (v := .agg #[.int .i64 0, .int .i64 frm, .int .i64 dst, .int .i64 due, .slice A_ m30 c_]) (vs := [.int .i64 0, .int .i64 frm, .int .i64 dst, .int .i64 due, .slice A_ m30 c_]) (l' := [.int .i64 0, .int .i64 frm, .int .i64 dst, .int .i64 due, .slice A_ m30 c_]) rfl rfl size_37 rfl rfl rfl rfl hB68 (Nat.le_of_ble_eq_true rfl) rfl ?_
           intro w75 F72 z73 hB74
           refine d_next (fun hx => absurd hx (by decide)) ?_
           refine d_done (by kernel_rfl) ?_
           refine thenW_n ?_
           have := F13.size
           have := F17.size
           have := F30.size
           have := F43.size
           have := F48.size
           have := F56.size
           have := F66.size
           have := F72.size
           have hR76 := hR71.fr F72 (fun b hb h => hvne b hb h)
           have := F43.size
           have := F48.size
           have := F56.size
           have := F66.size
           have := F72.size
           have hfr30 := ((((((Fr.refl No _).trans F43 (fun j hj h => h.elim)).trans F48 (fun j hj h => h.elim)).trans F56 (fun j hj h => (by have h1 := hq53 _ h; omega))).trans F66 (fun j hj h => h.elim)).trans F72 (fun j hj h => (by have h2 : j = fb := h; omega)))
           have hO30 := hR76
           rw [Nat.mul_one, BC_take, show abs.take m30 = (abs.take 30) from by rw [hm3, ← hm]; exact List.take_eq_take_iff.2 (by omega)] at hO30
           exact ⟨fb, (Value.slice A_ m30 c_), frm, dst, _, ((ovl_cons (ovl_cons (ovl_cons (ovl_cons (ovl_cons (ovl_cons (ovl_cons (ovl_cons (ovl_cons (ovl_cons (ovl_cons (ovl_cons (ovl_nil _) rfl) rfl) rfl) rfl) rfl) rfl) rfl) rfl) rfl) rfl) rfl) rfl)).symm, hr1, hr3, hfr30, by omega, hB74, (by rw [htk]; exact hO30), fun b hb => ⟨hfr59 b hb, hvne b hb, hO30.lt hb⟩⟩
          ·skip
           have hB77 := hB46.fr F48 (fun f => f)
           have hB78 := hB47.fr F48 (fun f => f)
           obtain ⟨fb, hfb⟩ : ∃ n, w51.heap.size = n := ⟨_, rfl⟩
           have ne_N_fb : N ≠ fb := by have := hB77.lt; omega
           have ne_ab_fb : ab ≠ fb := by have := hB78.lt; omega
           have ne_g0_fb : g0 ≠ fb := by have := hB50.lt; omega
           refine r_alloc (l := [.int .i64 0, .int .i64 0, .int .i64 0, .int .i64 0, .slice none 0 0]) fb hfb zero_37 rfl ?_
           intro w82 F79 z80 hB81
           have sD83 := F79.size
           have D83 : Fr No w31 w82 := D52.trans F79 (fun i hi h => (by first | exact h.elim | omega | (simp only [Value.ownBlock, Option.some.injEq] at h; omega) | (have h2 := h; simp at h2; omega) | exact h))
           refine d_next (fun _ => D83) ?_
           refine d_force (i := 19) rfl (by kernel_rfl) ?_
           have := F13.size
           have := F17.size
           have := F30.size
           have := F43.size
           have := F48.size
           have := F79.size
           have hB84 := hB50.fr F79 (fun f => f)
           have hq85 : ∀ b, (Value.slice (some ⟨g0, 0, none⟩) 0 0).ownBlock = some b → w31.heap.size ≤ b := fun b hb => (by have h1 : g0 = b := (by injection hb); omega)
           refine r_append rfl rfl ei_33 rfl (by decide) (v := .slice (some ⟨g0, 0, none⟩) 0 0) (u := .slice FA m30 mc) rfl rfl (Own.of_blk hB84 1 0 rfl (by decide)) ((hR30.fr D83 (fun _ _ f => f)).take m30 (by omega) mc (by omega)) (one_take (BC_one abs)) (by unfold maxLen; omega) (by omega) ?_
           intro v86 w92 hO87 F88 hat89 hnil90
           have hfr91 : ∀ b, (v86).ownBlock = some b → w31.heap.size ≤ b := fun b hb => (by rcases hat89 with e | e; (rw [e] at hb; exact hq85 b hb); (rw [e] at hb; injection hb with hb; omega))
           rw [Nat.zero_add, List.nil_append] at hO87
           obtain ⟨A_, c_, hv_e, _⟩ := hO87.rd.form
           subst hv_e
           have sD93 := F88.size
           have D93 : Fr No w31 w92 := D83.trans F88 (fun i hi h => (by have h1 := hq85 i h; omega))
           refine d_next (fun _ => D93) ?_
           refine d_pure (i := 20) rfl (by kernel_rfl) (np_then (np_blk (np_then (np_blk (np_then (np_then (np_blk (np_then np_body)))))))) rfl (fun _ => (x_build (zl := [.int .i64 0, .int .i64 0, .int .i64 0, .int .i64 0, .slice none 0 0]) (ps := [(1, .int .i64 frm), (2, .int .i64 dst), (3, .int .i64 due), (4, .slice A_ m30 c_)]) (l := [.int .i64 0, .int .i64 frm, .int .i64 dst, .int .i64 due, .slice A_ m30 c_]) pl_37 zero_37 rfl rfl rfl)) (fun _ => D93) ?_
           refine d_force (i := 22) rfl (by kernel_rfl) ?_
           have hB94 := hB81.fr F88 (fun h => by have h1 : g0 = fb := (by injection h); exact (Ne.symm ne_g0_fb) h1.symm)
           have hvne : ∀ b, ((Value.slice A_ m30 c_)).ownBlock = some b → b ≠ fb := fun b hb h => hO87.type_ne hB94 (by decide) (h ▸ hb)
           refine r_store (v := .agg #[.int .i64 0, .int .i64 frm, .int .i64 dst, .int .i64 due, .slice A_ m30 c_]) (vs := [.int .i64 0, .int .i64 frm, .int .i64 dst, .int .i64 due, .slice A_ m30 c_]) (l' := [.int .i64 0, .int .i64 frm, .int .i64 dst, .int .i64 due, .slice A_ m30 c_]) rfl rfl size_37 rfl rfl rfl rfl hB94 (Nat.le_of_ble_eq_true rfl) rfl ?_
           intro w98 F95 z96 hB97
           refine d_next (fun hx => absurd hx (by decide)) ?_
           refine d_done (by kernel_rfl) ?_
           refine thenW_n ?_
           have := F13.size
           have := F17.size
           have := F30.size
           have := F43.size
           have := F48.size
           have := F79.size
           have := F88.size
           have := F95.size
           have hR99 := hO87.fr F95 (fun b hb h => hvne b hb h)
           have := F43.size
           have := F48.size
           have := F79.size
           have := F88.size
           have := F95.size
           have hfr30 := ((((((Fr.refl No _).trans F43 (fun j hj h => h.elim)).trans F48 (fun j hj h => h.elim)).trans F79 (fun j hj h => h.elim)).trans F88 (fun j hj h => (by have h1 := hq85 _ h; omega))).trans F95 (fun j hj h => (by have h2 : j = fb := h; omega)))
           have hO30 := hR99
           rw [Nat.mul_one, BC_take, show abs.take m30 = (abs.take 30) from by rw [hm3, ← hm]; exact List.take_eq_take_iff.2 (by omega)] at hO30
           exact ⟨fb, (Value.slice A_ m30 c_), frm, dst, _, ((ovl_cons (ovl_cons (ovl_cons (ovl_cons (ovl_cons (ovl_cons (ovl_cons (ovl_cons (ovl_cons (ovl_cons (ovl_cons (ovl_cons (ovl_nil _) rfl) rfl) rfl) rfl) rfl) rfl) rfl) rfl) rfl) rfl) rfl) rfl)).symm, hr1, hr3, hfr30, by omega, hB97, (by rw [htk]; exact hO30), fun b hb => ⟨hfr91 b hb, hvne b hb, hO30.lt hb⟩⟩
         ·skip
          have hB100 := hB41.fr F43 (fun f => f)
          have hB101 := hB35.fr F43 (fun f => f)
          obtain ⟨fb, hfb⟩ : ∃ n, w44.heap.size = n := ⟨_, rfl⟩
          have ne_N_fb : N ≠ fb := by have := hB100.lt; omega
          have ne_ab_fb : ab ≠ fb := by have := hB101.lt; omega
          refine r_alloc (l := [.int .i64 0, .int .i64 0, .int .i64 0, .int .i64 0, .slice none 0 0]) fb hfb zero_37 rfl ?_
          intro w105 F102 z103 hB104
          have sD106 := F102.size
          have D106 : Fr No w31 w105 := D45.trans F102 (fun i hi h => (by first | exact h.elim | omega | (simp only [Value.ownBlock, Option.some.injEq] at h; omega) | (have h2 := h; simp at h2; omega) | exact h))
          refine d_next (fun _ => D106) ?_
          refine d_force (i := 11) rfl (by kernel_rfl) ?_
          have hB107 := hB100.fr F102 (fun f => f)
          have hB108 := hB101.fr F102 (fun f => f)
          obtain ⟨g0, hg0⟩ : ∃ n, w105.heap.size = n := ⟨_, rfl⟩
          have ne_N_g0 : N ≠ g0 := by have := hB107.lt; omega
          have ne_ab_g0 : ab ≠ g0 := by have := hB108.lt; omega
          have ne_fb_g0 : fb ≠ g0 := by have := hB104.lt; omega
          refine r_lit (vs := []) (l := []) rfl g0 hg0 ei_33 (.inr ⟨_, rfl⟩) rfl rfl (by simp) rfl (by decide) ?_
          intro w112 F109 z110 hB111
          have sD113 := F109.size
          have D113 : Fr No w31 w112 := D106.trans F109 (fun i hi h => (by first | exact h.elim | omega | (simp only [Value.ownBlock, Option.some.injEq] at h; omega) | (have h2 := h; simp at h2; omega) | exact h))
          refine d_next (fun _ => D113) ?_
          refine d_force (i := 19) rfl (by kernel_rfl) ?_
          have := F13.size
          have := F17.size
          have := F30.size
          have := F43.size
          have := F102.size
          have := F109.size
          have hq114 : ∀ b, (Value.slice (some ⟨g0, 0, none⟩) 0 0).ownBlock = some b → w31.heap.size ≤ b := fun b hb => (by have h1 : g0 = b := (by injection hb); omega)
          refine r_append rfl rfl ei_33 rfl (by decide) (v := .slice (some ⟨g0, 0, none⟩) 0 0) (u := .slice FA m30 mc) rfl rfl (Own.of_blk hB111 1 0 rfl (by decide)) ((hR30.fr D113 (fun _ _ f => f)).take m30 (by omega) mc (by omega)) (one_take (BC_one abs)) (by unfold maxLen; omega) (by omega) ?_
          intro v115 w121 hO116 F117 hat118 hnil119
          have hfr120 : ∀ b, (v115).ownBlock = some b → w31.heap.size ≤ b := fun b hb => (by rcases hat118 with e | e; (rw [e] at hb; exact hq114 b hb); (rw [e] at hb; injection hb with hb; omega))
          rw [Nat.zero_add, List.nil_append] at hO116
          obtain ⟨A_, c_, hv_e, _⟩ := hO116.rd.form
          subst hv_e
          have sD122 := F117.size
          have D122 : Fr No w31 w121 := D113.trans F117 (fun i hi h => (by have h1 := hq114 i h; omega))
          refine d_next (fun _ => D122) ?_
          refine d_pure (i := 20) rfl (by kernel_rfl) (np_then (np_blk (np_then (np_blk (np_then (np_then (np_blk (np_then np_body)))))))) rfl (fun _ => (x_build (zl := [.int .i64 0, .int .i64 0, .int .i64 0, .int .i64 0, .slice none 0 0]) (ps := [(1, .int .i64 frm), (2, .int .i64 dst), (3, .int .i64 due), (4, .slice A_ m30 c_)]) (l := [.int .i64 0, .int .i64 frm, .int .i64 dst, .int .i64 due, .slice A_ m30 c_]) pl_37 zero_37 rfl rfl rfl)) (fun _ => D122) ?_
          refine d_force (i := 22) rfl (by kernel_rfl) ?_
          have hB123 := hB104.fr F109 (fun f => f)
          have hB124 := hB123.fr F117 (fun h => by have h1 : g0 = fb := (by injection h); exact ne_fb_g0 h1.symm)
          have hvne : ∀ b, ((Value.slice A_ m30 c_)).ownBlock = some b → b ≠ fb := fun b hb h => hO116.type_ne hB124 (by decide) (h ▸ hb)
          refine r_store (v := .agg #[.int .i64 0, .int .i64 frm, .int .i64 dst, .int .i64 due, .slice A_ m30 c_]) (vs := [.int .i64 0, .int .i64 frm, .int .i64 dst, .int .i64 due, .slice A_ m30 c_]) (l' := [.int .i64 0, .int .i64 frm, .int .i64 dst, .int .i64 due, .slice A_ m30 c_]) rfl rfl size_37 rfl rfl rfl rfl hB124 (Nat.le_of_ble_eq_true rfl) rfl ?_
          intro w128 F125 z126 hB127
          refine d_next (fun hx => absurd hx (by decide)) ?_
          refine d_done (by kernel_rfl) ?_
          refine thenW_n ?_
          have := F13.size
          have := F17.size
          have := F30.size
          have := F43.size
          have := F102.size
          have := F109.size
          have := F117.size
          have := F125.size
          have hR129 := hO116.fr F125 (fun b hb h => hvne b hb h)
          have := F43.size
          have := F102.size
          have := F109.size
          have := F117.size
          have := F125.size
          have hfr30 := ((((((Fr.refl No _).trans F43 (fun j hj h => h.elim)).trans F102 (fun j hj h => h.elim)).trans F109 (fun j hj h => h.elim)).trans F117 (fun j hj h => (by have h1 := hq114 _ h; omega))).trans F125 (fun j hj h => (by have h2 : j = fb := h; omega)))
          have hO30 := hR129
          rw [Nat.mul_one, BC_take, show abs.take m30 = (abs.take 30) from by rw [hm3, ← hm]; exact List.take_eq_take_iff.2 (by omega)] at hO30
          exact ⟨fb, (Value.slice A_ m30 c_), frm, dst, _, ((ovl_cons (ovl_cons (ovl_cons (ovl_cons (ovl_cons (ovl_cons (ovl_cons (ovl_cons (ovl_cons (ovl_cons (ovl_cons (ovl_cons (ovl_nil _) rfl) rfl) rfl) rfl) rfl) rfl) rfl) rfl) rfl) rfl) rfl) rfl)).symm, hr1, hr3, hfr30, by omega, hB127, (by rw [htk]; exact hO30), fun b hb => ⟨hfr120 b hb, hvne b hb, hO30.lt hb⟩⟩
        ·skip
         rintro σ w130 ⟨fb, vb, frm, dst, τ, rfl, hfrm, hdst, hF30, hfbW, hBfb, hOvb, hvbf⟩
         obtain ⟨Ab, cb, hvbe, _⟩ := hOvb.rd.form
         subst hvbe
         have := hF30.size
         have htk2 : (abs.take 30).length ≤ 30 := by rw [List.length_take]; omega
         have hNlt : N < w31.heap.size := by have h1 := hNb.lt; omega
         have ne_N_fb : N ≠ fb := by have := (hB22).lt; omega
         have ne_ab_fb : ab ≠ fb := by have := (hB35).lt; omega
         refine W_seq ?_
         refine W_region ?_
         refine r_val rfl (x_assign (v := .int .i64 0) rfl) ?_
         refine RW_nil ?_
         refine thenW_n ?_
         refine W_seq ?_
         refine W_seq ?_
         refine W_region ?_
         refine r_val rfl (x_fieldAddr (b := fb) (o := 0) fo_37_1 rfl) ?_
         refine r_val rfl (x_load (v := .int .i64 frm) kind_3 rfl (hBfb.cell rfl)) ?_
         refine r_val rfl (x_move (v := .int .i64 many) rfl) ?_
         refine r_val rfl (x_eql (a := frm) (b := many) rfl rfl) ?_
         refine r_val rfl (x_move (v := .bool (decide (frm = many))) rfl) ?_
         by_cases hc131 : frm = many
         ·skip
          refine r_no (t := 185) rfl rfl rfl (decide_eq_true hc131) ?_
          refine r_no (t := 185) rfl rfl rfl (decide_eq_true hc131) ?_
          refine r_no (t := 185) rfl rfl rfl (decide_eq_true hc131) ?_
          refine r_no (t := 185) rfl rfl rfl (decide_eq_true hc131) ?_
          refine r_val rfl (x_pickT (b := decide (frm = many)) (v := .bool true) rfl (decide_eq_true hc131) rfl) ?_
          refine r_val rfl (x_move (v := .bool true) rfl) ?_
          refine r_no (t := 191) rfl rfl rfl rfl ?_
          refine r_no (t := 191) rfl rfl rfl rfl ?_
          refine r_val rfl (x_pickT (b := true) (v := .bool true) rfl rfl rfl) ?_
          refine RW_nil ?_
          refine thenW_n ?_
          refine W_condT (b := true) rfl rfl rfl ?_
          refine W_region ?_
          refine r_val rfl (x_assign (v := .int .i64 1) rfl) ?_
          refine RW_nil ?_
          refine thenW_n ?_
          have hO35 := hOvb
          have hB132 := hB22.fr F30 (fun f => f)
          have hB133 := hB132.fr hF30 (fun f => f)
          have hB134 := hB35.fr hF30 (fun f => f)
          have hR135 := hR24.fr F30 (fun _ _ f => f)
          have hR136 := hR135.fr hF30 (fun _ _ f => f)
          have hR137 := hR29.frz F30 (fun _ _ _ f => f)
          have hR138 := hR137.frz hF30 (fun _ _ _ f => f)
          refine d_begin mo 14 (fun x => Fr No w130 x) ?_
          obtain ⟨w140, hw140⟩ : ∃ x, w130.drew = x := ⟨_, rfl⟩
          have F139 : Fr No w130 w140 := by rw [← hw140]; exact Fr.drew _ _
          have D141 : Fr No w130 w140 := Fr.of_No F139
          have sF139 := F139.size
          rw [hw140]
          refine d_pure (i := 0) rfl (by kernel_rfl) (np_blk (np_then (np_blk (np_then (np_then (np_blk (np_then np_body))))))) rfl (fun _ => (x_move (v := .pointer (some ⟨B, 0, none⟩)) rfl)) (fun _ => D141) ?_
          refine d_pure (i := 1) rfl (by kernel_rfl) (np_blk (np_then (np_blk (np_then (np_then (np_blk (np_then np_body))))))) rfl (fun _ => (x_fieldAddr (b := fb) (o := 0) fo_37_1 rfl)) (fun _ => D141) ?_
          refine d_load (i := 2) rfl (by kernel_rfl) (np_blk (np_then (np_blk (np_then (np_then (np_blk (np_then np_body))))))) rfl (by kernel_rfl) rfl (fun x hS => (x_load (v := .int .i64 frm) kind_3 rfl ((hBfb.fr hS (fun f => f)).cell rfl))) D141 ?_
          refine d_pure (i := 3) rfl (by kernel_rfl) (np_blk (np_then (np_blk (np_then (np_then (np_blk (np_then np_body))))))) rfl (fun _ => (x_fieldAddr (b := fb) (o := 0) fo_37_2 rfl)) (fun _ => D141) ?_
          refine d_load (i := 4) rfl (by kernel_rfl) (np_blk (np_then (np_blk (np_then (np_then (np_blk (np_then np_body))))))) rfl (by kernel_rfl) rfl (fun x hS => (x_load (v := .int .i64 dst) kind_3 rfl ((hBfb.fr hS (fun f => f)).cell rfl))) D141 ?_
          refine d_pure (i := 5) rfl (by kernel_rfl) (np_blk (np_then (np_blk (np_then (np_then (np_blk (np_then np_body))))))) rfl (fun _ => (x_move (v := .int .i64 due) rfl)) (fun _ => D141) ?_
          refine d_pure (i := 7) rfl (by kernel_rfl) (np_blk (np_then (np_blk (np_then (np_then (np_blk (np_then np_body))))))) rfl (fun _ => (x_fieldAddr (b := fb) (o := 0) fo_37_4 rfl)) (fun _ => D141) ?_
          refine d_load (i := 8) rfl (by kernel_rfl) (np_blk (np_then (np_blk (np_then (np_then (np_blk (np_then np_body))))))) rfl (by kernel_rfl) rfl (fun x hS => (x_load (v := .slice Ab ((abs.take 30).length) cb) kind_33 rfl ((hBfb.fr hS (fun f => f)).cell rfl))) D141 ?_
          refine d_pure (i := 11) rfl (by kernel_rfl) (np_blk (np_then (np_blk (np_then (np_then (np_blk (np_then np_body))))))) rfl (fun _ => (x_move (v := .int .i64 1) rfl)) (fun _ => D141) ?_
          refine d_force (i := 6) rfl (by kernel_rfl) ?_
          have hB142 := hB133.fr F139 (fun f => f)
          have hB143 := hB134.fr F139 (fun f => f)
          have hB144 := hBfb.fr F139 (fun f => f)
          obtain ⟨g1, hg1⟩ : ∃ n, w140.heap.size = n := ⟨_, rfl⟩
          have ne_N_g1 : N ≠ g1 := by have := hB142.lt; omega
          have ne_ab_g1 : ab ≠ g1 := by have := hB143.lt; omega
          have ne_fb_g1 : fb ≠ g1 := by have := hB144.lt; omega
          refine r_lit (vs := []) (l := []) rfl g1 hg1 ei_33 (.inr ⟨_, rfl⟩) rfl rfl (by simp) rfl (by decide) ?_
          intro w148 F145 z146 hB147
          have sD149 := F145.size
          have D149 : Fr No w130 w148 := D141.trans F145 (fun i hi h => (by first | exact h.elim | omega | (simp only [Value.ownBlock, Option.some.injEq] at h; omega) | (have h2 := h; simp at h2; omega) | exact h))
          refine d_next (fun _ => D149) ?_
          refine d_force (i := 9) rfl (by kernel_rfl) ?_
          have := F13.size
          have := F17.size
          have := F30.size
          have := hF30.size
          have := F139.size
          have := F145.size
          have hq150 : ∀ b, (Value.slice (some ⟨g1, 0, none⟩) 0 0).ownBlock = some b → w130.heap.size ≤ b := fun b hb => (by have h1 : g1 = b := (by injection hb); omega)
          refine r_append rfl rfl ei_33 rfl (by decide) (v := .slice (some ⟨g1, 0, none⟩) 0 0) (u := .slice Ab ((abs.take 30).length) cb) rfl rfl (Own.of_blk hB147 1 0 rfl (by decide)) (hO35.rd.fr D149 (fun b hb h => by first | exact h.elim | (have h1 := (hvbf b hb).1; have h2 := h.1.2; omega))) (BC_one _) (by unfold maxLen; omega) (by omega) ?_
          intro v151 w157 hO152 F153 hat154 hnil155
          have hfr156 : ∀ b, (v151).ownBlock = some b → w130.heap.size ≤ b := fun b hb => (by rcases hat154 with e | e; (rw [e] at hb; exact hq150 b hb); (rw [e] at hb; injection hb with hb; omega))
          rw [Nat.zero_add, List.nil_append] at hO152
          obtain ⟨A2, c2, hv2e, _⟩ := hO152.rd.form
          subst hv2e
          have sD158 := F153.size
          have D158 : Fr No w130 w157 := D149.trans F153 (fun i hi h => (by have h1 := hq150 i h; omega))
          refine d_next (fun _ => D158) ?_
          refine d_force (i := 10) rfl (by kernel_rfl) ?_
          have := F13.size
          have := F17.size
          have := F30.size
          have := hF30.size
          have := F139.size
          have := F145.size
          have := F153.size
          have := F13.size
          have := F17.size
          have := F30.size
          have := hF30.size
          have := F139.size
          have := F145.size
          have := F153.size
          have hFn := ((((((((Fr.refl No _).trans F13 (fun j hj h => h.elim)).trans F17 (fun j hj h => (by have h2 : j = ab := h; omega))).trans F30 (fun j hj h => h.elim)).trans hF30 (fun j hj h => h.elim)).trans F139 (fun j hj h => h.elim)).trans F145 (fun j hj h => h.elim)).trans F153 (fun j hj h => (by have h1 := hq150 _ h; omega)))
          have hNn := hI.net.fr hFn (fun _ _ _ s => s)
          obtain ⟨An, cn, hBn, _, _⟩ := hNn.net
          refine r_call rfl (c12 (vs := [.pointer (some ⟨B, 0, none⟩), .int .i64 frm, .int .i64 dst, .int .i64 due, .slice A2 ((abs.take 30).length) c2]) rfl) (netSend_no hNn (by have := hI.len; omega) ⟨hI.cs.1, by have := hI.cs.2; omega⟩ ⟨hI.cl.1, by have := hI.cl.2; omega⟩ (by omega) frm dst due hO152.rd (fun b hb h => hO152.type_ne hBn (by decide) (h ▸ hb)) (fun h => hO152.nil_len h) (by omega) (by omega)) ?_
          rintro _ _ ⟨rfl, rfl⟩
          refine ⟨_, rfl, ?_⟩
          refine d_next (fun _ => D158) ?_
          refine d_pure (i := 12) rfl (by kernel_rfl) (np_blk (np_then (np_blk (np_then (np_then (np_blk (np_then np_body))))))) rfl (fun _ => (x_as (u := .bool true) (x_eql (a := 1) (b := 1) rfl rfl) (congrArg Value.bool (decide_eq_true rfl)))) (fun _ => D158) ?_
          refine d_pure (i := 13) rfl (by kernel_rfl) (np_blk (np_then (np_blk (np_then (np_then (np_blk (np_then np_body))))))) rfl (fun _ => (x_assign (v := .bool true) rfl)) (fun _ => D158) ?_
          have := F13.size
          have := F17.size
          have := F30.size
          have := hF30.size
          have := F139.size
          have := F145.size
          have := F153.size
          have := Fw.size
          have := F13.size
          have := F17.size
          have := F30.size
          have := hF30.size
          have := F139.size
          have := F145.size
          have := F153.size
          refine d_done (by kernel_rfl) ?_
          refine inBlk_n ?_
          refine thenW_n ?_
          exact ⟨K, l, lp, sent, lost, _, ((ovl_cons (ovl_cons (ovl_cons (ovl_cons (ovl_cons (ovl_cons (ovl_nil _) rfl) rfl) rfl) rfl) rfl) rfl)).symm, (((((((((Fr.refl No _).trans Fw (fun j hj h => h.elim)).trans F13 (fun j hj h => h.elim)).trans F17 (fun j hj h => (by have h2 : j = ab := h; omega))).trans F30 (fun j hj h => h.elim)).trans hF30 (fun j hj h => h.elim)).trans F139 (fun j hj h => h.elim)).trans F145 (fun j hj h => h.elim)).trans F153 (fun j hj h => (by have h1 := hq150 _ h; omega))), hyK, (hI.no ((((((((Fr.refl No _).trans F13 (fun j hj h => h.elim)).trans F17 (fun j hj h => (by have h2 : j = ab := h; omega))).trans F30 (fun j hj h => h.elim)).trans hF30 (fun j hj h => h.elim)).trans F139 (fun j hj h => h.elim)).trans F145 (fun j hj h => h.elim)).trans F153 (fun j hj h => (by have h1 := hq150 _ h; omega)))).up (by omega)⟩
         ·skip
          refine r_yes (t := 185) rfl rfl rfl (decide_eq_false hc131) ?_
          refine r_val rfl (x_fieldAddr (b := fb) (o := 0) fo_37_2 rfl) ?_
          refine r_yes (t := 185) rfl rfl rfl (decide_eq_false hc131) ?_
          refine r_val rfl (x_load (v := .int .i64 dst) kind_3 rfl (hBfb.cell rfl)) ?_
          refine r_yes (t := 185) rfl rfl rfl (decide_eq_false hc131) ?_
          refine r_val rfl (x_move (v := .int .i64 many) rfl) ?_
          refine r_yes (t := 185) rfl rfl rfl (decide_eq_false hc131) ?_
          refine r_val rfl (x_eql (a := dst) (b := many) rfl rfl) ?_
          refine r_val rfl (x_pickF (b := decide (frm = many)) (v := .bool (decide (dst = many))) rfl (decide_eq_false hc131) rfl) ?_
          refine r_val rfl (x_move (v := .bool (decide (dst = many))) rfl) ?_
          by_cases hc159 : dst = many
          ·skip
           refine r_no (t := 191) rfl rfl rfl (decide_eq_true hc159) ?_
           refine r_no (t := 191) rfl rfl rfl (decide_eq_true hc159) ?_
           refine r_val rfl (x_pickT (b := decide (dst = many)) (v := .bool true) rfl (decide_eq_true hc159) rfl) ?_
           refine RW_nil ?_
           refine thenW_n ?_
           refine W_condT (b := true) rfl rfl rfl ?_
           refine W_region ?_
           refine r_val rfl (x_assign (v := .int .i64 1) rfl) ?_
           refine RW_nil ?_
           refine thenW_n ?_
           have hO35 := hOvb
           have hB160 := hB22.fr F30 (fun f => f)
           have hB161 := hB160.fr hF30 (fun f => f)
           have hB162 := hB35.fr hF30 (fun f => f)
           have hR163 := hR24.fr F30 (fun _ _ f => f)
           have hR164 := hR163.fr hF30 (fun _ _ f => f)
           have hR165 := hR29.frz F30 (fun _ _ _ f => f)
           have hR166 := hR165.frz hF30 (fun _ _ _ f => f)
           refine d_begin mo 14 (fun x => Fr No w130 x) ?_
           obtain ⟨w168, hw168⟩ : ∃ x, w130.drew = x := ⟨_, rfl⟩
           have F167 : Fr No w130 w168 := by rw [← hw168]; exact Fr.drew _ _
           have D169 : Fr No w130 w168 := Fr.of_No F167
           have sF167 := F167.size
           rw [hw168]
           refine d_pure (i := 0) rfl (by kernel_rfl) (np_blk (np_then (np_blk (np_then (np_then (np_blk (np_then np_body))))))) rfl (fun _ => (x_move (v := .pointer (some ⟨B, 0, none⟩)) rfl)) (fun _ => D169) ?_
           refine d_pure (i := 1) rfl (by kernel_rfl) (np_blk (np_then (np_blk (np_then (np_then (np_blk (np_then np_body))))))) rfl (fun _ => (x_fieldAddr (b := fb) (o := 0) fo_37_1 rfl)) (fun _ => D169) ?_
           refine d_load (i := 2) rfl (by kernel_rfl) (np_blk (np_then (np_blk (np_then (np_then (np_blk (np_then np_body))))))) rfl (by kernel_rfl) rfl (fun x hS => (x_load (v := .int .i64 frm) kind_3 rfl ((hBfb.fr hS (fun f => f)).cell rfl))) D169 ?_
           refine d_pure (i := 3) rfl (by kernel_rfl) (np_blk (np_then (np_blk (np_then (np_then (np_blk (np_then np_body))))))) rfl (fun _ => (x_fieldAddr (b := fb) (o := 0) fo_37_2 rfl)) (fun _ => D169) ?_
           refine d_load (i := 4) rfl (by kernel_rfl) (np_blk (np_then (np_blk (np_then (np_then (np_blk (np_then np_body))))))) rfl (by kernel_rfl) rfl (fun x hS => (x_load (v := .int .i64 dst) kind_3 rfl ((hBfb.fr hS (fun f => f)).cell rfl))) D169 ?_
           refine d_pure (i := 5) rfl (by kernel_rfl) (np_blk (np_then (np_blk (np_then (np_then (np_blk (np_then np_body))))))) rfl (fun _ => (x_move (v := .int .i64 due) rfl)) (fun _ => D169) ?_
           refine d_pure (i := 7) rfl (by kernel_rfl) (np_blk (np_then (np_blk (np_then (np_then (np_blk (np_then np_body))))))) rfl (fun _ => (x_fieldAddr (b := fb) (o := 0) fo_37_4 rfl)) (fun _ => D169) ?_
           refine d_load (i := 8) rfl (by kernel_rfl) (np_blk (np_then (np_blk (np_then (np_then (np_blk (np_then np_body))))))) rfl (by kernel_rfl) rfl (fun x hS => (x_load (v := .slice Ab ((abs.take 30).length) cb) kind_33 rfl ((hBfb.fr hS (fun f => f)).cell rfl))) D169 ?_
           refine d_pure (i := 11) rfl (by kernel_rfl) (np_blk (np_then (np_blk (np_then (np_then (np_blk (np_then np_body))))))) rfl (fun _ => (x_move (v := .int .i64 1) rfl)) (fun _ => D169) ?_
           refine d_force (i := 6) rfl (by kernel_rfl) ?_
           have hB170 := hB161.fr F167 (fun f => f)
           have hB171 := hB162.fr F167 (fun f => f)
           have hB172 := hBfb.fr F167 (fun f => f)
           obtain ⟨g1, hg1⟩ : ∃ n, w168.heap.size = n := ⟨_, rfl⟩
           have ne_N_g1 : N ≠ g1 := by have := hB170.lt; omega
           have ne_ab_g1 : ab ≠ g1 := by have := hB171.lt; omega
           have ne_fb_g1 : fb ≠ g1 := by have := hB172.lt; omega
           refine r_lit (vs := []) (l := []) rfl g1 hg1 ei_33 (.inr ⟨_, rfl⟩) rfl rfl (by simp) rfl (by decide) ?_
           intro w176 F173 z174 hB175
           have sD177 := F173.size
           have D177 : Fr No w130 w176 := D169.trans F173 (fun i hi h => (by first | exact h.elim | omega | (simp only [Value.ownBlock, Option.some.injEq] at h; omega) | (have h2 := h; simp at h2; omega) | exact h))
           refine d_next (fun _ => D177) ?_
           refine d_force (i := 9) rfl (by kernel_rfl) ?_
           have := F13.size
           have := F17.size
           have := F30.size
           have := hF30.size
           have := F167.size
           have := F173.size
           have hq178 : ∀ b, (Value.slice (some ⟨g1, 0, none⟩) 0 0).ownBlock = some b → w130.heap.size ≤ b := fun b hb => (by have h1 : g1 = b := (by injection hb); omega)
           refine r_append rfl rfl ei_33 rfl (by decide) (v := .slice (some ⟨g1, 0, none⟩) 0 0) (u := .slice Ab ((abs.take 30).length) cb) rfl rfl (Own.of_blk hB175 1 0 rfl (by decide)) (hO35.rd.fr D177 (fun b hb h => by first | exact h.elim | (have h1 := (hvbf b hb).1; have h2 := h.1.2; omega))) (BC_one _) (by unfold maxLen; omega) (by omega) ?_
           intro v179 w185 hO180 F181 hat182 hnil183
           have hfr184 : ∀ b, (v179).ownBlock = some b → w130.heap.size ≤ b := fun b hb => (by rcases hat182 with e | e; (rw [e] at hb; exact hq178 b hb); (rw [e] at hb; injection hb with hb; omega))
           rw [Nat.zero_add, List.nil_append] at hO180
           obtain ⟨A2, c2, hv2e, _⟩ := hO180.rd.form
           subst hv2e
           have sD186 := F181.size
           have D186 : Fr No w130 w185 := D177.trans F181 (fun i hi h => (by have h1 := hq178 i h; omega))
           refine d_next (fun _ => D186) ?_
           refine d_force (i := 10) rfl (by kernel_rfl) ?_
           have := F13.size
           have := F17.size
           have := F30.size
           have := hF30.size
           have := F167.size
           have := F173.size
           have := F181.size
           have := F13.size
           have := F17.size
           have := F30.size
           have := hF30.size
           have := F167.size
           have := F173.size
           have := F181.size
           have hFn := ((((((((Fr.refl No _).trans F13 (fun j hj h => h.elim)).trans F17 (fun j hj h => (by have h2 : j = ab := h; omega))).trans F30 (fun j hj h => h.elim)).trans hF30 (fun j hj h => h.elim)).trans F167 (fun j hj h => h.elim)).trans F173 (fun j hj h => h.elim)).trans F181 (fun j hj h => (by have h1 := hq178 _ h; omega)))
           have hNn := hI.net.fr hFn (fun _ _ _ s => s)
           obtain ⟨An, cn, hBn, _, _⟩ := hNn.net
           refine r_call rfl (c12 (vs := [.pointer (some ⟨B, 0, none⟩), .int .i64 frm, .int .i64 dst, .int .i64 due, .slice A2 ((abs.take 30).length) c2]) rfl) (netSend_no hNn (by have := hI.len; omega) ⟨hI.cs.1, by have := hI.cs.2; omega⟩ ⟨hI.cl.1, by have := hI.cl.2; omega⟩ (by omega) frm dst due hO180.rd (fun b hb h => hO180.type_ne hBn (by decide) (h ▸ hb)) (fun h => hO180.nil_len h) (by omega) (by omega)) ?_
           rintro _ _ ⟨rfl, rfl⟩
           refine ⟨_, rfl, ?_⟩
           refine d_next (fun _ => D186) ?_
           refine d_pure (i := 12) rfl (by kernel_rfl) (np_blk (np_then (np_blk (np_then (np_then (np_blk (np_then np_body))))))) rfl (fun _ => (x_as (u := .bool true) (x_eql (a := 1) (b := 1) rfl rfl) (congrArg Value.bool (decide_eq_true rfl)))) (fun _ => D186) ?_
           refine d_pure (i := 13) rfl (by kernel_rfl) (np_blk (np_then (np_blk (np_then (np_then (np_blk (np_then np_body))))))) rfl (fun _ => (x_assign (v := .bool true) rfl)) (fun _ => D186) ?_
           have := F13.size
           have := F17.size
           have := F30.size
           have := hF30.size
           have := F167.size
           have := F173.size
           have := F181.size
           have := Fw.size
           have := F13.size
           have := F17.size
           have := F30.size
           have := hF30.size
           have := F167.size
           have := F173.size
           have := F181.size
           refine d_done (by kernel_rfl) ?_
           refine inBlk_n ?_
           refine thenW_n ?_
           exact ⟨K, l, lp, sent, lost, _, ((ovl_cons (ovl_cons (ovl_cons (ovl_cons (ovl_cons (ovl_cons (ovl_nil _) rfl) rfl) rfl) rfl) rfl) rfl)).symm, (((((((((Fr.refl No _).trans Fw (fun j hj h => h.elim)).trans F13 (fun j hj h => h.elim)).trans F17 (fun j hj h => (by have h2 : j = ab := h; omega))).trans F30 (fun j hj h => h.elim)).trans hF30 (fun j hj h => h.elim)).trans F167 (fun j hj h => h.elim)).trans F173 (fun j hj h => h.elim)).trans F181 (fun j hj h => (by have h1 := hq178 _ h; omega))), hyK, (hI.no ((((((((Fr.refl No _).trans F13 (fun j hj h => h.elim)).trans F17 (fun j hj h => (by have h2 : j = ab := h; omega))).trans F30 (fun j hj h => h.elim)).trans hF30 (fun j hj h => h.elim)).trans F167 (fun j hj h => h.elim)).trans F173 (fun j hj h => h.elim)).trans F181 (fun j hj h => (by have h1 := hq178 _ h; omega)))).up (by omega)⟩
          ·skip
           refine r_yes (t := 191) rfl rfl rfl (decide_eq_false hc159) ?_
           refine r_val rfl (x_move (v := .int .i64 due) rfl) ?_
           refine r_yes (t := 191) rfl rfl rfl (decide_eq_false hc159) ?_
           refine r_val rfl (x_lss (a := due) (b := 0) rfl rfl) ?_
           refine r_val rfl (x_pickF (b := decide (dst = many)) (v := .bool (decide (due < 0))) rfl (decide_eq_false hc159) rfl) ?_
           refine RW_nil ?_
           refine thenW_n ?_
           refine W_condD (p := due < 0) rfl rfl (fun hc187 => ?_) (fun hc187 => ?_)
           ·skip
            refine W_region ?_
            refine r_val rfl (x_assign (v := .int .i64 1) rfl) ?_
            refine RW_nil ?_
            refine thenW_n ?_
            have hO35 := hOvb
            have hB188 := hB22.fr F30 (fun f => f)
            have hB189 := hB188.fr hF30 (fun f => f)
            have hB190 := hB35.fr hF30 (fun f => f)
            have hR191 := hR24.fr F30 (fun _ _ f => f)
            have hR192 := hR191.fr hF30 (fun _ _ f => f)
            have hR193 := hR29.frz F30 (fun _ _ _ f => f)
            have hR194 := hR193.frz hF30 (fun _ _ _ f => f)
            refine d_begin mo 14 (fun x => Fr No w130 x) ?_
            obtain ⟨w196, hw196⟩ : ∃ x, w130.drew = x := ⟨_, rfl⟩
            have F195 : Fr No w130 w196 := by rw [← hw196]; exact Fr.drew _ _
            have D197 : Fr No w130 w196 := Fr.of_No F195
            have sF195 := F195.size
            rw [hw196]
            refine d_pure (i := 0) rfl (by kernel_rfl) (np_blk (np_then (np_blk (np_then (np_then (np_blk (np_then np_body))))))) rfl (fun _ => (x_move (v := .pointer (some ⟨B, 0, none⟩)) rfl)) (fun _ => D197) ?_
            refine d_pure (i := 1) rfl (by kernel_rfl) (np_blk (np_then (np_blk (np_then (np_then (np_blk (np_then np_body))))))) rfl (fun _ => (x_fieldAddr (b := fb) (o := 0) fo_37_1 rfl)) (fun _ => D197) ?_
            refine d_load (i := 2) rfl (by kernel_rfl) (np_blk (np_then (np_blk (np_then (np_then (np_blk (np_then np_body))))))) rfl (by kernel_rfl) rfl (fun x hS => (x_load (v := .int .i64 frm) kind_3 rfl ((hBfb.fr hS (fun f => f)).cell rfl))) D197 ?_
            refine d_pure (i := 3) rfl (by kernel_rfl) (np_blk (np_then (np_blk (np_then (np_then (np_blk (np_then np_body))))))) rfl (fun _ => (x_fieldAddr (b := fb) (o := 0) fo_37_2 rfl)) (fun _ => D197) ?_
            refine d_load (i := 4) rfl (by kernel_rfl) (np_blk (np_then (np_blk (np_then (np_then (np_blk (np_then np_body))))))) rfl (by kernel_rfl) rfl (fun x hS => (x_load (v := .int .i64 dst) kind_3 rfl ((hBfb.fr hS (fun f => f)).cell rfl))) D197 ?_
            refine d_pure (i := 5) rfl (by kernel_rfl) (np_blk (np_then (np_blk (np_then (np_then (np_blk (np_then np_body))))))) rfl (fun _ => (x_move (v := .int .i64 due) rfl)) (fun _ => D197) ?_
            refine d_pure (i := 7) rfl (by kernel_rfl) (np_blk (np_then (np_blk (np_then (np_then (np_blk (np_then np_body))))))) rfl (fun _ => (x_fieldAddr (b := fb) (o := 0) fo_37_4 rfl)) (fun _ => D197) ?_
            refine d_load (i := 8) rfl (by kernel_rfl) (np_blk (np_then (np_blk (np_then (np_then (np_blk (np_then np_body))))))) rfl (by kernel_rfl) rfl (fun x hS => (x_load (v := .slice Ab ((abs.take 30).length) cb) kind_33 rfl ((hBfb.fr hS (fun f => f)).cell rfl))) D197 ?_
            refine d_pure (i := 11) rfl (by kernel_rfl) (np_blk (np_then (np_blk (np_then (np_then (np_blk (np_then np_body))))))) rfl (fun _ => (x_move (v := .int .i64 1) rfl)) (fun _ => D197) ?_
            refine d_force (i := 6) rfl (by kernel_rfl) ?_
            have hB198 := hB189.fr F195 (fun f => f)
            have hB199 := hB190.fr F195 (fun f => f)
            have hB200 := hBfb.fr F195 (fun f => f)
            obtain ⟨g1, hg1⟩ : ∃ n, w196.heap.size = n := ⟨_, rfl⟩
            have ne_N_g1 : N ≠ g1 := by have := hB198.lt; omega
            have ne_ab_g1 : ab ≠ g1 := by have := hB199.lt; omega
            have ne_fb_g1 : fb ≠ g1 := by have := hB200.lt; omega
            refine r_lit (vs := []) (l := []) rfl g1 hg1 ei_33 (.inr ⟨_, rfl⟩) rfl rfl (by simp) rfl (by decide) ?_
            intro w204 F201 z202 hB203
            have sD205 := F201.size
            have D205 : Fr No w130 w204 := D197.trans F201 (fun i hi h => (by first | exact h.elim | omega | (simp only [Value.ownBlock, Option.some.injEq] at h; omega) | (have h2 := h; simp at h2; omega) | exact h))
            refine d_next (fun _ => D205) ?_
            refine d_force (i := 9) rfl (by kernel_rfl) ?_
            have := F13.size
            have := F17.size
            have := F30.size
            have := hF30.size
            have := F195.size
            have := F201.size
            have hq206 : ∀ b, (Value.slice (some ⟨g1, 0, none⟩) 0 0).ownBlock = some b → w130.heap.size ≤ b := fun b hb => (by have h1 : g1 = b := (by injection hb); omega)
            refine r_append rfl rfl ei_33 rfl (by decide) (v := .slice (some ⟨g1, 0, none⟩) 0 0) (u := .slice Ab ((abs.take 30).length) cb) rfl rfl (Own.of_blk hB203 1 0 rfl (by decide)) (hO35.rd.fr D205 (fun b hb h => by first | exact h.elim | (have h1 := (hvbf b hb).1; have h2 := h.1.2; omega))) (BC_one _) (by unfold maxLen; omega) (by omega) ?_
            intro v207 w213 hO208 F209 hat210 hnil211
            have hfr212 : ∀ b, (v207).ownBlock = some b → w130.heap.size ≤ b := fun b hb => (by rcases hat210 with e | e; (rw [e] at hb; exact hq206 b hb); (rw [e] at hb; injection hb with hb; omega))
            rw [Nat.zero_add, List.nil_append] at hO208
            obtain ⟨A2, c2, hv2e, _⟩ := hO208.rd.form
            subst hv2e
            have sD214 := F209.size
            have D214 : Fr No w130 w213 := D205.trans F209 (fun i hi h => (by have h1 := hq206 i h; omega))
            refine d_next (fun _ => D214) ?_
            refine d_force (i := 10) rfl (by kernel_rfl) ?_
            have := F13.size
            have := F17.size
            have := F30.size
            have := hF30.size
            have := F195.size
            have := F201.size
            have := F209.size
            have := F13.size
            have := F17.size
            have := F30.size
            have := hF30.size
            have := F195.size
            have := F201.size
            have := F209.size
            have hFn := ((((((((Fr.refl No _).trans F13 (fun j hj h => h.elim)).trans F17 (fun j hj h => (by have h2 : j = ab := h; omega))).trans F30 (fun j hj h => h.elim)).trans hF30 (fun j hj h => h.elim)).trans F195 (fun j hj h => h.elim)).trans F201 (fun j hj h => h.elim)).trans F209 (fun j hj h => (by have h1 := hq206 _ h; omega)))
            have hNn := hI.net.fr hFn (fun _ _ _ s => s)
            obtain ⟨An, cn, hBn, _, _⟩ := hNn.net
            refine r_call rfl (c12 (vs := [.pointer (some ⟨B, 0, none⟩), .int .i64 frm, .int .i64 dst, .int .i64 due, .slice A2 ((abs.take 30).length) c2]) rfl) (netSend_no hNn (by have := hI.len; omega) ⟨hI.cs.1, by have := hI.cs.2; omega⟩ ⟨hI.cl.1, by have := hI.cl.2; omega⟩ (by omega) frm dst due hO208.rd (fun b hb h => hO208.type_ne hBn (by decide) (h ▸ hb)) (fun h => hO208.nil_len h) (by omega) (by omega)) ?_
            rintro _ _ ⟨rfl, rfl⟩
            refine ⟨_, rfl, ?_⟩
            refine d_next (fun _ => D214) ?_
            refine d_pure (i := 12) rfl (by kernel_rfl) (np_blk (np_then (np_blk (np_then (np_then (np_blk (np_then np_body))))))) rfl (fun _ => (x_as (u := .bool true) (x_eql (a := 1) (b := 1) rfl rfl) (congrArg Value.bool (decide_eq_true rfl)))) (fun _ => D214) ?_
            refine d_pure (i := 13) rfl (by kernel_rfl) (np_blk (np_then (np_blk (np_then (np_then (np_blk (np_then np_body))))))) rfl (fun _ => (x_assign (v := .bool true) rfl)) (fun _ => D214) ?_
            have := F13.size
            have := F17.size
            have := F30.size
            have := hF30.size
            have := F195.size
            have := F201.size
            have := F209.size
            have := Fw.size
            have := F13.size
            have := F17.size
            have := F30.size
            have := hF30.size
            have := F195.size
            have := F201.size
            have := F209.size
            refine d_done (by kernel_rfl) ?_
            refine inBlk_n ?_
            refine thenW_n ?_
            exact ⟨K, l, lp, sent, lost, _, ((ovl_cons (ovl_cons (ovl_cons (ovl_cons (ovl_cons (ovl_cons (ovl_nil _) rfl) rfl) rfl) rfl) rfl) rfl)).symm, (((((((((Fr.refl No _).trans Fw (fun j hj h => h.elim)).trans F13 (fun j hj h => h.elim)).trans F17 (fun j hj h => (by have h2 : j = ab := h; omega))).trans F30 (fun j hj h => h.elim)).trans hF30 (fun j hj h => h.elim)).trans F195 (fun j hj h => h.elim)).trans F201 (fun j hj h => h.elim)).trans F209 (fun j hj h => (by have h1 := hq206 _ h; omega))), hyK, (hI.no ((((((((Fr.refl No _).trans F13 (fun j hj h => h.elim)).trans F17 (fun j hj h => (by have h2 : j = ab := h; omega))).trans F30 (fun j hj h => h.elim)).trans hF30 (fun j hj h => h.elim)).trans F195 (fun j hj h => h.elim)).trans F201 (fun j hj h => h.elim)).trans F209 (fun j hj h => (by have h1 := hq206 _ h; omega)))).up (by omega)⟩
           ·skip
            refine W_region ?_
            refine r_val rfl (x_move (v := .pointer (some ⟨N, 0, none⟩)) rfl) ?_
            refine r_val rfl (x_loadBlk (b := fb) (l := [.int .i64 0, .int .i64 frm, .int .i64 dst, .int .i64 due, .slice Ab ((abs.take 30).length) cb]) kind_37 size_37 rfl hBfb) ?_
            have := F13.size
            have := F17.size
            have := F30.size
            have := hF30.size
            have hPs := hI.pap.fr (K' := shrink K w9) (Fr.refl No _) (fun _ _ s => s.elim) (fun b hb hn hk => hn hk.1)
            have hNs := hI.net.mono (K' := shrink K w9) (fun b hlt hb => ⟨hb, hlt⟩)
            have hFc := (((((Fr.refl No _).trans F13 (fun j hj h => h.elim)).trans F17 (fun j hj h => (by have h2 : j = ab := h; omega))).trans F30 (fun j hj h => h.elim)).trans hF30 (fun j hj h => h.elim))
            have hPc := hPs.no hFc
            have hszc := hFc.size
            have hplen := hI.plen
            have hOc := hOvb
            refine r_call rfl (c11 (vs := [.pointer (some ⟨N, 0, none⟩), .agg #[.int .i64 0, .int .i64 frm, .int .i64 dst, .int .i64 due, .slice Ab ((abs.take 30).length) cb]]) rfl) (papSends hPc (by omega) (by omega) (by omega) ⟨by omega, by omega⟩ (by rw [hI.same]; exact hI.net.sorted) 0 frm dst due hOc.rd (fun b hb => ⟨fun hk => (by have h1 := (hvbf b hb).1; have h2 := hk.2; omega), (by have h1 := (hvbf b hb).1; omega), hOc.lt hb⟩)) ?_
            rintro _ w215 ⟨rfl, hFS, lpn, lostn, hPn, habs1⟩
            have hN1 := (hNs.fr hFc (fun _ _ _ s => s)).mono (K' := (shrink (shrink K w9) w130)) (fun b hlt hb => ⟨hb, hlt⟩)
            have hN2 := hN1.fr hFS (fun b hb _ h => hPc.home (by have h2 : b = N := h; exact h2 ▸ hb.1))
            refine ⟨_, rfl, ?_⟩
            refine RW_nil ?_
            refine thenW_n ?_
            have hR216 := hOvb.fr hFS (fun b hb h => by have h1 := (hvbf b hb).1; have h2 : b = N := h; omega)
            have hO35 := hR216
            have hB217 := hBfb.fr hFS (fun h => ne_N_fb h.symm)
            refine d_begin mo 14 (fun x => Fr (shrink (shrink K w9) w130) w215 x) ?_
            obtain ⟨w219, hw219⟩ : ∃ x, w215.drew = x := ⟨_, rfl⟩
            have F218 : Fr No w215 w219 := by rw [← hw219]; exact Fr.drew _ _
            have D220 : Fr (shrink (shrink K w9) w130) w215 w219 := Fr.of_No F218
            have sF218 := F218.size
            rw [hw219]
            refine d_pure (i := 0) rfl (by kernel_rfl) (np_blk (np_then (np_blk (np_then (np_then (np_blk (np_then np_body))))))) rfl (fun _ => (x_move (v := .pointer (some ⟨B, 0, none⟩)) rfl)) (fun _ => D220) ?_
            refine d_pure (i := 1) rfl (by kernel_rfl) (np_blk (np_then (np_blk (np_then (np_then (np_blk (np_then np_body))))))) rfl (fun _ => (x_fieldAddr (b := fb) (o := 0) fo_37_1 rfl)) (fun _ => D220) ?_
            refine d_load (i := 2) rfl (by kernel_rfl) (np_blk (np_then (np_blk (np_then (np_then (np_blk (np_then np_body))))))) rfl (by kernel_rfl) rfl (fun x hS => (x_load (v := .int .i64 frm) kind_3 rfl ((hB217.fr hS (fun h => by first | exact h.elim | (have h2 := h.1.2; omega))).cell rfl))) D220 ?_
            refine d_pure (i := 3) rfl (by kernel_rfl) (np_blk (np_then (np_blk (np_then (np_then (np_blk (np_then np_body))))))) rfl (fun _ => (x_fieldAddr (b := fb) (o := 0) fo_37_2 rfl)) (fun _ => D220) ?_
            refine d_load (i := 4) rfl (by kernel_rfl) (np_blk (np_then (np_blk (np_then (np_then (np_blk (np_then np_body))))))) rfl (by kernel_rfl) rfl (fun x hS => (x_load (v := .int .i64 dst) kind_3 rfl ((hB217.fr hS (fun h => by first | exact h.elim | (have h2 := h.1.2; omega))).cell rfl))) D220 ?_
            refine d_pure (i := 5) rfl (by kernel_rfl) (np_blk (np_then (np_blk (np_then (np_then (np_blk (np_then np_body))))))) rfl (fun _ => (x_move (v := .int .i64 due) rfl)) (fun _ => D220) ?_
            refine d_pure (i := 7) rfl (by kernel_rfl) (np_blk (np_then (np_blk (np_then (np_then (np_blk (np_then np_body))))))) rfl (fun _ => (x_fieldAddr (b := fb) (o := 0) fo_37_4 rfl)) (fun _ => D220) ?_
            refine d_load (i := 8) rfl (by kernel_rfl) (np_blk (np_then (np_blk (np_then (np_then (np_blk (np_then np_body))))))) rfl (by kernel_rfl) rfl (fun x hS => (x_load (v := .slice Ab ((abs.take 30).length) cb) kind_33 rfl ((hB217.fr hS (fun h => by first | exact h.elim | (have h2 := h.1.2; omega))).cell rfl))) D220 ?_
            refine d_pure (i := 11) rfl (by kernel_rfl) (np_blk (np_then (np_blk (np_then (np_then (np_blk (np_then np_body))))))) rfl (fun _ => (x_move (v := .int .i64 0) rfl)) (fun _ => D220) ?_
            refine d_force (i := 6) rfl (by kernel_rfl) ?_
            have hB221 := hB217.fr F218 (fun f => f)
            obtain ⟨g1, hg1⟩ : ∃ n, w219.heap.size = n := ⟨_, rfl⟩
            have ne_fb_g1 : fb ≠ g1 := by have := hB221.lt; omega
            refine r_lit (vs := []) (l := []) rfl g1 hg1 ei_33 (.inr ⟨_, rfl⟩) rfl rfl (by simp) rfl (by decide) ?_
            intro w225 F222 z223 hB224
            have sD226 := F222.size
            have D226 : Fr (shrink (shrink K w9) w130) w215 w225 := D220.trans F222 (fun i hi h => (by first | exact h.elim | omega | (simp only [Value.ownBlock, Option.some.injEq] at h; omega) | (have h2 := h; simp at h2; omega) | exact h))
            refine d_next (fun _ => D226) ?_
            refine d_force (i := 9) rfl (by kernel_rfl) ?_
            have := F13.size
            have := F17.size
            have := F30.size
            have := hF30.size
            have := hFS.size
            have := F218.size
            have := F222.size
            have hq227 : ∀ b, (Value.slice (some ⟨g1, 0, none⟩) 0 0).ownBlock = some b → w215.heap.size ≤ b := fun b hb => (by have h1 : g1 = b := (by injection hb); omega)
            refine r_append rfl rfl ei_33 rfl (by decide) (v := .slice (some ⟨g1, 0, none⟩) 0 0) (u := .slice Ab ((abs.take 30).length) cb) rfl rfl (Own.of_blk hB224 1 0 rfl (by decide)) (hO35.rd.fr D226 (fun b hb h => by first | exact h.elim | (have h1 := (hvbf b hb).1; have h2 := h.1.2; omega))) (BC_one _) (by unfold maxLen; omega) (by omega) ?_
            intro v228 w234 hO229 F230 hat231 hnil232
            have hfr233 : ∀ b, (v228).ownBlock = some b → w215.heap.size ≤ b := fun b hb => (by rcases hat231 with e | e; (rw [e] at hb; exact hq227 b hb); (rw [e] at hb; injection hb with hb; omega))
            rw [Nat.zero_add, List.nil_append] at hO229
            obtain ⟨A2, c2, hv2e, _⟩ := hO229.rd.form
            subst hv2e
            have sD235 := F230.size
            have D235 : Fr (shrink (shrink K w9) w130) w215 w234 := D226.trans F230 (fun i hi h => (by have h1 := hq227 i h; omega))
            refine d_next (fun _ => D235) ?_
            refine d_force (i := 10) rfl (by kernel_rfl) ?_
            have := F13.size
            have := F17.size
            have := F30.size
            have := hF30.size
            have := hFS.size
            have := F218.size
            have := F222.size
            have := F230.size
            have := F218.size
            have := F222.size
            have := F230.size
            have hFn := ((((Fr.refl No _).trans F218 (fun j hj h => h.elim)).trans F222 (fun j hj h => h.elim)).trans F230 (fun j hj h => (by have h1 := hq227 _ h; omega)))
            have hNn := hN2.fr hFn (fun _ _ _ s => s)
            obtain ⟨An, cn, hBn, _, _⟩ := hNn.net
            refine r_call rfl (c12 (vs := [.pointer (some ⟨B, 0, none⟩), .int .i64 frm, .int .i64 dst, .int .i64 due, .slice A2 ((abs.take 30).length) c2]) rfl) (netSend_yes hNn (by have := hI.len; omega) ⟨hI.cs.1, by have := hI.cs.2; omega⟩ ⟨hI.cl.1, by have := hI.cl.2; omega⟩ (by omega) frm dst due hO229.rd (fun b hb h => hO229.type_ne hBn (by decide) (h ▸ hb)) (fun h => hO229.nil_len h) (by omega) ⟨⟨by omega, by omega⟩, ⟨by omega, by omega⟩, ⟨by omega, by omega⟩, by omega⟩) ?_
            rintro _ w236 ⟨rfl, hFL, ln, lostm, hN3, habs2⟩
            refine ⟨_, rfl, ?_⟩
            have sD237 := hFL.size
            have D237 : Fr (shrink (shrink K w9) w130) w215 w236 := D235.trans hFL (fun i hi h => (by first | exact h.elim | omega | (simp only [Value.ownBlock, Option.some.injEq] at h; omega) | (have h2 := h; simp at h2; omega) | exact h))
            refine d_next (fun _ => D237) ?_
            refine d_pure (i := 12) rfl (by kernel_rfl) (np_blk (np_then (np_blk (np_then (np_then (np_blk (np_then np_body))))))) rfl (fun _ => (x_as (u := .bool true) (x_eql (a := 0) (b := 0) rfl rfl) (congrArg Value.bool (decide_eq_true rfl)))) (fun _ => D237) ?_
            refine d_pure (i := 13) rfl (by kernel_rfl) (np_blk (np_then (np_blk (np_then (np_then (np_blk (np_then np_body))))))) rfl (fun _ => (x_assign (v := .bool true) rfl)) (fun _ => D237) ?_
            have := F13.size
            have := F17.size
            have := F30.size
            have := hF30.size
            have := hFS.size
            have := F218.size
            have := F222.size
            have := F230.size
            have := hFL.size
            have hyK3 : ∀ b, b < w.heap.size → ¬ grow (shrink (shrink K w9) w130) w234 b := fun b h1 h2 => h2.elim (fun h => hyK b h1 h.1.1) (fun h => by omega)
            have hI3 := hI.fresh rfl (by exact ⟨htk2, (by show 0 ≤ due; omega)⟩) habs1 habs2 hN3 ((hPn.no hFn).net hFL)
            have := Fw.size
            have := F13.size
            have := F17.size
            have := F30.size
            have := hF30.size
            have := hFS.size
            have := F218.size
            have := F222.size
            have := F230.size
            have := hFL.size
            refine d_done (by kernel_rfl) ?_
            refine inBlk_n ?_
            refine thenW_n ?_
            exact ⟨_, _, _, _, _, _, ((ovl_cons (ovl_cons (ovl_cons (ovl_cons (ovl_cons (ovl_cons (ovl_nil _) rfl) rfl) rfl) rfl) rfl) rfl)).symm, (((((((((((Fr.refl No _).trans Fw (fun j hj h => h.elim)).trans F13 (fun j hj h => h.elim)).trans F17 (fun j hj h => (by have h2 : j = ab := h; omega))).trans F30 (fun j hj h => h.elim)).trans hF30 (fun j hj h => h.elim)).trans hFS (fun j hj h => (by have h2 : j = N := h; omega))).trans F218 (fun j hj h => h.elim)).trans F222 (fun j hj h => h.elim)).trans F230 (fun j hj h => (by have h1 := hq227 _ h; omega))).trans hFL (fun j hj h => (hyK j hj h.1.1))), hyK3, hI3⟩
       ·skip
        refine W_seq ?_
        refine W_region ?_
        refine r_val rfl (x_eql (a := kd) (b := 4) rfl rfl) ?_
        refine r_val rfl (x_assign (v := .bool (decide (kd = 4))) rfl) ?_
        refine RW_nil ?_
        refine thenW_n ?_
        refine W_condD (p := kd = 4) rfl rfl (fun hc238 => ?_) (fun hc238 => ?_)
        ·skip
         refine W_seq ?_
         have := F13.size
         have := F17.size
         have := F30.size
         have hFW := ((((Fr.refl No _).trans F13 (fun j hj h => h.elim)).trans F17 (fun j hj h => (by have h2 : j = ab := h; omega))).trans F30 (fun j hj h => h.elim))
         have hPW := hI.pap.no hFW
         refine W_region ?_
         refine r_val rfl (x_assign (v := .slice none 0 0) rfl) ?_
         refine RW_nil ?_
         refine thenW_n ?_
         refine W_seq ?_
         refine W_block ?_
         refine W_loop (fun m σ w' => ∃ (j r : Nat) (vt : Value) (Aj : Option Addr) (cj : Nat), ∃ τ : Env, m = l.length - j ∧ σ = ovl τ [(0, .slice (some ⟨rb, ro, none⟩) n c), (8, .int .i64 many), (9, .pointer (some ⟨N, 0, none⟩)), (10, .pointer (some ⟨B, 0, none⟩)), (12, .int .i64 (k : Int)), (13, .pointer (some ⟨ab, 0, none⟩)), (14, .int .i64 at_), (15, .bool isb), (16, .int .i64 due), (17, .bool true), (99, .int .i64 kd), (20, vt)] ∧ Fr (fun b => b = N) w31 w' ∧ l.length = j + r ∧ Blk w' N 28 [.slice Aj r cj, .int .i64 sent, .int .i64 lost, .int .i64 (mst : Int)] ∧ Rd w' 5 (.slice Aj r cj) r (encL FC (lp.drop j)) ∧ (∀ b, (Value.slice Aj r cj).ownBlock = some b → ¬ K b ∧ b ≠ N ∧ b < w31.heap.size) ∧ Own w' 37 5 vt j (encL FC (lp.take j)) ∧ (∀ b, vt.ownBlock = some b → w31.heap.size ≤ b) ∧ ∀ i, i < j → ¬ due < (lp.getD i fl0).1.due) (l.length) ?_ ?_
         have hB239 := hB22.fr F30 (fun f => f)
         have hR240 := hR24.fr F30 (fun _ _ f => f)
         have := F13.size
         have := F17.size
         have := F30.size
         have hsW := (((((Fr.refl No _).trans F13 (fun j hj h => h.elim)).trans F17 (fun j hj h => (by have h2 : j = ab := h; omega))).trans F30 (fun j hj h => h.elim))).size
         · exact ⟨0, l.length, .slice none 0 0, AP, cP, _, rfl, ((ovl_cons (ovl_cons (ovl_cons (ovl_cons (ovl_cons (ovl_cons (ovl_cons (ovl_cons (ovl_cons (ovl_cons (ovl_cons (ovl_cons (ovl_nil _) rfl) rfl) rfl) rfl) rfl) rfl) rfl) rfl) rfl) rfl) rfl) rfl)).symm, Fr.refl _ _, (by omega), hB239, hR240, (fun b h => ⟨(hPb b h).1, (hPb b h).2.1, by have := (hPb b h).2.2; omega⟩), Own.nil _ _ _, (fun b h => (by cases h)), (fun i h => absurd h (Nat.not_lt_zero _))⟩
         ·skip
          rintro _ _ w241 ⟨j, r, vt, Aj, cj, τ, rfl, rfl, FD, hjr, hNj, hRj, hPj, hOvt, hfrv, hdj⟩
          obtain ⟨Av, cv, hvte, _⟩ := hOvt.rd.form
          subst hvte
          have hplen := hI.plen
          have hFDs := FD.size
          refine W_seq ?_
          refine W_seq ?_
          have hopj := hRj.at_
          refine W_region ?_
          refine r_val rfl (x_move (v := .pointer (some ⟨N, 0, none⟩)) rfl) ?_
          refine r_val rfl (x_nilCheck rfl) ?_
          refine r_val rfl (x_fieldAddr (b := N) (o := 0) fo_28_0 rfl) ?_
          refine r_val rfl (x_load (v := .slice Aj r cj) kind_26 rfl (hNj.cell rfl)) ?_
          refine r_val rfl (x_len (n := r) ul_26 rfl) ?_
          refine r_val rfl (x_gtr (a := (r : Int)) (b := 0) rfl rfl) ?_
          refine r_val rfl (x_move (v := .bool (decide (0 < (r : Int)))) rfl) ?_
          by_cases hc242 : 0 < (r : Int)
          ·skip
           refine r_yes (t := 219) rfl rfl rfl (decide_eq_true hc242) ?_
           refine r_val rfl (x_move (v := .pointer (some ⟨N, 0, none⟩)) rfl) ?_
           refine r_yes (t := 219) rfl rfl rfl (decide_eq_true hc242) ?_
           refine r_val rfl (x_nilCheck rfl) ?_
           refine r_yes (t := 219) rfl rfl rfl (decide_eq_true hc242) ?_
           refine r_val rfl (x_fieldAddr (b := N) (o := 0) fo_28_0 rfl) ?_
           refine r_yes (t := 219) rfl rfl rfl (decide_eq_true hc242) ?_
           refine r_val rfl (x_load (v := .slice Aj r cj) kind_26 rfl (hNj.cell rfl)) ?_
           refine r_yes (t := 219) rfl rfl rfl (decide_eq_true hc242) ?_
           obtain ⟨rj, oj, _, hvj, hncj, hcj⟩ := hopj (by omega)
           injection hvj with hvjA
           subst hvjA
           refine r_val rfl (x_indexAddr (b := rj) (o := oj) (j := 0) es_26 rfl rfl rfl (by omega)) ?_
           refine r_yes (t := 219) rfl rfl rfl (decide_eq_true hc242) ?_
           refine r_val rfl (x_fieldAddr (b := rj) (o := oj + 0 * 5) fo_37_3 rfl) ?_
           refine r_yes (t := 219) rfl rfl rfl (decide_eq_true hc242) ?_
           refine r_val rfl (x_load (v := .int .i64 ((lp.getD j fl0).1.due)) kind_3 rfl (by rw [Nat.add_assoc]; exact hcj _ _ (encL_get (a := (lp.getD j fl0)) (size := 5) (f := 3) FC_len (drop_head (by omega)) rfl))) ?_
           refine r_yes (t := 219) rfl rfl rfl (decide_eq_true hc242) ?_
           refine r_val rfl (x_move (v := .int .i64 due) rfl) ?_
           refine r_yes (t := 219) rfl rfl rfl (decide_eq_true hc242) ?_
           refine r_val rfl (x_leq (a := (lp.getD j fl0).1.due) (b := due) rfl rfl) ?_
           refine r_val rfl (x_pickT (b := decide (0 < (r : Int))) (v := .bool (decide (((lp.getD j fl0).1.due) ≤ due))) rfl (decide_eq_true hc242) rfl) ?_
           refine RW_nil ?_
           refine thenW_n ?_
           refine W_condD (p := ((lp.getD j fl0).1.due) ≤ due) rfl rfl (fun hc243 => ?_) (fun hc243 => ?_)
           ·skip
            refine W_skip ?_
            refine thenW_n ?_
            refine W_block ?_
            have := F13.size
            have := F17.size
            have := F30.size
            have := FD.size
            have hNW : N < w31.heap.size := by have := hNb.lt; omega
            have hjl : j < lp.length := by omega
            have hqb := hI.pap.bytes (lp.getD j fl0) (getD_mem hjl)
            have hRj39 := hRj
            refine d_begin mo 18 (fun x => Fr (fun b => (Value.slice Av j cv).ownBlock = some b) w241 x) ?_
            obtain ⟨w245, hw245⟩ : ∃ x, w241.drew = x := ⟨_, rfl⟩
            have F244 : Fr No w241 w245 := by rw [← hw245]; exact Fr.drew _ _
            have D246 : Fr (fun b => (Value.slice Av j cv).ownBlock = some b) w241 w245 := Fr.of_No F244
            have sF244 := F244.size
            rw [hw245]
            refine d_pure (i := 0) rfl (by kernel_rfl) (np_blk (np_then (np_blk (np_then (np_blk (np_then (np_blk (np_then (np_then (np_blk (np_then np_body))))))))))) rfl (fun _ => (x_move (v := .pointer (some ⟨N, 0, none⟩)) rfl)) (fun _ => D246) ?_
            refine d_pure (i := 1) rfl (by kernel_rfl) (np_blk (np_then (np_blk (np_then (np_blk (np_then (np_blk (np_then (np_then (np_blk (np_then np_body))))))))))) rfl (fun _ => (x_move (v := .slice Av j cv) rfl)) (fun _ => D246) ?_
            refine d_pure (i := 2) rfl (by kernel_rfl) (np_blk (np_then (np_blk (np_then (np_blk (np_then (np_blk (np_then (np_then (np_blk (np_then np_body))))))))))) rfl (fun _ => (x_move (v := .pointer (some ⟨N, 0, none⟩)) rfl)) (fun _ => D246) ?_
            refine d_pure (i := 3) rfl (by kernel_rfl) (np_blk (np_then (np_blk (np_then (np_blk (np_then (np_blk (np_then (np_then (np_blk (np_then np_body))))))))))) rfl (fun _ => (x_nilCheck rfl)) (fun _ => D246) ?_
            refine d_pure (i := 4) rfl (by kernel_rfl) (np_blk (np_then (np_blk (np_then (np_blk (np_then (np_blk (np_then (np_then (np_blk (np_then np_body))))))))))) rfl (fun _ => (x_fieldAddr (b := N) (o := 0) fo_28_0 rfl)) (fun _ => D246) ?_
            refine d_load (i := 5) rfl (by kernel_rfl) (np_blk (np_then (np_blk (np_then (np_blk (np_then (np_blk (np_then (np_then (np_blk (np_then np_body))))))))))) rfl (by kernel_rfl) rfl (fun x hS => (x_load (v := .slice (some ⟨rj, oj, none⟩) r cj) kind_26 rfl ((hNj.fr hS (fun h => by have h1 := hfrv _ h; omega)).cell rfl))) D246 ?_
            refine d_pure (i := 6) rfl (by kernel_rfl) (np_blk (np_then (np_blk (np_then (np_blk (np_then (np_blk (np_then (np_then (np_blk (np_then np_body))))))))))) rfl (fun _ => (x_indexAddr (b := rj) (o := oj) (j := 0) es_26 rfl rfl rfl (by omega))) (fun _ => D246) ?_
            refine d_load (i := 7) rfl (by kernel_rfl) (np_blk (np_then (np_blk (np_then (np_blk (np_then (np_blk (np_then (np_then (np_blk (np_then np_body))))))))))) rfl (by kernel_rfl) rfl (fun x hS => (x_loadRow (b := rj) (o := oj + 0 * 5) (cs := [.int .i64 ((lp.getD j fl0).1.num), .int .i64 ((lp.getD j fl0).1.frm), .int .i64 ((lp.getD j fl0).1.dst), .int .i64 ((lp.getD j fl0).1.due), (lp.getD j fl0).2]) kind_37 size_37 rfl (fun mm u hu => (by rw [Nat.add_assoc]; exact hS.cell (hcj _ _ (encL_get (a := (lp.getD j fl0)) (size := 5) FC_len (drop_head hjl) hu)) (fun h => by have h1 := hfrv rj h; have h2 := (hPj rj rfl).2.2; omega))))) D246 ?_
            refine d_pure (i := 10) rfl (by kernel_rfl) (np_blk (np_then (np_blk (np_then (np_blk (np_then (np_blk (np_then (np_then (np_blk (np_then np_body))))))))))) rfl (fun _ => (x_move (v := .pointer (some ⟨N, 0, none⟩)) rfl)) (fun _ => D246) ?_
            refine d_pure (i := 11) rfl (by kernel_rfl) (np_blk (np_then (np_blk (np_then (np_blk (np_then (np_blk (np_then (np_then (np_blk (np_then np_body))))))))))) rfl (fun _ => (x_nilCheck rfl)) (fun _ => D246) ?_
            refine d_pure (i := 12) rfl (by kernel_rfl) (np_blk (np_then (np_blk (np_then (np_blk (np_then (np_blk (np_then (np_then (np_blk (np_then np_body))))))))))) rfl (fun _ => (x_fieldAddr (b := N) (o := 0) fo_28_0 rfl)) (fun _ => D246) ?_
            refine d_load (i := 13) rfl (by kernel_rfl) (np_blk (np_then (np_blk (np_then (np_blk (np_then (np_blk (np_then (np_then (np_blk (np_then np_body))))))))))) rfl (by kernel_rfl) rfl (fun x hS => (x_load (v := .slice (some ⟨rj, oj, none⟩) r cj) kind_26 rfl ((hNj.fr hS (fun h => by have h1 := hfrv _ h; omega)).cell rfl))) D246 ?_
            refine d_pure (i := 14) rfl (by kernel_rfl) (np_blk (np_then (np_blk (np_then (np_blk (np_then (np_blk (np_then (np_then (np_blk (np_then np_body))))))))))) rfl (fun _ => (x_sliceLo (l := 1) es_26 rfl rfl (by first | rfl | omega) (by omega))) (fun _ => D246) ?_
            refine d_force (i := 8) rfl (by kernel_rfl) ?_
            have hB247 := hNj.fr F244 (fun f => f)
            obtain ⟨gl, hgl⟩ : ∃ n, w245.heap.size = n := ⟨_, rfl⟩
            have ne_N_gl : N ≠ gl := by have := hB247.lt; omega
            refine r_lit (vs := [.agg #[.int .i64 ((lp.getD j fl0).1.num), .int .i64 ((lp.getD j fl0).1.frm), .int .i64 ((lp.getD j fl0).1.dst), .int .i64 ((lp.getD j fl0).1.due), (lp.getD j fl0).2]]) (l := [.int .i64 ((lp.getD j fl0).1.num), .int .i64 ((lp.getD j fl0).1.frm), .int .i64 ((lp.getD j fl0).1.dst), .int .i64 ((lp.getD j fl0).1.due), (lp.getD j fl0).2]) rfl gl hgl ei_26 (.inr ⟨_, rfl⟩) rfl rfl (by intro v hv; simp only [List.mem_cons, List.not_mem_nil, or_false] at hv; rcases hv with rfl <;> rfl) rfl (by decide) ?_
            intro w251 F248 z249 hB250
            have sD252 := F248.size
            have D252 : Fr (fun b => (Value.slice Av j cv).ownBlock = some b) w241 w251 := D246.trans F248 (fun i hi h => (by first | exact h.elim | omega | (simp only [Value.ownBlock, Option.some.injEq] at h; omega) | (have h2 := h; simp at h2; omega) | exact h))
            refine d_next (fun _ => D252) ?_
            refine d_force (i := 9) rfl (by kernel_rfl) ?_
            have hR253 := hOvt.fr F244 (fun _ _ f => f)
            have hR254 := hR253.fr F248 (fun _ _ f => f)
            have := F13.size
            have := F17.size
            have := F30.size
            have := FD.size
            have := F244.size
            have := F248.size
            refine r_append rfl rfl ei_26 rfl (by decide) (v := .slice Av j cv) (u := .slice (some ⟨gl, 0, none⟩) 1 1) rfl rfl hR254 (Own.of_blk (l := FC (lp.getD j fl0)) hB250 5 1 rfl (by decide)).rd (by simp only [FC, List.mem_cons, List.not_mem_nil, or_false]; rintro u (rfl | rfl | rfl | rfl | rfl) <;> first | rfl | exact hqb.1.one) (by unfold maxLen; omega) (by omega) ?_
            intro v255 w260 hO256 F257 hat258 hnil259
            have hfrn : ∀ b, (v255).ownBlock = some b → w31.heap.size ≤ b := fun b hb => (by rcases hat258 with e | e; (rw [e] at hb; exact hfrv b hb); (rw [e] at hb; injection hb with hb; omega))
            rw [show FC (lp.getD j fl0) = encL FC [(lp.getD j fl0)] from by simp [encL], ← encL_append, ← take_snoc hjl] at hO256
            obtain ⟨An, cn, hne, _⟩ := hO256.rd.form
            subst hne
            have sD261 := F257.size
            have D261 : Fr (fun b => (Value.slice Av j cv).ownBlock = some b) w241 w260 := D252.trans F257 (fun i hi h => (by exact h))
            refine d_next (fun _ => D261) ?_
            refine d_pure (i := 15) rfl (by kernel_rfl) (np_blk (np_then (np_blk (np_then (np_blk (np_then (np_blk (np_then (np_then (np_blk (np_then np_body))))))))))) rfl (fun _ => (x_assign (v := .slice An (j + 1) cn) rfl)) (fun _ => D261) ?_
            refine d_pure (i := 16) rfl (by kernel_rfl) (np_blk (np_then (np_blk (np_then (np_blk (np_then (np_blk (np_then (np_then (np_blk (np_then np_body))))))))))) rfl (fun _ => (x_nilCheck rfl)) (fun _ => D261) ?_
            refine d_pure (i := 17) rfl (by kernel_rfl) (np_blk (np_then (np_blk (np_then (np_blk (np_then (np_blk (np_then (np_then (np_blk (np_then np_body))))))))))) rfl (fun _ => (x_fieldAddr (b := N) (o := 0) fo_28_0 rfl)) (fun _ => D261) ?_
            refine d_force (i := 18) rfl (by kernel_rfl) ?_
            have hB262 := hB247.fr F248 (fun f => f)
            have hB263 := hB262.fr F257 (fun h => by have h1 := hfrv _ h; omega)
            refine r_store (v := .slice (subA 5 1 cj (some ⟨rj, oj, none⟩)) (r - 1) (cj - 1)) (vs := [.slice (subA 5 1 cj (some ⟨rj, oj, none⟩)) (r - 1) (cj - 1)]) (l' := [.slice (subA 5 1 cj (some ⟨rj, oj, none⟩)) (r - 1) (cj - 1), .int .i64 sent, .int .i64 lost, .int .i64 (mst : Int)]) rfl rfl size_26 rfl rfl rfl rfl hB263 (Nat.le_of_ble_eq_true rfl) rfl ?_
            intro w267 F264 z265 hB266
            refine d_next (fun hx => absurd hx (by decide)) ?_
            refine d_done (by kernel_rfl) ?_
            refine inBlk_n ?_
            refine thenW_n ?_
            have hR268 := hO256.fr F264 (fun b hb h => by have h1 := hfrn b hb; have h2 : b = N := h; omega)
            have := FD.size
            have := F244.size
            have := F248.size
            have := F257.size
            have := F264.size
            have := F244.size
            have := F248.size
            have := F257.size
            have := F264.size
            have hF39 := (((((Fr.refl (fun b => b = N ∨ (Value.slice Av j cv).ownBlock = some b) _).trans F244 (fun j hj h => h.elim)).trans F248 (fun j hj h => h.elim)).trans F257 (fun j hj h => (.inr h))).trans F264 (fun j hj h => (.inl h)))
            have hRn := (hRj39.fr hF39 (fun b hb h => by have h1 := hPj b hb; rcases h with h | h; (exact h1.2.1 h); (have h3 := hfrv b h; omega))).sub 1 r (by omega) (Nat.le_refl _) cj (by obtain ⟨_, _, e, h⟩ := hRj39.form; injection e with _ _ e3 <;> omega)
            have hdn : ((encL FC (lp.drop j)).drop (1 * 5)).take ((r - 1) * 5) = encL FC (lp.drop (j + 1)) := by rw [encL_drop FC_len, List.drop_drop, List.take_of_length_le (by rw [encL_length FC_len, List.length_drop]; omega)]
            rw [hdn] at hRn
            exact ⟨_, (by omega), j + 1, r - 1, .slice An (j + 1) cn, subA 5 1 cj (some ⟨rj, oj, none⟩), cj - 1, _, rfl, ((ovl_cons (ovl_cons (ovl_cons (ovl_cons (ovl_cons (ovl_cons (ovl_cons (ovl_cons (ovl_cons (ovl_cons (ovl_cons (ovl_cons (ovl_nil _) rfl) rfl) rfl) rfl) rfl) rfl) rfl) rfl) rfl) rfl) rfl) rfl)).symm, ((((((Fr.refl (fun b => b = N) _).trans FD (fun j hj h => h)).trans F244 (fun j hj h => h.elim)).trans F248 (fun j hj h => h.elim)).trans F257 (fun j hj h => (by have h1 := hfrv _ h; omega))).trans F264 (fun j hj h => h)), by omega, hB266, hRn, (fun b hb => hPj b (by rw [subA_block 5 1 cj (some ⟨rj, oj, none⟩) (r - 1) (cj - 1) r cj] at hb; exact hb)), hR268, hfrn, (fun i hi2 => (by rcases Nat.lt_succ_iff_lt_or_eq.1 hi2 with h | h; exact hdj i h; subst h; exact Int.not_lt.2 (by omega)))⟩
           ·skip
            refine W_exit ?_
            refine thenW_x ?_
            refine thenW_x ?_
            refine inBlk_xs ?_
            refine thenW_n ?_
            refine W_seq ?_
            by_cases hcs269 : due < 0
            ·skip
             have := F13.size
             have := F17.size
             have := F30.size
             have := FD.size
             have hP40 := hPW.re (l' := lp.drop j) FD hNj (by rw [List.length_drop]; omega) hRj (fun b hb => ⟨.inl (hPj b hb).1, (hPj b hb).2.1, by have := (hPj b hb).2.2; omega⟩) (fun p hp => .inr ⟨p, List.mem_of_mem_drop hp, rfl, rfl⟩)
             have hN40 := ((hI.net.fr hFW (fun _ _ _ s => s)).mono (K' := shrink K w31) (fun b hlt hb => ⟨hb, hlt⟩)).fr FD (fun b hb _ h => hPW.home (by have h2 : b = N := h; exact h2 ▸ hb.1))
             refine W_region ?_
             refine r_val rfl (x_move (v := .pointer (some ⟨B, 0, none⟩)) rfl) ?_
             refine r_val rfl (x_move (v := .int .i64 due) rfl) ?_
             refine r_call rfl (c13 (vs := [.pointer (some ⟨B, 0, none⟩), .int .i64 due]) rfl) (netDue_no B due w241 (by omega)) ?_
             rintro _ w271 ⟨rfl, F270⟩
             refine ⟨_, rfl, ?_⟩
             refine r_val rfl (x_move (v := .tuple #[.slice none 0 0, .int .i64 1]) rfl) ?_
             refine r_val rfl (x_extract (v := .slice none 0 0) rfl rfl) ?_
             refine r_val rfl (x_extract (v := .int .i64 1) rfl rfl) ?_
             refine r_val rfl (x_assign (v := .slice none 0 0) rfl) ?_
             refine r_val rfl (x_assign (v := .int .i64 1) rfl) ?_
             refine RW_nil ?_
             refine thenW_n ?_
             refine W_region ?_
             refine r_val rfl (x_move (v := .int .i64 due) rfl) ?_
             refine r_val rfl (x_lss (a := due) (b := 0) rfl rfl) ?_
             refine r_val rfl (x_move (v := .bool (decide (due < 0))) rfl) ?_
             refine r_yes (t := 255) rfl rfl rfl (decide_eq_true hcs269) ?_
             refine r_val rfl (x_move (v := .int .i64 1) rfl) ?_
             refine r_yes (t := 255) rfl rfl rfl (decide_eq_true hcs269) ?_
             refine r_val rfl (x_as (u := .bool true) (x_eql (a := 1) (b := 1) rfl rfl) (congrArg Value.bool (decide_eq_true rfl))) ?_
             refine r_val rfl (x_pickT (b := decide (due < 0)) (v := .bool true) rfl (decide_eq_true hcs269) rfl) ?_
             refine r_val rfl (x_move (v := .bool true) rfl) ?_
             refine r_yes (t := 259) rfl rfl rfl rfl ?_
             refine r_val rfl (x_move (v := .slice none 0 0) rfl) ?_
             refine r_yes (t := 259) rfl rfl rfl rfl ?_
             refine r_val rfl (x_len (n := 0) ul_26 rfl) ?_
             refine r_yes (t := 259) rfl rfl rfl rfl ?_
             refine r_val rfl (x_as (u := .bool true) (x_eql (a := 0) (b := 0) rfl rfl) (congrArg Value.bool (decide_eq_true rfl))) ?_
             refine r_val rfl (x_pickT (b := true) (v := .bool true) rfl rfl rfl) ?_
             refine r_val rfl (x_move (v := .bool true) rfl) ?_
             refine r_no (t := 264) rfl rfl rfl rfl ?_
             refine r_no (t := 264) rfl rfl rfl rfl ?_
             refine r_no (t := 264) rfl rfl rfl rfl ?_
             refine r_noU (t := 267) rfl rfl rfl ?_
             refine r_noU (t := 267) rfl rfl rfl ?_
             refine r_no (t := 264) rfl rfl rfl rfl ?_
             refine r_no (t := 264) rfl rfl rfl rfl ?_
             refine r_noU (t := 271) rfl rfl rfl ?_
             refine r_noU (t := 271) rfl rfl rfl ?_
             refine r_noU (t := 271) rfl rfl rfl ?_
             refine r_no (t := 264) rfl rfl rfl rfl ?_
             refine r_val rfl (x_pickT (b := true) (v := .bool true) rfl rfl rfl) ?_
             refine r_val rfl (x_assign (v := .bool true) rfl) ?_
             have := F13.size
             have := F17.size
             have := F30.size
             have := FD.size
             have := F270.size
             have := F270.size
             have hj0 : j = 0 := by
               rcases Nat.eq_zero_or_pos j with h | h
               · exact h
               · have h1 := hdj 0 h
                 have h2 := same_at hI.same 0 (by omega)
                 have h3 := hI.small (l.getD 0 fl0) (getD_mem (show 0 < l.length by omega))
                 rw [h2] at h1
                 omega
             have hF41 := ((Fr.refl No _).trans F270 (fun j hj h => h.elim))
             have hyK3 : ∀ b, b < w.heap.size → ¬ shrink K w31 b := fun b h1 h2 => hyK b h1 h2.1
             have hI3 : Inv w271 (shrink K w31) B N many mst sent lost l (lp.drop j) (k + 1) := ⟨hN40.fr hF41 (fun _ _ _ s => s), hP40.no hF41, (by rw [hj0, List.drop_zero]; exact hI.same), ⟨hI.cs.1, by have := hI.cs.2; omega⟩, ⟨hI.cl.1, by have := hI.cl.2; omega⟩, (by have := hI.len; omega), hI.small⟩
             have := Fw.size
             have := F13.size
             have := F17.size
             have := F30.size
             have := FD.size
             have := F270.size
             refine RW_nil ?_
             refine inBlk_n ?_
             refine thenW_n ?_
             exact ⟨_, _, _, _, _, _, ((ovl_cons (ovl_cons (ovl_cons (ovl_cons (ovl_cons (ovl_cons (ovl_nil _) rfl) rfl) rfl) rfl) rfl) rfl)).symm, (((((((Fr.refl No _).trans Fw (fun j hj h => h.elim)).trans F13 (fun j hj h => h.elim)).trans F17 (fun j hj h => (by have h2 : j = ab := h; omega))).trans F30 (fun j hj h => h.elim)).trans FD (fun j hj h => (by have h2 : j = N := h; omega))).trans F270 (fun j hj h => h.elim)), hyK3, hI3⟩
            ·skip
             have := F13.size
             have := F17.size
             have := F30.size
             have := FD.size
             have hP40 := hPW.re (l' := lp.drop j) FD hNj (by rw [List.length_drop]; omega) hRj (fun b hb => ⟨.inl (hPj b hb).1, (hPj b hb).2.1, by have := (hPj b hb).2.2; omega⟩) (fun p hp => .inr ⟨p, List.mem_of_mem_drop hp, rfl, rfl⟩)
             have hN40 := ((hI.net.fr hFW (fun _ _ _ s => s)).mono (K' := shrink K w31) (fun b hlt hb => ⟨hb, hlt⟩)).fr FD (fun b hb _ h => hPW.home (by have h2 : b = N := h; exact h2 ▸ hb.1))
             refine W_region ?_
             refine r_val rfl (x_move (v := .pointer (some ⟨B, 0, none⟩)) rfl) ?_
             refine r_val rfl (x_move (v := .int .i64 due) rfl) ?_
             refine r_call rfl (c13 (vs := [.pointer (some ⟨B, 0, none⟩), .int .i64 due]) rfl) (netDue hN40 (by have := hI.len; omega) ⟨hI.cs.1, by have := hI.cs.2; omega⟩ ⟨hI.cl.1, by have := hI.cl.2; omega⟩ (by omega) due (by omega)) ?_
             rintro _ w272 ⟨v5, k5, rfl, hk5, hlo5, hhi5, hO5, hv5, hN5, hFL, hby5⟩
             obtain ⟨A5, c5, hve5, _⟩ := hO5.rd.form
             subst hve5
             refine ⟨_, rfl, ?_⟩
             refine r_val rfl (x_move (v := .tuple #[.slice A5 k5 c5, .int .i64 0]) rfl) ?_
             refine r_val rfl (x_extract (v := .slice A5 k5 c5) rfl rfl) ?_
             refine r_val rfl (x_extract (v := .int .i64 0) rfl rfl) ?_
             refine r_val rfl (x_assign (v := .slice A5 k5 c5) rfl) ?_
             refine r_val rfl (x_assign (v := .int .i64 0) rfl) ?_
             refine RW_nil ?_
             refine thenW_n ?_
             have hjk : ¬ j < k5 := fun h => by
               have h1 := hlo5 j h
               have h2 := same_at hI.same j (by omega)
               rw [← h2] at h1
               omega
             have hkj2 : ¬ k5 < j := fun h => by
               have h1 := hdj k5 h
               have h2 := same_at hI.same k5 (by omega)
               rw [h2] at h1
               exact h1 (hhi5 (by omega))
             obtain rfl : k5 = j := by omega
             refine W_region ?_
             refine r_val rfl (x_move (v := .int .i64 due) rfl) ?_
             refine r_val rfl (x_lss (a := due) (b := 0) rfl rfl) ?_
             refine r_val rfl (x_move (v := .bool (decide (due < 0))) rfl) ?_
             refine r_no (t := 255) rfl rfl rfl (decide_eq_false hcs269) ?_
             refine r_no (t := 255) rfl rfl rfl (decide_eq_false hcs269) ?_
             refine r_val rfl (x_pickF (b := decide (due < 0)) (v := .bool false) rfl (decide_eq_false hcs269) rfl) ?_
             refine r_val rfl (x_move (v := .bool false) rfl) ?_
             refine r_no (t := 259) rfl rfl rfl rfl ?_
             refine r_no (t := 259) rfl rfl rfl rfl ?_
             refine r_no (t := 259) rfl rfl rfl rfl ?_
             refine r_val rfl (x_pickF (b := false) (v := .bool false) rfl rfl rfl) ?_
             refine r_val rfl (x_move (v := .bool false) rfl) ?_
             refine r_yes (t := 264) rfl rfl rfl rfl ?_
             refine r_val rfl (x_move (v := .int .i64 due) rfl) ?_
             refine r_yes (t := 264) rfl rfl rfl rfl ?_
             refine r_val rfl (x_as (u := .bool true) (x_geq (a := due) (b := 0) rfl rfl) (congrArg Value.bool (decide_eq_true (by omega)))) ?_
             refine r_yes (t := 264) rfl rfl rfl rfl ?_
             refine r_val rfl (x_move (v := .bool true) rfl) ?_
             refine r_yes (t := 267) rfl rfl rfl rfl ?_
             refine r_val rfl (x_move (v := .int .i64 0) rfl) ?_
             refine r_yes (t := 267) rfl rfl rfl rfl ?_
             refine r_val rfl (x_as (u := .bool true) (x_eql (a := 0) (b := 0) rfl rfl) (congrArg Value.bool (decide_eq_true rfl))) ?_
             refine r_yes (t := 264) rfl rfl rfl rfl ?_
             refine r_val rfl (x_pickT (b := true) (v := .bool true) rfl rfl rfl) ?_
             refine r_yes (t := 264) rfl rfl rfl rfl ?_
             refine r_val rfl (x_move (v := .bool true) rfl) ?_
             refine r_yes (t := 271) rfl rfl rfl rfl ?_
             refine r_val rfl (x_move (v := .slice A5 k5 c5) rfl) ?_
             refine r_yes (t := 271) rfl rfl rfl rfl ?_
             refine r_val rfl (x_move (v := .slice Av k5 cv) rfl) ?_
             refine r_yes (t := 271) rfl rfl rfl rfl ?_
             have hmt : ∀ p ∈ lp.take k5, p ∈ lp := fun p hp => List.mem_of_mem_take hp
             have hOv5 := hOvt.fr hFL (fun b hb h => by have h1 := hfrv b hb; have h2 := h.2; omega)
             have hbp5 := fun (p : Fl × Value) (hp : p ∈ lp.take k5) => ((hPW.bytes p (hmt p hp)).1.fr FD (fun b h1 h2 => ((hPW.bytes p (hmt p hp)).2 b h1).2.1 h2)).fr hFL (fun b h1 h2 => ((hPW.bytes p (hmt p hp)).2 b h1).1 h2.1)
             refine r_call rfl (c14 (vs := [.slice A5 k5 c5, .slice Av k5 cv]) rfl) (roostWay_eq A5 Av k5 c5 cv (l.take k5) (lp.take k5) w272 hO5.rd hOv5.rd (by rw [List.length_take]; omega) (by rw [List.length_take]; omega) (by have := hI.len; omega) (by rw [List.map_take, List.map_take, hI.same]) (fun p hp => (hby5 p hp).rd) hbp5) ?_
             rintro _ w274 ⟨rfl, F273⟩
             refine ⟨_, rfl, ?_⟩
             refine r_yes (t := 264) rfl rfl rfl rfl ?_
             refine r_val rfl (x_pickT (b := true) (v := .bool true) rfl rfl rfl) ?_
             refine r_val rfl (x_pickF (b := false) (v := .bool true) rfl rfl rfl) ?_
             refine r_val rfl (x_assign (v := .bool true) rfl) ?_
             have := F13.size
             have := F17.size
             have := F30.size
             have := FD.size
             have := hFL.size
             have := F273.size
             have hyK3 : ∀ b, b < w.heap.size → ¬ grow (shrink K w31) w241 b := fun b h1 h2 => h2.elim (fun h => hyK b h1 h.1) (fun h => by omega)
             have hI3 : Inv w274 (grow (shrink K w31) w241) B N many mst sent lost (l.drop k5) (lp.drop k5) (k + 1) := ⟨hN5.fr F273 (fun _ _ _ s => s), (hP40.net hFL).no F273, (by rw [List.map_drop, List.map_drop, hI.same]), ⟨hI.cs.1, by have := hI.cs.2; omega⟩, ⟨hI.cl.1, by have := hI.cl.2; omega⟩, (by have := hI.len; rw [List.length_drop]; omega), fun p hp => hI.small p (List.mem_of_mem_drop hp)⟩
             have := Fw.size
             have := F13.size
             have := F17.size
             have := F30.size
             have := FD.size
             have := hFL.size
             have := F273.size
             refine RW_nil ?_
             refine inBlk_n ?_
             refine thenW_n ?_
             exact ⟨_, _, _, _, _, _, ((ovl_cons (ovl_cons (ovl_cons (ovl_cons (ovl_cons (ovl_cons (ovl_nil _) rfl) rfl) rfl) rfl) rfl) rfl)).symm, ((((((((Fr.refl No _).trans Fw (fun j hj h => h.elim)).trans F13 (fun j hj h => h.elim)).trans F17 (fun j hj h => (by have h2 : j = ab := h; omega))).trans F30 (fun j hj h => h.elim)).trans FD (fun j hj h => (by have h2 : j = N := h; omega))).trans hFL (fun j hj h => (hyK j hj (shr_in h)))).trans F273 (fun j hj h => h.elim)), hyK3, hI3⟩
          ·skip
           refine r_no (t := 219) rfl rfl rfl (decide_eq_false hc242) ?_
           refine r_no (t := 219) rfl rfl rfl (decide_eq_false hc242) ?_
           refine r_no (t := 219) rfl rfl rfl (decide_eq_false hc242) ?_
           refine r_no (t := 219) rfl rfl rfl (decide_eq_false hc242) ?_
           refine r_no (t := 219) rfl rfl rfl (decide_eq_false hc242) ?_
           refine r_no (t := 219) rfl rfl rfl (decide_eq_false hc242) ?_
           refine r_no (t := 219) rfl rfl rfl (decide_eq_false hc242) ?_
           refine r_no (t := 219) rfl rfl rfl (decide_eq_false hc242) ?_
           refine r_no (t := 219) rfl rfl rfl (decide_eq_false hc242) ?_
           refine r_val rfl (x_pickF (b := decide (0 < (r : Int))) (v := .bool false) rfl (decide_eq_false hc242) rfl) ?_
           refine RW_nil ?_
           refine thenW_n ?_
           refine W_condF (b := false) rfl rfl rfl ?_
           refine W_exit ?_
           refine thenW_x ?_
           refine thenW_x ?_
           refine inBlk_xs ?_
           refine thenW_n ?_
           refine W_seq ?_
           by_cases hcs275 : due < 0
           ·skip
            have := F13.size
            have := F17.size
            have := F30.size
            have := FD.size
            have hP40 := hPW.re (l' := lp.drop j) FD hNj (by rw [List.length_drop]; omega) hRj (fun b hb => ⟨.inl (hPj b hb).1, (hPj b hb).2.1, by have := (hPj b hb).2.2; omega⟩) (fun p hp => .inr ⟨p, List.mem_of_mem_drop hp, rfl, rfl⟩)
            have hN40 := ((hI.net.fr hFW (fun _ _ _ s => s)).mono (K' := shrink K w31) (fun b hlt hb => ⟨hb, hlt⟩)).fr FD (fun b hb _ h => hPW.home (by have h2 : b = N := h; exact h2 ▸ hb.1))
            refine W_region ?_
            refine r_val rfl (x_move (v := .pointer (some ⟨B, 0, none⟩)) rfl) ?_
            refine r_val rfl (x_move (v := .int .i64 due) rfl) ?_
            refine r_call rfl (c13 (vs := [.pointer (some ⟨B, 0, none⟩), .int .i64 due]) rfl) (netDue_no B due w241 (by omega)) ?_
            rintro _ w277 ⟨rfl, F276⟩
            refine ⟨_, rfl, ?_⟩
            refine r_val rfl (x_move (v := .tuple #[.slice none 0 0, .int .i64 1]) rfl) ?_
            refine r_val rfl (x_extract (v := .slice none 0 0) rfl rfl) ?_
            refine r_val rfl (x_extract (v := .int .i64 1) rfl rfl) ?_
            refine r_val rfl (x_assign (v := .slice none 0 0) rfl) ?_
            refine r_val rfl (x_assign (v := .int .i64 1) rfl) ?_
            refine RW_nil ?_
            refine thenW_n ?_
            refine W_region ?_
            refine r_val rfl (x_move (v := .int .i64 due) rfl) ?_
            refine r_val rfl (x_lss (a := due) (b := 0) rfl rfl) ?_
            refine r_val rfl (x_move (v := .bool (decide (due < 0))) rfl) ?_
            refine r_yes (t := 255) rfl rfl rfl (decide_eq_true hcs275) ?_
            refine r_val rfl (x_move (v := .int .i64 1) rfl) ?_
            refine r_yes (t := 255) rfl rfl rfl (decide_eq_true hcs275) ?_
            refine r_val rfl (x_as (u := .bool true) (x_eql (a := 1) (b := 1) rfl rfl) (congrArg Value.bool (decide_eq_true rfl))) ?_
            refine r_val rfl (x_pickT (b := decide (due < 0)) (v := .bool true) rfl (decide_eq_true hcs275) rfl) ?_
            refine r_val rfl (x_move (v := .bool true) rfl) ?_
            refine r_yes (t := 259) rfl rfl rfl rfl ?_
            refine r_val rfl (x_move (v := .slice none 0 0) rfl) ?_
            refine r_yes (t := 259) rfl rfl rfl rfl ?_
            refine r_val rfl (x_len (n := 0) ul_26 rfl) ?_
            refine r_yes (t := 259) rfl rfl rfl rfl ?_
            refine r_val rfl (x_as (u := .bool true) (x_eql (a := 0) (b := 0) rfl rfl) (congrArg Value.bool (decide_eq_true rfl))) ?_
            refine r_val rfl (x_pickT (b := true) (v := .bool true) rfl rfl rfl) ?_
            refine r_val rfl (x_move (v := .bool true) rfl) ?_
            refine r_no (t := 264) rfl rfl rfl rfl ?_
            refine r_no (t := 264) rfl rfl rfl rfl ?_
            refine r_no (t := 264) rfl rfl rfl rfl ?_
            refine r_noU (t := 267) rfl rfl rfl ?_
            refine r_noU (t := 267) rfl rfl rfl ?_
            refine r_no (t := 264) rfl rfl rfl rfl ?_
            refine r_no (t := 264) rfl rfl rfl rfl ?_
            refine r_noU (t := 271) rfl rfl rfl ?_
            refine r_noU (t := 271) rfl rfl rfl ?_
            refine r_noU (t := 271) rfl rfl rfl ?_
            refine r_no (t := 264) rfl rfl rfl rfl ?_
            refine r_val rfl (x_pickT (b := true) (v := .bool true) rfl rfl rfl) ?_
            refine r_val rfl (x_assign (v := .bool true) rfl) ?_
            have := F13.size
            have := F17.size
            have := F30.size
            have := FD.size
            have := F276.size
            have := F276.size
            have hj0 : j = 0 := by
              rcases Nat.eq_zero_or_pos j with h | h
              · exact h
              · have h1 := hdj 0 h
                have h2 := same_at hI.same 0 (by omega)
                have h3 := hI.small (l.getD 0 fl0) (getD_mem (show 0 < l.length by omega))
                rw [h2] at h1
                omega
            have hF41 := ((Fr.refl No _).trans F276 (fun j hj h => h.elim))
            have hyK3 : ∀ b, b < w.heap.size → ¬ shrink K w31 b := fun b h1 h2 => hyK b h1 h2.1
            have hI3 : Inv w277 (shrink K w31) B N many mst sent lost l (lp.drop j) (k + 1) := ⟨hN40.fr hF41 (fun _ _ _ s => s), hP40.no hF41, (by rw [hj0, List.drop_zero]; exact hI.same), ⟨hI.cs.1, by have := hI.cs.2; omega⟩, ⟨hI.cl.1, by have := hI.cl.2; omega⟩, (by have := hI.len; omega), hI.small⟩
            have := Fw.size
            have := F13.size
            have := F17.size
            have := F30.size
            have := FD.size
            have := F276.size
            refine RW_nil ?_
            refine inBlk_n ?_
            refine thenW_n ?_
            exact ⟨_, _, _, _, _, _, ((ovl_cons (ovl_cons (ovl_cons (ovl_cons (ovl_cons (ovl_cons (ovl_nil _) rfl) rfl) rfl) rfl) rfl) rfl)).symm, (((((((Fr.refl No _).trans Fw (fun j hj h => h.elim)).trans F13 (fun j hj h => h.elim)).trans F17 (fun j hj h => (by have h2 : j = ab := h; omega))).trans F30 (fun j hj h => h.elim)).trans FD (fun j hj h => (by have h2 : j = N := h; omega))).trans F276 (fun j hj h => h.elim)), hyK3, hI3⟩
           ·skip
            have := F13.size
            have := F17.size
            have := F30.size
            have := FD.size
            have hP40 := hPW.re (l' := lp.drop j) FD hNj (by rw [List.length_drop]; omega) hRj (fun b hb => ⟨.inl (hPj b hb).1, (hPj b hb).2.1, by have := (hPj b hb).2.2; omega⟩) (fun p hp => .inr ⟨p, List.mem_of_mem_drop hp, rfl, rfl⟩)
            have hN40 := ((hI.net.fr hFW (fun _ _ _ s => s)).mono (K' := shrink K w31) (fun b hlt hb => ⟨hb, hlt⟩)).fr FD (fun b hb _ h => hPW.home (by have h2 : b = N := h; exact h2 ▸ hb.1))
            refine W_region ?_
            refine r_val rfl (x_move (v := .pointer (some ⟨B, 0, none⟩)) rfl) ?_
            refine r_val rfl (x_move (v := .int .i64 due) rfl) ?_
            refine r_call rfl (c13 (vs := [.pointer (some ⟨B, 0, none⟩), .int .i64 due]) rfl) (netDue hN40 (by have := hI.len; omega) ⟨hI.cs.1, by have := hI.cs.2; omega⟩ ⟨hI.cl.1, by have := hI.cl.2; omega⟩ (by omega) due (by omega)) ?_
            rintro _ w278 ⟨v5, k5, rfl, hk5, hlo5, hhi5, hO5, hv5, hN5, hFL, hby5⟩
            obtain ⟨A5, c5, hve5, _⟩ := hO5.rd.form
            subst hve5
            refine ⟨_, rfl, ?_⟩
            refine r_val rfl (x_move (v := .tuple #[.slice A5 k5 c5, .int .i64 0]) rfl) ?_
            refine r_val rfl (x_extract (v := .slice A5 k5 c5) rfl rfl) ?_
            refine r_val rfl (x_extract (v := .int .i64 0) rfl rfl) ?_
            refine r_val rfl (x_assign (v := .slice A5 k5 c5) rfl) ?_
            refine r_val rfl (x_assign (v := .int .i64 0) rfl) ?_
            refine RW_nil ?_
            refine thenW_n ?_
            have hjk : ¬ j < k5 := fun h => by
              have h1 := hlo5 j h
              have h2 := same_at hI.same j (by omega)
              rw [← h2] at h1
              omega
            have hkj2 : ¬ k5 < j := fun h => by
              have h1 := hdj k5 h
              have h2 := same_at hI.same k5 (by omega)
              rw [h2] at h1
              exact h1 (hhi5 (by omega))
            obtain rfl : k5 = j := by omega
            refine W_region ?_
            refine r_val rfl (x_move (v := .int .i64 due) rfl) ?_
            refine r_val rfl (x_lss (a := due) (b := 0) rfl rfl) ?_
            refine r_val rfl (x_move (v := .bool (decide (due < 0))) rfl) ?_
            refine r_no (t := 255) rfl rfl rfl (decide_eq_false hcs275) ?_
            refine r_no (t := 255) rfl rfl rfl (decide_eq_false hcs275) ?_
            refine r_val rfl (x_pickF (b := decide (due < 0)) (v := .bool false) rfl (decide_eq_false hcs275) rfl) ?_
            refine r_val rfl (x_move (v := .bool false) rfl) ?_
            refine r_no (t := 259) rfl rfl rfl rfl ?_
            refine r_no (t := 259) rfl rfl rfl rfl ?_
            refine r_no (t := 259) rfl rfl rfl rfl ?_
            refine r_val rfl (x_pickF (b := false) (v := .bool false) rfl rfl rfl) ?_
            refine r_val rfl (x_move (v := .bool false) rfl) ?_
            refine r_yes (t := 264) rfl rfl rfl rfl ?_
            refine r_val rfl (x_move (v := .int .i64 due) rfl) ?_
            refine r_yes (t := 264) rfl rfl rfl rfl ?_
            refine r_val rfl (x_as (u := .bool true) (x_geq (a := due) (b := 0) rfl rfl) (congrArg Value.bool (decide_eq_true (by omega)))) ?_
            refine r_yes (t := 264) rfl rfl rfl rfl ?_
            refine r_val rfl (x_move (v := .bool true) rfl) ?_
            refine r_yes (t := 267) rfl rfl rfl rfl ?_
            refine r_val rfl (x_move (v := .int .i64 0) rfl) ?_
            refine r_yes (t := 267) rfl rfl rfl rfl ?_
            refine r_val rfl (x_as (u := .bool true) (x_eql (a := 0) (b := 0) rfl rfl) (congrArg Value.bool (decide_eq_true rfl))) ?_
            refine r_yes (t := 264) rfl rfl rfl rfl ?_
            refine r_val rfl (x_pickT (b := true) (v := .bool true) rfl rfl rfl) ?_
            refine r_yes (t := 264) rfl rfl rfl rfl ?_
            refine r_val rfl (x_move (v := .bool true) rfl) ?_
            refine r_yes (t := 271) rfl rfl rfl rfl ?_
            refine r_val rfl (x_move (v := .slice A5 k5 c5) rfl) ?_
            refine r_yes (t := 271) rfl rfl rfl rfl ?_
            refine r_val rfl (x_move (v := .slice Av k5 cv) rfl) ?_
            refine r_yes (t := 271) rfl rfl rfl rfl ?_
            have hmt : ∀ p ∈ lp.take k5, p ∈ lp := fun p hp => List.mem_of_mem_take hp
            have hOv5 := hOvt.fr hFL (fun b hb h => by have h1 := hfrv b hb; have h2 := h.2; omega)
            have hbp5 := fun (p : Fl × Value) (hp : p ∈ lp.take k5) => ((hPW.bytes p (hmt p hp)).1.fr FD (fun b h1 h2 => ((hPW.bytes p (hmt p hp)).2 b h1).2.1 h2)).fr hFL (fun b h1 h2 => ((hPW.bytes p (hmt p hp)).2 b h1).1 h2.1)
            refine r_call rfl (c14 (vs := [.slice A5 k5 c5, .slice Av k5 cv]) rfl) (roostWay_eq A5 Av k5 c5 cv (l.take k5) (lp.take k5) w278 hO5.rd hOv5.rd (by rw [List.length_take]; omega) (by rw [List.length_take]; omega) (by have := hI.len; omega) (by rw [List.map_take, List.map_take, hI.same]) (fun p hp => (hby5 p hp).rd) hbp5) ?_
            rintro _ w280 ⟨rfl, F279⟩
            refine ⟨_, rfl, ?_⟩
            refine r_yes (t := 264) rfl rfl rfl rfl ?_
            refine r_val rfl (x_pickT (b := true) (v := .bool true) rfl rfl rfl) ?_
            refine r_val rfl (x_pickF (b := false) (v := .bool true) rfl rfl rfl) ?_
            refine r_val rfl (x_assign (v := .bool true) rfl) ?_
            have := F13.size
            have := F17.size
            have := F30.size
            have := FD.size
            have := hFL.size
            have := F279.size
            have hyK3 : ∀ b, b < w.heap.size → ¬ grow (shrink K w31) w241 b := fun b h1 h2 => h2.elim (fun h => hyK b h1 h.1) (fun h => by omega)
            have hI3 : Inv w280 (grow (shrink K w31) w241) B N many mst sent lost (l.drop k5) (lp.drop k5) (k + 1) := ⟨hN5.fr F279 (fun _ _ _ s => s), (hP40.net hFL).no F279, (by rw [List.map_drop, List.map_drop, hI.same]), ⟨hI.cs.1, by have := hI.cs.2; omega⟩, ⟨hI.cl.1, by have := hI.cl.2; omega⟩, (by have := hI.len; rw [List.length_drop]; omega), fun p hp => hI.small p (List.mem_of_mem_drop hp)⟩
            have := Fw.size
            have := F13.size
            have := F17.size
            have := F30.size
            have := FD.size
            have := hFL.size
            have := F279.size
            refine RW_nil ?_
            refine inBlk_n ?_
            refine thenW_n ?_
            exact ⟨_, _, _, _, _, _, ((ovl_cons (ovl_cons (ovl_cons (ovl_cons (ovl_cons (ovl_cons (ovl_nil _) rfl) rfl) rfl) rfl) rfl) rfl)).symm, ((((((((Fr.refl No _).trans Fw (fun j hj h => h.elim)).trans F13 (fun j hj h => h.elim)).trans F17 (fun j hj h => (by have h2 : j = ab := h; omega))).trans F30 (fun j hj h => h.elim)).trans FD (fun j hj h => (by have h2 : j = N := h; omega))).trans hFL (fun j hj h => (hyK j hj (shr_in h)))).trans F279 (fun j hj h => h.elim)), hyK3, hI3⟩
        ·skip
         refine W_seq ?_
         refine W_region ?_
         refine r_val rfl (x_eql (a := kd) (b := 5) rfl rfl) ?_
         refine r_val rfl (x_assign (v := .bool (decide (kd = 5))) rfl) ?_
         refine RW_nil ?_
         refine thenW_n ?_
         refine W_condD (p := kd = 5) rfl rfl (fun hc281 => ?_) (fun hc281 => ?_)
         ·skip
          refine W_seq ?_
          refine W_region ?_
          refine r_val rfl (x_assign (v := .int .i64 4) rfl) ?_
          refine RW_nil ?_
          refine thenW_n ?_
          refine W_seq ?_
          refine W_seq ?_
          refine W_region ?_
          refine r_val rfl (x_move (v := .bool isb) rfl) ?_
          refine RW_nil ?_
          refine thenW_n ?_
          refine W_cond (b := isb) rfl rfl (fun hc282 => ?_) (fun hc282 => ?_)
          ·skip
           refine W_seq ?_
           refine W_region ?_
           refine r_val rfl (x_assign (v := .int .i64 0) rfl) ?_
           refine RW_nil ?_
           refine thenW_n ?_
           have hin : 0 ≤ at_ ∧ at_ < (l.length : Int) := by have h1 := hc282; rw [his] at h1; exact of_decide_eq_true h1
           obtain ⟨i, rfl⟩ : ∃ i : Nat, at_ = (i : Int) := ⟨at_.toNat, by omega⟩
           have hi : i < l.length := by omega
           have := F13.size
           have := F17.size
           have := F30.size
           have hB283 := hB22.fr F30 (fun f => f)
           have hR284 := hR24.fr F30 (fun _ _ f => f)
           have hFr := ((((Fr.refl No _).trans F13 (fun j hj h => h.elim)).trans F17 (fun j hj h => (by have h2 : j = ab := h; omega))).trans F30 (fun j hj h => h.elim))
           have hPr := hI.pap.no hFr
           have hR4 := hR284
           have hN4 := hB283
           have lt_N := hN4.lt
           obtain ⟨_, _, eP, hncP⟩ := hR4.form
           injection eP with _ _ eP3
           subst eP3
           have hplen := hI.plen
           have lt_ab := (hB35).lt
           refine d_begin mo 19 (fun x => Fr No w31 x) ?_
           obtain ⟨w286, hw286⟩ : ∃ x, w31.drew = x := ⟨_, rfl⟩
           have F285 : Fr No w31 w286 := by rw [← hw286]; exact Fr.drew _ _
           have D287 : Fr No w31 w286 := Fr.of_No F285
           have sF285 := F285.size
           rw [hw286]
           refine d_pure (i := 0) rfl (by kernel_rfl) (np_then (np_blk (np_then (np_blk (np_then (np_then (np_blk (np_then np_body)))))))) rfl (fun _ => (x_move (v := .pointer (some ⟨N, 0, none⟩)) rfl)) (fun _ => D287) ?_
           refine d_pure (i := 2) rfl (by kernel_rfl) (np_then (np_blk (np_then (np_blk (np_then (np_then (np_blk (np_then np_body)))))))) rfl (fun _ => (x_move (v := .pointer (some ⟨N, 0, none⟩)) rfl)) (fun _ => D287) ?_
           refine d_pure (i := 3) rfl (by kernel_rfl) (np_then (np_blk (np_then (np_blk (np_then (np_then (np_blk (np_then np_body)))))))) rfl (fun _ => (x_nilCheck rfl)) (fun _ => D287) ?_
           refine d_pure (i := 4) rfl (by kernel_rfl) (np_then (np_blk (np_then (np_blk (np_then (np_then (np_blk (np_then np_body)))))))) rfl (fun _ => (x_fieldAddr (b := N) (o := 0) fo_28_0 rfl)) (fun _ => D287) ?_
           refine d_load (i := 5) rfl (by kernel_rfl) (np_then (np_blk (np_then (np_blk (np_then (np_then (np_blk (np_then np_body)))))))) rfl (by kernel_rfl) rfl (fun x hS => (x_load (v := .slice AP l.length cP) kind_26 rfl ((hB283.fr hS (fun f => f)).cell rfl))) D287 ?_
           refine d_pure (i := 6) rfl (by kernel_rfl) (np_then (np_blk (np_then (np_blk (np_then (np_then (np_blk (np_then np_body)))))))) rfl (fun _ => (x_move (v := .int .i64 (i : Int)) rfl)) (fun _ => D287) ?_
           refine d_pure (i := 7) rfl (by kernel_rfl) (np_then (np_blk (np_then (np_blk (np_then (np_then (np_blk (np_then np_body)))))))) rfl (fun _ => (x_sliceHi (h := i) es_26 rfl rfl (by first | rfl | omega) (by omega))) (fun _ => D287) ?_
           refine d_pure (i := 9) rfl (by kernel_rfl) (np_then (np_blk (np_then (np_blk (np_then (np_then (np_blk (np_then np_body)))))))) rfl (fun _ => (x_move (v := .pointer (some ⟨N, 0, none⟩)) rfl)) (fun _ => D287) ?_
           refine d_pure (i := 10) rfl (by kernel_rfl) (np_then (np_blk (np_then (np_blk (np_then (np_then (np_blk (np_then np_body)))))))) rfl (fun _ => (x_nilCheck rfl)) (fun _ => D287) ?_
           refine d_pure (i := 11) rfl (by kernel_rfl) (np_then (np_blk (np_then (np_blk (np_then (np_then (np_blk (np_then np_body)))))))) rfl (fun _ => (x_fieldAddr (b := N) (o := 0) fo_28_0 rfl)) (fun _ => D287) ?_
           refine d_load (i := 12) rfl (by kernel_rfl) (np_then (np_blk (np_then (np_blk (np_then (np_then (np_blk (np_then np_body)))))))) rfl (by kernel_rfl) rfl (fun x hS => (x_load (v := .slice AP l.length cP) kind_26 rfl ((hB283.fr hS (fun f => f)).cell rfl))) D287 ?_
           refine d_pure (i := 13) rfl (by kernel_rfl) (np_then (np_blk (np_then (np_blk (np_then (np_then (np_blk (np_then np_body)))))))) rfl (fun _ => (x_move (v := .int .i64 (i : Int)) rfl)) (fun _ => D287) ?_
           refine d_pure (i := 14) rfl (by kernel_rfl) (np_then (np_blk (np_then (np_blk (np_then (np_then (np_blk (np_then np_body)))))))) rfl (fun _ => (x_add64 (a := (i : Int)) (b := 1) rfl rfl (by omega))) (fun _ => D287) ?_
           refine d_pure (i := 15) rfl (by kernel_rfl) (np_then (np_blk (np_then (np_blk (np_then (np_then (np_blk (np_then np_body)))))))) rfl (fun _ => (x_sliceLo (l := i + 1) es_26 rfl rfl (by first | rfl | omega) (by omega))) (fun _ => D287) ?_
           refine d_force (i := 1) rfl (by kernel_rfl) ?_
           have hB288 := hB283.fr F285 (fun f => f)
           have hB289 := hB35.fr F285 (fun f => f)
           obtain ⟨g0, hg0⟩ : ∃ n, w286.heap.size = n := ⟨_, rfl⟩
           have ne_N_g0 : N ≠ g0 := by have := hB288.lt; omega
           have ne_ab_g0 : ab ≠ g0 := by have := hB289.lt; omega
           refine r_lit (vs := []) (l := []) rfl g0 hg0 ei_26 (.inr ⟨_, rfl⟩) rfl rfl (by simp) rfl (by decide) ?_
           intro w293 F290 z291 hB292
           have sD294 := F290.size
           have D294 : Fr No w31 w293 := D287.trans F290 (fun i hi h => (by first | exact h.elim | omega | (simp only [Value.ownBlock, Option.some.injEq] at h; omega) | (have h2 := h; simp at h2; omega) | exact h))
           refine d_next (fun _ => D294) ?_
           refine d_force (i := 8) rfl (by kernel_rfl) ?_
           have := F285.size
           have := F290.size
           have hq295 : ∀ b, (Value.slice (some ⟨g0, 0, none⟩) 0 0).ownBlock = some b → w31.heap.size ≤ b := fun b hb => (by have h1 : g0 = b := (by injection hb); omega)
           refine r_append rfl rfl ei_26 rfl (by decide) (v := .slice (some ⟨g0, 0, none⟩) 0 0) (u := .slice AP i cP) rfl rfl (Own.of_blk hB292 5 0 rfl (by decide)) ((hR4.fr D294 (fun _ _ f => f)).take i (by omega) cP (by omega)) (one_take (FC_one (fun p hp => (hPr.bytes p hp).1.one))) (by unfold maxLen; omega) (by omega) ?_
           intro v296 w302 hO297 F298 hat299 hnil300
           have hfr301 : ∀ b, (v296).ownBlock = some b → w31.heap.size ≤ b := fun b hb => (by rcases hat299 with e | e; (rw [e] at hb; exact hq295 b hb); (rw [e] at hb; injection hb with hb; omega))
           obtain ⟨A303, c304, he305, _⟩ := hO297.rd.form
           subst he305
           have sD306 := F298.size
           have D306 : Fr No w31 w302 := D294.trans F298 (fun i hi h => (by have h1 := hq295 i h; omega))
           refine d_next (fun _ => D306) ?_
           refine d_force (i := 16) rfl (by kernel_rfl) ?_
           have := F285.size
           have := F290.size
           have := F298.size
           refine r_append rfl rfl ei_26 rfl (by decide) (v := .slice A303 (0 + i) c304) (u := .slice (subA 5 (i + 1) cP AP) (l.length - (i + 1)) (cP - (i + 1))) rfl rfl hO297 ((hR4.fr D306 (fun _ _ f => f)).sub (i + 1) l.length (by omega) (Nat.le_refl _) cP hncP) (one_take (one_drop (FC_one (fun p hp => (hPr.bytes p hp).1.one)))) (by unfold maxLen; omega) (by omega) ?_
           intro v307 w313 hO308 F309 hat310 hnil311
           have hfr312 : ∀ b, (v307).ownBlock = some b → w31.heap.size ≤ b := fun b hb => (by rcases hat310 with e | e; (rw [e] at hb; exact hfr301 b hb); (rw [e] at hb; injection hb with hb; omega))
           obtain ⟨A314, c315, he316, _⟩ := hO308.rd.form
           subst he316
           have sD317 := F309.size
           have D317 : Fr No w31 w313 := D306.trans F309 (fun i hi h => (by have h1 := hfr301 i h; omega))
           refine d_next (fun _ => D317) ?_
           refine d_pure (i := 17) rfl (by kernel_rfl) (np_then (np_blk (np_then (np_blk (np_then (np_then (np_blk (np_then np_body)))))))) rfl (fun _ => (x_nilCheck rfl)) (fun _ => D317) ?_
           refine d_pure (i := 18) rfl (by kernel_rfl) (np_then (np_blk (np_then (np_blk (np_then (np_then (np_blk (np_then np_body)))))))) rfl (fun _ => (x_fieldAddr (b := N) (o := 0) fo_28_0 rfl)) (fun _ => D317) ?_
           refine d_force (i := 19) rfl (by kernel_rfl) ?_
           have hB318 := hB288.fr F290 (fun f => f)
           have hB319 := hB318.fr F298 (fun h => by have h1 := hq295 _ h; omega)
           have hB320 := hB319.fr F309 (fun h => by have h1 := hfr301 _ h; omega)
           refine r_store (v := .slice A314 (0 + i + (l.length - (i + 1))) c315) (vs := [.slice A314 (0 + i + (l.length - (i + 1))) c315]) (l' := [.slice A314 (0 + i + (l.length - (i + 1))) c315, .int .i64 sent, .int .i64 lost, .int .i64 (mst : Int)]) rfl rfl size_26 rfl rfl rfl rfl hB320 (Nat.le_of_ble_eq_true rfl) rfl ?_
           intro w324 F321 z322 hB323
           have := F321.size
           have hFN := (D317.of_No (S := fun b => b = N)).trans F321 (fun j _ h => h)
           have hcnt : 0 + i + (l.length - (i + 1)) = (lp.take i ++ lp.drop (i + 1)).length := by simp only [List.length_append, List.length_take, List.length_drop]; omega
           have hcells : [] ++ (encL FC lp).take (i * 5) ++ ((encL FC lp).drop ((i + 1) * 5)).take ((l.length - (i + 1)) * 5) = encL FC (lp.take i ++ lp.drop (i + 1)) := by
             rw [List.take_of_length_le (l := (encL FC lp).drop ((i + 1) * 5)) (i := (l.length - (i + 1)) * 5) (by rw [List.length_drop, encL_length FC_len, hplen]; omega), encL_take FC_len, encL_drop FC_len, encL_append]; rfl
           have hO5 := hO308.fr F321 (fun b hb h => by have h1 := hfr312 b hb; have h2 : b = N := h; omega)
           rw [hcells] at hO5
           have hP2 := hPr.re (l' := lp.take i ++ lp.drop (i + 1)) hFN hB323 hcnt hO5.rd (fun b h => ⟨.inr (hfr312 b h), by have := hfr312 b h; omega, hO5.lt h⟩) (fun p hp => .inr ⟨p, (List.mem_append.1 hp).elim List.mem_of_mem_take List.mem_of_mem_drop, rfl, rfl⟩)
           have hN1 := (hI.net.fr hFr (fun _ _ _ s => s)).mono (K' := shrink K w31) (fun b hlt hb => ⟨hb, hlt⟩)
           have hN2 := hN1.fr hFN (fun b hb _ h => hPr.home (by have h2 : b = N := h; exact h2 ▸ hb.1))
           refine d_next (fun hx => absurd hx (by decide)) ?_
           refine d_done (by kernel_rfl) ?_
           refine thenW_n ?_
           refine W_region ?_
           refine r_val rfl (x_move (v := .pointer (some ⟨B, 0, none⟩)) rfl) ?_
           refine r_val rfl (x_move (v := .int .i64 (i : Int)) rfl) ?_
           refine r_call rfl (c15 (vs := [.pointer (some ⟨B, 0, none⟩), .int .i64 (i : Int)]) rfl) (netLose (hN2.fr (Fr.refl No _) (fun _ _ _ s => s)) (by have := hI.len; omega) ⟨hI.cs.1, by have := hI.cs.2; omega⟩ ⟨hI.cl.1, by have := hI.cl.2; omega⟩ (by omega) i hi) ?_
           rintro _ w325 ⟨rfl, hN3, hFL⟩
           have hyK3 : ∀ b, b < w.heap.size → ¬ grow (shrink K w31) w324 b := fun b h1 h2 => h2.elim (fun h => hyK b h1 h.1) (fun h => by omega)
           have hP3 := (hP2.no (Fr.refl No _)).net hFL
           have hI3 : Inv w325 _ B N many mst sent lost _ _ (k + 1) := ⟨hN3, hP3, same_del hI.same i (i + 1), ⟨hI.cs.1, by have := hI.cs.2; omega⟩, ⟨hI.cl.1, by have := hI.cl.2; omega⟩, (by have := hI.len; simp only [List.length_append, List.length_take, List.length_drop]; omega), fun p hp => hI.small p ((List.mem_append.1 hp).elim List.mem_of_mem_take List.mem_of_mem_drop)⟩
           refine ⟨_, rfl, ?_⟩
           refine r_val rfl (x_move (v := .int .i64 0) rfl) ?_
           refine r_val rfl (x_as (u := .bool true) (x_eql (a := 0) (b := 0) rfl rfl) (congrArg Value.bool (decide_eq_true rfl))) ?_
           refine r_val rfl (x_assign (v := .bool true) rfl) ?_
           have := Fw.size
           have := F13.size
           have := F17.size
           have := F30.size
           have := F285.size
           have := F290.size
           have := F298.size
           have := F309.size
           have := F321.size
           have := hFL.size
           refine RW_nil ?_
           refine inBlk_n ?_
           refine thenW_n ?_
           exact ⟨_, _, _, _, _, _, ((ovl_cons (ovl_cons (ovl_cons (ovl_cons (ovl_cons (ovl_cons (ovl_nil _) rfl) rfl) rfl) rfl) rfl) rfl)).symm, (((((((((((Fr.refl No _).trans Fw (fun j hj h => h.elim)).trans F13 (fun j hj h => h.elim)).trans F17 (fun j hj h => (by have h2 : j = ab := h; omega))).trans F30 (fun j hj h => h.elim)).trans F285 (fun j hj h => h.elim)).trans F290 (fun j hj h => h.elim)).trans F298 (fun j hj h => (by have h1 := hq295 _ h; omega))).trans F309 (fun j hj h => (by have h1 := hfr301 _ h; omega))).trans F321 (fun j hj h => (by have h2 : j = N := h; omega))).trans hFL (fun j hj h => (hyK j hj (shr_in h)))), hyK3, hI3⟩
          ·skip
           refine W_skip ?_
           refine thenW_n ?_
           refine W_region ?_
           refine r_val rfl (x_move (v := .pointer (some ⟨B, 0, none⟩)) rfl) ?_
           refine r_val rfl (x_move (v := .int .i64 at_) rfl) ?_
           have hout : ¬ 0 ≤ at_ ∨ ¬ at_ < (l.length : Int) := by have h1 : isb = false := hc282; rw [his] at h1; have h2 := of_decide_eq_false h1; omega
           have := F13.size
           have := F17.size
           have := F30.size
           refine r_call rfl (c15 (vs := [.pointer (some ⟨B, 0, none⟩), .int .i64 at_]) rfl) (netLose_no (hI.net.fr ((((Fr.refl No _).trans F13 (fun j hj h => h.elim)).trans F17 (fun j hj h => (by have h2 : j = ab := h; omega))).trans F30 (fun j hj h => h.elim)) (fun _ _ _ s => s)) (by have := hI.len; omega) ⟨hI.cs.1, by have := hI.cs.2; omega⟩ ⟨hI.cl.1, by have := hI.cl.2; omega⟩ (by omega) at_ hout) ?_
           rintro _ _ ⟨rfl, rfl⟩
           refine ⟨_, rfl, ?_⟩
           refine r_val rfl (x_move (v := .int .i64 4) rfl) ?_
           refine r_val rfl (x_as (u := .bool true) (x_eql (a := 4) (b := 4) rfl rfl) (congrArg Value.bool (decide_eq_true rfl))) ?_
           refine r_val rfl (x_assign (v := .bool true) rfl) ?_
           have := F13.size
           have := F17.size
           have := F30.size
           have := Fw.size
           have := F13.size
           have := F17.size
           have := F30.size
           refine RW_nil ?_
           refine inBlk_n ?_
           refine thenW_n ?_
           exact ⟨K, l, lp, sent, lost, _, ((ovl_cons (ovl_cons (ovl_cons (ovl_cons (ovl_cons (ovl_cons (ovl_nil _) rfl) rfl) rfl) rfl) rfl) rfl)).symm, (((((Fr.refl No _).trans Fw (fun j hj h => h.elim)).trans F13 (fun j hj h => h.elim)).trans F17 (fun j hj h => (by have h2 : j = ab := h; omega))).trans F30 (fun j hj h => h.elim)), hyK, (hI.no ((((Fr.refl No _).trans F13 (fun j hj h => h.elim)).trans F17 (fun j hj h => (by have h2 : j = ab := h; omega))).trans F30 (fun j hj h => h.elim))).up (by omega)⟩
         ·skip
          refine W_mid (fun σ w' => w31 = w' ∧ ∃ s6 : Bool, ∃ τ : Env, σ = ovl τ [(0, .slice (some ⟨rb, ro, none⟩) n c), (8, .int .i64 many), (9, .pointer (some ⟨N, 0, none⟩)), (10, .pointer (some ⟨B, 0, none⟩)), (12, .int .i64 (k : Int)), (13, .pointer (some ⟨ab, 0, none⟩)), (14, .int .i64 at_), (15, .bool isb), (16, .int .i64 due), (17, .bool true), (99, .int .i64 kd), (304, .bool s6)] ∧ s6 = decide (kd = 6 ∨ kd = 7)) ?_ ?_
          ·skip
           refine W_seq ?_
           refine W_region ?_
           refine r_val rfl (x_eql (a := kd) (b := 6) rfl rfl) ?_
           refine r_val rfl (x_assign (v := .bool (decide (kd = 6))) rfl) ?_
           refine RW_nil ?_
           refine thenW_n ?_
           refine W_condD (p := kd = 6) rfl rfl (fun hc326 => ?_) (fun hc326 => ?_)
           ·skip
            refine W_skip ?_
            refine thenW_n ?_
            exact ⟨rfl, decide (kd = 6), _, ((ovl_cons (ovl_cons (ovl_cons (ovl_cons (ovl_cons (ovl_cons (ovl_cons (ovl_cons (ovl_cons (ovl_cons (ovl_cons (ovl_cons (ovl_nil _) rfl) rfl) rfl) rfl) rfl) rfl) rfl) rfl) rfl) rfl) rfl) rfl)).symm, by rw [eq_comm]; simp; omega⟩
           ·skip
            refine W_region ?_
            refine r_val rfl (x_eql (a := kd) (b := 7) rfl rfl) ?_
            refine r_val rfl (x_assign (v := .bool (decide (kd = 7))) rfl) ?_
            refine RW_nil ?_
            refine thenW_n ?_
            exact ⟨rfl, decide (kd = 7), _, ((ovl_cons (ovl_cons (ovl_cons (ovl_cons (ovl_cons (ovl_cons (ovl_cons (ovl_cons (ovl_cons (ovl_cons (ovl_cons (ovl_cons (ovl_nil _) rfl) rfl) rfl) rfl) rfl) rfl) rfl) rfl) rfl) rfl) rfl) rfl)).symm, by rw [eq_comm]; simp; omega⟩
          ·skip
           rintro σ _ ⟨rfl, s6, τ, rfl, hs6⟩
           refine W_cond (b := s6) rfl rfl (fun hc327 => ?_) (fun hc327 => ?_)
           ·skip
            refine W_seq ?_
            refine W_region ?_
            refine r_val rfl (x_assign (v := .int .i64 0) rfl) ?_
            refine RW_nil ?_
            refine thenW_n ?_
            refine W_seq ?_
            refine W_block ?_
            refine W_seq ?_
            refine W_region ?_
            refine r_val rfl (x_move (v := .bool isb) rfl) ?_
            refine r_val rfl (x_not (b := isb) rfl) ?_
            refine r_val rfl (x_move (v := .bool (!isb)) rfl) ?_
            rcases Bool.eq_false_or_eq_true (!isb) with hc328 | hc328
            ·skip
             refine r_yes (t := 341) rfl rfl rfl hc328 ?_
             refine r_val rfl (x_move (v := .int .i64 due) rfl) ?_
             refine r_yes (t := 341) rfl rfl rfl hc328 ?_
             refine r_val rfl (x_lss (a := due) (b := 0) rfl rfl) ?_
             refine r_val rfl (x_pickT (b := !isb) (v := .bool (decide (due < 0))) rfl hc328 rfl) ?_
             refine r_val rfl (x_assign (v := .bool (decide (due < 0))) rfl) ?_
             refine RW_nil ?_
             refine thenW_n ?_
             refine W_condD (p := due < 0) rfl rfl (fun hc329 => ?_) (fun hc329 => ?_)
             ·skip
              refine W_exit ?_
              refine inBlk_xo rfl ?_
              refine thenW_x ?_
              refine inBlk_xo rfl ?_
              refine thenW_x ?_
              refine inBlk_xs ?_
              refine thenW_n ?_
              refine W_region ?_
              refine r_val rfl (x_move (v := .int .i64 (k : Int)) rfl) ?_
              refine r_val rfl (x_add64 (a := (k : Int)) (b := 1) rfl rfl (by omega)) ?_
              refine r_val rfl (x_assign (v := .int .i64 ((k : Int) + 1)) rfl) ?_
              refine RW_nil ?_
              refine thenW_n ?_
              have := Fw.size
              have := F13.size
              have := F17.size
              have := F30.size
              have := F13.size
              have := F17.size
              have := F30.size
              exact ⟨_, (by omega), k + 1, K, l, lp, sent, lost, _, rfl, ((ovl_cons (ovl_cons (ovl_cons (ovl_cons (ovl_cons (ovl_nil _) (by show Value.int .i64 ((k : Int) + 1) = _; rfl)) rfl) rfl) rfl) rfl)).symm, (((((Fr.refl No _).trans Fw (fun j hj h => h.elim)).trans F13 (fun j hj h => h.elim)).trans F17 (fun j hj h => (by have h2 : j = ab := h; omega))).trans F30 (fun j hj h => h.elim)), hyK, by omega, by omega, (hI.no ((((Fr.refl No _).trans F13 (fun j hj h => h.elim)).trans F17 (fun j hj h => (by have h2 : j = ab := h; omega))).trans F30 (fun j hj h => h.elim))).up (by omega)⟩
             ·skip
              refine W_seq ?_
              refine W_region ?_
              refine r_val rfl (x_move (v := .bool isb) rfl) ?_
              refine r_val rfl (x_not (b := isb) rfl) ?_
              refine r_val rfl (x_assign (v := .bool (!isb)) rfl) ?_
              refine RW_nil ?_
              refine thenW_n ?_
              refine W_cond (b := !isb) rfl rfl (fun hc330 => ?_) (fun hc330 => ?_)
              ·skip
               refine W_region ?_
               refine r_val rfl (x_assign (v := .int .i64 4) rfl) ?_
               refine RW_nil ?_
               refine inBlk_n ?_
               refine thenW_n ?_
               refine W_seq ?_
               refine W_region ?_
               refine r_val rfl (x_fieldAddr (b := ab) (o := 0) fo_35_0 rfl) ?_
               refine r_val rfl (x_load (v := .int .i64 f0) kind_3 rfl (hB35.cell rfl)) ?_
               refine r_call rfl (c9 (vs := [.int .i64 f0, .int .i64 9]) rfl) (roostOf_any f0 9 w31 (by assumption) (by decide)) ?_
               rintro _ _ ⟨rfl, rfl⟩
               rw [hkd]
               refine ⟨_, rfl, ?_⟩
               refine r_val rfl (x_eql (a := kd) (b := 6) rfl rfl) ?_
               refine RW_nil ?_
               refine thenW_n ?_
               refine W_condD (p := kd = 6) rfl rfl (fun hc331 => ?_) (fun hc331 => ?_)
               ·skip
                have hout : ¬ 0 ≤ at_ ∨ ¬ at_ < (l.length : Int) := by have h1 : isb = false := (show isb = false from by simpa using hc330); rw [his] at h1; have h2 := of_decide_eq_false h1; omega
                have hlc : laterC l.length at_ due = 4 := by unfold laterC; rw [if_neg (by omega)]
                refine W_region ?_
                refine r_val rfl (x_move (v := .pointer (some ⟨B, 0, none⟩)) rfl) ?_
                refine r_val rfl (x_move (v := .int .i64 at_) rfl) ?_
                refine r_val rfl (x_move (v := .int .i64 due) rfl) ?_
                have := F13.size
                have := F17.size
                have := F30.size
                refine r_call rfl (c17 (vs := [.pointer (some ⟨B, 0, none⟩), .int .i64 at_, .int .i64 due]) rfl) (netDouble_no (hI.net.fr ((((Fr.refl No _).trans F13 (fun j hj h => h.elim)).trans F17 (fun j hj h => (by have h2 : j = ab := h; omega))).trans F30 (fun j hj h => h.elim)) (fun _ _ _ s => s)) (by have := hI.len; omega) ⟨hI.cs.1, by have := hI.cs.2; omega⟩ ⟨hI.cl.1, by have := hI.cl.2; omega⟩ (by omega) at_ due (by rw [hlc]; decide)) ?_
                rintro _ _ ⟨rfl, rfl⟩
                rw [hlc]
                refine ⟨_, rfl, ?_⟩
                refine r_val rfl (x_move (v := .int .i64 4) rfl) ?_
                refine r_val rfl (x_as (u := .bool true) (x_eql (a := 4) (b := 4) rfl rfl) (congrArg Value.bool (decide_eq_true rfl))) ?_
                refine r_val rfl (x_assign (v := .bool true) rfl) ?_
                have := F13.size
                have := F17.size
                have := F30.size
                have := Fw.size
                have := F13.size
                have := F17.size
                have := F30.size
                refine RW_nil ?_
                refine inBlk_n ?_
                refine thenW_n ?_
                exact ⟨K, l, lp, sent, lost, _, ((ovl_cons (ovl_cons (ovl_cons (ovl_cons (ovl_cons (ovl_cons (ovl_nil _) rfl) rfl) rfl) rfl) rfl) rfl)).symm, (((((Fr.refl No _).trans Fw (fun j hj h => h.elim)).trans F13 (fun j hj h => h.elim)).trans F17 (fun j hj h => (by have h2 : j = ab := h; omega))).trans F30 (fun j hj h => h.elim)), hyK, (hI.no ((((Fr.refl No _).trans F13 (fun j hj h => h.elim)).trans F17 (fun j hj h => (by have h2 : j = ab := h; omega))).trans F30 (fun j hj h => h.elim))).up (by omega)⟩
               ·skip
                have hout : ¬ 0 ≤ at_ ∨ ¬ at_ < (l.length : Int) := by have h1 : isb = false := (show isb = false from by simpa using hc330); rw [his] at h1; have h2 := of_decide_eq_false h1; omega
                have hlc : laterC l.length at_ due = 4 := by unfold laterC; rw [if_neg (by omega)]
                refine W_region ?_
                refine r_val rfl (x_move (v := .pointer (some ⟨B, 0, none⟩)) rfl) ?_
                refine r_val rfl (x_move (v := .int .i64 at_) rfl) ?_
                refine r_val rfl (x_move (v := .int .i64 due) rfl) ?_
                have := F13.size
                have := F17.size
                have := F30.size
                refine r_call rfl (c18 (vs := [.pointer (some ⟨B, 0, none⟩), .int .i64 at_, .int .i64 due]) rfl) (netHold_no (hI.net.fr ((((Fr.refl No _).trans F13 (fun j hj h => h.elim)).trans F17 (fun j hj h => (by have h2 : j = ab := h; omega))).trans F30 (fun j hj h => h.elim)) (fun _ _ _ s => s)) (by have := hI.len; omega) ⟨hI.cs.1, by have := hI.cs.2; omega⟩ ⟨hI.cl.1, by have := hI.cl.2; omega⟩ (by omega) at_ due (by rw [hlc]; decide)) ?_
                rintro _ _ ⟨rfl, rfl⟩
                rw [hlc]
                refine ⟨_, rfl, ?_⟩
                refine r_val rfl (x_move (v := .int .i64 4) rfl) ?_
                refine r_val rfl (x_as (u := .bool true) (x_eql (a := 4) (b := 4) rfl rfl) (congrArg Value.bool (decide_eq_true rfl))) ?_
                refine r_val rfl (x_assign (v := .bool true) rfl) ?_
                have := F13.size
                have := F17.size
                have := F30.size
                have := Fw.size
                have := F13.size
                have := F17.size
                have := F30.size
                refine RW_nil ?_
                refine inBlk_n ?_
                refine thenW_n ?_
                exact ⟨K, l, lp, sent, lost, _, ((ovl_cons (ovl_cons (ovl_cons (ovl_cons (ovl_cons (ovl_cons (ovl_nil _) rfl) rfl) rfl) rfl) rfl) rfl)).symm, (((((Fr.refl No _).trans Fw (fun j hj h => h.elim)).trans F13 (fun j hj h => h.elim)).trans F17 (fun j hj h => (by have h2 : j = ab := h; omega))).trans F30 (fun j hj h => h.elim)), hyK, (hI.no ((((Fr.refl No _).trans F13 (fun j hj h => h.elim)).trans F17 (fun j hj h => (by have h2 : j = ab := h; omega))).trans F30 (fun j hj h => h.elim))).up (by omega)⟩
              ·skip
               refine W_seq ?_
               refine W_region ?_
               refine r_val rfl (x_move (v := .int .i64 due) rfl) ?_
               refine r_val rfl (x_lss (a := due) (b := 0) rfl rfl) ?_
               refine r_val rfl (x_assign (v := .bool (decide (due < 0))) rfl) ?_
               refine RW_nil ?_
               refine thenW_n ?_
               refine W_condF (b := decide (due < 0)) rfl rfl (decide_eq_false hc329) ?_
               refine W_seq ?_
               refine W_region ?_
               refine r_val rfl (x_fieldAddr (b := ab) (o := 0) fo_35_0 rfl) ?_
               refine r_val rfl (x_load (v := .int .i64 f0) kind_3 rfl (hB35.cell rfl)) ?_
               refine r_call rfl (c9 (vs := [.int .i64 f0, .int .i64 9]) rfl) (roostOf_any f0 9 w31 (by assumption) (by decide)) ?_
               rintro _ _ ⟨rfl, rfl⟩
               rw [hkd]
               refine ⟨_, rfl, ?_⟩
               refine r_val rfl (x_eql (a := kd) (b := 6) rfl rfl) ?_
               refine r_val rfl (x_assign (v := .bool (decide (kd = 6))) rfl) ?_
               refine RW_nil ?_
               refine thenW_n ?_
               refine W_condD (p := kd = 6) rfl rfl (fun hc332 => ?_) (fun hc332 => ?_)
               ·skip
                refine W_seq ?_
                have hin : 0 ≤ at_ ∧ at_ < (l.length : Int) := by have h1 := (show isb = true from by simpa using hc330); rw [his] at h1; exact of_decide_eq_true h1
                obtain ⟨i, rfl⟩ : ∃ i : Nat, at_ = (i : Int) := ⟨at_.toNat, by omega⟩
                have hi : i < l.length := by omega
                have hR333 := hR24.fr F30 (fun _ _ f => f)
                have := F13.size
                have := F17.size
                have := F30.size
                have hplen := hI.plen
                have hip : i < lp.length := by omega
                obtain ⟨rp, op, _, hvp, _, hcp⟩ := hR333.at_ (by omega)
                injection hvp with hvpA
                subst hvpA
                have hbL := hI.pap.bytes (lp.getD i fl0) (getD_mem hip)
                obtain ⟨FP, mp, hfp, _⟩ := hbL.1.form
                have hFP : FC (lp.getD i fl0) = [.int .i64 (lp.getD i fl0).1.num, .int .i64 (lp.getD i fl0).1.frm, .int .i64 (lp.getD i fl0).1.dst, .int .i64 (lp.getD i fl0).1.due, .slice FP (lp.getD i fl0).1.bs.length mp] := by unfold FC; rw [hfp]
                rw [hfp] at hbL
                have hat1 := same_at hI.same i hi
                have hsm := hI.small (l.getD i fl0) (getD_mem hi)
                refine W_region ?_
                refine r_val rfl (x_move (v := .pointer (some ⟨N, 0, none⟩)) rfl) ?_
                refine r_val rfl (x_nilCheck rfl) ?_
                refine r_val rfl (x_fieldAddr (b := N) (o := 0) fo_28_0 rfl) ?_
                have hB334 := hB22.fr F30 (fun f => f)
                refine r_val rfl (x_load (v := .slice (some ⟨rp, op, none⟩) l.length cP) kind_26 rfl (hB334.cell rfl)) ?_
                refine r_val rfl (x_move (v := .int .i64 (i : Int)) rfl) ?_
                refine r_val rfl (x_indexAddr (b := rp) (o := op) (j := i) es_26 rfl rfl rfl (by omega)) ?_
                refine r_val rfl (x_loadRow (b := rp) (o := op + i * 5) (cs := [.int .i64 ((lp.getD i fl0).1.num), .int .i64 ((lp.getD i fl0).1.frm), .int .i64 ((lp.getD i fl0).1.dst), .int .i64 ((lp.getD i fl0).1.due), .slice FP ((lp.getD i fl0).1.bs.length) mp]) kind_37 size_37 rfl (fun mm u hu => (by rw [Nat.add_assoc]; exact hcp _ _ (encL_get (a := (lp.getD i fl0)) (size := 5) FC_len (getD_at lp i fl0 hip) (hFP ▸ hu))))) ?_
                obtain ⟨fb, hfb⟩ : ∃ n, w31.heap.size = n := ⟨_, rfl⟩
                have ne_N_fb : N ≠ fb := by have := hB334.lt; omega
                have ne_ab_fb : ab ≠ fb := by have := hB35.lt; omega
                refine r_alloc (l := [.int .i64 0, .int .i64 0, .int .i64 0, .int .i64 0, .slice none 0 0]) fb hfb zero_37 rfl ?_
                intro w338 F335 z336 hB337
                refine r_store (v := .agg #[.int .i64 ((lp.getD i fl0).1.num), .int .i64 ((lp.getD i fl0).1.frm), .int .i64 ((lp.getD i fl0).1.dst), .int .i64 ((lp.getD i fl0).1.due), .slice FP ((lp.getD i fl0).1.bs.length) mp]) (vs := [.int .i64 ((lp.getD i fl0).1.num), .int .i64 ((lp.getD i fl0).1.frm), .int .i64 ((lp.getD i fl0).1.dst), .int .i64 ((lp.getD i fl0).1.due), .slice FP ((lp.getD i fl0).1.bs.length) mp]) (l' := [.int .i64 ((lp.getD i fl0).1.num), .int .i64 ((lp.getD i fl0).1.frm), .int .i64 ((lp.getD i fl0).1.dst), .int .i64 ((lp.getD i fl0).1.due), .slice FP ((lp.getD i fl0).1.bs.length) mp]) rfl rfl size_37 rfl rfl rfl rfl hB337 (Nat.le_of_ble_eq_true rfl) rfl ?_
                intro w342 F339 z340 hB341
                refine RW_nil ?_
                refine thenW_n ?_
                refine W_seq ?_
                refine W_region ?_
                refine r_val rfl (x_move (v := .int .i64 due) rfl) ?_
                refine r_val rfl (x_fieldAddr (b := fb) (o := 0) fo_37_3 rfl) ?_
                refine r_store (v := .int .i64 due) (vs := [.int .i64 due]) (l' := [.int .i64 ((lp.getD i fl0).1.num), .int .i64 ((lp.getD i fl0).1.frm), .int .i64 ((lp.getD i fl0).1.dst), .int .i64 due, .slice FP ((lp.getD i fl0).1.bs.length) mp]) rfl rfl size_3 rfl rfl rfl rfl hB341 (Nat.le_of_ble_eq_true rfl) rfl ?_
                intro w346 F343 z344 hB345
                refine RW_nil ?_
                refine thenW_n ?_
                refine W_region ?_
                refine r_val rfl (x_move (v := .pointer (some ⟨N, 0, none⟩)) rfl) ?_
                refine r_val rfl (x_loadBlk (b := fb) (l := [.int .i64 ((lp.getD i fl0).1.num), .int .i64 ((lp.getD i fl0).1.frm), .int .i64 ((lp.getD i fl0).1.dst), .int .i64 due, .slice FP ((lp.getD i fl0).1.bs.length) mp]) kind_37 size_37 rfl hB345) ?_
                have := F13.size
                have := F17.size
                have := F30.size
                have := F335.size
                have := F339.size
                have := F343.size
                have hFc := (((((((Fr.refl No _).trans F13 (fun j hj h => h.elim)).trans F17 (fun j hj h => (by have h2 : j = ab := h; omega))).trans F30 (fun j hj h => h.elim)).trans F335 (fun j hj h => h.elim)).trans F339 (fun j hj h => (by have h2 : j = fb := h; omega))).trans F343 (fun j hj h => (by have h2 : j = fb := h; omega)))
                have hPc := hI.pap.no hFc
                have hbc := hPc.bytes (lp.getD i fl0) (getD_mem hip)
                rw [hfp] at hbc
                have hszc := hFc.size
                refine r_call rfl (c11 (vs := [.pointer (some ⟨N, 0, none⟩), .agg #[.int .i64 ((lp.getD i fl0).1.num), .int .i64 ((lp.getD i fl0).1.frm), .int .i64 ((lp.getD i fl0).1.dst), .int .i64 due, .slice FP ((lp.getD i fl0).1.bs.length) mp]]) rfl) (papSends hPc (by omega) (by omega) (by omega) ⟨by omega, by omega⟩ (by rw [hI.same]; exact hI.net.sorted) (lp.getD i fl0).1.num (lp.getD i fl0).1.frm (lp.getD i fl0).1.dst due hbc.1 hbc.2) ?_
                have hB347 := hB35.fr F335 (fun f => f)
                have hB348 := hB347.fr F339 ne_ab_fb
                have hB349 := hB348.fr F343 ne_ab_fb
                rintro _ w350 ⟨rfl, hFS, lpn, lostn, hPn, habs1⟩
                have hN1 := (hI.net.fr hFc (fun _ _ _ s => s)).mono (K' := shrink K w346) (fun b hlt hb => ⟨hb, hlt⟩)
                have hN2 := hN1.fr hFS (fun b hb _ h => hPc.home (by have h2 : b = N := h; exact h2 ▸ hb.1))
                refine ⟨_, rfl, ?_⟩
                refine RW_nil ?_
                refine inBlk_n ?_
                refine thenW_n ?_
                refine W_seq ?_
                refine W_region ?_
                refine r_val rfl (x_fieldAddr (b := ab) (o := 0) fo_35_0 rfl) ?_
                have hB351 := hB349.fr hFS (fun h => ne_N_ab h.symm)
                refine r_val rfl (x_load (v := .int .i64 f0) kind_3 rfl (hB351.cell rfl)) ?_
                refine r_call rfl (c9 (vs := [.int .i64 f0, .int .i64 9]) rfl) (roostOf_any f0 9 w350 (by assumption) (by decide)) ?_
                rintro _ _ ⟨rfl, rfl⟩
                rw [hkd]
                refine ⟨_, rfl, ?_⟩
                refine r_val rfl (x_eql (a := kd) (b := 6) rfl rfl) ?_
                refine RW_nil ?_
                refine thenW_n ?_
                refine W_condT (b := decide (kd = 6)) rfl rfl (decide_eq_true hc332) ?_
                have hlc : laterC l.length (i : Int) due = 0 := by unfold laterC; rw [if_pos (by omega), if_pos (by omega)]
                refine W_region ?_
                refine r_val rfl (x_move (v := .pointer (some ⟨B, 0, none⟩)) rfl) ?_
                refine r_val rfl (x_move (v := .int .i64 (i : Int)) rfl) ?_
                refine r_val rfl (x_move (v := .int .i64 due) rfl) ?_
                refine r_call rfl (c17 (vs := [.pointer (some ⟨B, 0, none⟩), .int .i64 (i : Int), .int .i64 due]) rfl) (netDouble (hN2.fr (Fr.refl No _) (fun _ _ _ s => s)) (by have := hI.len; omega) ⟨hI.cs.1, by have := hI.cs.2; omega⟩ ⟨hI.cl.1, by have := hI.cl.2; omega⟩ (by omega) (fun p hp => by have := hI.small p hp; omega) i hi due hlc) ?_
                rintro _ w352 ⟨rfl, hFL, ln, lostm, hN3, habs2⟩
                have := F13.size
                have := F17.size
                have := F30.size
                have := F335.size
                have := F339.size
                have := F343.size
                have := hFS.size
                have hyK3 : ∀ b, b < w.heap.size → ¬ grow (shrink K w346) w350 b := fun b h1 h2 => h2.elim (fun h => hyK b h1 h.1) (fun h => by omega)
                have hI3 := hI.fresh (by rw [hat1]) (by exact ⟨hsm.1, (by show 0 ≤ due; omega)⟩) habs1 habs2 hN3 ((hPn.no (Fr.refl No _)).net hFL)
                refine ⟨_, rfl, ?_⟩
                refine r_val rfl (x_move (v := .int .i64 0) rfl) ?_
                refine r_val rfl (x_as (u := .bool true) (x_eql (a := 0) (b := 0) rfl rfl) (congrArg Value.bool (decide_eq_true rfl))) ?_
                refine r_val rfl (x_assign (v := .bool true) rfl) ?_
                have := Fw.size
                have := F13.size
                have := F17.size
                have := F30.size
                have := F335.size
                have := F339.size
                have := F343.size
                have := hFS.size
                have := hFL.size
                refine RW_nil ?_
                refine inBlk_n ?_
                refine thenW_n ?_
                exact ⟨_, _, _, _, _, _, ((ovl_cons (ovl_cons (ovl_cons (ovl_cons (ovl_cons (ovl_cons (ovl_nil _) rfl) rfl) rfl) rfl) rfl) rfl)).symm, ((((((((((Fr.refl No _).trans Fw (fun j hj h => h.elim)).trans F13 (fun j hj h => h.elim)).trans F17 (fun j hj h => (by have h2 : j = ab := h; omega))).trans F30 (fun j hj h => h.elim)).trans F335 (fun j hj h => h.elim)).trans F339 (fun j hj h => (by have h2 : j = fb := h; omega))).trans F343 (fun j hj h => (by have h2 : j = fb := h; omega))).trans hFS (fun j hj h => (by have h2 : j = N := h; omega))).trans hFL (fun j hj h => (hyK j hj (shr_in h)))), hyK3, hI3⟩
               ·skip
                refine W_seq ?_
                have hin : 0 ≤ at_ ∧ at_ < (l.length : Int) := by have h1 := (show isb = true from by simpa using hc330); rw [his] at h1; exact of_decide_eq_true h1
                obtain ⟨i, rfl⟩ : ∃ i : Nat, at_ = (i : Int) := ⟨at_.toNat, by omega⟩
                have hi : i < l.length := by omega
                have hR353 := hR24.fr F30 (fun _ _ f => f)
                have := F13.size
                have := F17.size
                have := F30.size
                have hplen := hI.plen
                have hip : i < lp.length := by omega
                obtain ⟨rp, op, _, hvp, _, hcp⟩ := hR353.at_ (by omega)
                injection hvp with hvpA
                subst hvpA
                have hbL := hI.pap.bytes (lp.getD i fl0) (getD_mem hip)
                obtain ⟨FP, mp, hfp, _⟩ := hbL.1.form
                have hFP : FC (lp.getD i fl0) = [.int .i64 (lp.getD i fl0).1.num, .int .i64 (lp.getD i fl0).1.frm, .int .i64 (lp.getD i fl0).1.dst, .int .i64 (lp.getD i fl0).1.due, .slice FP (lp.getD i fl0).1.bs.length mp] := by unfold FC; rw [hfp]
                rw [hfp] at hbL
                have hat1 := same_at hI.same i hi
                have hsm := hI.small (l.getD i fl0) (getD_mem hi)
                refine W_region ?_
                refine r_val rfl (x_move (v := .pointer (some ⟨N, 0, none⟩)) rfl) ?_
                refine r_val rfl (x_nilCheck rfl) ?_
                refine r_val rfl (x_fieldAddr (b := N) (o := 0) fo_28_0 rfl) ?_
                have hB354 := hB22.fr F30 (fun f => f)
                refine r_val rfl (x_load (v := .slice (some ⟨rp, op, none⟩) l.length cP) kind_26 rfl (hB354.cell rfl)) ?_
                refine r_val rfl (x_move (v := .int .i64 (i : Int)) rfl) ?_
                refine r_val rfl (x_indexAddr (b := rp) (o := op) (j := i) es_26 rfl rfl rfl (by omega)) ?_
                refine r_val rfl (x_loadRow (b := rp) (o := op + i * 5) (cs := [.int .i64 ((lp.getD i fl0).1.num), .int .i64 ((lp.getD i fl0).1.frm), .int .i64 ((lp.getD i fl0).1.dst), .int .i64 ((lp.getD i fl0).1.due), .slice FP ((lp.getD i fl0).1.bs.length) mp]) kind_37 size_37 rfl (fun mm u hu => (by rw [Nat.add_assoc]; exact hcp _ _ (encL_get (a := (lp.getD i fl0)) (size := 5) FC_len (getD_at lp i fl0 hip) (hFP ▸ hu))))) ?_
                obtain ⟨fb, hfb⟩ : ∃ n, w31.heap.size = n := ⟨_, rfl⟩
                have ne_N_fb : N ≠ fb := by have := hB354.lt; omega
                have ne_ab_fb : ab ≠ fb := by have := hB35.lt; omega
                refine r_alloc (l := [.int .i64 0, .int .i64 0, .int .i64 0, .int .i64 0, .slice none 0 0]) fb hfb zero_37 rfl ?_
                intro w358 F355 z356 hB357
                refine r_store (v := .agg #[.int .i64 ((lp.getD i fl0).1.num), .int .i64 ((lp.getD i fl0).1.frm), .int .i64 ((lp.getD i fl0).1.dst), .int .i64 ((lp.getD i fl0).1.due), .slice FP ((lp.getD i fl0).1.bs.length) mp]) (vs := [.int .i64 ((lp.getD i fl0).1.num), .int .i64 ((lp.getD i fl0).1.frm), .int .i64 ((lp.getD i fl0).1.dst), .int .i64 ((lp.getD i fl0).1.due), .slice FP ((lp.getD i fl0).1.bs.length) mp]) (l' := [.int .i64 ((lp.getD i fl0).1.num), .int .i64 ((lp.getD i fl0).1.frm), .int .i64 ((lp.getD i fl0).1.dst), .int .i64 ((lp.getD i fl0).1.due), .slice FP ((lp.getD i fl0).1.bs.length) mp]) rfl rfl size_37 rfl rfl rfl rfl hB357 (Nat.le_of_ble_eq_true rfl) rfl ?_
                intro w362 F359 z360 hB361
                refine RW_nil ?_
                refine thenW_n ?_
                refine W_seq ?_
                refine W_region ?_
                refine r_val rfl (x_move (v := .int .i64 due) rfl) ?_
                refine r_val rfl (x_fieldAddr (b := fb) (o := 0) fo_37_3 rfl) ?_
                refine r_store (v := .int .i64 due) (vs := [.int .i64 due]) (l' := [.int .i64 ((lp.getD i fl0).1.num), .int .i64 ((lp.getD i fl0).1.frm), .int .i64 ((lp.getD i fl0).1.dst), .int .i64 due, .slice FP ((lp.getD i fl0).1.bs.length) mp]) rfl rfl size_3 rfl rfl rfl rfl hB361 (Nat.le_of_ble_eq_true rfl) rfl ?_
                intro w366 F363 z364 hB365
                refine RW_nil ?_
                refine thenW_n ?_
                refine W_seq ?_
                have := F13.size
                have := F17.size
                have := F30.size
                have := F355.size
                have := F359.size
                have := F363.size
                have hB367 := hB354.fr F355 (fun f => f)
                have hB368 := hB367.fr F359 ne_N_fb
                have hB369 := hB368.fr F363 ne_N_fb
                have hR370 := hR353.fr F355 (fun _ _ f => f)
                have hR371 := hR370.fr F359 (fun b hb h => by have h1 := (hPb b hb).2.2; have h2 : b = fb := h; omega)
                have hR372 := hR371.fr F363 (fun b hb h => by have h1 := (hPb b hb).2.2; have h2 : b = fb := h; omega)
                have hFr := (((((((Fr.refl No _).trans F13 (fun j hj h => h.elim)).trans F17 (fun j hj h => (by have h2 : j = ab := h; omega))).trans F30 (fun j hj h => h.elim)).trans F355 (fun j hj h => h.elim)).trans F359 (fun j hj h => (by have h2 : j = fb := h; omega))).trans F363 (fun j hj h => (by have h2 : j = fb := h; omega)))
                have hPr := hI.pap.no hFr
                have hR4 := hR372
                have hN4 := hB369
                have lt_N := hN4.lt
                obtain ⟨_, _, eP, hncP⟩ := hR4.form
                injection eP with _ _ eP3
                subst eP3
                have hplen := hI.plen
                have hB373 := hB35.fr F355 (fun f => f)
                have hB374 := hB373.fr F359 ne_ab_fb
                have hB375 := hB374.fr F363 ne_ab_fb
                have lt_ab := (hB375).lt
                have lt_fb := (hB365).lt
                refine d_begin mo 19 (fun x => Fr No w366 x) ?_
                obtain ⟨w377, hw377⟩ : ∃ x, w366.drew = x := ⟨_, rfl⟩
                have F376 : Fr No w366 w377 := by rw [← hw377]; exact Fr.drew _ _
                have D378 : Fr No w366 w377 := Fr.of_No F376
                have sF376 := F376.size
                rw [hw377]
                refine d_pure (i := 0) rfl (by kernel_rfl) (np_then (np_blk (np_then (np_blk (np_then (np_blk (np_then (np_then (np_blk (np_then np_body)))))))))) rfl (fun _ => (x_move (v := .pointer (some ⟨N, 0, none⟩)) rfl)) (fun _ => D378) ?_
                refine d_pure (i := 2) rfl (by kernel_rfl) (np_then (np_blk (np_then (np_blk (np_then (np_blk (np_then (np_then (np_blk (np_then np_body)))))))))) rfl (fun _ => (x_move (v := .pointer (some ⟨N, 0, none⟩)) rfl)) (fun _ => D378) ?_
                refine d_pure (i := 3) rfl (by kernel_rfl) (np_then (np_blk (np_then (np_blk (np_then (np_blk (np_then (np_then (np_blk (np_then np_body)))))))))) rfl (fun _ => (x_nilCheck rfl)) (fun _ => D378) ?_
                refine d_pure (i := 4) rfl (by kernel_rfl) (np_then (np_blk (np_then (np_blk (np_then (np_blk (np_then (np_then (np_blk (np_then np_body)))))))))) rfl (fun _ => (x_fieldAddr (b := N) (o := 0) fo_28_0 rfl)) (fun _ => D378) ?_
                refine d_load (i := 5) rfl (by kernel_rfl) (np_then (np_blk (np_then (np_blk (np_then (np_blk (np_then (np_then (np_blk (np_then np_body)))))))))) rfl (by kernel_rfl) rfl (fun x hS => (x_load (v := .slice (some ⟨rp, op, none⟩) l.length cP) kind_26 rfl ((hB369.fr hS (fun f => f)).cell rfl))) D378 ?_
                refine d_pure (i := 6) rfl (by kernel_rfl) (np_then (np_blk (np_then (np_blk (np_then (np_blk (np_then (np_then (np_blk (np_then np_body)))))))))) rfl (fun _ => (x_move (v := .int .i64 (i : Int)) rfl)) (fun _ => D378) ?_
                refine d_pure (i := 7) rfl (by kernel_rfl) (np_then (np_blk (np_then (np_blk (np_then (np_blk (np_then (np_then (np_blk (np_then np_body)))))))))) rfl (fun _ => (x_sliceHi (h := i) es_26 rfl rfl (by first | rfl | omega) (by omega))) (fun _ => D378) ?_
                refine d_pure (i := 9) rfl (by kernel_rfl) (np_then (np_blk (np_then (np_blk (np_then (np_blk (np_then (np_then (np_blk (np_then np_body)))))))))) rfl (fun _ => (x_move (v := .pointer (some ⟨N, 0, none⟩)) rfl)) (fun _ => D378) ?_
                refine d_pure (i := 10) rfl (by kernel_rfl) (np_then (np_blk (np_then (np_blk (np_then (np_blk (np_then (np_then (np_blk (np_then np_body)))))))))) rfl (fun _ => (x_nilCheck rfl)) (fun _ => D378) ?_
                refine d_pure (i := 11) rfl (by kernel_rfl) (np_then (np_blk (np_then (np_blk (np_then (np_blk (np_then (np_then (np_blk (np_then np_body)))))))))) rfl (fun _ => (x_fieldAddr (b := N) (o := 0) fo_28_0 rfl)) (fun _ => D378) ?_
                refine d_load (i := 12) rfl (by kernel_rfl) (np_then (np_blk (np_then (np_blk (np_then (np_blk (np_then (np_then (np_blk (np_then np_body)))))))))) rfl (by kernel_rfl) rfl (fun x hS => (x_load (v := .slice (some ⟨rp, op, none⟩) l.length cP) kind_26 rfl ((hB369.fr hS (fun f => f)).cell rfl))) D378 ?_
                refine d_pure (i := 13) rfl (by kernel_rfl) (np_then (np_blk (np_then (np_blk (np_then (np_blk (np_then (np_then (np_blk (np_then np_body)))))))))) rfl (fun _ => (x_move (v := .int .i64 (i : Int)) rfl)) (fun _ => D378) ?_
                refine d_pure (i := 14) rfl (by kernel_rfl) (np_then (np_blk (np_then (np_blk (np_then (np_blk (np_then (np_then (np_blk (np_then np_body)))))))))) rfl (fun _ => (x_add64 (a := (i : Int)) (b := 1) rfl rfl (by omega))) (fun _ => D378) ?_
                refine d_pure (i := 15) rfl (by kernel_rfl) (np_then (np_blk (np_then (np_blk (np_then (np_blk (np_then (np_then (np_blk (np_then np_body)))))))))) rfl (fun _ => (x_sliceLo (l := i + 1) es_26 rfl rfl (by first | rfl | omega) (by omega))) (fun _ => D378) ?_
                refine d_force (i := 1) rfl (by kernel_rfl) ?_
                have hB379 := hB369.fr F376 (fun f => f)
                have hB380 := hB375.fr F376 (fun f => f)
                have hB381 := hB365.fr F376 (fun f => f)
                obtain ⟨g0, hg0⟩ : ∃ n, w377.heap.size = n := ⟨_, rfl⟩
                have ne_N_g0 : N ≠ g0 := by have := hB379.lt; omega
                have ne_ab_g0 : ab ≠ g0 := by have := hB380.lt; omega
                have ne_fb_g0 : fb ≠ g0 := by have := hB381.lt; omega
                refine r_lit (vs := []) (l := []) rfl g0 hg0 ei_26 (.inr ⟨_, rfl⟩) rfl rfl (by simp) rfl (by decide) ?_
                intro w385 F382 z383 hB384
                have sD386 := F382.size
                have D386 : Fr No w366 w385 := D378.trans F382 (fun i hi h => (by first | exact h.elim | omega | (simp only [Value.ownBlock, Option.some.injEq] at h; omega) | (have h2 := h; simp at h2; omega) | exact h))
                refine d_next (fun _ => D386) ?_
                refine d_force (i := 8) rfl (by kernel_rfl) ?_
                have := F376.size
                have := F382.size
                have hq387 : ∀ b, (Value.slice (some ⟨g0, 0, none⟩) 0 0).ownBlock = some b → w366.heap.size ≤ b := fun b hb => (by have h1 : g0 = b := (by injection hb); omega)
                refine r_append rfl rfl ei_26 rfl (by decide) (v := .slice (some ⟨g0, 0, none⟩) 0 0) (u := .slice (some ⟨rp, op, none⟩) i cP) rfl rfl (Own.of_blk hB384 5 0 rfl (by decide)) ((hR4.fr D386 (fun _ _ f => f)).take i (by omega) cP (by omega)) (one_take (FC_one (fun p hp => (hPr.bytes p hp).1.one))) (by unfold maxLen; omega) (by omega) ?_
                intro v388 w394 hO389 F390 hat391 hnil392
                have hfr393 : ∀ b, (v388).ownBlock = some b → w366.heap.size ≤ b := fun b hb => (by rcases hat391 with e | e; (rw [e] at hb; exact hq387 b hb); (rw [e] at hb; injection hb with hb; omega))
                obtain ⟨A395, c396, he397, _⟩ := hO389.rd.form
                subst he397
                have sD398 := F390.size
                have D398 : Fr No w366 w394 := D386.trans F390 (fun i hi h => (by have h1 := hq387 i h; omega))
                refine d_next (fun _ => D398) ?_
                refine d_force (i := 16) rfl (by kernel_rfl) ?_
                have := F376.size
                have := F382.size
                have := F390.size
                refine r_append rfl rfl ei_26 rfl (by decide) (v := .slice A395 (0 + i) c396) (u := .slice (subA 5 (i + 1) cP (some ⟨rp, op, none⟩)) (l.length - (i + 1)) (cP - (i + 1))) rfl rfl hO389 ((hR4.fr D398 (fun _ _ f => f)).sub (i + 1) l.length (by omega) (Nat.le_refl _) cP hncP) (one_take (one_drop (FC_one (fun p hp => (hPr.bytes p hp).1.one)))) (by unfold maxLen; omega) (by omega) ?_
                intro v399 w405 hO400 F401 hat402 hnil403
                have hfr404 : ∀ b, (v399).ownBlock = some b → w366.heap.size ≤ b := fun b hb => (by rcases hat402 with e | e; (rw [e] at hb; exact hfr393 b hb); (rw [e] at hb; injection hb with hb; omega))
                obtain ⟨A406, c407, he408, _⟩ := hO400.rd.form
                subst he408
                have sD409 := F401.size
                have D409 : Fr No w366 w405 := D398.trans F401 (fun i hi h => (by have h1 := hfr393 i h; omega))
                refine d_next (fun _ => D409) ?_
                refine d_pure (i := 17) rfl (by kernel_rfl) (np_then (np_blk (np_then (np_blk (np_then (np_blk (np_then (np_then (np_blk (np_then np_body)))))))))) rfl (fun _ => (x_nilCheck rfl)) (fun _ => D409) ?_
                refine d_pure (i := 18) rfl (by kernel_rfl) (np_then (np_blk (np_then (np_blk (np_then (np_blk (np_then (np_then (np_blk (np_then np_body)))))))))) rfl (fun _ => (x_fieldAddr (b := N) (o := 0) fo_28_0 rfl)) (fun _ => D409) ?_
                refine d_force (i := 19) rfl (by kernel_rfl) ?_
                have hB410 := hB379.fr F382 (fun f => f)
                have hB411 := hB410.fr F390 (fun h => by have h1 := hq387 _ h; omega)
                have hB412 := hB411.fr F401 (fun h => by have h1 := hfr393 _ h; omega)
                refine r_store (v := .slice A406 (0 + i + (l.length - (i + 1))) c407) (vs := [.slice A406 (0 + i + (l.length - (i + 1))) c407]) (l' := [.slice A406 (0 + i + (l.length - (i + 1))) c407, .int .i64 sent, .int .i64 lost, .int .i64 (mst : Int)]) rfl rfl size_26 rfl rfl rfl rfl hB412 (Nat.le_of_ble_eq_true rfl) rfl ?_
                intro w416 F413 z414 hB415
                have := F413.size
                have hFN := (D409.of_No (S := fun b => b = N)).trans F413 (fun j _ h => h)
                have hcnt : 0 + i + (l.length - (i + 1)) = (lp.take i ++ lp.drop (i + 1)).length := by simp only [List.length_append, List.length_take, List.length_drop]; omega
                have hcells : [] ++ (encL FC lp).take (i * 5) ++ ((encL FC lp).drop ((i + 1) * 5)).take ((l.length - (i + 1)) * 5) = encL FC (lp.take i ++ lp.drop (i + 1)) := by
                  rw [List.take_of_length_le (l := (encL FC lp).drop ((i + 1) * 5)) (i := (l.length - (i + 1)) * 5) (by rw [List.length_drop, encL_length FC_len, hplen]; omega), encL_take FC_len, encL_drop FC_len, encL_append]; rfl
                have hO5 := hO400.fr F413 (fun b hb h => by have h1 := hfr404 b hb; have h2 : b = N := h; omega)
                rw [hcells] at hO5
                have hP2 := hPr.re (l' := lp.take i ++ lp.drop (i + 1)) hFN hB415 hcnt hO5.rd (fun b h => ⟨.inr (hfr404 b h), by have := hfr404 b h; omega, hO5.lt h⟩) (fun p hp => .inr ⟨p, (List.mem_append.1 hp).elim List.mem_of_mem_take List.mem_of_mem_drop, rfl, rfl⟩)
                have hN1 := (hI.net.fr hFr (fun _ _ _ s => s)).mono (K' := shrink K w366) (fun b hlt hb => ⟨hb, hlt⟩)
                have hN2 := hN1.fr hFN (fun b hb _ h => hPr.home (by have h2 : b = N := h; exact h2 ▸ hb.1))
                refine d_next (fun hx => absurd hx (by decide)) ?_
                refine d_done (by kernel_rfl) ?_
                refine thenW_n ?_
                refine W_region ?_
                refine r_val rfl (x_move (v := .pointer (some ⟨N, 0, none⟩)) rfl) ?_
                have hB417 := hB381.fr F382 (fun f => f)
                have hB418 := hB417.fr F390 (fun h => by have h1 := hq387 _ h; omega)
                have hB419 := hB418.fr F401 (fun h => by have h1 := hfr393 _ h; omega)
                have hB420 := hB419.fr F413 (Ne.symm ne_N_fb)
                refine r_val rfl (x_loadBlk (b := fb) (l := [.int .i64 ((lp.getD i fl0).1.num), .int .i64 ((lp.getD i fl0).1.frm), .int .i64 ((lp.getD i fl0).1.dst), .int .i64 due, .slice FP ((lp.getD i fl0).1.bs.length) mp]) kind_37 size_37 rfl hB420) ?_
                have := F13.size
                have := F17.size
                have := F30.size
                have := F355.size
                have := F359.size
                have := F363.size
                have := F376.size
                have := F382.size
                have := F390.size
                have := F401.size
                have := F413.size
                have := F13.size
                have := F17.size
                have := F30.size
                have := F355.size
                have := F359.size
                have := F363.size
                have := F376.size
                have := F382.size
                have := F390.size
                have := F401.size
                have := F413.size
                have hFLn := ((((((((((((Fr.refl (fun b => b = N) _).trans F13 (fun j hj h => h.elim)).trans F17 (fun j hj h => (by have h2 : j = ab := h; omega))).trans F30 (fun j hj h => h.elim)).trans F355 (fun j hj h => h.elim)).trans F359 (fun j hj h => (by have h2 : j = fb := h; omega))).trans F363 (fun j hj h => (by have h2 : j = fb := h; omega))).trans F376 (fun j hj h => h.elim)).trans F382 (fun j hj h => h.elim)).trans F390 (fun j hj h => (by have h1 := hq387 _ h; omega))).trans F401 (fun j hj h => (by have h1 := hfr393 _ h; omega))).trans F413 (fun j hj h => h))
                refine r_call rfl (c16 (vs := [.pointer (some ⟨N, 0, none⟩), .agg #[.int .i64 ((lp.getD i fl0).1.num), .int .i64 ((lp.getD i fl0).1.frm), .int .i64 ((lp.getD i fl0).1.dst), .int .i64 due, .slice FP ((lp.getD i fl0).1.bs.length) mp]]) rfl) (papLays hP2 (by simp only [List.length_append, List.length_take, List.length_drop]; omega) (by rw [same_del hI.same]; exact hI.net.sorted.sublist ((take_drop_sublist l i).map _)) (lp.getD i fl0).1.num (lp.getD i fl0).1.frm (lp.getD i fl0).1.dst due (hbL.1.fr hFLn (fun b hb h => (hbL.2 b hb).2.1 h)) (fun b h => ⟨fun hk => (hbL.2 b h).1 hk.1, (hbL.2 b h).2.1, by have := (hbL.2 b h).2.2; omega⟩)) ?_
                have hB421 := hB380.fr F382 (fun f => f)
                have hB422 := hB421.fr F390 (fun h => by have h1 := hq387 _ h; omega)
                have hB423 := hB422.fr F401 (fun h => by have h1 := hfr393 _ h; omega)
                have hB424 := hB423.fr F413 (Ne.symm ne_N_ab)
                rintro _ w425 ⟨rfl, hFS, lpn, hPn, hins1⟩
                have hN2 := (hN2.mono (K' := (shrink (shrink K w366) w416)) (fun b hlt hb => ⟨hb, hlt⟩)).fr hFS (fun b hb _ h => hP2.home (by have h2 : b = N := h; exact h2 ▸ hb.1))
                refine ⟨_, rfl, ?_⟩
                refine RW_nil ?_
                refine inBlk_n ?_
                refine thenW_n ?_
                refine W_seq ?_
                refine W_region ?_
                refine r_val rfl (x_fieldAddr (b := ab) (o := 0) fo_35_0 rfl) ?_
                have hB426 := hB424.fr hFS (fun h => ne_N_ab h.symm)
                refine r_val rfl (x_load (v := .int .i64 f0) kind_3 rfl (hB426.cell rfl)) ?_
                refine r_call rfl (c9 (vs := [.int .i64 f0, .int .i64 9]) rfl) (roostOf_any f0 9 w425 (by assumption) (by decide)) ?_
                rintro _ _ ⟨rfl, rfl⟩
                rw [hkd]
                refine ⟨_, rfl, ?_⟩
                refine r_val rfl (x_eql (a := kd) (b := 6) rfl rfl) ?_
                refine RW_nil ?_
                refine thenW_n ?_
                refine W_condF (b := decide (kd = 6)) rfl rfl (decide_eq_false hc332) ?_
                have hlc : laterC l.length (i : Int) due = 0 := by unfold laterC; rw [if_pos (by omega), if_pos (by omega)]
                refine W_region ?_
                refine r_val rfl (x_move (v := .pointer (some ⟨B, 0, none⟩)) rfl) ?_
                refine r_val rfl (x_move (v := .int .i64 (i : Int)) rfl) ?_
                refine r_val rfl (x_move (v := .int .i64 due) rfl) ?_
                refine r_call rfl (c18 (vs := [.pointer (some ⟨B, 0, none⟩), .int .i64 (i : Int), .int .i64 due]) rfl) (netHold (hN2.fr (Fr.refl No _) (fun _ _ _ s => s)) (by have := hI.len; omega) ⟨hI.cs.1, by have := hI.cs.2; omega⟩ ⟨hI.cl.1, by have := hI.cl.2; omega⟩ (by omega) (fun p hp => by have := hI.small p hp; omega) i hi due hlc) ?_
                rintro _ w427 ⟨rfl, hFL, ln, hN3, hins2⟩
                have := F13.size
                have := F17.size
                have := F30.size
                have := F355.size
                have := F359.size
                have := F363.size
                have := F376.size
                have := F382.size
                have := F390.size
                have := F401.size
                have := F413.size
                have := hFS.size
                have hyK3 : ∀ b, b < w.heap.size → ¬ grow (shrink (shrink K w366) w416) w425 b := fun b h1 h2 => h2.elim (fun h => hyK b h1 h.1.1) (fun h => by omega)
                have hI3 := hI.hold hi (by rw [hat1]) (by exact ⟨hsm.1, (by show 0 ≤ due; omega)⟩) hins1 hins2 hN3 ((hPn.no (Fr.refl No _)).net hFL)
                refine ⟨_, rfl, ?_⟩
                refine r_val rfl (x_move (v := .int .i64 0) rfl) ?_
                refine r_val rfl (x_as (u := .bool true) (x_eql (a := 0) (b := 0) rfl rfl) (congrArg Value.bool (decide_eq_true rfl))) ?_
                refine r_val rfl (x_assign (v := .bool true) rfl) ?_
                have := Fw.size
                have := F13.size
                have := F17.size
                have := F30.size
                have := F355.size
                have := F359.size
                have := F363.size
                have := F376.size
                have := F382.size
                have := F390.size
                have := F401.size
                have := F413.size
                have := hFS.size
                have := hFL.size
                refine RW_nil ?_
                refine inBlk_n ?_
                refine thenW_n ?_
                exact ⟨_, _, _, _, _, _, ((ovl_cons (ovl_cons (ovl_cons (ovl_cons (ovl_cons (ovl_cons (ovl_nil _) rfl) rfl) rfl) rfl) rfl) rfl)).symm, (((((((((((((((Fr.refl No _).trans Fw (fun j hj h => h.elim)).trans F13 (fun j hj h => h.elim)).trans F17 (fun j hj h => (by have h2 : j = ab := h; omega))).trans F30 (fun j hj h => h.elim)).trans F355 (fun j hj h => h.elim)).trans F359 (fun j hj h => (by have h2 : j = fb := h; omega))).trans F363 (fun j hj h => (by have h2 : j = fb := h; omega))).trans F376 (fun j hj h => h.elim)).trans F382 (fun j hj h => h.elim)).trans F390 (fun j hj h => (by have h1 := hq387 _ h; omega))).trans F401 (fun j hj h => (by have h1 := hfr393 _ h; omega))).trans F413 (fun j hj h => (by have h2 : j = N := h; omega))).trans hFS (fun j hj h => (by have h2 : j = N := h; omega))).trans hFL (fun j hj h => (hyK j hj h.1.1))), hyK3, hI3⟩
            ·skip
             refine r_no (t := 341) rfl rfl rfl hc328 ?_
             refine r_no (t := 341) rfl rfl rfl hc328 ?_
             refine r_val rfl (x_pickF (b := !isb) (v := .bool false) rfl hc328 rfl) ?_
             refine r_val rfl (x_assign (v := .bool false) rfl) ?_
             refine RW_nil ?_
             refine thenW_n ?_
             refine W_condF (b := false) rfl rfl rfl ?_
             refine W_seq ?_
             refine W_region ?_
             refine r_val rfl (x_move (v := .bool isb) rfl) ?_
             refine r_val rfl (x_not (b := isb) rfl) ?_
             refine r_val rfl (x_assign (v := .bool (!isb)) rfl) ?_
             refine RW_nil ?_
             refine thenW_n ?_
             refine W_cond (b := !isb) rfl rfl (fun hc428 => ?_) (fun hc428 => ?_)
             ·skip
              refine W_region ?_
              refine r_val rfl (x_assign (v := .int .i64 4) rfl) ?_
              refine RW_nil ?_
              refine inBlk_n ?_
              refine thenW_n ?_
              refine W_seq ?_
              refine W_region ?_
              refine r_val rfl (x_fieldAddr (b := ab) (o := 0) fo_35_0 rfl) ?_
              refine r_val rfl (x_load (v := .int .i64 f0) kind_3 rfl (hB35.cell rfl)) ?_
              refine r_call rfl (c9 (vs := [.int .i64 f0, .int .i64 9]) rfl) (roostOf_any f0 9 w31 (by assumption) (by decide)) ?_
              rintro _ _ ⟨rfl, rfl⟩
              rw [hkd]
              refine ⟨_, rfl, ?_⟩
              refine r_val rfl (x_eql (a := kd) (b := 6) rfl rfl) ?_
              refine RW_nil ?_
              refine thenW_n ?_
              refine W_condD (p := kd = 6) rfl rfl (fun hc429 => ?_) (fun hc429 => ?_)
              ·skip
               have hout : ¬ 0 ≤ at_ ∨ ¬ at_ < (l.length : Int) := by have h1 : isb = false := (show isb = false from by simpa using hc428); rw [his] at h1; have h2 := of_decide_eq_false h1; omega
               have hlc : laterC l.length at_ due = 4 := by unfold laterC; rw [if_neg (by omega)]
               refine W_region ?_
               refine r_val rfl (x_move (v := .pointer (some ⟨B, 0, none⟩)) rfl) ?_
               refine r_val rfl (x_move (v := .int .i64 at_) rfl) ?_
               refine r_val rfl (x_move (v := .int .i64 due) rfl) ?_
               have := F13.size
               have := F17.size
               have := F30.size
               refine r_call rfl (c17 (vs := [.pointer (some ⟨B, 0, none⟩), .int .i64 at_, .int .i64 due]) rfl) (netDouble_no (hI.net.fr ((((Fr.refl No _).trans F13 (fun j hj h => h.elim)).trans F17 (fun j hj h => (by have h2 : j = ab := h; omega))).trans F30 (fun j hj h => h.elim)) (fun _ _ _ s => s)) (by have := hI.len; omega) ⟨hI.cs.1, by have := hI.cs.2; omega⟩ ⟨hI.cl.1, by have := hI.cl.2; omega⟩ (by omega) at_ due (by rw [hlc]; decide)) ?_
               rintro _ _ ⟨rfl, rfl⟩
               rw [hlc]
               refine ⟨_, rfl, ?_⟩
               refine r_val rfl (x_move (v := .int .i64 4) rfl) ?_
               refine r_val rfl (x_as (u := .bool true) (x_eql (a := 4) (b := 4) rfl rfl) (congrArg Value.bool (decide_eq_true rfl))) ?_
               refine r_val rfl (x_assign (v := .bool true) rfl) ?_
               have := F13.size
               have := F17.size
               have := F30.size
               have := Fw.size
               have := F13.size
               have := F17.size
               have := F30.size
               refine RW_nil ?_
               refine inBlk_n ?_
               refine thenW_n ?_
               exact ⟨K, l, lp, sent, lost, _, ((ovl_cons (ovl_cons (ovl_cons (ovl_cons (ovl_cons (ovl_cons (ovl_nil _) rfl) rfl) rfl) rfl) rfl) rfl)).symm, (((((Fr.refl No _).trans Fw (fun j hj h => h.elim)).trans F13 (fun j hj h => h.elim)).trans F17 (fun j hj h => (by have h2 : j = ab := h; omega))).trans F30 (fun j hj h => h.elim)), hyK, (hI.no ((((Fr.refl No _).trans F13 (fun j hj h => h.elim)).trans F17 (fun j hj h => (by have h2 : j = ab := h; omega))).trans F30 (fun j hj h => h.elim))).up (by omega)⟩
              ·skip
               have hout : ¬ 0 ≤ at_ ∨ ¬ at_ < (l.length : Int) := by have h1 : isb = false := (show isb = false from by simpa using hc428); rw [his] at h1; have h2 := of_decide_eq_false h1; omega
               have hlc : laterC l.length at_ due = 4 := by unfold laterC; rw [if_neg (by omega)]
               refine W_region ?_
               refine r_val rfl (x_move (v := .pointer (some ⟨B, 0, none⟩)) rfl) ?_
               refine r_val rfl (x_move (v := .int .i64 at_) rfl) ?_
               refine r_val rfl (x_move (v := .int .i64 due) rfl) ?_
               have := F13.size
               have := F17.size
               have := F30.size
               refine r_call rfl (c18 (vs := [.pointer (some ⟨B, 0, none⟩), .int .i64 at_, .int .i64 due]) rfl) (netHold_no (hI.net.fr ((((Fr.refl No _).trans F13 (fun j hj h => h.elim)).trans F17 (fun j hj h => (by have h2 : j = ab := h; omega))).trans F30 (fun j hj h => h.elim)) (fun _ _ _ s => s)) (by have := hI.len; omega) ⟨hI.cs.1, by have := hI.cs.2; omega⟩ ⟨hI.cl.1, by have := hI.cl.2; omega⟩ (by omega) at_ due (by rw [hlc]; decide)) ?_
               rintro _ _ ⟨rfl, rfl⟩
               rw [hlc]
               refine ⟨_, rfl, ?_⟩
               refine r_val rfl (x_move (v := .int .i64 4) rfl) ?_
               refine r_val rfl (x_as (u := .bool true) (x_eql (a := 4) (b := 4) rfl rfl) (congrArg Value.bool (decide_eq_true rfl))) ?_
               refine r_val rfl (x_assign (v := .bool true) rfl) ?_
               have := F13.size
               have := F17.size
               have := F30.size
               have := Fw.size
               have := F13.size
               have := F17.size
               have := F30.size
               refine RW_nil ?_
               refine inBlk_n ?_
               refine thenW_n ?_
               exact ⟨K, l, lp, sent, lost, _, ((ovl_cons (ovl_cons (ovl_cons (ovl_cons (ovl_cons (ovl_cons (ovl_nil _) rfl) rfl) rfl) rfl) rfl) rfl)).symm, (((((Fr.refl No _).trans Fw (fun j hj h => h.elim)).trans F13 (fun j hj h => h.elim)).trans F17 (fun j hj h => (by have h2 : j = ab := h; omega))).trans F30 (fun j hj h => h.elim)), hyK, (hI.no ((((Fr.refl No _).trans F13 (fun j hj h => h.elim)).trans F17 (fun j hj h => (by have h2 : j = ab := h; omega))).trans F30 (fun j hj h => h.elim))).up (by omega)⟩
             ·skip
              refine W_seq ?_
              refine W_region ?_
              refine r_val rfl (x_move (v := .int .i64 due) rfl) ?_
              refine r_val rfl (x_lss (a := due) (b := 0) rfl rfl) ?_
              refine r_val rfl (x_assign (v := .bool (decide (due < 0))) rfl) ?_
              refine RW_nil ?_
              refine thenW_n ?_
              refine W_condD (p := due < 0) rfl rfl (fun hc430 => ?_) (fun hc430 => ?_)
              ·skip
               refine W_region ?_
               refine r_val rfl (x_assign (v := .int .i64 1) rfl) ?_
               refine RW_nil ?_
               refine inBlk_n ?_
               refine thenW_n ?_
               refine W_seq ?_
               refine W_region ?_
               refine r_val rfl (x_fieldAddr (b := ab) (o := 0) fo_35_0 rfl) ?_
               refine r_val rfl (x_load (v := .int .i64 f0) kind_3 rfl (hB35.cell rfl)) ?_
               refine r_call rfl (c9 (vs := [.int .i64 f0, .int .i64 9]) rfl) (roostOf_any f0 9 w31 (by assumption) (by decide)) ?_
               rintro _ _ ⟨rfl, rfl⟩
               rw [hkd]
               refine ⟨_, rfl, ?_⟩
               refine r_val rfl (x_eql (a := kd) (b := 6) rfl rfl) ?_
               refine RW_nil ?_
               refine thenW_n ?_
               refine W_condD (p := kd = 6) rfl rfl (fun hc431 => ?_) (fun hc431 => ?_)
               ·skip
                have hin : 0 ≤ at_ ∧ at_ < (l.length : Int) := by have h1 := (show isb = true from by simpa using hc428); rw [his] at h1; exact of_decide_eq_true h1
                obtain ⟨i, rfl⟩ : ∃ i : Nat, at_ = (i : Int) := ⟨at_.toNat, by omega⟩
                have hi : i < l.length := by omega
                have hlc : laterC l.length (i : Int) due = 1 := by unfold laterC; rw [if_pos (by omega), if_neg (by omega)]
                refine W_region ?_
                refine r_val rfl (x_move (v := .pointer (some ⟨B, 0, none⟩)) rfl) ?_
                refine r_val rfl (x_move (v := .int .i64 (i : Int)) rfl) ?_
                refine r_val rfl (x_move (v := .int .i64 due) rfl) ?_
                have := F13.size
                have := F17.size
                have := F30.size
                refine r_call rfl (c17 (vs := [.pointer (some ⟨B, 0, none⟩), .int .i64 (i : Int), .int .i64 due]) rfl) (netDouble_no (hI.net.fr ((((Fr.refl No _).trans F13 (fun j hj h => h.elim)).trans F17 (fun j hj h => (by have h2 : j = ab := h; omega))).trans F30 (fun j hj h => h.elim)) (fun _ _ _ s => s)) (by have := hI.len; omega) ⟨hI.cs.1, by have := hI.cs.2; omega⟩ ⟨hI.cl.1, by have := hI.cl.2; omega⟩ (by omega) (i : Int) due (by rw [hlc]; decide)) ?_
                rintro _ _ ⟨rfl, rfl⟩
                rw [hlc]
                refine ⟨_, rfl, ?_⟩
                refine r_val rfl (x_move (v := .int .i64 1) rfl) ?_
                refine r_val rfl (x_as (u := .bool true) (x_eql (a := 1) (b := 1) rfl rfl) (congrArg Value.bool (decide_eq_true rfl))) ?_
                refine r_val rfl (x_assign (v := .bool true) rfl) ?_
                have := F13.size
                have := F17.size
                have := F30.size
                have := Fw.size
                have := F13.size
                have := F17.size
                have := F30.size
                refine RW_nil ?_
                refine inBlk_n ?_
                refine thenW_n ?_
                exact ⟨K, l, lp, sent, lost, _, ((ovl_cons (ovl_cons (ovl_cons (ovl_cons (ovl_cons (ovl_cons (ovl_nil _) rfl) rfl) rfl) rfl) rfl) rfl)).symm, (((((Fr.refl No _).trans Fw (fun j hj h => h.elim)).trans F13 (fun j hj h => h.elim)).trans F17 (fun j hj h => (by have h2 : j = ab := h; omega))).trans F30 (fun j hj h => h.elim)), hyK, (hI.no ((((Fr.refl No _).trans F13 (fun j hj h => h.elim)).trans F17 (fun j hj h => (by have h2 : j = ab := h; omega))).trans F30 (fun j hj h => h.elim))).up (by omega)⟩
               ·skip
                have hin : 0 ≤ at_ ∧ at_ < (l.length : Int) := by have h1 := (show isb = true from by simpa using hc428); rw [his] at h1; exact of_decide_eq_true h1
                obtain ⟨i, rfl⟩ : ∃ i : Nat, at_ = (i : Int) := ⟨at_.toNat, by omega⟩
                have hi : i < l.length := by omega
                have hlc : laterC l.length (i : Int) due = 1 := by unfold laterC; rw [if_pos (by omega), if_neg (by omega)]
                refine W_region ?_
                refine r_val rfl (x_move (v := .pointer (some ⟨B, 0, none⟩)) rfl) ?_
                refine r_val rfl (x_move (v := .int .i64 (i : Int)) rfl) ?_
                refine r_val rfl (x_move (v := .int .i64 due) rfl) ?_
                have := F13.size
                have := F17.size
                have := F30.size
                refine r_call rfl (c18 (vs := [.pointer (some ⟨B, 0, none⟩), .int .i64 (i : Int), .int .i64 due]) rfl) (netHold_no (hI.net.fr ((((Fr.refl No _).trans F13 (fun j hj h => h.elim)).trans F17 (fun j hj h => (by have h2 : j = ab := h; omega))).trans F30 (fun j hj h => h.elim)) (fun _ _ _ s => s)) (by have := hI.len; omega) ⟨hI.cs.1, by have := hI.cs.2; omega⟩ ⟨hI.cl.1, by have := hI.cl.2; omega⟩ (by omega) (i : Int) due (by rw [hlc]; decide)) ?_
                rintro _ _ ⟨rfl, rfl⟩
                rw [hlc]
                refine ⟨_, rfl, ?_⟩
                refine r_val rfl (x_move (v := .int .i64 1) rfl) ?_
                refine r_val rfl (x_as (u := .bool true) (x_eql (a := 1) (b := 1) rfl rfl) (congrArg Value.bool (decide_eq_true rfl))) ?_
                refine r_val rfl (x_assign (v := .bool true) rfl) ?_
                have := F13.size
                have := F17.size
                have := F30.size
                have := Fw.size
                have := F13.size
                have := F17.size
                have := F30.size
                refine RW_nil ?_
                refine inBlk_n ?_
                refine thenW_n ?_
                exact ⟨K, l, lp, sent, lost, _, ((ovl_cons (ovl_cons (ovl_cons (ovl_cons (ovl_cons (ovl_cons (ovl_nil _) rfl) rfl) rfl) rfl) rfl) rfl)).symm, (((((Fr.refl No _).trans Fw (fun j hj h => h.elim)).trans F13 (fun j hj h => h.elim)).trans F17 (fun j hj h => (by have h2 : j = ab := h; omega))).trans F30 (fun j hj h => h.elim)), hyK, (hI.no ((((Fr.refl No _).trans F13 (fun j hj h => h.elim)).trans F17 (fun j hj h => (by have h2 : j = ab := h; omega))).trans F30 (fun j hj h => h.elim))).up (by omega)⟩
              ·skip
               refine W_seq ?_
               refine W_region ?_
               refine r_val rfl (x_fieldAddr (b := ab) (o := 0) fo_35_0 rfl) ?_
               refine r_val rfl (x_load (v := .int .i64 f0) kind_3 rfl (hB35.cell rfl)) ?_
               refine r_call rfl (c9 (vs := [.int .i64 f0, .int .i64 9]) rfl) (roostOf_any f0 9 w31 (by assumption) (by decide)) ?_
               rintro _ _ ⟨rfl, rfl⟩
               rw [hkd]
               refine ⟨_, rfl, ?_⟩
               refine r_val rfl (x_eql (a := kd) (b := 6) rfl rfl) ?_
               refine r_val rfl (x_assign (v := .bool (decide (kd = 6))) rfl) ?_
               refine RW_nil ?_
               refine thenW_n ?_
               refine W_condD (p := kd = 6) rfl rfl (fun hc432 => ?_) (fun hc432 => ?_)
               ·skip
                refine W_seq ?_
                have hin : 0 ≤ at_ ∧ at_ < (l.length : Int) := by have h1 := (show isb = true from by simpa using hc428); rw [his] at h1; exact of_decide_eq_true h1
                obtain ⟨i, rfl⟩ : ∃ i : Nat, at_ = (i : Int) := ⟨at_.toNat, by omega⟩
                have hi : i < l.length := by omega
                have hR433 := hR24.fr F30 (fun _ _ f => f)
                have := F13.size
                have := F17.size
                have := F30.size
                have hplen := hI.plen
                have hip : i < lp.length := by omega
                obtain ⟨rp, op, _, hvp, _, hcp⟩ := hR433.at_ (by omega)
                injection hvp with hvpA
                subst hvpA
                have hbL := hI.pap.bytes (lp.getD i fl0) (getD_mem hip)
                obtain ⟨FP, mp, hfp, _⟩ := hbL.1.form
                have hFP : FC (lp.getD i fl0) = [.int .i64 (lp.getD i fl0).1.num, .int .i64 (lp.getD i fl0).1.frm, .int .i64 (lp.getD i fl0).1.dst, .int .i64 (lp.getD i fl0).1.due, .slice FP (lp.getD i fl0).1.bs.length mp] := by unfold FC; rw [hfp]
                rw [hfp] at hbL
                have hat1 := same_at hI.same i hi
                have hsm := hI.small (l.getD i fl0) (getD_mem hi)
                refine W_region ?_
                refine r_val rfl (x_move (v := .pointer (some ⟨N, 0, none⟩)) rfl) ?_
                refine r_val rfl (x_nilCheck rfl) ?_
                refine r_val rfl (x_fieldAddr (b := N) (o := 0) fo_28_0 rfl) ?_
                have hB434 := hB22.fr F30 (fun f => f)
                refine r_val rfl (x_load (v := .slice (some ⟨rp, op, none⟩) l.length cP) kind_26 rfl (hB434.cell rfl)) ?_
                refine r_val rfl (x_move (v := .int .i64 (i : Int)) rfl) ?_
                refine r_val rfl (x_indexAddr (b := rp) (o := op) (j := i) es_26 rfl rfl rfl (by omega)) ?_
                refine r_val rfl (x_loadRow (b := rp) (o := op + i * 5) (cs := [.int .i64 ((lp.getD i fl0).1.num), .int .i64 ((lp.getD i fl0).1.frm), .int .i64 ((lp.getD i fl0).1.dst), .int .i64 ((lp.getD i fl0).1.due), .slice FP ((lp.getD i fl0).1.bs.length) mp]) kind_37 size_37 rfl (fun mm u hu => (by rw [Nat.add_assoc]; exact hcp _ _ (encL_get (a := (lp.getD i fl0)) (size := 5) FC_len (getD_at lp i fl0 hip) (hFP ▸ hu))))) ?_
                obtain ⟨fb, hfb⟩ : ∃ n, w31.heap.size = n := ⟨_, rfl⟩
                have ne_N_fb : N ≠ fb := by have := hB434.lt; omega
                have ne_ab_fb : ab ≠ fb := by have := hB35.lt; omega
                refine r_alloc (l := [.int .i64 0, .int .i64 0, .int .i64 0, .int .i64 0, .slice none 0 0]) fb hfb zero_37 rfl ?_
                intro w438 F435 z436 hB437
                refine r_store (v := .agg #[.int .i64 ((lp.getD i fl0).1.num), .int .i64 ((lp.getD i fl0).1.frm), .int .i64 ((lp.getD i fl0).1.dst), .int .i64 ((lp.getD i fl0).1.due), .slice FP ((lp.getD i fl0).1.bs.length) mp]) (vs := [.int .i64 ((lp.getD i fl0).1.num), .int .i64 ((lp.getD i fl0).1.frm), .int .i64 ((lp.getD i fl0).1.dst), .int .i64 ((lp.getD i fl0).1.due), .slice FP ((lp.getD i fl0).1.bs.length) mp]) (l' := [.int .i64 ((lp.getD i fl0).1.num), .int .i64 ((lp.getD i fl0).1.frm), .int .i64 ((lp.getD i fl0).1.dst), .int .i64 ((lp.getD i fl0).1.due), .slice FP ((lp.getD i fl0).1.bs.length) mp]) rfl rfl size_37 rfl rfl rfl rfl hB437 (Nat.le_of_ble_eq_true rfl) rfl ?_
                intro w442 F439 z440 hB441
                refine RW_nil ?_
                refine thenW_n ?_
                refine W_seq ?_
                refine W_region ?_
                refine r_val rfl (x_move (v := .int .i64 due) rfl) ?_
                refine r_val rfl (x_fieldAddr (b := fb) (o := 0) fo_37_3 rfl) ?_
                refine r_store (v := .int .i64 due) (vs := [.int .i64 due]) (l' := [.int .i64 ((lp.getD i fl0).1.num), .int .i64 ((lp.getD i fl0).1.frm), .int .i64 ((lp.getD i fl0).1.dst), .int .i64 due, .slice FP ((lp.getD i fl0).1.bs.length) mp]) rfl rfl size_3 rfl rfl rfl rfl hB441 (Nat.le_of_ble_eq_true rfl) rfl ?_
                intro w446 F443 z444 hB445
                refine RW_nil ?_
                refine thenW_n ?_
                refine W_region ?_
                refine r_val rfl (x_move (v := .pointer (some ⟨N, 0, none⟩)) rfl) ?_
                refine r_val rfl (x_loadBlk (b := fb) (l := [.int .i64 ((lp.getD i fl0).1.num), .int .i64 ((lp.getD i fl0).1.frm), .int .i64 ((lp.getD i fl0).1.dst), .int .i64 due, .slice FP ((lp.getD i fl0).1.bs.length) mp]) kind_37 size_37 rfl hB445) ?_
                have := F13.size
                have := F17.size
                have := F30.size
                have := F435.size
                have := F439.size
                have := F443.size
                have hFc := (((((((Fr.refl No _).trans F13 (fun j hj h => h.elim)).trans F17 (fun j hj h => (by have h2 : j = ab := h; omega))).trans F30 (fun j hj h => h.elim)).trans F435 (fun j hj h => h.elim)).trans F439 (fun j hj h => (by have h2 : j = fb := h; omega))).trans F443 (fun j hj h => (by have h2 : j = fb := h; omega)))
                have hPc := hI.pap.no hFc
                have hbc := hPc.bytes (lp.getD i fl0) (getD_mem hip)
                rw [hfp] at hbc
                have hszc := hFc.size
                refine r_call rfl (c11 (vs := [.pointer (some ⟨N, 0, none⟩), .agg #[.int .i64 ((lp.getD i fl0).1.num), .int .i64 ((lp.getD i fl0).1.frm), .int .i64 ((lp.getD i fl0).1.dst), .int .i64 due, .slice FP ((lp.getD i fl0).1.bs.length) mp]]) rfl) (papSends hPc (by omega) (by omega) (by omega) ⟨by omega, by omega⟩ (by rw [hI.same]; exact hI.net.sorted) (lp.getD i fl0).1.num (lp.getD i fl0).1.frm (lp.getD i fl0).1.dst due hbc.1 hbc.2) ?_
                have hB447 := hB35.fr F435 (fun f => f)
                have hB448 := hB447.fr F439 ne_ab_fb
                have hB449 := hB448.fr F443 ne_ab_fb
                rintro _ w450 ⟨rfl, hFS, lpn, lostn, hPn, habs1⟩
                have hN1 := (hI.net.fr hFc (fun _ _ _ s => s)).mono (K' := shrink K w446) (fun b hlt hb => ⟨hb, hlt⟩)
                have hN2 := hN1.fr hFS (fun b hb _ h => hPc.home (by have h2 : b = N := h; exact h2 ▸ hb.1))
                refine ⟨_, rfl, ?_⟩
                refine RW_nil ?_
                refine inBlk_n ?_
                refine thenW_n ?_
                refine W_seq ?_
                refine W_region ?_
                refine r_val rfl (x_fieldAddr (b := ab) (o := 0) fo_35_0 rfl) ?_
                have hB451 := hB449.fr hFS (fun h => ne_N_ab h.symm)
                refine r_val rfl (x_load (v := .int .i64 f0) kind_3 rfl (hB451.cell rfl)) ?_
                refine r_call rfl (c9 (vs := [.int .i64 f0, .int .i64 9]) rfl) (roostOf_any f0 9 w450 (by assumption) (by decide)) ?_
                rintro _ _ ⟨rfl, rfl⟩
                rw [hkd]
                refine ⟨_, rfl, ?_⟩
                refine r_val rfl (x_eql (a := kd) (b := 6) rfl rfl) ?_
                refine RW_nil ?_
                refine thenW_n ?_
                refine W_condT (b := decide (kd = 6)) rfl rfl (decide_eq_true hc432) ?_
                have hlc : laterC l.length (i : Int) due = 0 := by unfold laterC; rw [if_pos (by omega), if_pos (by omega)]
                refine W_region ?_
                refine r_val rfl (x_move (v := .pointer (some ⟨B, 0, none⟩)) rfl) ?_
                refine r_val rfl (x_move (v := .int .i64 (i : Int)) rfl) ?_
                refine r_val rfl (x_move (v := .int .i64 due) rfl) ?_
                refine r_call rfl (c17 (vs := [.pointer (some ⟨B, 0, none⟩), .int .i64 (i : Int), .int .i64 due]) rfl) (netDouble (hN2.fr (Fr.refl No _) (fun _ _ _ s => s)) (by have := hI.len; omega) ⟨hI.cs.1, by have := hI.cs.2; omega⟩ ⟨hI.cl.1, by have := hI.cl.2; omega⟩ (by omega) (fun p hp => by have := hI.small p hp; omega) i hi due hlc) ?_
                rintro _ w452 ⟨rfl, hFL, ln, lostm, hN3, habs2⟩
                have := F13.size
                have := F17.size
                have := F30.size
                have := F435.size
                have := F439.size
                have := F443.size
                have := hFS.size
                have hyK3 : ∀ b, b < w.heap.size → ¬ grow (shrink K w446) w450 b := fun b h1 h2 => h2.elim (fun h => hyK b h1 h.1) (fun h => by omega)
                have hI3 := hI.fresh (by rw [hat1]) (by exact ⟨hsm.1, (by show 0 ≤ due; omega)⟩) habs1 habs2 hN3 ((hPn.no (Fr.refl No _)).net hFL)
                refine ⟨_, rfl, ?_⟩
                refine r_val rfl (x_move (v := .int .i64 0) rfl) ?_
                refine r_val rfl (x_as (u := .bool true) (x_eql (a := 0) (b := 0) rfl rfl) (congrArg Value.bool (decide_eq_true rfl))) ?_
                refine r_val rfl (x_assign (v := .bool true) rfl) ?_
                have := Fw.size
                have := F13.size
                have := F17.size
                have := F30.size
                have := F435.size
                have := F439.size
                have := F443.size
                have := hFS.size
                have := hFL.size
                refine RW_nil ?_
                refine inBlk_n ?_
                refine thenW_n ?_
                exact ⟨_, _, _, _, _, _, ((ovl_cons (ovl_cons (ovl_cons (ovl_cons (ovl_cons (ovl_cons (ovl_nil _) rfl) rfl) rfl) rfl) rfl) rfl)).symm, ((((((((((Fr.refl No _).trans Fw (fun j hj h => h.elim)).trans F13 (fun j hj h => h.elim)).trans F17 (fun j hj h => (by have h2 : j = ab := h; omega))).trans F30 (fun j hj h => h.elim)).trans F435 (fun j hj h => h.elim)).trans F439 (fun j hj h => (by have h2 : j = fb := h; omega))).trans F443 (fun j hj h => (by have h2 : j = fb := h; omega))).trans hFS (fun j hj h => (by have h2 : j = N := h; omega))).trans hFL (fun j hj h => (hyK j hj (shr_in h)))), hyK3, hI3⟩
               ·skip
                refine W_seq ?_
                have hin : 0 ≤ at_ ∧ at_ < (l.length : Int) := by have h1 := (show isb = true from by simpa using hc428); rw [his] at h1; exact of_decide_eq_true h1
                obtain ⟨i, rfl⟩ : ∃ i : Nat, at_ = (i : Int) := ⟨at_.toNat, by omega⟩
                have hi : i < l.length := by omega
                have hR453 := hR24.fr F30 (fun _ _ f => f)
                have := F13.size
                have := F17.size
                have := F30.size
                have hplen := hI.plen
                have hip : i < lp.length := by omega
                obtain ⟨rp, op, _, hvp, _, hcp⟩ := hR453.at_ (by omega)
                injection hvp with hvpA
                subst hvpA
                have hbL := hI.pap.bytes (lp.getD i fl0) (getD_mem hip)
                obtain ⟨FP, mp, hfp, _⟩ := hbL.1.form
                have hFP : FC (lp.getD i fl0) = [.int .i64 (lp.getD i fl0).1.num, .int .i64 (lp.getD i fl0).1.frm, .int .i64 (lp.getD i fl0).1.dst, .int .i64 (lp.getD i fl0).1.due, .slice FP (lp.getD i fl0).1.bs.length mp] := by unfold FC; rw [hfp]
                rw [hfp] at hbL
                have hat1 := same_at hI.same i hi
                have hsm := hI.small (l.getD i fl0) (getD_mem hi)
                refine W_region ?_
                refine r_val rfl (x_move (v := .pointer (some ⟨N, 0, none⟩)) rfl) ?_
                refine r_val rfl (x_nilCheck rfl) ?_
                refine r_val rfl (x_fieldAddr (b := N) (o := 0) fo_28_0 rfl) ?_
                have hB454 := hB22.fr F30 (fun f => f)
                refine r_val rfl (x_load (v := .slice (some ⟨rp, op, none⟩) l.length cP) kind_26 rfl (hB454.cell rfl)) ?_
                refine r_val rfl (x_move (v := .int .i64 (i : Int)) rfl) ?_
                refine r_val rfl (x_indexAddr (b := rp) (o := op) (j := i) es_26 rfl rfl rfl (by omega)) ?_
                refine r_val rfl (x_loadRow (b := rp) (o := op + i * 5) (cs := [.int .i64 ((lp.getD i fl0).1.num), .int .i64 ((lp.getD i fl0).1.frm), .int .i64 ((lp.getD i fl0).1.dst), .int .i64 ((lp.getD i fl0).1.due), .slice FP ((lp.getD i fl0).1.bs.length) mp]) kind_37 size_37 rfl (fun mm u hu => (by rw [Nat.add_assoc]; exact hcp _ _ (encL_get (a := (lp.getD i fl0)) (size := 5) FC_len (getD_at lp i fl0 hip) (hFP ▸ hu))))) ?_
                obtain ⟨fb, hfb⟩ : ∃ n, w31.heap.size = n := ⟨_, rfl⟩
                have ne_N_fb : N ≠ fb := by have := hB454.lt; omega
                have ne_ab_fb : ab ≠ fb := by have := hB35.lt; omega
                refine r_alloc (l := [.int .i64 0, .int .i64 0, .int .i64 0, .int .i64 0, .slice none 0 0]) fb hfb zero_37 rfl ?_
                intro w458 F455 z456 hB457
                refine r_store (v := .agg #[.int .i64 ((lp.getD i fl0).1.num), .int .i64 ((lp.getD i fl0).1.frm), .int .i64 ((lp.getD i fl0).1.dst), .int .i64 ((lp.getD i fl0).1.due), .slice FP ((lp.getD i fl0).1.bs.length) mp]) (vs := [.int .i64 ((lp.getD i fl0).1.num), .int .i64 ((lp.getD i fl0).1.frm), .int .i64 ((lp.getD i fl0).1.dst), .int .i64 ((lp.getD i fl0).1.due), .slice FP ((lp.getD i fl0).1.bs.length) mp]) (l' := [.int .i64 ((lp.getD i fl0).1.num), .int .i64 ((lp.getD i fl0).1.frm), .int .i64 ((lp.getD i fl0).1.dst), .int .i64 ((lp.getD i fl0).1.due), .slice FP ((lp.getD i fl0).1.bs.length) mp]) rfl rfl size_37 rfl rfl rfl rfl hB457 (Nat.le_of_ble_eq_true rfl) rfl ?_
                intro w462 F459 z460 hB461
                refine RW_nil ?_
                refine thenW_n ?_
                refine W_seq ?_
                refine W_region ?_
                refine r_val rfl (x_move (v := .int .i64 due) rfl) ?_
                refine r_val rfl (x_fieldAddr (b := fb) (o := 0) fo_37_3 rfl) ?_
                refine r_store (v := .int .i64 due) (vs := [.int .i64 due]) (l' := [.int .i64 ((lp.getD i fl0).1.num), .int .i64 ((lp.getD i fl0).1.frm), .int .i64 ((lp.getD i fl0).1.dst), .int .i64 due, .slice FP ((lp.getD i fl0).1.bs.length) mp]) rfl rfl size_3 rfl rfl rfl rfl hB461 (Nat.le_of_ble_eq_true rfl) rfl ?_
                intro w466 F463 z464 hB465
                refine RW_nil ?_
                refine thenW_n ?_
                refine W_seq ?_
                have := F13.size
                have := F17.size
                have := F30.size
                have := F455.size
                have := F459.size
                have := F463.size
                have hB467 := hB454.fr F455 (fun f => f)
                have hB468 := hB467.fr F459 ne_N_fb
                have hB469 := hB468.fr F463 ne_N_fb
                have hR470 := hR453.fr F455 (fun _ _ f => f)
                have hR471 := hR470.fr F459 (fun b hb h => by have h1 := (hPb b hb).2.2; have h2 : b = fb := h; omega)
                have hR472 := hR471.fr F463 (fun b hb h => by have h1 := (hPb b hb).2.2; have h2 : b = fb := h; omega)
                have hFr := (((((((Fr.refl No _).trans F13 (fun j hj h => h.elim)).trans F17 (fun j hj h => (by have h2 : j = ab := h; omega))).trans F30 (fun j hj h => h.elim)).trans F455 (fun j hj h => h.elim)).trans F459 (fun j hj h => (by have h2 : j = fb := h; omega))).trans F463 (fun j hj h => (by have h2 : j = fb := h; omega)))
                have hPr := hI.pap.no hFr
                have hR4 := hR472
                have hN4 := hB469
                have lt_N := hN4.lt
                obtain ⟨_, _, eP, hncP⟩ := hR4.form
                injection eP with _ _ eP3
                subst eP3
                have hplen := hI.plen
                have hB473 := hB35.fr F455 (fun f => f)
                have hB474 := hB473.fr F459 ne_ab_fb
                have hB475 := hB474.fr F463 ne_ab_fb
                have lt_ab := (hB475).lt
                have lt_fb := (hB465).lt
                refine d_begin mo 19 (fun x => Fr No w466 x) ?_
                obtain ⟨w477, hw477⟩ : ∃ x, w466.drew = x := ⟨_, rfl⟩
                have F476 : Fr No w466 w477 := by rw [← hw477]; exact Fr.drew _ _
                have D478 : Fr No w466 w477 := Fr.of_No F476
                have sF476 := F476.size
                rw [hw477]
                refine d_pure (i := 0) rfl (by kernel_rfl) (np_then (np_blk (np_then (np_blk (np_then (np_blk (np_then (np_then (np_blk (np_then np_body)))))))))) rfl (fun _ => (x_move (v := .pointer (some ⟨N, 0, none⟩)) rfl)) (fun _ => D478) ?_
                refine d_pure (i := 2) rfl (by kernel_rfl) (np_then (np_blk (np_then (np_blk (np_then (np_blk (np_then (np_then (np_blk (np_then np_body)))))))))) rfl (fun _ => (x_move (v := .pointer (some ⟨N, 0, none⟩)) rfl)) (fun _ => D478) ?_
                refine d_pure (i := 3) rfl (by kernel_rfl) (np_then (np_blk (np_then (np_blk (np_then (np_blk (np_then (np_then (np_blk (np_then np_body)))))))))) rfl (fun _ => (x_nilCheck rfl)) (fun _ => D478) ?_
                refine d_pure (i := 4) rfl (by kernel_rfl) (np_then (np_blk (np_then (np_blk (np_then (np_blk (np_then (np_then (np_blk (np_then np_body)))))))))) rfl (fun _ => (x_fieldAddr (b := N) (o := 0) fo_28_0 rfl)) (fun _ => D478) ?_
                refine d_load (i := 5) rfl (by kernel_rfl) (np_then (np_blk (np_then (np_blk (np_then (np_blk (np_then (np_then (np_blk (np_then np_body)))))))))) rfl (by kernel_rfl) rfl (fun x hS => (x_load (v := .slice (some ⟨rp, op, none⟩) l.length cP) kind_26 rfl ((hB469.fr hS (fun f => f)).cell rfl))) D478 ?_
                refine d_pure (i := 6) rfl (by kernel_rfl) (np_then (np_blk (np_then (np_blk (np_then (np_blk (np_then (np_then (np_blk (np_then np_body)))))))))) rfl (fun _ => (x_move (v := .int .i64 (i : Int)) rfl)) (fun _ => D478) ?_
                refine d_pure (i := 7) rfl (by kernel_rfl) (np_then (np_blk (np_then (np_blk (np_then (np_blk (np_then (np_then (np_blk (np_then np_body)))))))))) rfl (fun _ => (x_sliceHi (h := i) es_26 rfl rfl (by first | rfl | omega) (by omega))) (fun _ => D478) ?_
                refine d_pure (i := 9) rfl (by kernel_rfl) (np_then (np_blk (np_then (np_blk (np_then (np_blk (np_then (np_then (np_blk (np_then np_body)))))))))) rfl (fun _ => (x_move (v := .pointer (some ⟨N, 0, none⟩)) rfl)) (fun _ => D478) ?_
                refine d_pure (i := 10) rfl (by kernel_rfl) (np_then (np_blk (np_then (np_blk (np_then (np_blk (np_then (np_then (np_blk (np_then np_body)))))))))) rfl (fun _ => (x_nilCheck rfl)) (fun _ => D478) ?_
                refine d_pure (i := 11) rfl (by kernel_rfl) (np_then (np_blk (np_then (np_blk (np_then (np_blk (np_then (np_then (np_blk (np_then np_body)))))))))) rfl (fun _ => (x_fieldAddr (b := N) (o := 0) fo_28_0 rfl)) (fun _ => D478) ?_
                refine d_load (i := 12) rfl (by kernel_rfl) (np_then (np_blk (np_then (np_blk (np_then (np_blk (np_then (np_then (np_blk (np_then np_body)))))))))) rfl (by kernel_rfl) rfl (fun x hS => (x_load (v := .slice (some ⟨rp, op, none⟩) l.length cP) kind_26 rfl ((hB469.fr hS (fun f => f)).cell rfl))) D478 ?_
                refine d_pure (i := 13) rfl (by kernel_rfl) (np_then (np_blk (np_then (np_blk (np_then (np_blk (np_then (np_then (np_blk (np_then np_body)))))))))) rfl (fun _ => (x_move (v := .int .i64 (i : Int)) rfl)) (fun _ => D478) ?_
                refine d_pure (i := 14) rfl (by kernel_rfl) (np_then (np_blk (np_then (np_blk (np_then (np_blk (np_then (np_then (np_blk (np_then np_body)))))))))) rfl (fun _ => (x_add64 (a := (i : Int)) (b := 1) rfl rfl (by omega))) (fun _ => D478) ?_
                refine d_pure (i := 15) rfl (by kernel_rfl) (np_then (np_blk (np_then (np_blk (np_then (np_blk (np_then (np_then (np_blk (np_then np_body)))))))))) rfl (fun _ => (x_sliceLo (l := i + 1) es_26 rfl rfl (by first | rfl | omega) (by omega))) (fun _ => D478) ?_
                refine d_force (i := 1) rfl (by kernel_rfl) ?_
                have hB479 := hB469.fr F476 (fun f => f)
                have hB480 := hB475.fr F476 (fun f => f)
                have hB481 := hB465.fr F476 (fun f => f)
                obtain ⟨g0, hg0⟩ : ∃ n, w477.heap.size = n := ⟨_, rfl⟩
                have ne_N_g0 : N ≠ g0 := by have := hB479.lt; omega
                have ne_ab_g0 : ab ≠ g0 := by have := hB480.lt; omega
                have ne_fb_g0 : fb ≠ g0 := by have := hB481.lt; omega
                refine r_lit (vs := []) (l := []) rfl g0 hg0 ei_26 (.inr ⟨_, rfl⟩) rfl rfl (by simp) rfl (by decide) ?_
                intro w485 F482 z483 hB484
                have sD486 := F482.size
                have D486 : Fr No w466 w485 := D478.trans F482 (fun i hi h => (by first | exact h.elim | omega | (simp only [Value.ownBlock, Option.some.injEq] at h; omega) | (have h2 := h; simp at h2; omega) | exact h))
                refine d_next (fun _ => D486) ?_
                refine d_force (i := 8) rfl (by kernel_rfl) ?_
                have := F476.size
                have := F482.size
                have hq487 : ∀ b, (Value.slice (some ⟨g0, 0, none⟩) 0 0).ownBlock = some b → w466.heap.size ≤ b := fun b hb => (by have h1 : g0 = b := (by injection hb); omega)
                refine r_append rfl rfl ei_26 rfl (by decide) (v := .slice (some ⟨g0, 0, none⟩) 0 0) (u := .slice (some ⟨rp, op, none⟩) i cP) rfl rfl (Own.of_blk hB484 5 0 rfl (by decide)) ((hR4.fr D486 (fun _ _ f => f)).take i (by omega) cP (by omega)) (one_take (FC_one (fun p hp => (hPr.bytes p hp).1.one))) (by unfold maxLen; omega) (by omega) ?_
                intro v488 w494 hO489 F490 hat491 hnil492
                have hfr493 : ∀ b, (v488).ownBlock = some b → w466.heap.size ≤ b := fun b hb => (by rcases hat491 with e | e; (rw [e] at hb; exact hq487 b hb); (rw [e] at hb; injection hb with hb; omega))
                obtain ⟨A495, c496, he497, _⟩ := hO489.rd.form
                subst he497
                have sD498 := F490.size
                have D498 : Fr No w466 w494 := D486.trans F490 (fun i hi h => (by have h1 := hq487 i h; omega))
                refine d_next (fun _ => D498) ?_
                refine d_force (i := 16) rfl (by kernel_rfl) ?_
                have := F476.size
                have := F482.size
                have := F490.size
                refine r_append rfl rfl ei_26 rfl (by decide) (v := .slice A495 (0 + i) c496) (u := .slice (subA 5 (i + 1) cP (some ⟨rp, op, none⟩)) (l.length - (i + 1)) (cP - (i + 1))) rfl rfl hO489 ((hR4.fr D498 (fun _ _ f => f)).sub (i + 1) l.length (by omega) (Nat.le_refl _) cP hncP) (one_take (one_drop (FC_one (fun p hp => (hPr.bytes p hp).1.one)))) (by unfold maxLen; omega) (by omega) ?_
                intro v499 w505 hO500 F501 hat502 hnil503
                have hfr504 : ∀ b, (v499).ownBlock = some b → w466.heap.size ≤ b := fun b hb => (by rcases hat502 with e | e; (rw [e] at hb; exact hfr493 b hb); (rw [e] at hb; injection hb with hb; omega))
                obtain ⟨A506, c507, he508, _⟩ := hO500.rd.form
                subst he508
                have sD509 := F501.size
                have D509 : Fr No w466 w505 := D498.trans F501 (fun i hi h => (by have h1 := hfr493 i h; omega))
                refine d_next (fun _ => D509) ?_
                refine d_pure (i := 17) rfl (by kernel_rfl) (np_then (np_blk (np_then (np_blk (np_then (np_blk (np_then (np_then (np_blk (np_then np_body)))))))))) rfl (fun _ => (x_nilCheck rfl)) (fun _ => D509) ?_
                refine d_pure (i := 18) rfl (by kernel_rfl) (np_then (np_blk (np_then (np_blk (np_then (np_blk (np_then (np_then (np_blk (np_then np_body)))))))))) rfl (fun _ => (x_fieldAddr (b := N) (o := 0) fo_28_0 rfl)) (fun _ => D509) ?_
                refine d_force (i := 19) rfl (by kernel_rfl) ?_
                have hB510 := hB479.fr F482 (fun f => f)
                have hB511 := hB510.fr F490 (fun h => by have h1 := hq487 _ h; omega)
                have hB512 := hB511.fr F501 (fun h => by have h1 := hfr493 _ h; omega)
                refine r_store (v := .slice A506 (0 + i + (l.length - (i + 1))) c507) (vs := [.slice A506 (0 + i + (l.length - (i + 1))) c507]) (l' := [.slice A506 (0 + i + (l.length - (i + 1))) c507, .int .i64 sent, .int .i64 lost, .int .i64 (mst : Int)]) rfl rfl size_26 rfl rfl rfl rfl hB512 (Nat.le_of_ble_eq_true rfl) rfl ?_
                intro w516 F513 z514 hB515
                have := F513.size
                have hFN := (D509.of_No (S := fun b => b = N)).trans F513 (fun j _ h => h)
                have hcnt : 0 + i + (l.length - (i + 1)) = (lp.take i ++ lp.drop (i + 1)).length := by simp only [List.length_append, List.length_take, List.length_drop]; omega
                have hcells : [] ++ (encL FC lp).take (i * 5) ++ ((encL FC lp).drop ((i + 1) * 5)).take ((l.length - (i + 1)) * 5) = encL FC (lp.take i ++ lp.drop (i + 1)) := by
                  rw [List.take_of_length_le (l := (encL FC lp).drop ((i + 1) * 5)) (i := (l.length - (i + 1)) * 5) (by rw [List.length_drop, encL_length FC_len, hplen]; omega), encL_take FC_len, encL_drop FC_len, encL_append]; rfl
                have hO5 := hO500.fr F513 (fun b hb h => by have h1 := hfr504 b hb; have h2 : b = N := h; omega)
                rw [hcells] at hO5
                have hP2 := hPr.re (l' := lp.take i ++ lp.drop (i + 1)) hFN hB515 hcnt hO5.rd (fun b h => ⟨.inr (hfr504 b h), by have := hfr504 b h; omega, hO5.lt h⟩) (fun p hp => .inr ⟨p, (List.mem_append.1 hp).elim List.mem_of_mem_take List.mem_of_mem_drop, rfl, rfl⟩)
                have hN1 := (hI.net.fr hFr (fun _ _ _ s => s)).mono (K' := shrink K w466) (fun b hlt hb => ⟨hb, hlt⟩)
                have hN2 := hN1.fr hFN (fun b hb _ h => hPr.home (by have h2 : b = N := h; exact h2 ▸ hb.1))
                refine d_next (fun hx => absurd hx (by decide)) ?_
                refine d_done (by kernel_rfl) ?_
                refine thenW_n ?_
                refine W_region ?_
                refine r_val rfl (x_move (v := .pointer (some ⟨N, 0, none⟩)) rfl) ?_
                have hB517 := hB481.fr F482 (fun f => f)
                have hB518 := hB517.fr F490 (fun h => by have h1 := hq487 _ h; omega)
                have hB519 := hB518.fr F501 (fun h => by have h1 := hfr493 _ h; omega)
                have hB520 := hB519.fr F513 (Ne.symm ne_N_fb)
                refine r_val rfl (x_loadBlk (b := fb) (l := [.int .i64 ((lp.getD i fl0).1.num), .int .i64 ((lp.getD i fl0).1.frm), .int .i64 ((lp.getD i fl0).1.dst), .int .i64 due, .slice FP ((lp.getD i fl0).1.bs.length) mp]) kind_37 size_37 rfl hB520) ?_
                have := F13.size
                have := F17.size
                have := F30.size
                have := F455.size
                have := F459.size
                have := F463.size
                have := F476.size
                have := F482.size
                have := F490.size
                have := F501.size
                have := F513.size
                have := F13.size
                have := F17.size
                have := F30.size
                have := F455.size
                have := F459.size
                have := F463.size
                have := F476.size
                have := F482.size
                have := F490.size
                have := F501.size
                have := F513.size
                have hFLn := ((((((((((((Fr.refl (fun b => b = N) _).trans F13 (fun j hj h => h.elim)).trans F17 (fun j hj h => (by have h2 : j = ab := h; omega))).trans F30 (fun j hj h => h.elim)).trans F455 (fun j hj h => h.elim)).trans F459 (fun j hj h => (by have h2 : j = fb := h; omega))).trans F463 (fun j hj h => (by have h2 : j = fb := h; omega))).trans F476 (fun j hj h => h.elim)).trans F482 (fun j hj h => h.elim)).trans F490 (fun j hj h => (by have h1 := hq487 _ h; omega))).trans F501 (fun j hj h => (by have h1 := hfr493 _ h; omega))).trans F513 (fun j hj h => h))
                refine r_call rfl (c16 (vs := [.pointer (some ⟨N, 0, none⟩), .agg #[.int .i64 ((lp.getD i fl0).1.num), .int .i64 ((lp.getD i fl0).1.frm), .int .i64 ((lp.getD i fl0).1.dst), .int .i64 due, .slice FP ((lp.getD i fl0).1.bs.length) mp]]) rfl) (papLays hP2 (by simp only [List.length_append, List.length_take, List.length_drop]; omega) (by rw [same_del hI.same]; exact hI.net.sorted.sublist ((take_drop_sublist l i).map _)) (lp.getD i fl0).1.num (lp.getD i fl0).1.frm (lp.getD i fl0).1.dst due (hbL.1.fr hFLn (fun b hb h => (hbL.2 b hb).2.1 h)) (fun b h => ⟨fun hk => (hbL.2 b h).1 hk.1, (hbL.2 b h).2.1, by have := (hbL.2 b h).2.2; omega⟩)) ?_
                have hB521 := hB480.fr F482 (fun f => f)
                have hB522 := hB521.fr F490 (fun h => by have h1 := hq487 _ h; omega)
                have hB523 := hB522.fr F501 (fun h => by have h1 := hfr493 _ h; omega)
                have hB524 := hB523.fr F513 (Ne.symm ne_N_ab)
                rintro _ w525 ⟨rfl, hFS, lpn, hPn, hins1⟩
                have hN2 := (hN2.mono (K' := (shrink (shrink K w466) w516)) (fun b hlt hb => ⟨hb, hlt⟩)).fr hFS (fun b hb _ h => hP2.home (by have h2 : b = N := h; exact h2 ▸ hb.1))
                refine ⟨_, rfl, ?_⟩
                refine RW_nil ?_
                refine inBlk_n ?_
                refine thenW_n ?_
                refine W_seq ?_
                refine W_region ?_
                refine r_val rfl (x_fieldAddr (b := ab) (o := 0) fo_35_0 rfl) ?_
                have hB526 := hB524.fr hFS (fun h => ne_N_ab h.symm)
                refine r_val rfl (x_load (v := .int .i64 f0) kind_3 rfl (hB526.cell rfl)) ?_
                refine r_call rfl (c9 (vs := [.int .i64 f0, .int .i64 9]) rfl) (roostOf_any f0 9 w525 (by assumption) (by decide)) ?_
                rintro _ _ ⟨rfl, rfl⟩
                rw [hkd]
                refine ⟨_, rfl, ?_⟩
                refine r_val rfl (x_eql (a := kd) (b := 6) rfl rfl) ?_
                refine RW_nil ?_
                refine thenW_n ?_
                refine W_condF (b := decide (kd = 6)) rfl rfl (decide_eq_false hc432) ?_
                have hlc : laterC l.length (i : Int) due = 0 := by unfold laterC; rw [if_pos (by omega), if_pos (by omega)]
                refine W_region ?_
                refine r_val rfl (x_move (v := .pointer (some ⟨B, 0, none⟩)) rfl) ?_
                refine r_val rfl (x_move (v := .int .i64 (i : Int)) rfl) ?_
                refine r_val rfl (x_move (v := .int .i64 due) rfl) ?_
                refine r_call rfl (c18 (vs := [.pointer (some ⟨B, 0, none⟩), .int .i64 (i : Int), .int .i64 due]) rfl) (netHold (hN2.fr (Fr.refl No _) (fun _ _ _ s => s)) (by have := hI.len; omega) ⟨hI.cs.1, by have := hI.cs.2; omega⟩ ⟨hI.cl.1, by have := hI.cl.2; omega⟩ (by omega) (fun p hp => by have := hI.small p hp; omega) i hi due hlc) ?_
                rintro _ w527 ⟨rfl, hFL, ln, hN3, hins2⟩
                have := F13.size
                have := F17.size
                have := F30.size
                have := F455.size
                have := F459.size
                have := F463.size
                have := F476.size
                have := F482.size
                have := F490.size
                have := F501.size
                have := F513.size
                have := hFS.size
                have hyK3 : ∀ b, b < w.heap.size → ¬ grow (shrink (shrink K w466) w516) w525 b := fun b h1 h2 => h2.elim (fun h => hyK b h1 h.1.1) (fun h => by omega)
                have hI3 := hI.hold hi (by rw [hat1]) (by exact ⟨hsm.1, (by show 0 ≤ due; omega)⟩) hins1 hins2 hN3 ((hPn.no (Fr.refl No _)).net hFL)
                refine ⟨_, rfl, ?_⟩
                refine r_val rfl (x_move (v := .int .i64 0) rfl) ?_
                refine r_val rfl (x_as (u := .bool true) (x_eql (a := 0) (b := 0) rfl rfl) (congrArg Value.bool (decide_eq_true rfl))) ?_
                refine r_val rfl (x_assign (v := .bool true) rfl) ?_
                have := Fw.size
                have := F13.size
                have := F17.size
                have := F30.size
                have := F455.size
                have := F459.size
                have := F463.size
                have := F476.size
                have := F482.size
                have := F490.size
                have := F501.size
                have := F513.size
                have := hFS.size
                have := hFL.size
                refine RW_nil ?_
                refine inBlk_n ?_
                refine thenW_n ?_
                exact ⟨_, _, _, _, _, _, ((ovl_cons (ovl_cons (ovl_cons (ovl_cons (ovl_cons (ovl_cons (ovl_nil _) rfl) rfl) rfl) rfl) rfl) rfl)).symm, (((((((((((((((Fr.refl No _).trans Fw (fun j hj h => h.elim)).trans F13 (fun j hj h => h.elim)).trans F17 (fun j hj h => (by have h2 : j = ab := h; omega))).trans F30 (fun j hj h => h.elim)).trans F455 (fun j hj h => h.elim)).trans F459 (fun j hj h => (by have h2 : j = fb := h; omega))).trans F463 (fun j hj h => (by have h2 : j = fb := h; omega))).trans F476 (fun j hj h => h.elim)).trans F482 (fun j hj h => h.elim)).trans F490 (fun j hj h => (by have h1 := hq487 _ h; omega))).trans F501 (fun j hj h => (by have h1 := hfr493 _ h; omega))).trans F513 (fun j hj h => (by have h2 : j = N := h; omega))).trans hFS (fun j hj h => (by have h2 : j = N := h; omega))).trans hFL (fun j hj h => (hyK j hj h.1.1))), hyK3, hI3⟩
           ·skip
            refine W_seq ?_
            have hrp := roostV_in (x := f3) (n := 60) (by decide)
            obtain ⟨pl, hpl⟩ : ∃ q : Nat, roostV f3 60 = (q : Int) := ⟨(roostV f3 60).toNat, by omega⟩
            rw [hpl] at hrp
            obtain ⟨tb, htb⟩ : ∃ t : UInt8, IntKind.u8.wrap f2 = (t.toNat : Int) := ⟨UInt8.ofNat (f2 % 256).toNat, by rw [IntKind.wrap_u8]; simp; omega⟩
            refine W_region ?_
            refine r_val rfl (x_fieldAddr (b := ab) (o := 0) fo_35_3 rfl) ?_
            refine r_val rfl (x_load (v := .int .i64 f3) kind_3 rfl (hB35.cell rfl)) ?_
            refine r_call rfl (c9 (vs := [.int .i64 f3, .int .i64 60]) rfl) (roostOf_any f3 60 w31 (by assumption) (by decide)) ?_
            rintro _ _ ⟨rfl, rfl⟩
            rw [hpl]
            refine ⟨_, rfl, ?_⟩
            refine r_val rfl (x_assign (v := .int .i64 (pl : Int)) rfl) ?_
            refine RW_nil ?_
            refine thenW_n ?_
            refine W_seq ?_
            refine W_region ?_
            refine r_val rfl (x_assign (v := .int .i64 4) rfl) ?_
            refine RW_nil ?_
            refine thenW_n ?_
            refine W_seq ?_
            refine W_seq ?_
            refine W_region ?_
            refine r_val rfl (x_move (v := .bool isb) rfl) ?_
            refine RW_nil ?_
            refine thenW_n ?_
            refine W_cond (b := isb) rfl rfl (fun hc528 => ?_) (fun hc528 => ?_)
            ·skip
             refine W_seq ?_
             refine W_region ?_
             refine r_val rfl (x_assign (v := .int .i64 0) rfl) ?_
             refine RW_nil ?_
             refine thenW_n ?_
             refine W_seq ?_
             have hR529 := hR24.fr F30 (fun _ _ f => f)
             have hR20 := hR529
             refine W_region ?_
             have hB530 := hB22.fr F30 (fun f => f)
             obtain ⟨g0, hg0⟩ : ∃ n, w31.heap.size = n := ⟨_, rfl⟩
             have ne_N_g0 : N ≠ g0 := by have := hB530.lt; omega
             have ne_ab_g0 : ab ≠ g0 := by have := hB35.lt; omega
             refine r_lit (vs := []) (l := []) rfl g0 hg0 ei_33 (.inr ⟨_, rfl⟩) rfl rfl (by simp) rfl (by decide) ?_
             intro w534 F531 z532 hB533
             refine r_val rfl (x_move (v := .pointer (some ⟨N, 0, none⟩)) rfl) ?_
             refine r_val rfl (x_nilCheck rfl) ?_
             refine r_val rfl (x_fieldAddr (b := N) (o := 0) fo_28_0 rfl) ?_
             have hB535 := hB530.fr F531 (fun f => f)
             refine r_val rfl (x_load (v := .slice AP l.length cP) kind_26 rfl (hB535.cell rfl)) ?_
             refine r_val rfl (x_move (v := .int .i64 at_) rfl) ?_
             have hin : 0 ≤ at_ ∧ at_ < (l.length : Int) := by have h1 := hc528; rw [his] at h1; exact of_decide_eq_true h1
             obtain ⟨i, rfl⟩ : ∃ i : Nat, at_ = (i : Int) := ⟨at_.toNat, by omega⟩
             have hi : i < l.length := by omega
             have hR536 := hR529.fr F531 (fun _ _ f => f)
             have := F13.size
             have := F17.size
             have := F30.size
             have := F531.size
             have hplen := hI.plen
             have hip : i < lp.length := by omega
             obtain ⟨rp, op, _, hvp, _, hcp⟩ := hR536.at_ (by omega)
             injection hvp with hvpA
             subst hvpA
             have hbL := hI.pap.bytes (lp.getD i fl0) (getD_mem hip)
             obtain ⟨FP, mp, hfp, _⟩ := hbL.1.form
             have hFP : FC (lp.getD i fl0) = [.int .i64 (lp.getD i fl0).1.num, .int .i64 (lp.getD i fl0).1.frm, .int .i64 (lp.getD i fl0).1.dst, .int .i64 (lp.getD i fl0).1.due, .slice FP (lp.getD i fl0).1.bs.length mp] := by unfold FC; rw [hfp]
             rw [hfp] at hbL
             have hat1 := same_at hI.same i hi
             have hsm := hI.small (l.getD i fl0) (getD_mem hi)
             refine r_val rfl (x_indexAddr (b := rp) (o := op) (j := i) es_26 rfl rfl rfl (by omega)) ?_
             refine r_val rfl (x_fieldAddr (b := rp) (o := op + i * 5) fo_37_4 rfl) ?_
             refine r_val rfl (x_load (v := .slice FP ((lp.getD i fl0).1.bs.length) mp) kind_33 rfl (by rw [Nat.add_assoc]; exact hcp _ _ (encL_get (a := (lp.getD i fl0)) (size := 5) (f := 4) FC_len (getD_at lp i fl0 hip) (by rw [hFP]; rfl)))) ?_
             have := F13.size
             have := F17.size
             have := F30.size
             have := F531.size
             have hq537 : ∀ b, (Value.slice (some ⟨g0, 0, none⟩) 0 0).ownBlock = some b → w31.heap.size ≤ b := fun b hb => (by have h1 : g0 = b := (by injection hb); omega)
             have := F13.size
             have := F17.size
             have := F30.size
             have := F531.size
             have hF20 := (((((Fr.refl No _).trans F13 (fun j hj h => h.elim)).trans F17 (fun j hj h => (by have h2 : j = ab := h; omega))).trans F30 (fun j hj h => h.elim)).trans F531 (fun j hj h => h.elim))
             have hsm2 : (lp.getD i fl0).1.bs.length ≤ 30 := by rw [same_at hI.same i hi]; exact hsm.1
             refine r_append rfl rfl ei_33 rfl (by decide) (v := .slice (some ⟨g0, 0, none⟩) 0 0) (u := .slice FP ((lp.getD i fl0).1.bs.length) mp) rfl rfl (Own.of_blk hB533 1 0 rfl (by decide)) (hbL.1.fr hF20 (fun _ _ h => h.elim)) (BC_one _) (by unfold maxLen; omega) (by omega) ?_
             intro v538 w544 hO539 F540 hat541 hnil542
             have hfr543 : ∀ b, (v538).ownBlock = some b → w31.heap.size ≤ b := fun b hb => (by rcases hat541 with e | e; (rw [e] at hb; exact hq537 b hb); (rw [e] at hb; injection hb with hb; omega))
             rw [Nat.zero_add, List.nil_append] at hO539
             obtain ⟨A1, c1, hv1e, _⟩ := hO539.rd.form
             subst hv1e
             refine r_val rfl (x_assign (v := .slice A1 ((lp.getD i fl0).1.bs.length) c1) rfl) ?_
             refine RW_nil ?_
             refine thenW_n ?_
             refine W_seq ?_
             refine W_seq ?_
             refine W_region ?_
             refine r_val rfl (x_move (v := .slice A1 ((lp.getD i fl0).1.bs.length) c1) rfl) ?_
             refine r_val rfl (x_len (n := (lp.getD i fl0).1.bs.length) ul_33 rfl) ?_
             refine r_val rfl (x_gtr (a := ((lp.getD i fl0).1.bs.length : Int)) (b := 0) rfl rfl) ?_
             refine RW_nil ?_
             refine thenW_n ?_
             refine W_condD (p := 0 < ((lp.getD i fl0).1.bs.length : Int)) rfl rfl (fun hc545 => ?_) (fun hc545 => ?_)
             ·skip
              have := F13.size
              have := F17.size
              have := F30.size
              have := F531.size
              have := F540.size
              have := hNb.lt
              have hm0 : 0 < (lp.getD i fl0).1.bs.length := by omega
              obtain ⟨gb, cb, hgb, hBb, hbc, hbm, hbl, hbx⟩ := hO539.open_ hm0
              subst hgb
              rw [Nat.mul_one] at hbl hbx
              have hpm : (pl % (lp.getD i fl0).1.bs.length) < (lp.getD i fl0).1.bs.length := Nat.mod_lt _ hm0
              have hgbW : w31.heap.size ≤ gb := hfr543 gb rfl
              have hB546 := hB535.fr F540 (fun h => by have h1 : g0 = N := (by injection h); exact ne_N_g0 h1.symm)
              have ne_N_gb : N ≠ gb := by have := (hB546).lt; omega
              have hB547 := hB35.fr F531 (fun f => f)
              have hB548 := hB547.fr F540 (fun h => by have h1 : g0 = ab := (by injection h); exact ne_ab_g0 h1.symm)
              have ne_ab_gb : ab ≠ gb := by have := (hB548).lt; omega
              refine d_begin mo 12 (fun x => Fr No w544 x) ?_
              obtain ⟨w551, hw551⟩ : ∃ x, w544.drew = x := ⟨_, rfl⟩
              have F550 : Fr No w544 w551 := by rw [← hw551]; exact Fr.drew _ _
              have D552 : Fr No w544 w551 := Fr.of_No F550
              have sF550 := F550.size
              rw [hw551]
              refine d_pure (i := 0) rfl (by kernel_rfl) (np_then (np_then (np_blk (np_then (np_blk (np_then (np_then (np_blk (np_then np_body))))))))) rfl (fun _ => (x_move (v := .slice (some ⟨gb, 0, none⟩) ((lp.getD i fl0).1.bs.length) c1) rfl)) (fun _ => D552) ?_
              refine d_pure (i := 1) rfl (by kernel_rfl) (np_then (np_then (np_blk (np_then (np_blk (np_then (np_then (np_blk (np_then np_body))))))))) rfl (fun _ => (x_move (v := .int .i64 (pl : Int)) rfl)) (fun _ => D552) ?_
              refine d_pure (i := 2) rfl (by kernel_rfl) (np_then (np_then (np_blk (np_then (np_blk (np_then (np_then (np_blk (np_then np_body))))))))) rfl (fun _ => (x_move (v := .slice (some ⟨gb, 0, none⟩) ((lp.getD i fl0).1.bs.length) c1) rfl)) (fun _ => D552) ?_
              refine d_pure (i := 3) rfl (by kernel_rfl) (np_then (np_then (np_blk (np_then (np_blk (np_then (np_then (np_blk (np_then np_body))))))))) rfl (fun _ => (x_len (n := (lp.getD i fl0).1.bs.length) ul_33 rfl)) (fun _ => D552) ?_
              refine d_pure (i := 4) rfl (by kernel_rfl) (np_then (np_then (np_blk (np_then (np_blk (np_then (np_then (np_blk (np_then np_body))))))))) rfl (fun _ => (x_rem64 (a := (pl : Int)) (b := ((lp.getD i fl0).1.bs.length : Int)) rfl rfl (by omega) (by omega))) (fun _ => D552) ?_
              refine d_pure (i := 5) rfl (by kernel_rfl) (np_then (np_then (np_blk (np_then (np_blk (np_then (np_then (np_blk (np_then np_body))))))))) rfl (fun _ => (x_indexAddr (b := gb) (o := 0) (j := (pl % (lp.getD i fl0).1.bs.length)) es_33 rfl rfl rfl (by omega))) (fun _ => D552) ?_
              refine d_load (i := 6) rfl (by kernel_rfl) (np_then (np_then (np_blk (np_then (np_blk (np_then (np_then (np_blk (np_then np_body))))))))) rfl (by kernel_rfl) rfl (fun x hS => (x_load (v := .int .u8 (((lp.getD i fl0).1.bs.getD (pl % (lp.getD i fl0).1.bs.length) 0).toNat : Int)) kind_5 rfl (by rw [Nat.mul_one, Nat.zero_add]; refine (hBb.fr hS (fun f => f)).cell ?_; have := BC_get (lp.getD i fl0).1.bs (pl % (lp.getD i fl0).1.bs.length) (by omega); rw [← hbx, List.getElem?_take, if_pos hpm] at this; exact this))) D552 ?_
              refine d_pure (i := 7) rfl (by kernel_rfl) (np_then (np_then (np_blk (np_then (np_blk (np_then (np_then (np_blk (np_then np_body))))))))) rfl (fun _ => (x_fieldAddr (b := ab) (o := 0) fo_35_2 rfl)) (fun _ => D552) ?_
              refine d_load (i := 8) rfl (by kernel_rfl) (np_then (np_then (np_blk (np_then (np_blk (np_then (np_then (np_blk (np_then np_body))))))))) rfl (by kernel_rfl) rfl (fun x hS => (x_load (v := .int .i64 f2) kind_3 rfl ((hB548.fr hS (fun f => f)).cell rfl))) D552 ?_
              refine d_pure (i := 9) rfl (by kernel_rfl) (np_then (np_then (np_blk (np_then (np_blk (np_then (np_then (np_blk (np_then np_body))))))))) rfl (fun _ => (x_as (u := .int .u8 (tb.toNat : Int)) (x_conv (a := f2) ui_3 ui_5 rfl) (congrArg (Value.int .u8) htb))) (fun _ => D552) ?_
              refine d_pure (i := 10) rfl (by kernel_rfl) (np_then (np_then (np_blk (np_then (np_blk (np_then (np_then (np_blk (np_then np_body))))))))) rfl (fun _ => (x_as (u := .int .u8 (((lp.getD i fl0).1.bs.getD (pl % (lp.getD i fl0).1.bs.length) 0 ^^^ tb).toNat : Int)) (x_bits (op := .xor) (a := (((lp.getD i fl0).1.bs.getD (pl % (lp.getD i fl0).1.bs.length) 0).toNat : Int)) (b := (tb.toNat : Int)) rfl rfl rfl) (congrArg (Value.int .u8) (xor8 _ _)))) (fun _ => D552) ?_
              refine d_pure (i := 11) rfl (by kernel_rfl) (np_then (np_then (np_blk (np_then (np_blk (np_then (np_then (np_blk (np_then np_body))))))))) rfl (fun _ => (x_indexAddr (b := gb) (o := 0) (j := (pl % (lp.getD i fl0).1.bs.length)) es_33 rfl rfl rfl (by omega))) (fun _ => D552) ?_
              refine d_force (i := 12) rfl (by kernel_rfl) ?_
              have hB553 := hBb.fr F550 (fun f => f)
              refine r_store (v := .int .u8 (((lp.getD i fl0).1.bs.getD (pl % (lp.getD i fl0).1.bs.length) 0 ^^^ tb).toNat : Int)) (vs := [.int .u8 (((lp.getD i fl0).1.bs.getD (pl % (lp.getD i fl0).1.bs.length) 0 ^^^ tb).toNat : Int)]) (o := (pl % (lp.getD i fl0).1.bs.length)) (l' := cb.take (pl % (lp.getD i fl0).1.bs.length) ++ [.int .u8 (((lp.getD i fl0).1.bs.getD (pl % (lp.getD i fl0).1.bs.length) 0 ^^^ tb).toNat : Int)] ++ cb.drop ((pl % (lp.getD i fl0).1.bs.length) + 1)) rfl rfl size_5 (by show Value.pointer (some ⟨gb, 0 + (pl % (lp.getD i fl0).1.bs.length) * 1, none⟩) = _; rw [Nat.mul_one, Nat.zero_add]) rfl rfl rfl hB553 (by show (pl % (lp.getD i fl0).1.bs.length) + 1 ≤ cb.length; omega) rfl ?_
              intro w557 F554 z555 hB556
              refine d_next (fun hx => absurd hx (by decide)) ?_
              refine d_done (by kernel_rfl) ?_
              refine thenW_n ?_
              refine W_seq ?_
              have hset := BC_set (y := (lp.getD i fl0).1.bs.getD (pl % (lp.getD i fl0).1.bs.length) 0 ^^^ tb) hbx rfl hpm (by omega)
              have hsb : (spoilB (lp.getD i fl0).1.bs pl tb) = (lp.getD i fl0).1.bs.set (pl % (lp.getD i fl0).1.bs.length) ((lp.getD i fl0).1.bs.getD (pl % (lp.getD i fl0).1.bs.length) 0 ^^^ tb) := by unfold spoilB; rw [if_neg (by omega)]
              have hOsb : Own w557 5 1 (.slice (some ⟨gb, 0, none⟩) (lp.getD i fl0).1.bs.length c1) (lp.getD i fl0).1.bs.length (BC (spoilB (lp.getD i fl0).1.bs pl tb)) := by rw [hsb]; exact Own.of_blk' (c := c1) hB556 (by simp only [List.length_append, List.length_take, List.length_drop, List.length_cons, List.length_nil]; omega) hbc hbm (by rw [Nat.mul_one]; exact hset)
              have hfsb : ∀ b, (Value.slice (some ⟨gb, 0, none⟩) (lp.getD i fl0).1.bs.length c1).ownBlock = some b → w31.heap.size ≤ b := hfr543
              have := F13.size
              have := F17.size
              have := F30.size
              have := F531.size
              have := F540.size
              have := F550.size
              have := F554.size
              have hB558 := hB546.fr F550 (fun f => f)
              have hB559 := hB558.fr F554 ne_N_gb
              have hNl := (hB559).lt
              have hNW : N < w31.heap.size := by have h1 := hNb.lt; omega
              refine W_region ?_
              refine r_val rfl (x_move (v := .pointer (some ⟨N, 0, none⟩)) rfl) ?_
              have hB560 := hB548.fr F550 (fun f => f)
              have hB561 := hB560.fr F554 ne_ab_gb
              obtain ⟨g2, hg2⟩ : ∃ n, w557.heap.size = n := ⟨_, rfl⟩
              have ne_N_g2 : N ≠ g2 := by have := hB559.lt; omega
              have ne_ab_g2 : ab ≠ g2 := by have := hB561.lt; omega
              refine r_lit (vs := []) (l := []) rfl g2 hg2 ei_26 (.inr ⟨_, rfl⟩) rfl rfl (by simp) rfl (by decide) ?_
              intro w565 F562 z563 hB564
              refine r_val rfl (x_move (v := .pointer (some ⟨N, 0, none⟩)) rfl) ?_
              refine r_val rfl (x_nilCheck rfl) ?_
              refine r_val rfl (x_fieldAddr (b := N) (o := 0) fo_28_0 rfl) ?_
              have hB566 := hB559.fr F562 (fun f => f)
              refine r_val rfl (x_load (v := .slice (some ⟨rp, op, none⟩) l.length cP) kind_26 rfl (hB566.cell rfl)) ?_
              have hR567 := hOsb.fr F562 (fun _ _ f => f)
              have hsb23 := hR567
              have := F13.size
              have := F17.size
              have := F30.size
              have := F531.size
              have := F540.size
              have := F550.size
              have := F554.size
              have := F562.size
              have hq568 : ∀ b, (Value.slice (some ⟨g2, 0, none⟩) 0 0).ownBlock = some b → w557.heap.size ≤ b := fun b hb => (by have h1 : g2 = b := (by injection hb); omega)
              have := F531.size
              have := F540.size
              have := F550.size
              have := F554.size
              have := F562.size
              refine r_append rfl rfl ei_26 rfl (by decide) (v := .slice (some ⟨g2, 0, none⟩) 0 0) (u := .slice (some ⟨rp, op, none⟩) l.length cP) rfl rfl (Own.of_blk hB564 5 0 rfl (by decide)) (hR20.fr ((((((Fr.refl No _).trans F531 (fun j hj h => h.elim)).trans F540 (fun j hj h => (by have h1 := hq537 _ h; omega))).trans F550 (fun j hj h => h.elim)).trans F554 (fun j hj h => (by have h2 : j = gb := h; omega))).trans F562 (fun j hj h => h.elim)) (fun _ _ h => h.elim)) (FC_one (fun p hp => (hI.pap.bytes p hp).1.one)) (by unfold maxLen; omega) (by omega) ?_
              intro v569 w575 hO570 F571 hat572 hnil573
              have hfr574 : ∀ b, (v569).ownBlock = some b → w557.heap.size ≤ b := fun b hb => (by rcases hat572 with e | e; (rw [e] at hb; exact hq568 b hb); (rw [e] at hb; injection hb with hb; omega))
              rw [Nat.zero_add, List.nil_append] at hO570
              obtain ⟨A2, c2, hv2e, _⟩ := hO570.rd.form
              subst hv2e
              refine r_val rfl (x_nilCheck rfl) ?_
              refine r_val rfl (x_fieldAddr (b := N) (o := 0) fo_28_0 rfl) ?_
              have hB576 := hB566.fr F571 (fun h => by have h1 : g2 = N := (by injection h); exact ne_N_g2 h1.symm)
              refine r_store (v := .slice A2 l.length c2) (vs := [.slice A2 l.length c2]) (l' := [.slice A2 l.length c2, .int .i64 sent, .int .i64 lost, .int .i64 (mst : Int)]) rfl rfl size_26 rfl rfl rfl rfl hB576 (Nat.le_of_ble_eq_true rfl) rfl ?_
              intro w580 F577 z578 hB579
              refine RW_nil ?_
              refine thenW_n ?_
              have := F13.size
              have := F17.size
              have := F30.size
              have := F531.size
              have := F540.size
              have := F550.size
              have := F554.size
              have := F562.size
              have := F571.size
              have := F577.size
              have hR581 := hO570.fr F577 (fun b hb h => by have h1 := hfr574 b hb; have h2 : b = N := h; omega)
              obtain ⟨gr, cr, hgr, hBr, hrc, hrm, hrlen, hrx⟩ := hR581.open_ (by omega)
              subst hgr
              have hgrW : w557.heap.size ≤ gr := hfr574 gr rfl
              have ne_N_gr : N ≠ gr := by omega
              have hB582 := hB561.fr F562 (fun f => f)
              have hB583 := hB582.fr F571 (fun h => by have h1 : g2 = ab := (by injection h); exact ne_ab_g2 h1.symm)
              have hB584 := hB583.fr F577 (Ne.symm ne_N_ab)
              have ne_ab_gr : ab ≠ gr := by have := (hB584).lt; omega
              have hR585 := hR567.fr F571 (fun b hb h => by have h1 : g2 = b := (by injection h); have h2 := (hOsb).lt hb; omega)
              have hR586 := hR585.fr F577 (fun b hb h => by have h1 := hfsb b hb; have h2 : b = N := h; omega)
              refine W_region ?_
              refine r_val rfl (x_move (v := .pointer (some ⟨N, 0, none⟩)) rfl) ?_
              refine r_val rfl (x_nilCheck rfl) ?_
              refine r_val rfl (x_fieldAddr (b := N) (o := 0) fo_28_0 rfl) ?_
              refine r_val rfl (x_load (v := .slice (some ⟨gr, 0, none⟩) l.length c2) kind_26 rfl (hB579.cell rfl)) ?_
              refine r_val rfl (x_move (v := .int .i64 (i : Int)) rfl) ?_
              refine r_val rfl (x_move (v := .slice (some ⟨gb, 0, none⟩) ((lp.getD i fl0).1.bs.length) c1) rfl) ?_
              refine r_val rfl (x_indexAddr (b := gr) (o := 0) (j := i) es_26 rfl rfl rfl (by omega)) ?_
              refine r_val rfl (x_fieldAddr (b := gr) (o := 0 + i * 5) fo_37_4 rfl) ?_
              refine r_store (v := .slice (some ⟨gb, 0, none⟩) (lp.getD i fl0).1.bs.length c1) (vs := [.slice (some ⟨gb, 0, none⟩) (lp.getD i fl0).1.bs.length c1]) (o := (i * 5 + 4)) (l' := cr.take (i * 5 + 4) ++ [.slice (some ⟨gb, 0, none⟩) (lp.getD i fl0).1.bs.length c1] ++ cr.drop ((i * 5 + 4) + 1)) rfl rfl size_33 (by show Value.pointer (some ⟨gr, 0 + i * 5 + 4, none⟩) = _; rw [Nat.zero_add]) rfl rfl rfl hBr (by show (i * 5 + 4) + 1 ≤ cr.length; omega) rfl ?_
              intro w590 F587 z588 hB589
              have := F13.size
              have := F17.size
              have := F30.size
              have := F531.size
              have := F540.size
              have := F550.size
              have := F554.size
              have := F562.size
              have := F571.size
              have := F577.size
              have := F587.size
              have hB591 := hB579.fr F587 ne_N_gr
              have hR592 := hR586.fr F587 (fun b hb h => (hR586).type_ne hBr (by decide) (h ▸ hb))
              have := F13.size
              have := F17.size
              have := F30.size
              have := F531.size
              have := F540.size
              have := F550.size
              have := F554.size
              have := F562.size
              have := F571.size
              have := F577.size
              have := F587.size
              have hFN := ((((((((((((Fr.refl (fun b => b = N) _).trans F13 (fun j hj h => h.elim)).trans F17 (fun j hj h => (by have h2 : j = ab := h; omega))).trans F30 (fun j hj h => h.elim)).trans F531 (fun j hj h => h.elim)).trans F540 (fun j hj h => (by have h1 := hq537 _ h; omega))).trans F550 (fun j hj h => h.elim)).trans F554 (fun j hj h => (by have h2 : j = gb := h; omega))).trans F562 (fun j hj h => h.elim)).trans F571 (fun j hj h => (by have h1 := hq568 _ h; omega))).trans F577 (fun j hj h => h)).trans F587 (fun j hj h => (by have h2 : j = gr := h; omega)))
              have hset2 := encL_setB hip (cur := cr) (by rw [hplen]; exact hrx) (by omega) (.slice (some ⟨gb, 0, none⟩) (lp.getD i fl0).1.bs.length c1) (spoilB (lp.getD i fl0).1.bs pl tb)
              have hln3 : l.length = (lp.take i ++ (({ (lp.getD i fl0).1 with bs := (spoilB (lp.getD i fl0).1.bs pl tb) } : Fl), .slice (some ⟨gb, 0, none⟩) (lp.getD i fl0).1.bs.length c1) :: lp.drop (i + 1)).length := by simp only [List.length_append, List.length_cons, List.length_take, List.length_drop]; omega
              have hO3 : Own w590 37 5 (.slice (some ⟨gr, 0, none⟩) l.length c2) l.length (encL FC (lp.take i ++ (({ (lp.getD i fl0).1 with bs := (spoilB (lp.getD i fl0).1.bs pl tb) } : Fl), .slice (some ⟨gb, 0, none⟩) (lp.getD i fl0).1.bs.length c1) :: lp.drop (i + 1))) := Own.of_blk' hB589 (by simp only [List.length_append, List.length_take, List.length_drop, List.length_cons, List.length_nil]; omega) hrc hrm (by rw [← hplen]; exact hset2)
              have hP2 := hI.pap.re (l' := (lp.take i ++ (({ (lp.getD i fl0).1 with bs := (spoilB (lp.getD i fl0).1.bs pl tb) } : Fl), .slice (some ⟨gb, 0, none⟩) (lp.getD i fl0).1.bs.length c1) :: lp.drop (i + 1))) hFN hB591 hln3 hO3.rd (fun b h => by have h1 : gr = b := (by injection h); exact ⟨.inr (by omega), by omega, by have := hO3.lt h; omega⟩) (fun p hp => by rcases mem_mid hp with rfl | hp; (exact .inl ⟨by rw [show ({ (lp.getD i fl0).1 with bs := (spoilB (lp.getD i fl0).1.bs pl tb) } : Fl).bs = (spoilB (lp.getD i fl0).1.bs pl tb) from rfl, spoilB_length]; exact hR592.rd, fun b h => ⟨.inr (by have h1 := hfsb b h; omega), by have h1 := hfsb b h; omega, hR592.lt h⟩⟩); (exact .inr ⟨p, hp, rfl, rfl⟩))
              have hN2 := (hI.net.mono (K' := shrink K w9) (fun b hlt hb => ⟨hb, hlt⟩)).fr hFN (fun b hb _ h => hI.pap.home (by have h2 : b = N := h; exact h2 ▸ hb.1))
              refine RW_nil ?_
              refine thenW_n ?_
              refine W_region ?_
              refine r_val rfl (x_move (v := .pointer (some ⟨B, 0, none⟩)) rfl) ?_
              refine r_val rfl (x_move (v := .int .i64 (i : Int)) rfl) ?_
              refine r_val rfl (x_move (v := .int .i64 (pl : Int)) rfl) ?_
              refine r_val rfl (x_fieldAddr (b := ab) (o := 0) fo_35_2 rfl) ?_
              have hB593 := hB584.fr F587 ne_ab_gr
              refine r_val rfl (x_load (v := .int .i64 f2) kind_3 rfl (hB593.cell rfl)) ?_
              refine r_val rfl (x_as (u := .int .u8 (tb.toNat : Int)) (x_conv (a := f2) ui_3 ui_5 rfl) (congrArg (Value.int .u8) htb)) ?_
              have := F13.size
              have := F17.size
              have := F30.size
              have := F531.size
              have := F540.size
              have := F550.size
              have := F554.size
              have := F562.size
              have := F571.size
              have := F577.size
              have := F587.size
              refine r_call rfl (c19 (vs := [.pointer (some ⟨B, 0, none⟩), .int .i64 (i : Int), .int .i64 (pl : Int), .int .u8 (tb.toNat : Int)]) rfl) (netSpoil (hN2.fr (Fr.refl No _) (fun _ _ _ s => s)) (by have := hI.len; omega) ⟨hI.cs.1, by have := hI.cs.2; omega⟩ ⟨hI.cl.1, by have := hI.cl.2; omega⟩ (by omega) i hi pl (by omega) tb) ?_
              rintro _ w594 ⟨rfl, hFL, hN3⟩
              refine ⟨_, rfl, ?_⟩
              refine r_val rfl (x_move (v := .int .i64 0) rfl) ?_
              refine r_val rfl (x_as (u := .bool true) (x_eql (a := 0) (b := 0) rfl rfl) (congrArg Value.bool (decide_eq_true rfl))) ?_
              refine r_val rfl (x_assign (v := .bool true) rfl) ?_
              have := F13.size
              have := F17.size
              have := F30.size
              have := F531.size
              have := F540.size
              have := F550.size
              have := F554.size
              have := F562.size
              have := F571.size
              have := F577.size
              have := F587.size
              have := hFL.size
              have hyK3 : ∀ b, b < w.heap.size → ¬ grow (shrink K w9) w590 b := fun b h1 h2 => h2.elim (fun h => hyK b h1 h.1) (fun h => by omega)
              have hP3 := (hP2.no (Fr.refl No _)).net hFL
              have hI3 : Inv w594 (grow (shrink K w9) w590) B N many mst sent lost _ (lp.take i ++ (({ (lp.getD i fl0).1 with bs := (spoilB (lp.getD i fl0).1.bs pl tb) } : Fl), .slice (some ⟨gb, 0, none⟩) (lp.getD i fl0).1.bs.length c1) :: lp.drop (i + 1)) (k + 1) := ⟨hN3.mono (fun b _ h => .inl h), hP3, spoil_map hI.same hi (fun bs => spoilB bs pl tb) _ _, ⟨hI.cs.1, by have := hI.cs.2; omega⟩, ⟨hI.cl.1, by have := hI.cl.2; omega⟩, (by have := hI.len; simp only [List.length_append, List.length_cons, List.length_take, List.length_drop]; omega), fun p hp => (by rcases mem_mid hp with rfl | hp; (exact ⟨by rw [show ({ (l.getD i fl0).1 with bs := spoilB (l.getD i fl0).1.bs pl tb } : Fl).bs = spoilB (l.getD i fl0).1.bs pl tb from rfl, spoilB_length]; exact hsm.1, hsm.2⟩); (exact hI.small p hp))⟩
              have := Fw.size
              have := F13.size
              have := F17.size
              have := F30.size
              have := F531.size
              have := F540.size
              have := F550.size
              have := F554.size
              have := F562.size
              have := F571.size
              have := F577.size
              have := F587.size
              have := hFL.size
              refine RW_nil ?_
              refine inBlk_n ?_
              refine thenW_n ?_
              exact ⟨_, _, _, _, _, _, ((ovl_cons (ovl_cons (ovl_cons (ovl_cons (ovl_cons (ovl_cons (ovl_nil _) rfl) rfl) rfl) rfl) rfl) rfl)).symm, ((((((((((((((Fr.refl No _).trans Fw (fun j hj h => h.elim)).trans F13 (fun j hj h => h.elim)).trans F17 (fun j hj h => (by have h2 : j = ab := h; omega))).trans F30 (fun j hj h => h.elim)).trans F531 (fun j hj h => h.elim)).trans F540 (fun j hj h => (by have h1 := hq537 _ h; omega))).trans F550 (fun j hj h => h.elim)).trans F554 (fun j hj h => (by have h2 : j = gb := h; omega))).trans F562 (fun j hj h => h.elim)).trans F571 (fun j hj h => (by have h1 := hq568 _ h; omega))).trans F577 (fun j hj h => (by have h2 : j = N := h; omega))).trans F587 (fun j hj h => (by have h2 : j = gr := h; omega))).trans hFL (fun j hj h => (hyK j hj (shr_in h)))), hyK3, hI3⟩
             ·skip
              refine W_skip ?_
              refine thenW_n ?_
              refine W_seq ?_
              have hm0 : (lp.getD i fl0).1.bs.length = 0 := by omega
              have hsb : (spoilB (lp.getD i fl0).1.bs pl tb) = (lp.getD i fl0).1.bs := by unfold spoilB; rw [if_pos hm0]
              have hOsb := hO539
              rw [← hsb, spoilB_length] at hOsb
              have hfsb := hfr543
              have := F13.size
              have := F17.size
              have := F30.size
              have := F531.size
              have := F540.size
              have hB595 := hB535.fr F540 (fun h => by have h1 : g0 = N := (by injection h); exact ne_N_g0 h1.symm)
              have hNl := (hB595).lt
              have hNW : N < w31.heap.size := by have h1 := hNb.lt; omega
              refine W_region ?_
              refine r_val rfl (x_move (v := .pointer (some ⟨N, 0, none⟩)) rfl) ?_
              have hB596 := hB35.fr F531 (fun f => f)
              have hB597 := hB596.fr F540 (fun h => by have h1 : g0 = ab := (by injection h); exact ne_ab_g0 h1.symm)
              obtain ⟨g2, hg2⟩ : ∃ n, w544.heap.size = n := ⟨_, rfl⟩
              have ne_N_g2 : N ≠ g2 := by have := hB595.lt; omega
              have ne_ab_g2 : ab ≠ g2 := by have := hB597.lt; omega
              refine r_lit (vs := []) (l := []) rfl g2 hg2 ei_26 (.inr ⟨_, rfl⟩) rfl rfl (by simp) rfl (by decide) ?_
              intro w601 F598 z599 hB600
              refine r_val rfl (x_move (v := .pointer (some ⟨N, 0, none⟩)) rfl) ?_
              refine r_val rfl (x_nilCheck rfl) ?_
              refine r_val rfl (x_fieldAddr (b := N) (o := 0) fo_28_0 rfl) ?_
              have hB602 := hB595.fr F598 (fun f => f)
              refine r_val rfl (x_load (v := .slice (some ⟨rp, op, none⟩) l.length cP) kind_26 rfl (hB602.cell rfl)) ?_
              have hR603 := hOsb.fr F598 (fun _ _ f => f)
              have hsb23 := hR603
              have := F13.size
              have := F17.size
              have := F30.size
              have := F531.size
              have := F540.size
              have := F598.size
              have hq604 : ∀ b, (Value.slice (some ⟨g2, 0, none⟩) 0 0).ownBlock = some b → w544.heap.size ≤ b := fun b hb => (by have h1 : g2 = b := (by injection hb); omega)
              have := F531.size
              have := F540.size
              have := F598.size
              refine r_append rfl rfl ei_26 rfl (by decide) (v := .slice (some ⟨g2, 0, none⟩) 0 0) (u := .slice (some ⟨rp, op, none⟩) l.length cP) rfl rfl (Own.of_blk hB600 5 0 rfl (by decide)) (hR20.fr ((((Fr.refl No _).trans F531 (fun j hj h => h.elim)).trans F540 (fun j hj h => (by have h1 := hq537 _ h; omega))).trans F598 (fun j hj h => h.elim)) (fun _ _ h => h.elim)) (FC_one (fun p hp => (hI.pap.bytes p hp).1.one)) (by unfold maxLen; omega) (by omega) ?_
              intro v605 w611 hO606 F607 hat608 hnil609
              have hfr610 : ∀ b, (v605).ownBlock = some b → w544.heap.size ≤ b := fun b hb => (by rcases hat608 with e | e; (rw [e] at hb; exact hq604 b hb); (rw [e] at hb; injection hb with hb; omega))
              rw [Nat.zero_add, List.nil_append] at hO606
              obtain ⟨A2, c2, hv2e, _⟩ := hO606.rd.form
              subst hv2e
              refine r_val rfl (x_nilCheck rfl) ?_
              refine r_val rfl (x_fieldAddr (b := N) (o := 0) fo_28_0 rfl) ?_
              have hB612 := hB602.fr F607 (fun h => by have h1 : g2 = N := (by injection h); exact ne_N_g2 h1.symm)
              refine r_store (v := .slice A2 l.length c2) (vs := [.slice A2 l.length c2]) (l' := [.slice A2 l.length c2, .int .i64 sent, .int .i64 lost, .int .i64 (mst : Int)]) rfl rfl size_26 rfl rfl rfl rfl hB612 (Nat.le_of_ble_eq_true rfl) rfl ?_
              intro w616 F613 z614 hB615
              refine RW_nil ?_
              refine thenW_n ?_
              have := F13.size
              have := F17.size
              have := F30.size
              have := F531.size
              have := F540.size
              have := F598.size
              have := F607.size
              have := F613.size
              have hR617 := hO606.fr F613 (fun b hb h => by have h1 := hfr610 b hb; have h2 : b = N := h; omega)
              obtain ⟨gr, cr, hgr, hBr, hrc, hrm, hrlen, hrx⟩ := hR617.open_ (by omega)
              subst hgr
              have hgrW : w544.heap.size ≤ gr := hfr610 gr rfl
              have ne_N_gr : N ≠ gr := by omega
              have hB618 := hB597.fr F598 (fun f => f)
              have hB619 := hB618.fr F607 (fun h => by have h1 : g2 = ab := (by injection h); exact ne_ab_g2 h1.symm)
              have hB620 := hB619.fr F613 (Ne.symm ne_N_ab)
              have ne_ab_gr : ab ≠ gr := by have := (hB620).lt; omega
              have hR621 := hR603.fr F607 (fun b hb h => by have h1 : g2 = b := (by injection h); have h2 := (hOsb).lt hb; omega)
              have hR622 := hR621.fr F613 (fun b hb h => by have h1 := hfsb b hb; have h2 : b = N := h; omega)
              refine W_region ?_
              refine r_val rfl (x_move (v := .pointer (some ⟨N, 0, none⟩)) rfl) ?_
              refine r_val rfl (x_nilCheck rfl) ?_
              refine r_val rfl (x_fieldAddr (b := N) (o := 0) fo_28_0 rfl) ?_
              refine r_val rfl (x_load (v := .slice (some ⟨gr, 0, none⟩) l.length c2) kind_26 rfl (hB615.cell rfl)) ?_
              refine r_val rfl (x_move (v := .int .i64 (i : Int)) rfl) ?_
              refine r_val rfl (x_move (v := .slice A1 ((lp.getD i fl0).1.bs.length) c1) rfl) ?_
              refine r_val rfl (x_indexAddr (b := gr) (o := 0) (j := i) es_26 rfl rfl rfl (by omega)) ?_
              refine r_val rfl (x_fieldAddr (b := gr) (o := 0 + i * 5) fo_37_4 rfl) ?_
              refine r_store (v := .slice A1 (lp.getD i fl0).1.bs.length c1) (vs := [.slice A1 (lp.getD i fl0).1.bs.length c1]) (o := (i * 5 + 4)) (l' := cr.take (i * 5 + 4) ++ [.slice A1 (lp.getD i fl0).1.bs.length c1] ++ cr.drop ((i * 5 + 4) + 1)) rfl rfl size_33 (by show Value.pointer (some ⟨gr, 0 + i * 5 + 4, none⟩) = _; rw [Nat.zero_add]) rfl rfl rfl hBr (by show (i * 5 + 4) + 1 ≤ cr.length; omega) rfl ?_
              intro w626 F623 z624 hB625
              have := F13.size
              have := F17.size
              have := F30.size
              have := F531.size
              have := F540.size
              have := F598.size
              have := F607.size
              have := F613.size
              have := F623.size
              have hB627 := hB615.fr F623 ne_N_gr
              have hR628 := hR622.fr F623 (fun b hb h => (hR622).type_ne hBr (by decide) (h ▸ hb))
              have := F13.size
              have := F17.size
              have := F30.size
              have := F531.size
              have := F540.size
              have := F598.size
              have := F607.size
              have := F613.size
              have := F623.size
              have hFN := ((((((((((Fr.refl (fun b => b = N) _).trans F13 (fun j hj h => h.elim)).trans F17 (fun j hj h => (by have h2 : j = ab := h; omega))).trans F30 (fun j hj h => h.elim)).trans F531 (fun j hj h => h.elim)).trans F540 (fun j hj h => (by have h1 := hq537 _ h; omega))).trans F598 (fun j hj h => h.elim)).trans F607 (fun j hj h => (by have h1 := hq604 _ h; omega))).trans F613 (fun j hj h => h)).trans F623 (fun j hj h => (by have h2 : j = gr := h; omega)))
              have hset2 := encL_setB hip (cur := cr) (by rw [hplen]; exact hrx) (by omega) (.slice A1 (lp.getD i fl0).1.bs.length c1) (spoilB (lp.getD i fl0).1.bs pl tb)
              have hln3 : l.length = (lp.take i ++ (({ (lp.getD i fl0).1 with bs := (spoilB (lp.getD i fl0).1.bs pl tb) } : Fl), .slice A1 (lp.getD i fl0).1.bs.length c1) :: lp.drop (i + 1)).length := by simp only [List.length_append, List.length_cons, List.length_take, List.length_drop]; omega
              have hO3 : Own w626 37 5 (.slice (some ⟨gr, 0, none⟩) l.length c2) l.length (encL FC (lp.take i ++ (({ (lp.getD i fl0).1 with bs := (spoilB (lp.getD i fl0).1.bs pl tb) } : Fl), .slice A1 (lp.getD i fl0).1.bs.length c1) :: lp.drop (i + 1))) := Own.of_blk' hB625 (by simp only [List.length_append, List.length_take, List.length_drop, List.length_cons, List.length_nil]; omega) hrc hrm (by rw [← hplen]; exact hset2)
              have hP2 := hI.pap.re (l' := (lp.take i ++ (({ (lp.getD i fl0).1 with bs := (spoilB (lp.getD i fl0).1.bs pl tb) } : Fl), .slice A1 (lp.getD i fl0).1.bs.length c1) :: lp.drop (i + 1))) hFN hB627 hln3 hO3.rd (fun b h => by have h1 : gr = b := (by injection h); exact ⟨.inr (by omega), by omega, by have := hO3.lt h; omega⟩) (fun p hp => by rcases mem_mid hp with rfl | hp; (exact .inl ⟨by rw [show ({ (lp.getD i fl0).1 with bs := (spoilB (lp.getD i fl0).1.bs pl tb) } : Fl).bs = (spoilB (lp.getD i fl0).1.bs pl tb) from rfl, spoilB_length]; exact hR628.rd, fun b h => ⟨.inr (by have h1 := hfsb b h; omega), by have h1 := hfsb b h; omega, hR628.lt h⟩⟩); (exact .inr ⟨p, hp, rfl, rfl⟩))
              have hN2 := (hI.net.mono (K' := shrink K w9) (fun b hlt hb => ⟨hb, hlt⟩)).fr hFN (fun b hb _ h => hI.pap.home (by have h2 : b = N := h; exact h2 ▸ hb.1))
              refine RW_nil ?_
              refine thenW_n ?_
              refine W_region ?_
              refine r_val rfl (x_move (v := .pointer (some ⟨B, 0, none⟩)) rfl) ?_
              refine r_val rfl (x_move (v := .int .i64 (i : Int)) rfl) ?_
              refine r_val rfl (x_move (v := .int .i64 (pl : Int)) rfl) ?_
              refine r_val rfl (x_fieldAddr (b := ab) (o := 0) fo_35_2 rfl) ?_
              have hB629 := hB620.fr F623 ne_ab_gr
              refine r_val rfl (x_load (v := .int .i64 f2) kind_3 rfl (hB629.cell rfl)) ?_
              refine r_val rfl (x_as (u := .int .u8 (tb.toNat : Int)) (x_conv (a := f2) ui_3 ui_5 rfl) (congrArg (Value.int .u8) htb)) ?_
              have := F13.size
              have := F17.size
              have := F30.size
              have := F531.size
              have := F540.size
              have := F598.size
              have := F607.size
              have := F613.size
              have := F623.size
              refine r_call rfl (c19 (vs := [.pointer (some ⟨B, 0, none⟩), .int .i64 (i : Int), .int .i64 (pl : Int), .int .u8 (tb.toNat : Int)]) rfl) (netSpoil (hN2.fr (Fr.refl No _) (fun _ _ _ s => s)) (by have := hI.len; omega) ⟨hI.cs.1, by have := hI.cs.2; omega⟩ ⟨hI.cl.1, by have := hI.cl.2; omega⟩ (by omega) i hi pl (by omega) tb) ?_
              rintro _ w630 ⟨rfl, hFL, hN3⟩
              refine ⟨_, rfl, ?_⟩
              refine r_val rfl (x_move (v := .int .i64 0) rfl) ?_
              refine r_val rfl (x_as (u := .bool true) (x_eql (a := 0) (b := 0) rfl rfl) (congrArg Value.bool (decide_eq_true rfl))) ?_
              refine r_val rfl (x_assign (v := .bool true) rfl) ?_
              have := F13.size
              have := F17.size
              have := F30.size
              have := F531.size
              have := F540.size
              have := F598.size
              have := F607.size
              have := F613.size
              have := F623.size
              have := hFL.size
              have hyK3 : ∀ b, b < w.heap.size → ¬ grow (shrink K w9) w626 b := fun b h1 h2 => h2.elim (fun h => hyK b h1 h.1) (fun h => by omega)
              have hP3 := (hP2.no (Fr.refl No _)).net hFL
              have hI3 : Inv w630 (grow (shrink K w9) w626) B N many mst sent lost _ (lp.take i ++ (({ (lp.getD i fl0).1 with bs := (spoilB (lp.getD i fl0).1.bs pl tb) } : Fl), .slice A1 (lp.getD i fl0).1.bs.length c1) :: lp.drop (i + 1)) (k + 1) := ⟨hN3.mono (fun b _ h => .inl h), hP3, spoil_map hI.same hi (fun bs => spoilB bs pl tb) _ _, ⟨hI.cs.1, by have := hI.cs.2; omega⟩, ⟨hI.cl.1, by have := hI.cl.2; omega⟩, (by have := hI.len; simp only [List.length_append, List.length_cons, List.length_take, List.length_drop]; omega), fun p hp => (by rcases mem_mid hp with rfl | hp; (exact ⟨by rw [show ({ (l.getD i fl0).1 with bs := spoilB (l.getD i fl0).1.bs pl tb } : Fl).bs = spoilB (l.getD i fl0).1.bs pl tb from rfl, spoilB_length]; exact hsm.1, hsm.2⟩); (exact hI.small p hp))⟩
              have := Fw.size
              have := F13.size
              have := F17.size
              have := F30.size
              have := F531.size
              have := F540.size
              have := F598.size
              have := F607.size
              have := F613.size
              have := F623.size
              have := hFL.size
              refine RW_nil ?_
              refine inBlk_n ?_
              refine thenW_n ?_
              exact ⟨_, _, _, _, _, _, ((ovl_cons (ovl_cons (ovl_cons (ovl_cons (ovl_cons (ovl_cons (ovl_nil _) rfl) rfl) rfl) rfl) rfl) rfl)).symm, ((((((((((((Fr.refl No _).trans Fw (fun j hj h => h.elim)).trans F13 (fun j hj h => h.elim)).trans F17 (fun j hj h => (by have h2 : j = ab := h; omega))).trans F30 (fun j hj h => h.elim)).trans F531 (fun j hj h => h.elim)).trans F540 (fun j hj h => (by have h1 := hq537 _ h; omega))).trans F598 (fun j hj h => h.elim)).trans F607 (fun j hj h => (by have h1 := hq604 _ h; omega))).trans F613 (fun j hj h => (by have h2 : j = N := h; omega))).trans F623 (fun j hj h => (by have h2 : j = gr := h; omega))).trans hFL (fun j hj h => (hyK j hj (shr_in h)))), hyK3, hI3⟩
            ·skip
             refine W_skip ?_
             refine thenW_n ?_
             refine W_region ?_
             refine r_val rfl (x_move (v := .pointer (some ⟨B, 0, none⟩)) rfl) ?_
             refine r_val rfl (x_move (v := .int .i64 at_) rfl) ?_
             refine r_val rfl (x_move (v := .int .i64 (pl : Int)) rfl) ?_
             refine r_val rfl (x_fieldAddr (b := ab) (o := 0) fo_35_2 rfl) ?_
             refine r_val rfl (x_load (v := .int .i64 f2) kind_3 rfl (hB35.cell rfl)) ?_
             refine r_val rfl (x_as (u := .int .u8 (tb.toNat : Int)) (x_conv (a := f2) ui_3 ui_5 rfl) (congrArg (Value.int .u8) htb)) ?_
             have := F13.size
             have := F17.size
             have := F30.size
             have hout : ¬ 0 ≤ at_ ∨ ¬ at_ < (l.length : Int) := by have h1 : isb = false := hc528; rw [his] at h1; have h2 := of_decide_eq_false h1; omega
             have := F13.size
             have := F17.size
             have := F30.size
             refine r_call rfl (c19 (vs := [.pointer (some ⟨B, 0, none⟩), .int .i64 at_, .int .i64 (pl : Int), .int .u8 (tb.toNat : Int)]) rfl) (netSpoil_no (hI.net.fr ((((Fr.refl No _).trans F13 (fun j hj h => h.elim)).trans F17 (fun j hj h => (by have h2 : j = ab := h; omega))).trans F30 (fun j hj h => h.elim)) (fun _ _ _ s => s)) (by have := hI.len; omega) ⟨hI.cs.1, by have := hI.cs.2; omega⟩ ⟨hI.cl.1, by have := hI.cl.2; omega⟩ (by omega) at_ (pl : Int) (tb.toNat : Int) hout) ?_
             rintro _ _ ⟨rfl, rfl⟩
             refine ⟨_, rfl, ?_⟩
             refine r_val rfl (x_move (v := .int .i64 4) rfl) ?_
             refine r_val rfl (x_as (u := .bool true) (x_eql (a := 4) (b := 4) rfl rfl) (congrArg Value.bool (decide_eq_true rfl))) ?_
             refine r_val rfl (x_assign (v := .bool true) rfl) ?_
             have := F13.size
             have := F17.size
             have := F30.size
             have := Fw.size
             have := F13.size
             have := F17.size
             have := F30.size
             refine RW_nil ?_
             refine inBlk_n ?_
             refine thenW_n ?_
             exact ⟨K, l, lp, sent, lost, _, ((ovl_cons (ovl_cons (ovl_cons (ovl_cons (ovl_cons (ovl_cons (ovl_nil _) rfl) rfl) rfl) rfl) rfl) rfl)).symm, (((((Fr.refl No _).trans Fw (fun j hj h => h.elim)).trans F13 (fun j hj h => h.elim)).trans F17 (fun j hj h => (by have h2 : j = ab := h; omega))).trans F30 (fun j hj h => h.elim)), hyK, (hI.no ((((Fr.refl No _).trans F13 (fun j hj h => h.elim)).trans F17 (fun j hj h => (by have h2 : j = ab := h; omega))).trans F30 (fun j hj h => h.elim))).up (by omega)⟩
     ·skip
      rintro σ w631 ⟨K2, l2, lp2, sent2, lost2, τ, rfl, Fw2, hyK2, hI2⟩
      obtain ⟨AP, cP, hNb, hRp, hPb⟩ := hI2.pap.pap
      rw [hI2.plen] at hNb hRp hPb
      refine W_seq ?_
      refine d_begin mo 21 (fun x => Fr No w631 x) ?_
      obtain ⟨w633, hw633⟩ : ∃ x, w631.drew = x := ⟨_, rfl⟩
      have F632 : Fr No w631 w633 := by rw [← hw633]; exact Fr.drew _ _
      have D634 : Fr No w631 w633 := Fr.of_No F632
      have sF632 := F632.size
      rw [hw633]
      refine d_pure (i := 0) rfl (by kernel_rfl) (np_then (np_blk (np_then (np_then (np_blk (np_then np_body)))))) rfl (fun _ => (x_move (v := .bool true) rfl)) (fun _ => D634) ?_
      refine d_pure (i := 1) rfl (by kernel_rfl) (np_then (np_blk (np_then (np_then (np_blk (np_then np_body)))))) rfl (fun _ => (x_not (b := true) rfl)) (fun _ => D634) ?_
      refine d_pure (i := 2) rfl (by kernel_rfl) (np_then (np_blk (np_then (np_then (np_blk (np_then np_body)))))) rfl (fun _ => (x_move (v := .bool false) rfl)) (fun _ => D634) ?_
      refine d_pure' (i := 3) rfl (by kernel_rfl) (np_then (np_blk (np_then (np_then (np_blk (np_then np_body)))))) rfl (wanted_act (t := 386) rfl rfl rfl rfl) (fun _ => (x_move (v := .pointer (some ⟨B, 0, none⟩)) rfl)) (fun _ => D634) ?_
      refine d_pure' (i := 5) rfl (by kernel_rfl) (np_then (np_blk (np_then (np_then (np_blk (np_then np_body)))))) rfl (wanted_act (t := 386) rfl rfl rfl rfl) (fun _ => (x_move (v := .pointer (some ⟨N, 0, none⟩)) rfl)) (fun _ => D634) ?_
      refine d_pure' (i := 6) rfl (by kernel_rfl) (np_then (np_blk (np_then (np_then (np_blk (np_then np_body)))))) rfl (wanted_act (t := 386) rfl rfl rfl rfl) (fun _ => (x_nilCheck rfl)) (fun _ => D634) ?_
      refine d_pure' (i := 7) rfl (by kernel_rfl) (np_then (np_blk (np_then (np_then (np_blk (np_then np_body)))))) rfl (wanted_act (t := 386) rfl rfl rfl rfl) (fun _ => (x_fieldAddr (b := N) (o := 0) fo_28_0 rfl)) (fun _ => D634) ?_
      refine d_load' (i := 8) rfl (by kernel_rfl) (np_then (np_blk (np_then (np_then (np_blk (np_then np_body)))))) rfl (by kernel_rfl) rfl (wanted_act (t := 386) rfl rfl rfl rfl) (fun x hS => (x_load (v := .slice AP l2.length cP) kind_26 rfl ((hNb.fr hS (fun f => f)).cell rfl))) D634 ?_
      refine d_force (i := 4) rfl (by kernel_rfl) ?_
      refine r_yes (t := 386) rfl rfl rfl rfl ?_
      have := F632.size
      refine r_call rfl (c20 (vs := [.pointer (some ⟨B, 0, none⟩)]) rfl) (netWay (hI2.net.fr ((Fr.refl No _).trans F632 (fun j hj h => h.elim)) (fun _ _ _ s => s)) (by have := hI2.len; omega) ⟨hI2.cs.1, by have := hI2.cs.2; omega⟩ ⟨hI2.cl.1, by have := hI2.cl.2; omega⟩ (by omega) (fun p hp => by have := hI2.small p hp; omega)) ?_
      rintro _ w636 ⟨vw, l3, rfl, hl3, hm3, hOw, hbw, hvw, F635⟩
      obtain ⟨AW, cW, hvwe, _⟩ := hOw.rd.form
      subst hvwe
      refine ⟨_, rfl, ?_⟩
      have sD637 := F635.size
      have D637 : Fr No w631 w636 := D634.trans F635 (fun i hi h => (by first | exact h.elim | omega | (simp only [Value.ownBlock, Option.some.injEq] at h; omega) | (have h2 := h; simp at h2; omega) | exact h))
      refine d_next (fun _ => D637) ?_
      refine d_force (i := 9) rfl (by kernel_rfl) ?_
      refine r_yes (t := 386) rfl rfl rfl rfl ?_
      have hR638 := hRp.fr F632 (fun _ _ f => f)
      have hR639 := hR638.fr F635 (fun _ _ f => f)
      have := F632.size
      have := F635.size
      refine r_call rfl (c14 (vs := [.slice AW l2.length cW, .slice AP l2.length cP]) rfl) (roostWay_eq AW AP l2.length cW cP l3 lp2 w636 hOw.rd hR639 hl3 hI2.plen (by have := hI2.len; omega) (hm3.trans hI2.same.symm) (fun p hp => (hbw p hp).rd.fr (Fr.refl No _) (fun _ _ h => h.elim)) (fun p hp => (hI2.pap.bytes p hp).1.fr (((Fr.refl No _).trans F632 (fun j hj h => h.elim)).trans F635 (fun j hj h => h.elim)) (fun _ _ h => h.elim))) ?_
      rintro _ w641 ⟨rfl, F640⟩
      refine ⟨_, rfl, ?_⟩
      have sD642 := F640.size
      have D642 : Fr No w631 w641 := D637.trans F640 (fun i hi h => (by first | exact h.elim | omega | (simp only [Value.ownBlock, Option.some.injEq] at h; omega) | (have h2 := h; simp at h2; omega) | exact h))
      refine d_next (fun _ => D642) ?_
      refine d_pure' (i := 10) rfl (by kernel_rfl) (np_then (np_blk (np_then (np_then (np_blk (np_then np_body)))))) rfl (wanted_act (t := 386) rfl rfl rfl rfl) (fun _ => (x_not (b := true) rfl)) (fun _ => D642) ?_
      refine d_pure (i := 11) rfl (by kernel_rfl) (np_then (np_blk (np_then (np_then (np_blk (np_then np_body)))))) rfl (fun _ => (x_pickF (b := false) (v := .bool false) rfl rfl rfl)) (fun _ => D642) ?_
      refine d_pure (i := 12) rfl (by kernel_rfl) (np_then (np_blk (np_then (np_then (np_blk (np_then np_body)))))) rfl (fun _ => (x_move (v := .bool false) rfl)) (fun _ => D642) ?_
      refine d_pure' (i := 13) rfl (by kernel_rfl) (np_then (np_blk (np_then (np_then (np_blk (np_then np_body)))))) rfl (wanted_act (t := 396) rfl rfl rfl rfl) (fun _ => (x_move (v := .pointer (some ⟨B, 0, none⟩)) rfl)) (fun _ => D642) ?_
      refine d_pure' (i := 15) rfl (by kernel_rfl) (np_then (np_blk (np_then (np_then (np_blk (np_then np_body)))))) rfl (wanted_act (t := 396) rfl rfl rfl rfl) (fun _ => (x_move (v := .pointer (some ⟨N, 0, none⟩)) rfl)) (fun _ => D642) ?_
      refine d_pure' (i := 16) rfl (by kernel_rfl) (np_then (np_blk (np_then (np_then (np_blk (np_then np_body)))))) rfl (wanted_act (t := 396) rfl rfl rfl rfl) (fun _ => (x_nilCheck rfl)) (fun _ => D642) ?_
      refine d_pure' (i := 17) rfl (by kernel_rfl) (np_then (np_blk (np_then (np_then (np_blk (np_then np_body)))))) rfl (wanted_act (t := 396) rfl rfl rfl rfl) (fun _ => (x_fieldAddr (b := N) (o := 0) fo_28_2 rfl)) (fun _ => D642) ?_
      refine d_load' (i := 18) rfl (by kernel_rfl) (np_then (np_blk (np_then (np_then (np_blk (np_then np_body)))))) rfl (by kernel_rfl) rfl (wanted_act (t := 396) rfl rfl rfl rfl) (fun x hS => (x_load (v := .int .i64 lost2) kind_3 rfl ((hNb.fr hS (fun f => f)).cell rfl))) D642 ?_
      refine d_force (i := 14) rfl (by kernel_rfl) ?_
      refine r_yes (t := 396) rfl rfl rfl rfl ?_
      have := F632.size
      have := F635.size
      have := F640.size
      have hNl := hI2.net.fr ((((Fr.refl No _).trans F632 (fun j hj h => h.elim)).trans F635 (fun j hj h => h.elim)).trans F640 (fun j hj h => h.elim)) (fun _ _ _ s => s)
      obtain ⟨AL, cL, hBl, _, _⟩ := hNl.net
      refine r_call rfl (c21 (vs := [.pointer (some ⟨B, 0, none⟩)]) rfl) (lost_any B many (mst : Int) sent2 lost2 AL l2.length cL w641 hBl) ?_
      rintro _ _ ⟨rfl, rfl⟩
      refine ⟨_, rfl, ?_⟩
      refine d_next (fun _ => D642) ?_
      refine d_pure' (i := 19) rfl (by kernel_rfl) (np_then (np_blk (np_then (np_then (np_blk (np_then np_body)))))) rfl (wanted_act (t := 396) rfl rfl rfl rfl) (fun _ => (x_as (u := .bool false) (x_neq (a := lost2) (b := lost2) rfl rfl) (congrArg Value.bool (decide_eq_false (fun h => h rfl))))) (fun _ => D642) ?_
      refine d_pure (i := 20) rfl (by kernel_rfl) (np_then (np_blk (np_then (np_then (np_blk (np_then np_body)))))) rfl (fun _ => (x_pickF (b := false) (v := .bool false) rfl rfl rfl)) (fun _ => D642) ?_
      refine d_done (by kernel_rfl) ?_
      refine thenW_n ?_
      refine W_condF (b := false) rfl rfl rfl ?_
      refine W_skip ?_
      refine inBlk_n ?_
      refine thenW_n ?_
      refine W_region ?_
      refine r_val rfl (x_move (v := .int .i64 (k : Int)) rfl) ?_
      refine r_val rfl (x_add64 (a := (k : Int)) (b := 1) rfl rfl (by omega)) ?_
      refine r_val rfl (x_assign (v := .int .i64 ((k : Int) + 1)) rfl) ?_
      refine RW_nil ?_
      refine thenW_n ?_
      have := Fw2.size
      have := F632.size
      have := F635.size
      have := F640.size
      have := F632.size
      have := F635.size
      have := F640.size
      exact ⟨_, (by omega), k + 1, K2, l2, lp2, sent2, lost2, _, rfl, ((ovl_cons (ovl_cons (ovl_cons (ovl_cons (ovl_cons (ovl_nil _) (by show Value.int .i64 ((k : Int) + 1) = _; rfl)) rfl) rfl) rfl) rfl)).symm, (((((Fr.refl No _).trans Fw2 (fun j hj h => h.elim)).trans F632 (fun j hj h => h.elim)).trans F635 (fun j hj h => h.elim)).trans F640 (fun j hj h => h.elim)), hyK2, by omega, by omega, hI2.no ((((Fr.refl No _).trans F632 (fun j hj h => h.elim)).trans F635 (fun j hj h => h.elim)).trans F640 (fun j hj h => h.elim))⟩
   ·skip
    refine W_exit ?_
    refine thenW_x ?_
    refine thenW_x ?_
    refine inBlk_xs ?_
    refine thenW_n ?_
    refine W_seq ?_
    refine W_region ?_
    refine r_val rfl (x_assign (v := .bool true) rfl) ?_
    refine RW_nil ?_
    refine thenW_n ?_
    refine W_ret ?_
    have := Fw.size
    refine q_ret1 (v := .bool true) rfl rfl rfl ?_
    exact ⟨rfl, ((Fr.refl No _).trans Fw (fun j hj h => h.elim))⟩
  ·skip
   refine r_no (t := 62) rfl rfl rfl (decide_eq_false hc10) ?_
   refine r_no (t := 62) rfl rfl rfl (decide_eq_false hc10) ?_
   refine r_val rfl (x_pickF (b := decide ((k : Int) < (n : Int))) (v := .bool false) rfl (decide_eq_false hc10) rfl) ?_
   refine RW_nil ?_
   refine thenW_n ?_
   refine W_condF (b := false) rfl rfl rfl ?_
   refine W_exit ?_
   refine thenW_x ?_
   refine thenW_x ?_
   refine inBlk_xs ?_
   refine thenW_n ?_
   refine W_seq ?_
   refine W_region ?_
   refine r_val rfl (x_assign (v := .bool true) rfl) ?_
   refine RW_nil ?_
   refine thenW_n ?_
   refine W_ret ?_
   have := Fw.size
   refine q_ret1 (v := .bool true) rfl rfl rfl ?_
   exact ⟨rfl, ((Fr.refl No _).trans Fw (fun j hj h => h.elim))⟩

end Go.Proofs.YthomkocjjkmnkaaDoor
