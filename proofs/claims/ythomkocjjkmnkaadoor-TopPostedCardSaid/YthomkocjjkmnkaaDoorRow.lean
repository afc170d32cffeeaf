import Derived.Test.YthomkocjjkmnkaaDoorCpy
/- Rows of the program's own, opened and closed; the lists that insertions and deletions leave. -/
namespace Go.Proofs.YthomkocjjkmnkaaDoor
open Go Go.RowKit
theorem Own.open_ {w : World} {e : TypeId} {size n c : Nat} {A : Option Addr} {xs : List Value} (h : Own w e size (.slice A n c) n xs) (h0 : 0 < n) :
    ∃ g cur, A = some ⟨g, 0, none⟩ ∧ Blk w g e cur ∧ n ≤ c ∧ c ≤ maxLen ∧ cur.length = c * size ∧ cur.take (n * size) = xs := by
  rcases h.2 with ⟨hv, rfl⟩ | ⟨g, cap, cur, hv, hb, hg, hc, hm, hsz, hx⟩
  · omega
  · injection hv with e1 e2 e3
    subst e1; subst e3
    exact ⟨g, cur.toList, rfl, hg, hc, hm, by simpa using hsz, hx⟩
theorem Own.one {w : World} {e : TypeId} {size n : Nat} {v : Value} {xs : List Value} (h : Own w e size v n xs) : v.oneCell' = true := by
  rcases h.2 with ⟨rfl, _⟩ | ⟨g, cap, cur, rfl, _⟩ <;> rfl
theorem Rd.one {w : World} {size n : Nat} {v : Value} {xs : List Value} (h : Rd w size v n xs) : v.oneCell' = true := by
  obtain ⟨_, A, c, rfl, _⟩ := h; rfl
theorem one1 {v : Value} (h : v.oneCell' = true) : ([v].all fun x => x.oneCell') = true := by simp [h]
theorem Own.of_blk' {w : World} {g : Nat} {e : TypeId} {l xs : List Value} {size n c : Nat} (h : Blk w g e l) (hl : l.length = c * size) (hn : n ≤ c) (hc : c ≤ maxLen) (hx : l.take (n * size) = xs) : Own w e size (.slice (some ⟨g, 0, none⟩) n c) n xs := by
  refine ⟨?_, .inr ⟨g, c, l.toArray, rfl, Nat.zero_le _, h, hn, hc, by simpa using hl, hx⟩⟩
  rw [← hx, List.length_take, hl]
  exact Nat.min_eq_left (Nat.mul_le_mul_right _ hn)
theorem Rd.of_blk {w : World} {g : Nat} {e : TypeId} {l : List Value} {size m c : Nat} (h : Blk w g e l) (hl : l.length = c * size) (hm : m ≤ c) : Rd w size (.slice (some ⟨g, 0, none⟩) m c) m (l.take (m * size)) := by
  refine ⟨by rw [List.length_take, hl]; exact Nat.min_eq_left (Nat.mul_le_mul_right _ hm), some ⟨g, 0, none⟩, c, rfl, hm, fun _ => ⟨g, 0, rfl, fun j u hu => ?_⟩⟩
  rw [Nat.zero_add]
  rw [List.getElem?_take] at hu
  split at hu
  · exact h.cell hu
  · cases hu
theorem subA_some {size l c g o : Nat} (h : c ≠ l) : subA size l c (some ⟨g, o, none⟩) = some ⟨g, o + l * size, none⟩ := by
  unfold subA; rw [if_neg h]; simp [Addr.add_mid]
theorem one_take {l : List Value} {k : Nat} (h : ∀ u ∈ l, u.oneCell' = true) : ∀ u ∈ l.take k, u.oneCell' = true := fun u hu => h u (List.mem_of_mem_take hu)
theorem one_drop {l : List Value} {k : Nat} (h : ∀ u ∈ l, u.oneCell' = true) : ∀ u ∈ l.drop k, u.oneCell' = true := fun u hu => h u (List.mem_of_mem_drop hu)
theorem ins_grow {X Y Z l1 l2 : List Value} {a b s d k : Nat} (hX : X.length = b) (hY : Y.length = s) (ha : a ≤ b) (hZ : Z.length = d) (hd : b + s ≤ a + d) (hk : a + s + (b - a) = k)
    (h1 : (X.take a ++ Z).take a ++ Y ++ (X.take a ++ Z).drop (a + s) = l1) (h2 : l1.take (a + s) ++ X.drop a ++ l1.drop k = l2) : l2.take (b + s) = X.take a ++ Y ++ X.drop a ∧ l2.length = a + d := by
  have e0 : (X.take a ++ Z).take a = X.take a := by
    rw [List.take_append_of_le_length (by rw [List.length_take, hX]; omega), List.take_take, Nat.min_self]
  have l0 : (X.take a).length = a := by rw [List.length_take, hX]; omega
  have e1 : l1.take (a + s) = X.take a ++ Y := by
    rw [← h1, e0]; exact List.take_left' (by rw [List.length_append, l0, hY])
  have hl1 : l1.length = a + d := by
    rw [← h1, e0]; simp only [List.length_append, List.length_drop, l0, hY, hZ]; omega
  have hdrop : (X.drop a).length = b - a := by rw [List.length_drop, hX]
  subst h2
  rw [e1]
  refine ⟨List.take_left' (by simp only [List.length_append, l0, hY, hdrop]; omega), ?_⟩
  simp only [List.length_append, l0, hY, hdrop, List.length_drop, hl1]
  omega
theorem ins_room {C X Y S l1 l2 : List Value} {a b s k : Nat} (hX : C.take b = X) (hC : b + s ≤ C.length) (hY : Y.length = s) (ha : a ≤ b) (hk : a + s + (b - a) = k) (hS : (C.drop a).take (b - a) = S)
    (h1 : C.take (a + s) ++ S ++ C.drop k = l1) (h2 : l1.take a ++ Y ++ l1.drop (a + s) = l2) : l2.take (b + s) = X.take a ++ Y ++ X.drop a ∧ l2.length = C.length := by
  have l0 : (C.take (a + s)).length = a + s := by rw [List.length_take]; omega
  have e1 : l1.take a = X.take a := by
    rw [← h1, List.append_assoc, List.take_append_of_le_length (by omega), List.take_take, ← hX, List.take_take]
    congr 1; omega
  have hS' : S = X.drop a := by rw [← hS, ← hX, List.drop_take]
  have hSl : S.length = b - a := by rw [hS', List.length_drop, ← hX, List.length_take]; omega
  have e2 : l1.drop (a + s) = S ++ C.drop k := by
    rw [← h1, List.append_assoc]; exact List.drop_left' l0
  subst h2
  rw [e1, e2, hS', ← List.append_assoc]
  have hx : X.length = b := by rw [← hX, List.length_take]; omega
  refine ⟨List.take_left' (by simp only [List.length_append, List.length_take, List.length_drop, hx, hY]; omega), ?_⟩
  simp only [List.length_append, List.length_take, List.length_drop, hx, hY]
  omega
theorem del_in {C X l1 l2 Z S : List Value} {a d s k : Nat} (hX : C.take (d + s) = X) (hC : d + s ≤ C.length) (ha : a ≤ d) (hS : X.drop (a + s) = S) (hk : a + (d - a) = k)
    (h1 : C.take a ++ S ++ C.drop k = l1) (hZ : Z.length = s) (h2 : l1.take d ++ Z ++ l1.drop (d + s) = l2) : l2.take d = X.take a ++ S ∧ l2.length = C.length := by
  have hx : X.length = d + s := by rw [← hX, List.length_take]; omega
  have hSl : S.length = d - a := by rw [← hS, List.length_drop, hx]; omega
  have l0 : (C.take a).length = a := by rw [List.length_take]; omega
  have l1l : l1.length = C.length := by rw [← h1]; simp only [List.length_append, l0, hSl, List.length_drop]; omega
  have e1 : l1.take d = C.take a ++ S := by
    rw [← h1]; exact List.take_left' (by rw [List.length_append, l0, hSl]; omega)
  have e2 : C.take a = X.take a := by rw [← hX, List.take_take]; congr 1; omega
  subst h2
  rw [e1, e2, List.append_assoc (X.take a ++ S)]
  have l3 : (X.take a ++ S).length = d := by rw [← e2, List.length_append, l0, hSl]; omega
  refine ⟨List.take_left' l3, ?_⟩
  have l4 : (X.take a ++ S ++ (Z ++ l1.drop (d + s))).length = (X.take a ++ S).length + (Z ++ l1.drop (d + s)).length := List.length_append
  rw [l4, l3, List.length_append, hZ, List.length_drop, l1l]
  omega
theorem bv8 (a : UInt8) : BitVec.ofInt 8 (a.toNat : Int) = a.toBitVec := by
  apply BitVec.eq_of_toNat_eq
  rw [BitVec.toNat_ofInt]
  have := a.toNat_lt
  simp only [UInt8.toNat_toBitVec]
  omega
theorem xor8 (a b : UInt8) : bits .xor .u8 (a.toNat : Int) (b.toNat : Int) = ((a ^^^ b).toNat : Int) := by
  simp only [bits]
  show IntKind.u8.wrap (((BitVec.ofInt 8 (a.toNat : Int)) ^^^ (BitVec.ofInt 8 (b.toNat : Int))).toNat : Int) = _
  rw [bv8, bv8, ← UInt8.toBitVec_xor, UInt8.toNat_toBitVec]
  have := (a ^^^ b).toNat_lt
  rw [IntKind.wrap_u8]
  omega
theorem BC_set {cur : List Value} {bs : List UInt8} {m j : Nat} {y : UInt8} (h : cur.take m = BC bs) (hm : m = bs.length) (hj : j < m) (hc : m ≤ cur.length) :
    (cur.take j ++ [Value.int .u8 y.toNat] ++ cur.drop (j + 1)).take m = BC (bs.set j y) := by
  have e : cur.take j ++ [Value.int .u8 y.toNat] ++ cur.drop (j + 1) = cur.set j (.int .u8 y.toNat) := by
    rw [List.set_eq_take_append_cons_drop, if_pos (by omega)]; simp
  rw [e, List.take_set, h]
  unfold BC
  rw [← List.map_set]
section
variable {P : Program} {n fuel : Nat} {Q : Exit → Env → World → Prop} {σ : Env} {w : World} {ops : Array Oper} {rest : List Oper} {d c : Nat} {S : World → Prop} {op : Op} {ty : TypeId} {pos : String} {aft : Array Edge} {listed : List Bool}
theorem yielded_undef {j t : Nat} (hd : (ops[j]?).bind (·.dst) = some t) (ht : Nat.blt t n = true) (hb : σ t = undef) : yielded ops (act n σ).tmps j = none := by
  have ht' : t < n := by simpa [Nat.blt_eq] using ht
  simp [yielded, hd, act, ht', hb, undef]
/-- A guard that was not reached itself: the operation is left out. -/
theorem r_noU {j t : Nat} {want : Bool} (hd : (ops[j]?).bind (·.dst) = some t) (ht : Nat.blt t n = true) (hb : σ t = undef)
    (k : RW P ops n Q rest (upd σ d undef) w) : RW P ops n Q (⟨some d, op, ty, pos, aft, some (j, want)⟩ :: rest) σ w := by
  have e := yielded_undef (n := n) hd ht hb
  have h1 : ¬ (Region.wanted ⟨some d, op, ty, pos, aft, some (j, want)⟩ (yielded ops (act n σ).tmps) = true) := by
    simp [Region.wanted, e]
  unfold RW at k ⊢
  rw [wpList, if_neg h1, put_act]
  exact k
theorem d_noU {i j t : Nat} {want : Bool} (hi : ops[i]? = some ⟨some d, op, ty, pos, aft, some (j, want)⟩) (hk : takeOk ops n listed i op = true) (hQ : ∀ ch σ w, ¬ Q (.panic ch) σ w) (hci : Nat.beq i c = false)
    (hd : (ops[j]?).bind (·.dst) = some t) (ht : Nat.blt t n = true) (hb : σ t = undef) (hS : listed.getD c false = false → S w)
    (h : RD P ops n Q c S fuel (listed.set i true) (upd σ d undef) w) : RD P ops n Q c S (fuel + 1) listed σ w := by
  simp only [takeOk, Bool.and_eq_true] at hk
  obtain ⟨⟨⟨hs, hf⟩, hr⟩, hok⟩ := hk
  have hci' : c ≠ i := fun e => by subst e; simp at hci
  have e := yielded_undef (n := n) hd ht hb
  refine wpAnyD_pure (v := undef) hi (Region.noSelect_spec hs) (lift_panic hQ) hci' fuel listed.toArray (act n σ) w (Region.free_spec hi hf) (by simpa using hr) (.inr ⟨by simp [Region.wanted, e], rfl⟩) (fun hx => hS (by simpa [List.getD_eq_getElem?_getD] using hx)) ?_
  rw [set_toArray, put_act]; exact h
end
end Go.Proofs.YthomkocjjkmnkaaDoor
