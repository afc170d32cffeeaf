import Derived.Test.YthomkocjjkmnkaaDoorDraw
/- Plain laws of lists, for the walks. -/
namespace Go.Proofs.YthomkocjjkmnkaaDoor
open Go Go.RowKit
theorem map_getD {α β : Type} (f : α → β) (xs : List α) (k : Nat) (d : α) (h : k < xs.length) : (xs.map f)[k]? = some (f (xs.getD k d)) := by
  rw [List.getElem?_map, List.getElem?_eq_getElem h, List.getD_eq_getElem?_getD, List.getElem?_eq_getElem h]; rfl
/-- Elements of 'size' cells each, one behind the other. -/
def encL {α : Type} (E : α → List Value) (l : List α) : List Value := (l.map E).flatten
theorem encL_nil {α : Type} (E : α → List Value) : encL E [] = [] := rfl
theorem encL_cons {α : Type} (E : α → List Value) (a : α) (l : List α) : encL E (a :: l) = E a ++ encL E l := rfl
theorem encL_append {α : Type} (E : α → List Value) (l m : List α) : encL E (l ++ m) = encL E l ++ encL E m := by simp [encL]
theorem encL_length {α : Type} {E : α → List Value} {size : Nat} (hE : ∀ a, (E a).length = size) (l : List α) : (encL E l).length = l.length * size := by
  induction l with
  | nil => simp [encL]
  | cons a l ih => rw [encL_cons, List.length_append, hE, ih, List.length_cons, Nat.add_one_mul, Nat.add_comm]
theorem encL_take {α : Type} {E : α → List Value} {size : Nat} (hE : ∀ a, (E a).length = size) (l : List α) : ∀ k, (encL E l).take (k * size) = encL E (l.take k) := by
  induction l with
  | nil => intro k; simp [encL]
  | cons a l ih =>
    intro k
    cases k with
    | zero => simp [encL_nil]
    | succ k =>
      rw [encL_cons, List.take_succ_cons, encL_cons, Nat.add_one_mul, Nat.add_comm, List.take_append, hE, List.take_of_length_le (by rw [hE]; omega)]
      congr 1
      rw [show size + k * size - size = k * size from by omega]
      exact ih k
theorem encL_drop {α : Type} {E : α → List Value} {size : Nat} (hE : ∀ a, (E a).length = size) (l : List α) : ∀ k, (encL E l).drop (k * size) = encL E (l.drop k) := by
  induction l with
  | nil => intro k; simp [encL]
  | cons a l ih =>
    intro k
    cases k with
    | zero => simp
    | succ k =>
      rw [encL_cons, List.drop_succ_cons, Nat.add_one_mul, Nat.add_comm, List.drop_append, hE, List.drop_of_length_le (by rw [hE]; omega), List.nil_append]
      rw [show size + k * size - size = k * size from by omega]
      exact ih k
theorem encL_get {α : Type} {E : α → List Value} {size : Nat} (hE : ∀ a, (E a).length = size) {l : List α} {k f : Nat} {a : α} {u : Value} (ha : l[k]? = some a) (hu : (E a)[f]? = some u) : (encL E l)[k * size + f]? = some u := by
  have hk : k < l.length := (List.getElem?_eq_some_iff.1 ha).1
  have hf : f < (E a).length := (List.getElem?_eq_some_iff.1 hu).1
  have e : (encL E l).drop (k * size) = E a ++ encL E (l.drop (k + 1)) := by
    rw [encL_drop hE, List.drop_eq_getElem_cons hk, encL_cons]
    have : l[k] = a := by rw [List.getElem?_eq_getElem hk] at ha; simpa using ha
    rw [this]
  rw [← List.getElem?_drop, e, List.getElem?_append_left hf]
  exact hu
theorem encL_mem {α : Type} {E : α → List Value} {l : List α} {u : Value} (h : u ∈ encL E l) : ∃ a ∈ l, u ∈ E a := by
  unfold encL at h
  obtain ⟨x, hx, hu⟩ := List.mem_flatten.1 h
  obtain ⟨a, ha, rfl⟩ := List.mem_map.1 hx
  exact ⟨a, ha, hu⟩
/-- Bytes, as cells. -/
def BC (bs : List UInt8) : List Value := bs.map fun b => .int .u8 b.toNat
def IC (xs : List Int) : List Value := xs.map fun x => .int .i64 x
theorem BC_length (bs : List UInt8) : (BC bs).length = bs.length := by simp [BC]
theorem IC_length (xs : List Int) : (IC xs).length = xs.length := by simp [IC]
theorem BC_append (a b : List UInt8) : BC (a ++ b) = BC a ++ BC b := by simp [BC]
theorem IC_append (a b : List Int) : IC (a ++ b) = IC a ++ IC b := by simp [IC]
theorem BC_one (bs : List UInt8) : ∀ u ∈ BC bs, u.oneCell' = true := by intro u hu; obtain ⟨b, _, rfl⟩ := List.mem_map.1 hu; rfl
theorem IC_one (xs : List Int) : ∀ u ∈ IC xs, u.oneCell' = true := by intro u hu; obtain ⟨b, _, rfl⟩ := List.mem_map.1 hu; rfl
theorem BC_get (bs : List UInt8) (k : Nat) (h : k < bs.length) : (BC bs)[k]? = some (.int .u8 (bs.getD k 0).toNat) := map_getD _ bs k 0 h
theorem IC_get (xs : List Int) (k : Nat) (h : k < xs.length) : (IC xs)[k]? = some (.int .i64 (xs.getD k 0)) := map_getD _ xs k 0 h
end Go.Proofs.YthomkocjjkmnkaaDoor
