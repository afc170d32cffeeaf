import Derived.Test.YthomkocjjkmnkaaDoorLst
/- Datagrams on the way: as data, and the order in which they lie. -/
namespace Go.Proofs.YthomkocjjkmnkaaDoor
open Go Go.RowKit
/-- The same value, in other words. -/
theorem x_as {P : Program} {ρ : Operand → Value} {o : Oper} {w : World} {v u : Value} (h : (execOp ρ o).run P w = .ok (.value v) w) (e : v = u) : (execOp ρ o).run P w = .ok (.value u) w := e ▸ h
def cmpI (x y : Int) : Int := if x < y then -1 else if y < x then 1 else 0
/-- The first number that is not 0. -/
def orI : List Int → Int
  | [] => 0
  | x :: l => if x ≠ 0 then x else orI l
theorem orI_zeros : ∀ (l : List Int), (∀ j, j < l.length → l.getD j 0 = 0) → orI l = 0
  | [], _ => rfl
  | x :: l, h => by
    have h0 : x = 0 := by have := h 0 (by simp); simpa using this
    unfold orI
    rw [if_neg (by simpa using h0)]
    exact orI_zeros l fun j hj => by have := h (j + 1) (by simpa using hj); simpa using this
theorem orI_at : ∀ (l : List Int) (k : Nat), k < l.length → (∀ j, j < k → l.getD j 0 = 0) → l.getD k 0 ≠ 0 → orI l = l.getD k 0
  | [], k, h, _, _ => by simp at h
  | x :: l, 0, _, _, h => by simp at h ⊢; simp [orI, h]
  | x :: l, k + 1, hk, h, hne => by
    have h0 : x = 0 := by have := h 0 (by omega); simpa using this
    unfold orI
    rw [if_neg (by simpa using h0)]
    have := orI_at l k (by simpa using hk) (fun j hj => by have := h (j + 1) (by omega); simpa using this) (by simpa using hne)
    simpa using this
structure Fl where
  num : Int
  frm : Int
  dst : Int
  due : Int
  bs : List UInt8
/-- A datagram's cells; its bytes' slice beside it. -/
def FC (p : Fl × Value) : List Value := [.int .i64 p.1.num, .int .i64 p.1.frm, .int .i64 p.1.dst, .int .i64 p.1.due, p.2]
theorem FC_len (p : Fl × Value) : (FC p).length = 5 := rfl
def fl0 : Fl × Value := (⟨0, 0, 0, 0, []⟩, .slice none 0 0)
/-- Does it come ahead of (due, num)? -/
def ahead (due num : Int) (p : Fl × Value) : Prop := orI [cmpI p.1.due due, cmpI p.1.num num] < 0
theorem ahead_iff (due num : Int) (p : Fl × Value) : ahead due num p ↔ p.1.due < due ∨ p.1.due = due ∧ p.1.num < num := by
  unfold ahead cmpI orI orI orI
  by_cases h1 : p.1.due < due
  · simp [h1]
  · by_cases h2 : due < p.1.due
    · have : ¬ p.1.due = due := by omega
      simp [h1, h2, this]
    · have h3 : p.1.due = due := by omega
      by_cases h4 : p.1.num < num
      · simp [h3, h4]
      · by_cases h5 : num < p.1.num
        · simp [h3, h4, h5]
        · simp [h3, h4, h5]
theorem mid_eq (i j : Nat) (h : i + j ≤ 4611686018427387904) : IntKind.i64.wrap (IntKind.u64.wrap ((i : Int) + (j : Int)) / 2 ^ min (1 : Int).toNat (IntKind.u64).bits) = (((i + j) / 2 : Nat) : Int) := by
  have e : (2 : Int) ^ min (1 : Int).toNat (IntKind.u64).bits = 2 := by decide
  rw [e, IntKind.wrap_u64, i64_in] <;> omega
theorem getD_at {α : Type} (l : List α) (k : Nat) (d : α) (h : k < l.length) : l[k]? = some (l.getD k d) := by
  rw [List.getD_eq_getElem?_getD, List.getElem?_eq_getElem h]; rfl
end Go.Proofs.YthomkocjjkmnkaaDoor
