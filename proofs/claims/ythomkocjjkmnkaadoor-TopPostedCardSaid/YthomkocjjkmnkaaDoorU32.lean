import Derived.Test.YthomkocjjkmnkaaDoorStr
/- Rows of words; arrays as values. -/
namespace Go.Proofs.YthomkocjjkmnkaaDoor
open Go Go.RowKit
def UC (xs : List Int) : List Value := xs.map (Value.int .u32)
theorem UC_length (xs : List Int) : (UC xs).length = xs.length := by simp [UC]
theorem UC_get (xs : List Int) (k : Nat) (h : k < xs.length) : (UC xs)[k]? = some (.int .u32 (xs.getD k 0)) := map_getD _ xs k 0 h
theorem UC_set (xs : List Int) (k : Nat) (x : Int) (h : k < xs.length) : (UC xs).take k ++ [Value.int .u32 x] ++ (UC xs).drop (k + 1) = UC (xs.set k x) := by
  have e : (UC xs).take k ++ [Value.int .u32 x] ++ (UC xs).drop (k + 1) = (UC xs).set k (.int .u32 x) := by
    rw [List.set_eq_take_append_cons_drop, if_pos (by rw [UC_length]; exact h)]; simp
  rw [e]; unfold UC; rw [← List.map_set]
theorem UC_one (xs : List Int) : (UC xs).all (·.oneCell') = true := by
  rw [List.all_eq_true]; intro u hu; obtain ⟨b, _, rfl⟩ := List.mem_map.1 hu; rfl
theorem store_all {l vs : List Value} (h : l.length = vs.length) : l.take 0 ++ vs ++ l.drop (0 + vs.length) = vs := by
  rw [Nat.zero_add, ← h, List.drop_length]; simp
theorem and31 (x : Int) (h0 : 0 ≤ x) (h1 : x < 18446744073709551616) : bits .and .u64 x 31 = x % 32 := by
  obtain ⟨n, rfl⟩ := Int.eq_ofNat_of_zero_le h0
  show IntKind.u64.wrap (((BitVec.ofInt 64 (n : Int)) &&& (BitVec.ofInt 64 31)).toNat : Int) = _
  have e : (BitVec.ofInt 64 (n : Int) &&& BitVec.ofInt 64 31).toNat = n % 32 := by
    rw [BitVec.toNat_and]
    have a : (BitVec.ofInt 64 (n : Int)).toNat = n := by simp [BitVec.toNat_ofInt]; omega
    have b : (BitVec.ofInt 64 31).toNat = 2 ^ 5 - 1 := by decide
    rw [a, b, Nat.and_two_pow_sub_one_eq_mod]
  rw [e, IntKind.wrap_u64]
  omega
/-- A word turned to the right by n bits. -/
def rotr (x : Int) (n : Nat) : Int := bits .or .u32 (IntKind.u32.wrap (x * 2 ^ (32 - n))) (x / 2 ^ n)
theorem rot_mask {n : Nat} (h : 1 ≤ n ∧ n ≤ 31) : bits .and .u64 (IntKind.u64.wrap (-(n : Int))) 31 = ((32 - n : Nat) : Int) := by
  have hu : IntKind.u64.wrap (-(n : Int)) = 18446744073709551616 - n := by rw [IntKind.wrap_u64]; omega
  rw [hu, and31 _ (by omega) (by omega)]; omega
theorem rot_back {n : Nat} (h : 1 ≤ n ∧ n ≤ 31) : IntKind.u64.wrap (32 - ((32 - n : Nat) : Int)) = (n : Int) := by rw [IntKind.wrap_u64]; omega
section
variable {P : Program} {ρ : Operand → Value} {w : World} {dst : Option Nat} {ty : TypeId} {pos : String} {aft : Array Edge}
/-- An element of an array that is a value; elements of one cell. -/
theorem x_indexV {t n e : Nat} {x i : Operand} {l : List Value} {v : Value} {k : IntKind} {q : Int} {j : Nat} (ht : P.underlying t = some (.array n e)) (hs : (P.info? e).map (·.size) = some 1) (hk : (P.underlying e).map TypeDesc.isRow = some false)
    (hx : ρ x = .agg l.toArray) (hi : ρ i = .int k q) (hq : q = (j : Int)) (hj : j < n) (hv : l[j]? = some v) :
    (execOp ρ ⟨dst, .index t x i, ty, pos, aft, none⟩).run P w = .ok (.value v) w := by
  subst hq
  have h1 : (0 : Int) ≤ (j : Int) ∧ (j : Int) < (n : Int) := by omega
  have h2 : ∃ h : j < l.length, l[j] = v := List.getElem?_eq_some_iff.1 hv
  simp [execOp, hx, hi, Instr.index, asIntOf, Sem.run_bind, run_underlying ht, hj, run_sizeOf hs, part, run_isAgg hk, hv]
/-- An array's literal: all its elements are said. -/
theorem x_buildA {σ : Env} {t n e size : Nat} {parts : Array (Nat × Operand)} {z : Value} {vs : List Value} {l : List Value} (ht : P.underlying t = some (.array n e)) (hs : (P.info? e).map (·.size) = some size) (hz : (P.info? t).map (·.zero) = some (some z)) (hzl : z.cells.size = n * size)
    (hp : parts.toList.map (fun p => (p.1, ev σ p.2)) = (vs.zipIdx 0).map fun p => (p.2, p.1)) (hlen : vs.length = n) (hcs : ∀ v ∈ vs, v.cells.size = size) (hl : (vs.map fun v => v.cells.toList).flatten = l) :
    (execOp (ev σ) ⟨dst, .build t parts, ty, pos, aft, none⟩).run P w = .ok (.value (.agg l.toArray)) w := by
  have hzv : (zeroValue t).run P w = .ok z w := by
    cases hq : P.info? t with
    | none => rw [hq] at hz; cases hz
    | some i =>
      have hz' : i.zero = some z := by simpa [hq] using hz
      exact run_zero hq hz'
  have hparts : (parts.map fun p => (p.1, ev σ p.2)).toList = (vs.zipIdx 0).map fun p => (p.2, p.1) := by rw [Array.toList_map]; exact hp
  have hf := fill_full size vs 0 z.cells hcs (by rw [hzl, hlen, Nat.zero_add])
  rw [hl] at hf
  simp only [execOp, Instr.build, Sem.run_bind, hzv, Result.andThen_ok, run_underlying ht, run_sizeOf hs, hparts, hf]
  simp
end
end Go.Proofs.YthomkocjjkmnkaaDoor
