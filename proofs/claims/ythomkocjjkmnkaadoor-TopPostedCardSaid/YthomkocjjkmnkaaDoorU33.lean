import Derived.Test.YthomkocjjkmnkaaDoorU32
/- make of slices; bytes and cuts of strings. -/
namespace Go.Proofs.YthomkocjjkmnkaaDoor
open Go Go.RowKit
section
variable {P : Program} {n : Nat} {Q : Exit → Env → World → Prop} {σ : Env} {w : World} {rest : List Oper} {ops : Array Oper} {d : Nat} {ty : TypeId} {pos : String} {aft : Array Edge}
/-- 'make([]T, l, c)' -/
theorem r_makeSlice {t e size bytes : Nat} {z : Value} {k k' : IntKind} {q q' : Int} {x y : Operand} {l c : Nat} (hok : okOpd n x = true) (hok2 : okOpd n y = true) (ht : elemInfo P t = some (e, size, bytes, some z)) 
    (hx : ev σ x = .int k q) (hy : ev σ y = .int k' q') (hq : q = (l : Int)) (hq' : q' = (c : Int)) (hl : l ≤ c) (hc : c ≤ 1000000000) (hb : c * bytes ≤ 140737488355328) (g : Nat) (hg : w.heap.size = g)
    (kk : ∀ w' zs, zs.length = c * size → Fr No w w' → w'.heap.size = g + 1 → Blk w' g e zs → RW P ops n Q rest (upd σ d (.slice (some ⟨g, 0, none⟩) l c)) w') :
    RW P ops n Q (⟨some d, .makeSlice t x y, ty, pos, aft, none⟩ :: rest) σ w := by
  subst hg; subst hq; subst hq'
  obtain ⟨i, hu, hi, hs, hbb, hz⟩ := elemInfo_spec ht
  have e1 : IntKind.i64.wrap (l : Int) = l := by rw [IntKind.wrap_i64]; omega
  have e2 : IntKind.i64.wrap (c : Int) = c := by rw [IntKind.wrap_i64]; omega
  have e3 : ¬ ((c : Int) < 0) := by omega
  have e4 : ¬ ((l : Int) < 0) := by omega
  have e5 : ¬ ((c : Int) < (l : Int)) := by omega
  have e6 : ¬ (281474976710656 < (bytes : Int) * (c : Int)) := by
    rw [← Int.natCast_mul, Nat.mul_comm]; omega
  obtain ⟨zs, hzs2⟩ : ∃ zs, zs = (Array.range (c * size)).map (fun x => (if c * size = 0 then #[] else z.cells)[x % (if c * size = 0 then #[] else z.cells).size]!) := ⟨_, rfl⟩
  have hrun : (Instr.makeSlice t (.int k l) (.int k' c)).run P w = .ok (.slice (some ⟨w.heap.size, 0, none⟩) l c) (w.alloc (.cells zs e)) := by
    have hl2 : l ≤ c := hl
    by_cases h0 : c * size = 0
    · rw [if_pos h0] at hzs2
      have h0' : c = 0 ∨ size = 0 := Nat.mul_eq_zero.1 h0
      rw [hzs2]
      simp [Instr.makeSlice, run_underlying hu, asInt, asIntOf, typeInfo, hi, hbb, hs, e1, e2, e3, e4, e5, e6, sizeOf, h0, h0', newRow]
    · rw [if_neg h0] at hzs2
      have h0' : ¬ (c = 0 ∨ size = 0) := fun h => h0 (Nat.mul_eq_zero.2 h)
      rw [hzs2]
      simp [Instr.makeSlice, run_underlying hu, asInt, asIntOf, typeInfo, hi, hbb, hs, e1, e2, e3, e4, e5, e6, sizeOf, h0, h0', newRow, zeroValue, hz]
  refine r_val (v := .slice (some ⟨w.heap.size, 0, none⟩) l c) (by simp [okOp, isSelect, Op.operands, hok, hok2]) ?_ (kk _ zs.toList (by rw [Array.length_toList, hzs2]; simp) (Fr.alloc w _) (by simp) (Go.heap_alloc_new w _))
  simp [execOp, hx, hy, hrun, Sem.run_bind]
end
section
variable {P : Program} {ρ : Operand → Value} {w : World} {dst : Option Nat} {ty : TypeId} {pos : String} {aft : Array Edge}
theorem x_indexS {t : Nat} {x i : Operand} {s : ByteArray} {k : IntKind} {q : Int} {j : Nat} {b : UInt8} (ht : P.underlying t = some .string) (hx : ρ x = .string s) (hi : ρ i = .int k q) (hq : q = (j : Int)) (hv : s.data[j]? = some b) :
    (execOp ρ ⟨dst, .index t x i, ty, pos, aft, none⟩).run P w = .ok (.value (.int .u8 (b.toNat : Int))) w := by
  subst hq
  obtain ⟨hj, hb⟩ := Array.getElem?_eq_some_iff.1 hv
  have hj' : j < s.size := hj
  have h : (Instr.index t (.string s) (.int k (j : Int))).run P w = .ok (.int .u8 (b.toNat : Int)) w := by
    rw [run_index_string w t s k j ht, dif_pos ⟨by omega, by omega⟩]
    have e : s[(j : Int).toNat]'(by omega) = b := by
      rw [← hb]; rfl
    rw [e]
  simp [execOp, hx, hi, h]
/-- 's[:h]', a string. -/
theorem x_sliceS {t : Nat} {x y : Operand} {s : ByteArray} {k : IntKind} {q : Int} {h : Nat} (ht : P.underlying t = some .string) (hx : ρ x = .string s) (hy : ρ y = .int k q) (hq : q = (h : Int)) (hh : h ≤ s.size) :
    (execOp ρ ⟨dst, .slice t x none (some y) none, ty, pos, aft, none⟩).run P w = .ok (.value (.string (s.extract 0 h))) w := by
  simp only [execOp, Instr.sliceAt, Sem.run_bind, run_underlying' ht, Result.andThen_ok, Option.map_none, Option.map_some, Instr.slice, hx, Option.isSome_none, Bool.false_eq_true, if_false, Instr.sliceBounds, run_sliceBound hy hq hh, Sem.run_pure]
end
theorem x_min {P : Program} {ρ : Operand → Value} {w : World} {dst : Option Nat} {ty : TypeId} {pos : String} {aft : Array Edge} {t t' : TypeId} {x y : Operand} {k k' : IntKind} {a b : Int} (hx : ρ x = .int k a) (hy : ρ y = .int k' b) :
    (execOp ρ ⟨dst, .call ⟨.builtin .min, #[x, y], #[t, t']⟩, ty, pos, aft, none⟩).run P w = .ok (.value (.int k (if b < a then b else a))) w := by
  simp [execOp, resolve, invoke, builtin, hx, hy, run_min_int2]
theorem and15 (x : Int) (h0 : 0 ≤ x) (h1 : x < 256) : bits .and .u8 x 15 = x % 16 := by
  obtain ⟨n, rfl⟩ := Int.eq_ofNat_of_zero_le h0
  show IntKind.u8.wrap (((BitVec.ofInt 8 (n : Int)) &&& (BitVec.ofInt 8 15)).toNat : Int) = _
  have e : (BitVec.ofInt 8 (n : Int) &&& BitVec.ofInt 8 15).toNat = n % 16 := by
    rw [BitVec.toNat_and]
    have a : (BitVec.ofInt 8 (n : Int)).toNat = n := by simp; omega
    have b : (BitVec.ofInt 8 15).toNat = 2 ^ 4 - 1 := by decide
    rw [a, b, Nat.and_two_pow_sub_one_eq_mod]
  rw [e, IntKind.wrap_u8]
  omega
end Go.Proofs.YthomkocjjkmnkaaDoor
