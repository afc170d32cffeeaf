import Derived.Test.YthomkocjjkmnkaaDoorRow
/- Strings: of bytes; compared; cut. Pointers against nil. -/
namespace Go.Proofs.YthomkocjjkmnkaaDoor
open Go Go.RowKit
def strB (bs : List UInt8) : ByteArray := ⟨bs.toArray⟩
theorem foldl_pushB (bs : List UInt8) : ∀ s : ByteArray, (bs.map fun b => (b.toNat : Int)).foldl (fun r n => r.push (UInt8.ofNat n.toNat)) s = ⟨s.data ++ bs.toArray⟩ := by
  induction bs with
  | nil => intro s; cases s; simp
  | cons b bs ih =>
    intro s
    rw [List.map_cons, List.foldl_cons, ih]
    have e : UInt8.ofNat (b.toNat : Int).toNat = b := by
      rw [Int.toNat_natCast]; exact UInt8.ofNat_toNat
    rw [e]
    cases s
    simp [ByteArray.push]
section
variable {P : Program} {ρ : Operand → Value} {w : World} {dst : Option Nat} {ty : TypeId} {pos : String} {aft : Array Edge}
/-- 'string(bytes)' -/
theorem x_string {s d e : TypeId} {x : Operand} {A : Option Addr} {n c : Nat} {bs : List UInt8} (hs : P.underlying s = some (.slice e)) (he : P.underlying e = some (.int .u8)) (hd : P.underlying d = some .string)
    (hx : ρ x = .slice A n c) (hR : Rd w 1 (.slice A n c) n (BC bs)) :
    (execOp ρ ⟨dst, .convert s d x, ty, pos, aft, none⟩).run P w = .ok (.value (.string (strB bs))) w := by
  have hc : (convert s d (.slice A n c)).run P w = .ok (.string (strB bs)) w := by
    rw [run_convert_bytes_string w s d e A n c hs he hd]
    obtain ⟨hl, A', c', e', hc, hr⟩ := hR
    injection e' with e1 e2 e3
    subst e1; subst e3
    cases A with
    | none =>
      have hn : n = 0 := by
        rcases Nat.eq_zero_or_pos n with h | h
        · exact h
        · obtain ⟨b, o, e, _⟩ := hr h; cases e
      subst hn
      have : bs = [] := by
        rw [BC_length] at hl
        exact List.eq_nil_of_length_eq_zero (by omega)
      subst this
      rfl
    | some a =>
      have hm : (BC bs) = (bs.map fun b => (b.toNat : Int)).map (Value.int .u8) := by unfold BC; rw [List.map_map]; rfl
      have hcell : ∀ j v, (BC bs)[j]? = some v → w.cell? (a.add j) = some v := by
        intro j v hv
        have hn : 0 < n := by
          rcases Nat.eq_zero_or_pos n with h | h
          · subst h
            have : (BC bs) = [] := List.eq_nil_of_length_eq_zero (by omega)
            rw [this] at hv; cases hv
          · exact h
        obtain ⟨b, o, e, hb⟩ := hr hn
        cases e
        rw [Addr.add_mid]; exact hb j v hv
      have hload := run_loadCells_list (P := P) w a (BC bs) hcell
      rw [hl, Nat.mul_one, hm] at hload
      rw [run_bytesToString w a n c _ hload, foldl_pushB]
      simp [strB]
  simp [execOp, hx, Sem.run_bind, hc]
theorem x_neqS {t t' : TypeId} {x y : Operand} {a b : ByteArray} (ht : P.underlying t = some .string) (hx : ρ x = .string a) (hy : ρ y = .string b) :
    (execOp ρ ⟨dst, .binOp .neq t x y t', ty, pos, aft, none⟩).run P w = .ok (.value (.bool (!(a.toList == b.toList)))) w := by
  have he : (eqGuard .neq t x y (.string a) (.string b)).run P w = .ok () w := by unfold eqGuard; simp
  simp [execOp, hx, hy, Sem.run_bind, he, binOp, Op.stringOp, bne]
theorem x_eqlS {t t' : TypeId} {x y : Operand} {a b : ByteArray} (ht : P.underlying t = some .string) (hx : ρ x = .string a) (hy : ρ y = .string b) :
    (execOp ρ ⟨dst, .binOp .eql t x y t', ty, pos, aft, none⟩).run P w = .ok (.value (.bool (a.toList == b.toList))) w := by
  have he : (eqGuard .eql t x y (.string a) (.string b)).run P w = .ok () w := by unfold eqGuard; simp
  simp [execOp, hx, hy, Sem.run_bind, he, binOp, Op.stringOp]
/-- 'p == nil', p not nil. -/
theorem x_eqlP {t t' e : TypeId} {x : Operand} {a : Addr} (ht : P.underlying t = some (.pointer e)) (hx : ρ x = .pointer (some a)) (hc : ρ (.const (.pointer none)) = .pointer none) :
    (execOp ρ ⟨dst, .binOp .eql t x (.const (.pointer none)) t', ty, pos, aft, none⟩).run P w = .ok (.value (.bool false)) w := by
  have he : (eqGuard .eql t x (.const (.pointer none)) (.pointer (some a)) (.pointer none)).run P w = .ok () w := by unfold eqGuard; simp
  have h2 : (Op.equalIn Op.maxDepth t (.pointer (some a)) (.pointer none)).run P w = .ok false w := by
    unfold Op.maxDepth Op.equalIn
    simp [run_underlying ht, Sem.run_bind]
  simp [execOp, hx, hc, Sem.run_bind, he, binOp, Op.equal, h2]
end
end Go.Proofs.YthomkocjjkmnkaaDoor
