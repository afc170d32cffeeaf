import Derived.Test.YthomkocjjkmnkaaDoorOps
/- Memory: what a step leaves alone; blocks that are known whole; rows of elements; loads, stores, appends. -/
namespace Go.Proofs.YthomkocjjkmnkaaDoor
open Go Go.RowKit

/-- But for the blocks of S, what was there is as it was. -/
structure Fr (S : Nat → Prop) (w w' : World) : Prop where
  os : w'.os = w.os
  tape : w'.tape = w.tape
  output : w'.output = w.output
  size : w.heap.size ≤ w'.heap.size
  block : ∀ k, k < w.heap.size → ¬ S k → w'.heap[k]? = w.heap[k]?

def No : Nat → Prop := fun _ => False
theorem Fr.refl (S : Nat → Prop) (w : World) : Fr S w w := ⟨rfl, rfl, rfl, Nat.le_refl _, fun _ _ _ => rfl⟩
theorem Fr.mono {S T : Nat → Prop} {w w' : World} (h : Fr S w w') (hS : ∀ k, k < w.heap.size → S k → T k) : Fr T w w' :=
  ⟨h.os, h.tape, h.output, h.size, fun k hk hn => h.block k hk fun s => hn (hS k hk s)⟩
theorem Fr.trans {S T : Nat → Prop} {a b c : World} (h : Fr S a b) (k : Fr T b c) (hT : ∀ i, i < a.heap.size → T i → S i) : Fr S a c :=
  ⟨k.os.trans h.os, k.tape.trans h.tape, k.output.trans h.output, Nat.le_trans h.size k.size,
    fun i hi hn => (k.block i (Nat.lt_of_lt_of_le hi h.size) fun t => hn (hT i hi t)).trans (h.block i hi hn)⟩
theorem Fr.below {w w' : World} (h : Fr No w w') : Below w.heap.size w w' := ⟨h.os, h.tape, h.output, h.size, fun k hk => h.block k hk id⟩
theorem Fr.of_below {S : Nat → Prop} {B : Nat} {w w' : World} (h : Below B w w') (hS : ∀ k, k < w.heap.size → ¬ S k → k < B) : Fr S w w' :=
  ⟨h.os, h.tape, h.output, h.size, fun k hk hn => h.block k (hS k hk hn)⟩
theorem Fr.of_grown {w w' : World} {row : Option Nat} (h : w.grownBy w' row) : Fr (fun k => some k = row) w w' :=
  ⟨h.os, h.tape, h.output, h.size, fun k hk hn => h.block k hk hn⟩
theorem Fr.of_No {S : Nat → Prop} {w w' : World} (h : Fr No w w') : Fr S w w' := h.mono fun _ _ f => f.elim
theorem Fr.drew (S : Nat → Prop) (w : World) : Fr S w w.drew := ⟨rfl, rfl, rfl, Nat.le_refl _, fun _ _ _ => rfl⟩
theorem Fr.cell {S : Nat → Prop} {w w' : World} (h : Fr S w w') {a : Addr} {v : Value} (hc : w.cell? a = some v) (hn : ¬ S a.block) : w'.cell? a = some v :=
  (World.cell?_of_block (h.block a.block (World.block_lt_of_cell? w a hc) hn)).trans hc

/-- Block b holds the cells l, of elements of type t, and may be written. -/
def Blk (w : World) (b : Nat) (t : TypeId) (l : List Value) : Prop := w.heap[b]? = some (.cells l.toArray t (0, 0))
theorem Blk.lt {w : World} {b : Nat} {t : TypeId} {l : List Value} (h : Blk w b t l) : b < w.heap.size := (Array.getElem?_eq_some_iff.1 h).1
theorem Blk.cell {w : World} {b i : Nat} {t : TypeId} {l : List Value} {v : Value} (h : Blk w b t l) (hi : l[i]? = some v) : w.cell? ⟨b, i, none⟩ = some v := by
  rw [cell_of_row w b i l.toArray t (0, 0) h]; simpa using hi
theorem Blk.free {w : World} {b : Nat} {t : TypeId} {l : List Value} (h : Blk w b t l) (i : Nat) : w.frozen? ⟨b, i, none⟩ = false := frozen_of_row w b i _ t h
theorem Blk.fr {S : Nat → Prop} {w w' : World} {b : Nat} {t : TypeId} {l : List Value} (h : Blk w b t l) (hf : Fr S w w') (hn : ¬ S b) : Blk w' b t l :=
  (hf.block b h.lt hn).trans h
theorem Blk.ne {w : World} {b b' : Nat} {t t' : TypeId} {l l' : List Value} (h : Blk w b t l) (h' : Blk w b' t' l') (hne : t ≠ t') : b ≠ b' := by
  intro e; subst e
  unfold Blk at h h'
  rw [h] at h'
  simp at h'
  exact hne h'.2

section
variable {P : Program} {ρ : Operand → Value} {w : World} {dst : Option Nat} {ty : TypeId} {pos : String} {aft : Array Edge}

/-! ### Loads -/
theorem run_isAgg {t : TypeId} {b : Bool} (h : (P.underlying t).map TypeDesc.isRow = some b) : (isAgg t).run P w = .ok b w := by
  cases hu : P.underlying t with
  | none => rw [hu] at h; cases h
  | some d =>
    rw [hu] at h
    unfold isAgg
    rw [Sem.run_bind, run_underlying hu w]
    cases d <;> simp_all
theorem x_load {t : TypeId} {x : Operand} {a : Addr} {v : Value} (hk : (P.underlying t).map TypeDesc.isRow = some false) (hx : ρ x = .pointer (some a)) (hc : w.cell? a = some v) :
    (execOp ρ ⟨dst, .load t x, ty, pos, aft, none⟩).run P w = .ok (.value v) w := by
  simp [execOp, hx, Instr.loadAt, Instr.sureAddr, loadVar, Sem.run_bind, run_isAgg hk, load, Sem.run, hc]
theorem x_loadRow {t : TypeId} {x : Operand} {b o : Nat} {cs : List Value} (hk : (P.underlying t).map TypeDesc.isRow = some true) (hs : (P.info? t).map (·.size) = some cs.length)
    (hx : ρ x = .pointer (some ⟨b, o, none⟩)) (hc : ∀ j u, cs[j]? = some u → w.cell? ⟨b, o + j, none⟩ = some u) :
    (execOp ρ ⟨dst, .load t x, ty, pos, aft, none⟩).run P w = .ok (.value (.agg cs.toArray)) w := by
  have hl : (loadCells ⟨b, o, none⟩ cs.length).run P w = .ok cs.toArray w :=
    run_loadCells_list (P := P) w ⟨b, o, none⟩ cs (fun j v hv => by rw [Addr.add_mid]; exact hc j v hv)
  cases hq : P.info? t with
  | none => simp [hq] at hs
  | some i =>
    have hz : i.size = cs.length := by simpa [hq] using hs
    simp [execOp, hx, Instr.loadAt, Instr.sureAddr, loadVar, Sem.run_bind, run_isAgg hk, sizeOf, typeInfo, hq, hz, hl]
theorem x_loadBlk {t e : TypeId} {x : Operand} {b : Nat} {l : List Value} (hk : (P.underlying t).map TypeDesc.isRow = some true) (hs : (P.info? t).map (·.size) = some l.length)
    (hx : ρ x = .pointer (some ⟨b, 0, none⟩)) (hB : Blk w b e l) :
    (execOp ρ ⟨dst, .load t x, ty, pos, aft, none⟩).run P w = .ok (.value (.agg l.toArray)) w :=
  x_loadRow hk hs hx fun j u h => by rw [Nat.zero_add]; exact hB.cell h

/-! ### Addresses -/
/-- Where a field lies in its struct. -/
def fieldOff (P : Program) (s f : Nat) : Option Nat :=
  match P.underlying s with
  | some (.struct fields) =>
    match fields[f]? with
    | some fd => match P.info? fd.type with
      | some i => bif Nat.beq i.size 0 then none else some fd.offset
      | none => none
    | none => none
  | _ => none
theorem x_fieldAddr {s f off : Nat} {x : Operand} {b o : Nat} (hf : fieldOff P s f = some off) (hx : ρ x = .pointer (some ⟨b, o, none⟩)) :
    (execOp ρ ⟨dst, .fieldAddr s x f, ty, pos, aft, none⟩).run P w = .ok (.value (.pointer (some ⟨b, o + off, none⟩))) w := by
  unfold fieldOff at hf
  split at hf
  · rename_i fields hu
    split at hf
    · rename_i fd hfd
      split at hf
      · rename_i i hi
        have hz : ¬ i.size = 0 := by
          intro e
          rw [e] at hf
          simp at hf
        have hb : Nat.beq i.size 0 = false := beq_ne hz
        rw [hb] at hf
        simp at hf
        simp [execOp, hx, Instr.fieldAt, Sem.run_bind, run_underlying hu, hfd, Instr.sureAddr, fieldPlace, sizeOf, typeInfo, hi, hz, Addr.add_mid, hf]
      · cases hf
    · cases hf
  · cases hf
/-- A slice type's element: its size. -/
def elemSize (P : Program) (t : Nat) : Option Nat :=
  match P.underlying t with
  | some (.slice e) => (P.info? e).map (·.size)
  | _ => none
theorem x_indexAddr {t size : Nat} {x i : Operand} {b o n c j : Nat} {k : IntKind} {q : Int} (ht : elemSize P t = some size) (hx : ρ x = .slice (some ⟨b, o, none⟩) n c) (hi : ρ i = .int k q)
    (hq : q = (j : Int)) (hj : j < n) :
    (execOp ρ ⟨dst, .indexAddr t x i, ty, pos, aft, none⟩).run P w = .ok (.value (.pointer (some ⟨b, o + j * size, none⟩))) w := by
  unfold elemSize at ht
  split at ht
  · rename_i e hu
    cases hs : P.info? e with
    | none => rw [hs] at ht; cases ht
    | some inf =>
      rw [hs] at ht
      simp at ht
      subst hq
      have hj' : (j : Int) < (n : Int) := by omega
      simp [execOp, hx, hi, Instr.indexAt, Sem.run_bind, asIntOf, run_underlying hu, hj', hj, sizeOf, typeInfo, hs, ht, Addr.add_mid]
  · cases ht
/-- An array type's element: its size; how many. -/
def arrSize (P : Program) (t : Nat) : Option (Nat × Nat) :=
  match P.underlying t with
  | some (.array n e) => (P.info? e).map fun i => (n, i.size)
  | _ => none
theorem x_indexArr {t size : Nat} {x i : Operand} {b o n j : Nat} {k : IntKind} {q : Int} (ht : arrSize P t = some (n, size)) (hx : ρ x = .pointer (some ⟨b, o, none⟩)) (hi : ρ i = .int k q)
    (hq : q = (j : Int)) (hj : j < n) :
    (execOp ρ ⟨dst, .indexAddr t x i, ty, pos, aft, none⟩).run P w = .ok (.value (.pointer (some ⟨b, o + j * size, none⟩))) w := by
  unfold arrSize at ht
  split at ht
  · rename_i n' e hu
    cases hs : P.info? e with
    | none => rw [hs] at ht; cases ht
    | some inf =>
      rw [hs] at ht
      simp at ht
      obtain ⟨rfl, ht⟩ := ht
      subst hq
      have hj' : (j : Int) < (n' : Int) := by omega
      simp [execOp, hx, hi, Instr.indexAt, Sem.run_bind, asIntOf, run_underlying hu, hj', hj, sizeOf, typeInfo, hs, ht, Addr.add_mid, Instr.sureAddr]
  · cases ht
end
end Go.Proofs.YthomkocjjkmnkaaDoor
