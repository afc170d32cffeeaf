import Derived.Test.YthomkocjjkmnkaaDoorMem
/- Memory: new blocks, stores, slices, appends. -/
namespace Go.Proofs.YthomkocjjkmnkaaDoor
open Go Go.RowKit

theorem Fr.alloc (w : World) (o : Obj) : Fr No w (w.alloc o) := ⟨rfl, rfl, rfl, by simp, fun _ hk _ => Below.heap_alloc w o _ hk⟩
theorem Fr.setRow (w : World) (g : Nat) (cs : Array Value) : Fr (fun k => k = g) w (w.setRow g cs) :=
  ⟨rfl, rfl, rfl, by simp, fun k _ hn => by
    simp only [World.setRow, Array.getElem?_modify]
    rw [if_neg (by omega)]⟩
theorem Blk.setRow {w : World} {b : Nat} {t : TypeId} {l : List Value} (h : Blk w b t l) (l' : List Value) : Blk (w.setRow b l'.toArray) b t l' :=
  setRow_heap w b l.toArray l'.toArray t (0, 0) h

section
variable {P : Program} {n : Nat} {Q : Exit → Env → World → Prop} {σ : Env} {w : World} {ops : Array Oper} {rest : List Oper} {d : Nat} {ty : TypeId} {pos : String} {aft : Array Edge}

theorem run_program : (program : Sem Program).run P w = .ok P w := rfl
/-- 'new(T)', a variable whose address is taken. -/
theorem r_alloc {e : TypeId} {z : Value} {l : List Value} (g : Nat) (hg : w.heap.size = g) (hz : (P.info? e).map (·.zero) = some (some z)) (hl : z.cells = l.toArray)
    (k : ∀ w', Fr No w w' → w'.heap.size = g + 1 → Blk w' g e l → RW P ops n Q rest (upd σ d (.pointer (some ⟨g, 0, none⟩))) w') :
    RW P ops n Q (⟨some d, .alloc e, ty, pos, aft, none⟩ :: rest) σ w := by
  subst hg
  refine r_val (v := .pointer (some ⟨w.heap.size, 0, none⟩)) (w' := w.alloc (.cells l.toArray e)) rfl ?_ (k _ (Fr.alloc _ _) (by simp) (Go.heap_alloc_new w _))
  cases hq : P.info? e with
  | none => rw [hq] at hz; cases hz
  | some i =>
    have hz' : i.zero = some z := by simpa [hq] using hz
    simp only [execOp, Instr.alloc, zeroValue, typeInfo, hq, hz', Sem.run_bind, newVar, newRow, hl, run_program, Result.andThen_ok, Sem.run_pure]
    rfl
/-- A variable whose address is taken, with its value. -/
theorem r_box {e : TypeId} {x : Operand} {v : Value} {l : List Value} (hok : okOpd n x = true) (g : Nat) (hg : w.heap.size = g) (hx : ev σ x = v) (hl : v.cells = l.toArray)
    (k : ∀ w', Fr No w w' → w'.heap.size = g + 1 → Blk w' g e l → RW P ops n Q rest (upd σ d (.pointer (some ⟨g, 0, none⟩))) w') :
    RW P ops n Q (⟨some d, .box e x, ty, pos, aft, none⟩ :: rest) σ w := by
  subst hg
  refine r_val (v := .pointer (some ⟨w.heap.size, 0, none⟩)) (w' := w.alloc (.cells l.toArray e)) (by simp [okOp, isSelect, Op.operands, hok]) ?_ (k _ (Fr.alloc _ _) (by simp) (Go.heap_alloc_new w _))
  simp only [execOp, Instr.box, hx, Sem.run_bind, newVar, newRow, hl]
  rfl

/-- A store into a block that is known whole: a value of as many cells as l' says. -/
theorem r_store {t e : TypeId} {x y : Operand} {b o : Nat} {v : Value} {l vs l' : List Value} (hok : okOpd n x = true) (hok2 : okOpd n y = true) (hs : (P.info? t).map (·.size) = some vs.length)
    (hx : ev σ x = .pointer (some ⟨b, o, none⟩)) (hy : ev σ y = v) (hv : v.cells = vs.toArray) (h1 : vs.all (·.oneCell') = true) (hB : Blk w b e l) (hfit : o + vs.length ≤ l.length)
    (hl : l.take o ++ vs ++ l.drop (o + vs.length) = l')
    (k : ∀ w', Fr (fun k => k = b) w w' → w'.heap.size = w.heap.size → Blk w' b e l' → RW P ops n Q rest σ w') :
    RW P ops n Q (⟨none, .store t x y, ty, pos, aft, none⟩ :: rest) σ w := by
  refine r_skip (w' := w.setRow b l'.toArray) (by simp [okOp, isSelect, Op.operands, hok, hok2]) ?_ (k _ (Fr.setRow _ _ _) (by simp) (hB.setRow l'))
  have hst := run_storeCells_at P b o e vs 0 l.toArray w hB (by simpa using hfit) (List.all_eq_true.1 h1)
  cases hq : P.info? t with
  | none => simp [hq] at hs
  | some i =>
    have hz : i.size = vs.length := by simpa [hq] using hs
    simp only [Nat.add_zero] at hst
    simp [execOp, hx, hy, Instr.storeAt, Instr.sureAddr, storeVar, sizeOf, typeInfo, hq, hv, hz, Sem.run_bind, hst, ← hl]
end

/-- The segment of a block that is known whole. -/
theorem Blk.seg {w : World} {b o m : Nat} {t : TypeId} {l cs : List Value} (h : Blk w b t l) (hcs : (l.drop o).take m = cs) : ∀ j u, cs[j]? = some u → w.cell? ⟨b, o + j, none⟩ = some u := by
  intro j u hu
  subst hcs
  rw [List.getElem?_take] at hu
  split at hu
  · rw [List.getElem?_drop] at hu; exact h.cell hu
  · cases hu
/-! ### Rows of elements -/
/-- What a row of n elements, of 'size' cells each, reads as. -/
def Rd (w : World) (size : Nat) (v : Value) (n : Nat) (xs : List Value) : Prop :=
  xs.length = n * size ∧ ∃ A c, v = .slice A n c ∧ n ≤ c ∧ (0 < n → ∃ b o, A = some ⟨b, o, none⟩ ∧ ∀ j u, xs[j]? = some u → w.cell? ⟨b, o + j, none⟩ = some u)
theorem Rd.nil (w : World) (size : Nat) (A : Option Addr) (c : Nat) : Rd w size (.slice A 0 c) 0 [] := ⟨by simp, A, c, rfl, Nat.zero_le _, fun h => by omega⟩
theorem Rd.form {w : World} {size n : Nat} {v : Value} {xs : List Value} (h : Rd w size v n xs) : ∃ A c, v = .slice A n c ∧ n ≤ c :=
  let ⟨_, A, c, hv, hc, _⟩ := h; ⟨A, c, hv, hc⟩
theorem Rd.len {w : World} {size n : Nat} {v : Value} {xs : List Value} (h : Rd w size v n xs) : xs.length = n * size := h.1
theorem Rd.fr {S : Nat → Prop} {w w' : World} {size n : Nat} {v : Value} {xs : List Value} (h : Rd w size v n xs) (hf : Fr S w w') (hn : ∀ b, v.ownBlock = some b → ¬ S b) : Rd w' size v n xs := by
  obtain ⟨hl, A, c, rfl, hc, hr⟩ := h
  refine ⟨hl, A, c, rfl, hc, fun h0 => ?_⟩
  obtain ⟨b, o, rfl, hb⟩ := hr h0
  exact ⟨b, o, rfl, fun j u hu => hf.cell (hb j u hu) (hn b rfl)⟩
theorem Rd.frz {S : Nat → Prop} {w w' : World} {size n : Nat} {v : Value} {xs : List Value} (h : Rd w size v n xs) (hf : Fr S w w') (hn : ∀ b, v.ownBlock = some b → 0 < n → ¬ S b) : Rd w' size v n xs := by
  obtain ⟨hl, A, c, rfl, hc, hr⟩ := h
  refine ⟨hl, A, c, rfl, hc, fun h0 => ?_⟩
  obtain ⟨b, o, rfl, hb⟩ := hr h0
  exact ⟨b, o, rfl, fun j u hu => hf.cell (hb j u hu) (hn b rfl h0)⟩
theorem Rd.lt {w : World} {size n : Nat} {v : Value} {xs : List Value} (h : Rd w size v n xs) (h0 : 0 < n) (hs : 0 < size) : ∃ b, v.ownBlock = some b ∧ b < w.heap.size := by
  obtain ⟨hl, A, c, rfl, hc, hr⟩ := h
  obtain ⟨b, o, rfl, hb⟩ := hr h0
  have hx : 0 < xs.length := by rw [hl]; exact Nat.mul_pos h0 hs
  exact ⟨b, rfl, World.block_lt_of_cell? w _ (hb 0 xs[0] (List.getElem?_eq_getElem hx))⟩
theorem Rd.lt' {w : World} {size n : Nat} {v : Value} {xs : List Value} (h : Rd w size v n xs) (h0 : 0 < n) (hs : 0 < size) {b : Nat} (hb : v.ownBlock = some b) : b < w.heap.size := by
  obtain ⟨b', h1, h2⟩ := h.lt h0 hs
  rw [h1] at hb; injection hb with hb; omega
theorem Rd.at_ {w : World} {size n : Nat} {v : Value} {xs : List Value} (h : Rd w size v n xs) (h0 : 0 < n) : ∃ b o c, v = .slice (some ⟨b, o, none⟩) n c ∧ n ≤ c ∧ ∀ j u, xs[j]? = some u → w.cell? ⟨b, o + j, none⟩ = some u := by
  obtain ⟨hl, A, c, rfl, hc, hr⟩ := h
  obtain ⟨b, o, rfl, hb⟩ := hr h0
  exact ⟨b, o, c, rfl, hc, hb⟩
theorem Rd.take {w : World} {size n : Nat} {A : Option Addr} {c : Nat} {xs : List Value} (h : Rd w size (.slice A n c) n xs) (m : Nat) (hm : m ≤ n) (c' : Nat) (hc' : m ≤ c') : Rd w size (.slice A m c') m (xs.take (m * size)) := by
  obtain ⟨hl, A', c1, e, hc, hr⟩ := h
  injection e with e1 e2 e3
  subst e1; subst e3
  refine ⟨by rw [List.length_take, hl]; exact Nat.min_eq_left (Nat.mul_le_mul_right _ hm), A, c', rfl, hc', fun h0 => ?_⟩
  obtain ⟨b, o, rfl, hb⟩ := hr (by omega)
  refine ⟨b, o, rfl, fun j u hu => hb j u ?_⟩
  rw [List.getElem?_take] at hu
  split at hu
  · exact hu
  · cases hu
/-- Where 's[l:]' begins. -/
def subA (size l m : Nat) (A : Option Addr) : Option Addr := if m = l then A else A.map (·.add (l * size))
theorem subA_block (size l m : Nat) (A : Option Addr) (n c n' c' : Nat) : (Value.slice (subA size l m A) n c).ownBlock = (Value.slice A n' c').ownBlock := by
  unfold subA
  split
  · cases A <;> rfl
  · cases A with
    | none => rfl
    | some a =>
      obtain ⟨b, o, s⟩ := a
      simp only [Option.map_some, Value.ownBlock, Addr.add]
      split <;> rfl
theorem Rd.sub {w : World} {size n : Nat} {A : Option Addr} {c : Nat} {xs : List Value} (h : Rd w size (.slice A n c) n xs) (l m : Nat) (hl : l ≤ m) (hm : m ≤ n) (c' : Nat) (hc : m ≤ c') :
    Rd w size (.slice (subA size l c' A) (m - l) (c' - l)) (m - l) ((xs.drop (l * size)).take ((m - l) * size)) := by
  obtain ⟨hlen, A', c1, e, _, hr⟩ := h
  injection e with e1 e2 e3
  subst e1; subst e3
  have hle : l * size + (m - l) * size ≤ n * size := by rw [← Nat.add_mul]; exact Nat.mul_le_mul_right _ (by omega)
  refine ⟨by rw [List.length_take, List.length_drop, hlen]; omega, _, _, rfl, by omega, fun h0 => ?_⟩
  obtain ⟨b, o, rfl, hb⟩ := hr (by omega)
  refine ⟨b, o + l * size, ?_, fun j u hu => ?_⟩
  · unfold subA
    rw [if_neg (by omega)]
    simp [Addr.add_mid]
  · rw [List.getElem?_take] at hu
    split at hu
    · rw [List.getElem?_drop] at hu
      have := hb _ u hu
      rwa [← Nat.add_assoc] at this
    · cases hu

/-- A row of the program's own: nil, or from the head of a block that holds nothing else. -/
def Own (w : World) (e : TypeId) (size : Nat) (v : Value) (n : Nat) (xs : List Value) : Prop := w.ownsRow 0 e size v n xs
theorem Own.fr {S : Nat → Prop} {w w' : World} {e : TypeId} {size n : Nat} {v : Value} {xs : List Value} (h : Own w e size v n xs) (hf : Fr S w w') (hn : ∀ b, v.ownBlock = some b → ¬ S b) : Own w' e size v n xs := by
  refine ⟨h.1, ?_⟩
  rcases h.2 with h2 | ⟨g, cap, cur, rfl, hb, hg, r⟩
  · exact .inl h2
  · exact .inr ⟨g, cap, cur, rfl, hb, (hf.block g (Array.getElem?_eq_some_iff.1 hg).1 (hn g rfl)).trans hg, r⟩
theorem Own.lt {w : World} {e : TypeId} {size n : Nat} {v : Value} {xs : List Value} (h : Own w e size v n xs) {b : Nat} (hb : v.ownBlock = some b) : b < w.heap.size := (World.ownsRow.lt h b hb).2
theorem Own.rd {w : World} {e : TypeId} {size n : Nat} {v : Value} {xs : List Value} (h : Own w e size v n xs) : Rd w size v n xs := by
  refine ⟨h.1, ?_⟩
  rcases h.2 with ⟨rfl, rfl⟩ | ⟨g, cap, cur, rfl, hb, hg, hc, hm, hsz, hx⟩
  · exact ⟨none, 0, rfl, Nat.le_refl _, fun h => by omega⟩
  · refine ⟨some ⟨g, 0, none⟩, cap, rfl, hc, fun _ => ⟨g, 0, rfl, fun j u hu => ?_⟩⟩
    rw [Nat.zero_add, cell_of_row w g j cur e (0, 0) hg]
    rw [← hx, List.getElem?_take] at hu
    split at hu
    · simpa using hu
    · cases hu
theorem Own.nil (w : World) (e : TypeId) (size : Nat) : Own w e size (.slice none 0 0) 0 [] := ⟨by simp, .inl ⟨rfl, rfl⟩⟩
theorem Own.of_blk {w : World} {b : Nat} {e : TypeId} {l : List Value} (h : Blk w b e l) (size n : Nat) (hl : l.length = n * size) (hn : n ≤ maxLen) : Own w e size (.slice (some ⟨b, 0, none⟩) n n) n l :=
  ⟨hl, .inr ⟨b, n, l.toArray, rfl, Nat.zero_le _, h, Nat.le_refl _, hn, by simpa using hl, by rw [← hl]; simp⟩⟩
theorem Own.type_ne {w : World} {b : Nat} {e t : TypeId} {size n : Nat} {v : Value} {xs l : List Value} (h : Own w e size v n xs) (hB : Blk w b t l) (hne : e ≠ t) : v.ownBlock ≠ some b := by
  intro hv
  rcases h.2 with ⟨rfl, _⟩ | ⟨g, cap, cur, rfl, _, hg, _⟩
  · cases hv
  · simp [Value.ownBlock] at hv
    subst hv
    unfold Blk at hB
    rw [hg] at hB
    simp at hB
    exact hne hB.2
theorem Own.take {w : World} {e : TypeId} {size n m : Nat} {A : Option Addr} {c : Nat} {xs : List Value} (h : Own w e size (.slice A n c) n xs) (hm : m ≤ n) (h0 : A ≠ none ∨ n = 0) : Own w e size (.slice A m c) m (xs.take (m * size)) := by
  refine ⟨by rw [List.length_take, h.1]; exact Nat.min_eq_left (Nat.mul_le_mul_right _ hm), ?_⟩
  rcases h.2 with ⟨hv, rfl⟩ | ⟨g, cap, cur, hv, hb, hg, hc, hmx, hsz, hx⟩
  · have : m = 0 := by omega
    subst this
    exact .inl ⟨hv, rfl⟩
  · injection hv with e1 e2 e3
    subst e1; subst e3
    refine .inr ⟨g, c, cur, rfl, hb, hg, by omega, hmx, hsz, ?_⟩
    rw [← hx, List.take_take, Nat.min_eq_left (Nat.mul_le_mul_right _ hm)]
end Go.Proofs.YthomkocjjkmnkaaDoor
