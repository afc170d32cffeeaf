import Derived.Test.YthomkocjjkmnkaaDoorStore
/- Memory: slices of rows, appends, literals, makes, copies; results. -/
namespace Go.Proofs.YthomkocjjkmnkaaDoor
open Go Go.RowKit

section
variable {P : Program} {ρ : Operand → Value} {w : World} {dst : Option Nat} {ty : TypeId} {pos : String} {aft : Array Edge}

theorem run_underlying' {t : TypeId} {e : TypeDesc} (ht : P.underlying t = some e) : (underlying t).run P w = .ok e w := run_underlying ht w
theorem run_sizeOf {t : TypeId} {s : Nat} (h : (P.info? t).map (·.size) = some s) : (sizeOf t).run P w = .ok s w := by
  cases hq : P.info? t with
  | none => simp [hq] at h
  | some i =>
    have hz : i.size = s := by simpa [hq] using h
    simp [sizeOf, typeInfo, hq, hz]
theorem elemSize_spec {t s : Nat} (h : elemSize P t = some s) : ∃ e, P.underlying t = some (.slice e) ∧ (P.info? e).map (·.size) = some s := by
  unfold elemSize at h
  split at h
  · rename_i e hu; exact ⟨e, hu, h⟩
  · cases h
theorem run_sliceBound {v : Value} {k : IntKind} {q : Int} {l y : Nat} {code : BoundsCode} (hv : v = .int k q) (hq : q = (l : Int)) (hl : l ≤ y) : (Instr.sliceBound v y code).run P w = .ok l w := by
  subst hv; subst hq
  have h1 : (l : Int) ≤ (y : Int) := by omega
  simp [Instr.sliceBound, Sem.run_bind, asIntOf, hl]
/-- 's[:h]' -/
theorem x_sliceHi {t size : Nat} {x y : Operand} {A : Option Addr} {n c h : Nat} {k : IntKind} {q : Int} (ht : elemSize P t = some size) (hx : ρ x = .slice A n c) (hy : ρ y = .int k q) (hq : q = (h : Int)) (hh : h ≤ c) :
    (execOp ρ ⟨dst, .slice t x none (some y) none, ty, pos, aft, none⟩).run P w = .ok (.value (.slice A h c)) w := by
  obtain ⟨e, hu, hs⟩ := elemSize_spec ht
  have hA : (if c = 0 then A else A.map (·.add (0 * size))) = A := by
    split
    · rfl
    · cases A <;> simp [Addr.add]
  simp only [execOp, Instr.sliceAt, Sem.run_bind, run_underlying' hu, Result.andThen_ok, Option.map_none, Option.map_some, Instr.slice, hx, Instr.sliceBounds, run_sliceBound hy hq hh, Sem.run_pure, run_sizeOf hs, hA, Nat.sub_zero]
/-- 's[l:]' -/
theorem x_sliceLo {t size : Nat} {x y : Operand} {A : Option Addr} {n c l : Nat} {k : IntKind} {q : Int} (ht : elemSize P t = some size) (hx : ρ x = .slice A n c) (hy : ρ y = .int k q) (hq : q = (l : Int)) (hl : l ≤ n) :
    (execOp ρ ⟨dst, .slice t x (some y) none none, ty, pos, aft, none⟩).run P w = .ok (.value (.slice (subA size l c A) (n - l) (c - l))) w := by
  obtain ⟨e, hu, hs⟩ := elemSize_spec ht
  simp only [execOp, Instr.sliceAt, Sem.run_bind, run_underlying' hu, Result.andThen_ok, Option.map_none, Option.map_some, Instr.slice, hx, Instr.sliceBounds, run_sliceBound hy hq hl, Sem.run_pure, run_sizeOf hs, subA]
/-- 's[l:h]' -/
theorem x_sliceLH {t size : Nat} {x y z : Operand} {A : Option Addr} {n c l h : Nat} {k k' : IntKind} {q q' : Int} (ht : elemSize P t = some size) (hx : ρ x = .slice A n c) (hy : ρ y = .int k q) (hz : ρ z = .int k' q')
    (hq : q = (l : Int)) (hq' : q' = (h : Int)) (hl : l ≤ h) (hh : h ≤ c) :
    (execOp ρ ⟨dst, .slice t x (some y) (some z) none, ty, pos, aft, none⟩).run P w = .ok (.value (.slice (subA size l c A) (h - l) (c - l))) w := by
  obtain ⟨e, hu, hs⟩ := elemSize_spec ht
  simp only [execOp, Instr.sliceAt, Sem.run_bind, run_underlying' hu, Result.andThen_ok, Option.map_none, Option.map_some, Instr.slice, hx, Instr.sliceBounds, run_sliceBound hz hq' hh, run_sliceBound hy hq hl, Sem.run_pure, run_sizeOf hs, subA]
/-- 's[l:h:m]' -/
theorem x_slice3 {t size : Nat} {x y z u : Operand} {A : Option Addr} {n c l h m : Nat} {k k' k2 : IntKind} {q q' q2 : Int} (ht : elemSize P t = some size) (hx : ρ x = .slice A n c) (hy : ρ y = .int k q) (hz : ρ z = .int k' q') (hu2 : ρ u = .int k2 q2)
    (hq : q = (l : Int)) (hq' : q' = (h : Int)) (hq2 : q2 = (m : Int)) (hl : l ≤ h) (hh : h ≤ m) (hm : m ≤ c) :
    (execOp ρ ⟨dst, .slice t x (some y) (some z) (some u), ty, pos, aft, none⟩).run P w = .ok (.value (.slice (subA size l m A) (h - l) (m - l))) w := by
  obtain ⟨e, hu, hs⟩ := elemSize_spec ht
  simp only [execOp, Instr.sliceAt, Sem.run_bind, run_underlying' hu, Result.andThen_ok, Option.map_some, Instr.slice, hx, Instr.sliceBounds, run_sliceBound hu2 hq2 hm, run_sliceBound hz hq' hh, run_sliceBound hy hq hl, Sem.run_pure, run_sizeOf hs, subA]
/-- 's[:h:m]' -/
theorem x_slice3Hi {t size : Nat} {x z u : Operand} {A : Option Addr} {n c h m : Nat} {k' k2 : IntKind} {q' q2 : Int} (ht : elemSize P t = some size) (hx : ρ x = .slice A n c) (hz : ρ z = .int k' q') (hu2 : ρ u = .int k2 q2)
    (hq' : q' = (h : Int)) (hq2 : q2 = (m : Int)) (hh : h ≤ m) (hm : m ≤ c) :
    (execOp ρ ⟨dst, .slice t x none (some z) (some u), ty, pos, aft, none⟩).run P w = .ok (.value (.slice A h m)) w := by
  obtain ⟨e, hu, hs⟩ := elemSize_spec ht
  have hA : (if m = 0 then A else A.map (·.add (0 * size))) = A := by
    split
    · rfl
    · cases A <;> simp [Addr.add]
  simp only [execOp, Instr.sliceAt, Sem.run_bind, run_underlying' hu, Result.andThen_ok, Option.map_none, Option.map_some, Instr.slice, hx, Instr.sliceBounds, run_sliceBound hu2 hq2 hm, run_sliceBound hz hq' hh, Sem.run_pure, run_sizeOf hs, hA, Nat.sub_zero]

/-- 's == nil', a slice. -/
theorem x_eqNil {t e : TypeId} {x : Operand} {A : Option Addr} {n c : Nat} (ht : P.underlying t = some (.slice e)) (hx : ρ x = .slice A n c) (hc : ρ (.const (.slice none 0 0)) = .slice none 0 0) :
    (execOp ρ ⟨dst, .binOp .eql t x (.const (.slice none 0 0)) t, ty, pos, aft, none⟩).run P w = .ok (.value (.bool A.isNone)) w := by
  have he : (eqGuard .eql t x (.const (.slice none 0 0)) (.slice A n c) (.slice none 0 0)).run P w = .ok () w := by unfold eqGuard; simp
  have h2 := Lib.run_eql_slice_nil (P := P) w t e A n c 0 0 ht
  simp only [execOp, hx, hc, Sem.run_bind, he, Result.andThen_ok, h2, Sem.run_pure]
end

section
variable {P : Program} {n : Nat} {Q : Exit → Env → World → Prop} {σ : Env} {w : World} {ops : Array Oper} {rest : List Oper} {d : Nat} {ty : TypeId} {pos : String} {aft : Array Edge}

/-- What is asked of an element's type, to append: its size in cells, in bytes, its zero value. -/
def elemInfo (P : Program) (t : Nat) : Option (Nat × Nat × Nat × Option Value) :=
  match P.underlying t with
  | some (.slice e) => (P.info? e).map fun i => (e, i.size, i.bytes, i.zero)
  | _ => none
theorem elemInfo_spec {t e size bytes : Nat} {z : Option Value} (h : elemInfo P t = some (e, size, bytes, z)) : ∃ i, P.underlying t = some (.slice e) ∧ P.info? e = some i ∧ i.size = size ∧ i.bytes = bytes ∧ i.zero = z := by
  unfold elemInfo at h
  split at h
  · rename_i e' hu
    cases hq : P.info? e' with
    | none => rw [hq] at h; cases h
    | some i =>
      rw [hq] at h
      simp at h
      obtain ⟨rfl, h1, h2, h3⟩ := h
      exact ⟨i, hu, hq, h1, h2, h3⟩
  · cases h
/-- The law of append, onto a row of the program's own, of whatever row. -/
theorem run_append {t tyv e size bytes : Nat} {z : Value} (ht : elemInfo P t = some (e, size, bytes, some z)) (hzs : z.cells.size = size) (hsz : 0 < size)
    {v x : Value} {m k : Nat} {xs ys : List Value} (hv : Own w e size v k xs) (hx : Rd w size x m ys) (h1 : ∀ u ∈ ys, u.oneCell' = true) (h63 : k + m ≤ maxLen) (hby : (k + m) * bytes ≤ 140737488355328) :
    ∃ v' w', (Builtin.append_ #[t, t] tyv #[v, x]).run P w = .ok v' w' ∧ Own w' e size v' (k + m) (xs ++ ys) ∧ Fr (fun b => v.ownBlock = some b) w w' ∧ (v'.ownBlock = v.ownBlock ∨ v'.ownBlock = some w.heap.size) ∧
      (v' = .slice none 0 0 ↔ v = .slice none 0 0 ∧ m = 0) := by
  obtain ⟨i, hu, hi, hs, hb, hz⟩ := elemInfo_spec ht
  obtain ⟨hl, A, c, rfl, hc, hr⟩ := hx
  have fr : ∀ w', w.grownBy w' v.ownBlock → Fr (fun b => v.ownBlock = some b) w w' := fun w' h => (Fr.of_grown h).mono fun k _ e => e.symm
  cases A with
  | none =>
    have hm : m = 0 := by
      rcases Nat.eq_zero_or_pos m with h | h
      · exact h
      · obtain ⟨b, o, e, _⟩ := hr h; cases e
    subst hm
    have hy : ys = [] := by simpa using hl
    subst hy
    refine ⟨v, w, ?_, by simpa using hv, Fr.refl _ _, .inl rfl, by simp⟩
    rcases hv.2 with ⟨rfl, rfl⟩ | ⟨g, cap, cur, rfl, _, _, hnc, _⟩
    · simp [Builtin.append_, run_underlying hu, sizeOf, typeInfo, hi, Builtin.lenOf, Builtin.firstCells]
    · simp [Builtin.append_, run_underlying hu, sizeOf, typeInfo, hi, Builtin.lenOf, Builtin.firstCells, hnc, storeCells]
  | some a =>
    have hcell : ∀ j u, ys[j]? = some u → w.cell? (a.add j) = some u := by
      intro j u hj
      have hm : 0 < m := by
        rcases Nat.eq_zero_or_pos m with h | h
        · subst h
          have : ys = [] := by simpa using hl
          subst this; cases hj
        · exact h
      obtain ⟨b, o, e, hb⟩ := hr hm
      cases e
      rw [Addr.add_mid]
      exact hb j u hj
    obtain ⟨v', w', hrun, h2, h3, h4, h5⟩ := run_append_own_at (P := P) w 0 t tyv e i z size bytes hu hi hz hs hb hzs hsz v k xs hv a m c ys hl hcell h1 h63 hby (Nat.zero_le _)
    exact ⟨v', w', hrun, h2, fr w' h3, h5, h4⟩
/-- 'append(s, xs...)' -/
theorem r_append {t e size bytes : Nat} {z : Value} {x y : Operand} {v u : Value} {m k : Nat} {xs ys : List Value} (hok : okOpd n x = true) (hok2 : okOpd n y = true) (ht : elemInfo P t = some (e, size, bytes, some z)) (hzs : z.cells.size = size) (hsz : 0 < size)
    (hx : ev σ x = v) (hy : ev σ y = u) (hv : Own w e size v k xs) (hu : Rd w size u m ys) (h1 : ∀ u ∈ ys, u.oneCell' = true) (h63 : k + m ≤ maxLen) (hby : (k + m) * bytes ≤ 140737488355328)
    (kk : ∀ v' w', Own w' e size v' (k + m) (xs ++ ys) → Fr (fun b => v.ownBlock = some b) w w' → (v'.ownBlock = v.ownBlock ∨ v'.ownBlock = some w.heap.size) → (v' = .slice none 0 0 ↔ v = .slice none 0 0 ∧ m = 0) → RW P ops n Q rest (upd σ d v') w') :
    RW P ops n Q (⟨some d, .call ⟨.builtin .append, #[x, y], #[t, t]⟩, ty, pos, aft, none⟩ :: rest) σ w := by
  obtain ⟨v', w', hr, h2, h3, h4, h5⟩ := run_append (tyv := ty) ht hzs hsz hv hu h1 h63 hby
  refine r_val (v := v') (w' := w') (by simp [okOp, isSelect, Op.operands, Call.operands, hok, hok2]) ?_ (kk v' w' h2 h3 h4 h5)
  subst hx; subst hy
  simp only [execOp, resolve, Sem.run_bind, Sem.run_pure, Result.andThen_ok, invoke, builtin, List.map_toArray, List.map_cons, List.map_nil, hr]

/-! ### Literals -/
theorem foldl_set (cs : List Value) : ∀ (j off : Nat) (A : Array Value), off + j + cs.length ≤ A.size →
    ((cs.zipIdx j).foldl (fun a (p : Value × Nat) => a.setIfInBounds (off + p.2) p.1) A).toList = A.toList.take (off + j) ++ cs ++ A.toList.drop (off + j + cs.length) := by
  induction cs with
  | nil => intro j off A _; simp
  | cons c cs ih =>
    intro j off A h
    simp only [List.zipIdx_cons, List.foldl_cons]
    simp only [List.length_cons] at h
    rw [ih (j + 1) off _ (by simp; omega), Array.toList_setIfInBounds]
    exact list_seg_step A.toList (off + j) c cs (by simp; omega)
theorem fill_full (size : Nat) (vs : List Value) : ∀ (k : Nat) (A : Array Value), (∀ v ∈ vs, v.cells.size = size) → A.size = (k + vs.length) * size →
    Instr.fill (fun i => some (i * size, size)) A ((vs.zipIdx k).map fun p => (p.2, p.1)) = some (A.toList.take (k * size) ++ (vs.map fun v => v.cells.toList).flatten).toArray := by
  induction vs with
  | nil =>
    intro k A _ hA
    simp only [List.zipIdx_nil, List.map_nil, Instr.fill, List.flatten_nil, List.append_nil]
    rw [List.take_of_length_le (by simp at hA ⊢; omega)]
  | cons v vs ih =>
    intro k A hv hA
    have hvs := hv v (by simp)
    have hfit : k * size + size ≤ A.size := by rw [hA, List.length_cons, ← Nat.add_one_mul]; exact Nat.mul_le_mul_right _ (by omega)
    simp only [List.zipIdx_cons, List.map_cons, Instr.fill, hvs]
    rw [if_neg (by simp; omega)]
    have hfold : (v.cells.zipIdx.foldl (fun cs (x : Value × Nat) => cs.setIfInBounds (k * size + x.2) x.1) A) = (A.toList.take (k * size) ++ v.cells.toList ++ A.toList.drop (k * size + size)).toArray := by
      apply Array.ext'
      have := foldl_set v.cells.toList 0 (k * size) A (by simp [hvs]; omega)
      rw [← Array.foldl_toList, Array.toList_zipIdx]
      simpa [hvs] using this
    have hlen : (A.toList.take (k * size) ++ v.cells.toList).length = (k + 1) * size := by
      simp [hvs, Nat.add_one_mul]; omega
    rw [hfold, ih (k + 1) _ (fun u hu => hv u (by simp [hu])) (by
      simp [hvs]
      rw [hA]
      simp only [List.length_cons]
      rw [show k + (vs.length + 1) = (k + 1) + vs.length from by omega, Nat.add_mul, Nat.add_one_mul]
      omega)]
    congr 2
    rw [List.flatten_cons, ← List.append_assoc]
    congr 1
    rw [List.take_append_of_le_length (by omega), ← hlen, List.take_length]
/-- A struct's literal. -/
def fillL (pl : List (Nat × Nat)) : List Value → List (Nat × Value) → Option (List Value)
  | l, [] => some l
  | l, (i, v) :: r =>
    match pl[i]? with
    | some (off, size) => bif Nat.beq v.cells.toList.length size && Nat.ble (off + size) l.length then fillL pl (l.take off ++ v.cells.toList ++ l.drop (off + size)) r else none
    | none => none
theorem fill_of_fillL (pl : List (Nat × Nat)) : ∀ (ps : List (Nat × Value)) (l l' : List Value), fillL pl l ps = some l' → Instr.fill (fun i => pl[i]?) l.toArray ps = some l'.toArray := by
  intro ps
  induction ps with
  | nil => intro l l' h; simp only [fillL] at h; cases h; rfl
  | cons p r ih =>
    obtain ⟨i, v⟩ := p
    intro l l' h
    simp only [fillL] at h
    split at h
    · rename_i off size hp
      cases hb : (Nat.beq v.cells.toList.length size && Nat.ble (off + size) l.length) with
      | false => rw [hb] at h; cases h
      | true =>
        rw [hb] at h
        simp only [Bool.and_eq_true] at hb
        have h1 : v.cells.size = size := by simpa using Nat.eq_of_beq_eq_true hb.1
        have h2 : off + size ≤ l.length := Nat.le_of_ble_eq_true hb.2
        simp only [Instr.fill, hp]
        rw [if_neg (by simp [h1]; omega)]
        have hfold : (v.cells.zipIdx.foldl (fun cs (x : Value × Nat) => cs.setIfInBounds (off + x.2) x.1) l.toArray) = (l.take off ++ v.cells.toList ++ l.drop (off + size)).toArray := by
          apply Array.ext'
          have := foldl_set v.cells.toList 0 off l.toArray (by simp [h1]; omega)
          rw [← Array.foldl_toList, Array.toList_zipIdx]
          simpa [h1] using this
        rw [hfold]
        exact ih _ _ h
    · cases h
/-- Where a struct's fields lie, and how many cells each has. -/
def placesOf (P : Program) (t : Nat) : Option (List (Nat × Nat)) :=
  match P.underlying t with
  | some (.struct fields) => fields.toList.mapM fun f => (P.info? f.type).map fun i => (f.offset, i.size)
  | _ => none
theorem run_places (w : World) : ∀ (fs : List Field) (pl : List (Nat × Nat)), (fs.mapM fun f => (P.info? f.type).map fun i => (f.offset, i.size)) = some pl →
    (fs.mapM fun f => (do pure (f.offset, ← sizeOf f.type) : Sem (Nat × Nat))).run P w = .ok pl w := by
  intro fs
  induction fs with
  | nil => intro pl h; simp at h; subst h; rfl
  | cons f fs ih =>
    intro pl h
    rw [List.mapM_cons] at h ⊢
    cases hq : P.info? f.type with
    | none => simp [hq] at h
    | some i =>
      simp only [hq, Option.map_some, Option.bind_eq_bind, Option.bind_some] at h
      cases hr : (fs.mapM fun f => (P.info? f.type).map fun i => (f.offset, i.size)) with
      | none => simp [hr] at h
      | some r =>
        rw [hr] at h
        simp at h
        subst h
        have e : (sizeOf f.type).run P w = .ok i.size w := by simp [sizeOf, typeInfo, hq]
        rw [Sem.run_bind, Sem.run_bind, e, Result.andThen_ok, Sem.run_pure, Result.andThen_ok, Sem.run_bind, ih r hr, Result.andThen_ok]
        rfl
theorem x_build {t : TypeId} {parts : Array (Nat × Operand)} {pl : List (Nat × Nat)} {z : Value} {zl l : List Value} {ps : List (Nat × Value)} {dst : Option Nat} (hp : placesOf P t = some pl) (hz : (P.info? t).map (·.zero) = some (some z)) (hzl : z.cells = zl.toArray)
    (hps : parts.toList.map (fun p => (p.1, ev σ p.2)) = ps) (hl : fillL pl zl ps = some l) :
    (execOp (ev σ) ⟨dst, .build t parts, ty, pos, aft, none⟩).run P w = .ok (.value (.agg l.toArray)) w := by
  unfold placesOf at hp
  split at hp
  · rename_i fields hu
    have hzv : (zeroValue t).run P w = .ok z w := by
      cases hq : P.info? t with
      | none => rw [hq] at hz; cases hz
      | some i =>
        have hz' : i.zero = some z := by simpa [hq] using hz
        unfold zeroValue
        rw [Sem.run_bind]
        have : (typeInfo t).run P w = .ok i w := by simp [typeInfo, hq]
        rw [this, Result.andThen_ok, hz']
        rfl
    have hpl : (fields.mapM fun f => (do pure (f.offset, ← sizeOf f.type) : Sem (Nat × Nat))).run P w = .ok pl.toArray w := by
      rw [Array.mapM_eq_mapM_toList, map_eq_pure_bind, Sem.run_bind, run_places w _ _ hp, Result.andThen_ok]
      rfl
    have hparts : (parts.map fun p => (p.1, ev σ p.2)).toList = ps := by rw [Array.toList_map]; exact hps
    have hf := fill_of_fillL pl ps zl l hl
    simp only [execOp, Instr.build, Sem.run_bind, hzv, Result.andThen_ok, run_underlying hu, hpl, hzl, hparts]
    have e : (fun x : Nat => pl.toArray[x]?) = fun i => pl[i]? := by funext i; simp
    rw [e, hf]
    rfl
  · cases hp
/-- A slice's literal: all its elements are said. -/
theorem r_lit {t e size bytes : Nat} {zo : Option Value} {parts : Array (Nat × Operand)} {len : Nat} {vs : List Value} {l : List Value} (hok : parts.toList.all (fun p => okOpd n p.2) = true) (g : Nat) (hg : w.heap.size = g) (ht : elemInfo P t = some (e, size, bytes, zo))
    (hzo : len * size = 0 ∨ ∃ z, zo = some z) (hp : parts.toList.map (fun p => (p.1, ev σ p.2)) = (vs.zipIdx 0).map fun p => (p.2, p.1)) (hlen : vs.length = len) (hcs : ∀ v ∈ vs, v.cells.size = size) (hl : (vs.map fun v => v.cells.toList).flatten = l) (hs : len * size ≤ 16777216)
    (k : ∀ w', Fr No w w' → w'.heap.size = g + 1 → Blk w' g e l → RW P ops n Q rest (upd σ d (.slice (some ⟨g, 0, none⟩) len len)) w') :
    RW P ops n Q (⟨some d, .buildSlice t len parts, ty, pos, aft, none⟩ :: rest) σ w := by
  subst hg
  obtain ⟨i, hu, hi, hsz, hb, hz⟩ := elemInfo_spec ht
  have hk : okOp n (.buildSlice t len parts) = true := by
    simp only [okOp, isSelect, Op.operands, Bool.not_false, Bool.true_and]
    rw [List.all_map]
    exact hok
  refine r_val (v := .slice (some ⟨w.heap.size, 0, none⟩) len len) (w' := w.alloc (.cells l.toArray e)) hk ?_ (k _ (Fr.alloc _ _) (by simp) (Go.heap_alloc_new w _))
  have hparts : (parts.map fun p => (p.1, ev σ p.2)).toList = (vs.zipIdx 0).map fun p => (p.2, p.1) := by rw [Array.toList_map]; exact hp
  have hf : ∀ A : Array Value, A.size = len * size → Instr.fill (fun i => some (i * size, size)) A (parts.map fun p => (p.1, ev σ p.2)).toList = some l.toArray := by
    intro A hA
    rw [hparts, fill_full size vs 0 A hcs (by rw [hA, hlen, Nat.zero_add]), hl]
    simp
  have hnot : ¬ (len * size > 2 ^ 24) := by omega
  rcases Nat.eq_zero_or_pos (len * size) with h0 | h0
  · simp only [execOp, Instr.buildSlice, Sem.run_bind, run_underlying hu, Result.andThen_ok, run_sizeOf (by rw [hi]; simp [hsz] : (P.info? e).map (·.size) = some size), h0, if_true, if_neg (show ¬ (0 > 2 ^ 24) by decide), Sem.run_pure,
      hf ((Array.range 0).map fun x => (#[] : Array Value)[x % (#[] : Array Value).size]!) (by simp [h0])]
    rfl
  · obtain ⟨z, rfl⟩ := hzo.resolve_left (by omega)
    have hzv : (zeroValue e).run P w = .ok z w := by
      unfold zeroValue
      rw [Sem.run_bind]
      have : (typeInfo e).run P w = .ok i w := by simp [typeInfo, hi]
      rw [this, Result.andThen_ok, hz]
      rfl
    have hne : ¬ (len * size = 0) := by omega
    simp only [execOp, Instr.buildSlice, Sem.run_bind, run_underlying hu, Result.andThen_ok, run_sizeOf (by rw [hi]; simp [hsz] : (P.info? e).map (·.size) = some size), if_neg hnot, if_neg hne, Sem.run_pure, hzv,
      hf ((Array.range (len * size)).map fun x => z.cells[x % z.cells.size]!) (by simp)]
    rfl
end
end Go.Proofs.YthomkocjjkmnkaaDoor
