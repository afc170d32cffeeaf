import Derived.Test.YthomkocjjkmnkaaDoorFlt
import Derived.Lib.Overlaps
/- copy, clear, appends in place, append of zeros, overlaps. -/
namespace Go.Proofs.YthomkocjjkmnkaaDoor
open Go Go.RowKit

section
variable {P : Program} {n : Nat} {Q : Exit → Env → World → Prop} {σ : Env} {w : World} {rest : List Oper} {ops : Array Oper} {d : Nat} {ty : TypeId} {pos : String} {aft : Array Edge}

theorem elemSize_info {t size : Nat} (ht : elemSize P t = some size) : ∃ e i, P.underlying t = some (.slice e) ∧ P.info? e = some i ∧ i.size = size := by
  obtain ⟨e, hu, hs⟩ := elemSize_spec ht
  cases hq : P.info? e with
  | none => simp [hq] at hs
  | some i => exact ⟨e, i, hu, hq, by simpa [hq] using hs⟩
/-- The first k elements of a row. -/
theorem run_first {size m k : Nat} {x : Value} {ys : List Value} (hx : Rd w size x m ys) (hk : k ≤ m) : (Builtin.firstCells size k x).run P w = .ok (ys.take (k * size)).toArray w := by
  obtain ⟨hl, A, c, rfl, hc, hr⟩ := hx
  cases A with
  | none =>
    have hm : m = 0 := by
      rcases Nat.eq_zero_or_pos m with h | h
      · exact h
      · obtain ⟨b, o, e, _⟩ := hr h; cases e
    have : k = 0 := by omega
    subst this
    simp [Builtin.firstCells]
  | some a =>
    refine run_firstCells_some (P := P) w size k a m c _ (by rw [List.length_take, hl]; exact Nat.min_eq_left (Nat.mul_le_mul_right _ hk)) fun j u hj => ?_
    rw [List.getElem?_take] at hj
    split at hj
    · have hm : 0 < m := by
        rcases Nat.eq_zero_or_pos k with h | h
        · subst h; omega
        · omega
      obtain ⟨b, o, e, hb⟩ := hr hm
      cases e
      rw [Addr.add_mid]
      exact hb j u hj
    · cases hj
theorem run_splice {g o : Nat} {e : TypeId} {l cs : List Value} (hB : Blk w g e l) (hfit : o + cs.length ≤ l.length) (h1 : ∀ u ∈ cs, u.oneCell' = true) :
    (storeCells ⟨g, o, none⟩ cs).run P w = .ok () (w.setRow g (l.take o ++ cs ++ l.drop (o + cs.length)).toArray) := by
  have := run_storeCells_at P g o e cs 0 l.toArray w hB (by simpa using hfit) h1
  simpa using this
theorem setRow_same {g : Nat} {e : TypeId} {l : List Value} (hB : Blk w g e l) : w.setRow g l.toArray = w := setRow_self w g l.toArray e (0, 0) hB

/-- 'copy(dst, src)', into a block that is known whole. k: how many elements go over. -/
theorem r_copy {t t' size : Nat} {x y : Operand} {A : Option Addr} {dLen dCap m k g o e : Nat} {u : Value} {ys l l' : List Value} (hok : okOpd n x = true) (hok2 : okOpd n y = true) (ht : elemSize P t = some size)
    (hx : ev σ x = .slice A dLen dCap) (hy : ev σ y = u) (hu : Rd w size u m ys) (hk : Nat.min m dLen = k) (hA : 0 < k → A = some ⟨g, o, none⟩) (hB : Blk w g e l) (h1 : ∀ u ∈ ys.take (k * size), u.oneCell' = true) (hfit : o + k * size ≤ l.length)
    (hl : l.take o ++ ys.take (k * size) ++ l.drop (o + k * size) = l')
    (kk : ∀ w', Fr (fun b => b = g) w w' → w'.heap.size = w.heap.size → Blk w' g e l' → RW P ops n Q rest (upd σ d (.int .i64 (k : Int))) w') :
    RW P ops n Q (⟨some d, .call ⟨.builtin .copy, #[x, y], #[t, t']⟩, ty, pos, aft, none⟩ :: rest) σ w := by
  subst hy
  obtain ⟨el, i, hu', hi, hs⟩ := elemSize_info ht
  have hkm : k ≤ m := by subst hk; exact Nat.min_le_left _ _
  have hf := run_first (P := P) hu hkm
  have hlen : (ys.take (k * size)).length = k * size := by rw [List.length_take, hu.1]; exact Nat.min_eq_left (Nat.mul_le_mul_right _ hkm)
  have hrun : (Builtin.copy_ #[t, t'] ty #[.slice A dLen dCap, ev σ y]).run P w = .ok (.int .i64 (k : Int)) (w.setRow g l'.toArray) := by
    obtain ⟨_, A', c, e', hc, _⟩ := hu
    rw [e'] at hf ⊢
    rcases Nat.eq_zero_or_pos k with h0 | h0
    · subst h0
      have e1 : l' = l := by rw [← hl]; simp
      rw [e1, setRow_same hB]
      cases A with
      | none => simp [Builtin.copy_, run_underlying hu', Builtin.lenOf, hk, sizeOf, typeInfo, hi, hs, hf, goInt]
      | some a => simp [Builtin.copy_, run_underlying hu', Builtin.lenOf, hk, sizeOf, typeInfo, hi, hs, hf, goInt, storeCells]
    · rw [hA h0]
      have hst := run_splice (P := P) (o := o) hB (by rw [hlen]; exact hfit) h1
      rw [hlen, hl] at hst
      simp [Builtin.copy_, run_underlying hu', Builtin.lenOf, hk, sizeOf, typeInfo, hi, hs, hf, goInt, hst]
  refine r_val (v := .int .i64 (k : Int)) (w' := w.setRow g l'.toArray) (by simp [okOp, isSelect, Op.operands, Call.operands, hok, hok2]) ?_ (kk _ (Fr.setRow _ _ _) (by simp) (hB.setRow l'))
  simp only [execOp, resolve, Sem.run_bind, Sem.run_pure, Result.andThen_ok, invoke, builtin, List.map_toArray, List.map_cons, List.map_nil, hx, hrun]
theorem toList_zeroCells (z : Array Value) (m : Nat) : (Builtin.zeroCells z m).toList.length = m * z.size := by simp [Builtin.zeroCells]
theorem zeroCells_one {z : Array Value} (h : ∀ u ∈ z.toList, u.oneCell' = true) (m : Nat) : ∀ u ∈ (Builtin.zeroCells z m).toList, u.oneCell' = true := by
  intro u hu
  simp only [Builtin.zeroCells, Array.toList_map, Array.toList_range, List.mem_map, List.mem_range] at hu
  obtain ⟨i, hi, rfl⟩ := hu
  have hz : 0 < z.size := by
    rcases Nat.eq_zero_or_pos z.size with h0 | h0
    · rw [h0] at hi; omega
    · exact h0
  have hlt : i % z.size < z.size := Nat.mod_lt _ hz
  rw [getElem!_pos z _ hlt]
  exact h _ (by simp)
theorem run_zero {e : TypeId} {i : TypeInfo} {z : Value} (hi : P.info? e = some i) (hz : i.zero = some z) : (zeroValue e).run P w = .ok z w := by
  unfold zeroValue
  rw [Sem.run_bind]
  have : (typeInfo e).run P w = .ok i w := by simp [typeInfo, hi]
  rw [this, Result.andThen_ok, hz]
  rfl
/-- 'clear(s)', a slice of a block that is known whole. -/
theorem r_clear {t e' size bytes : Nat} {z : Value} {x : Operand} {A : Option Addr} {m c g o e : Nat} {l : List Value} (hok : okOpd n x = true) (ht : elemInfo P t = some (e', size, bytes, some z)) (hzs : z.cells.size = size) (hz1 : ∀ u ∈ z.cells.toList, u.oneCell' = true)
    (hx : ev σ x = .slice A m c) (hA : 0 < m → A = some ⟨g, o, none⟩) (hB : Blk w g e l) (hfit : o + m * size ≤ l.length)
    (kk : ∀ w' zs, zs.length = m * size → Fr (fun b => b = g) w w' → w'.heap.size = w.heap.size → Blk w' g e (l.take o ++ zs ++ l.drop (o + m * size)) → RW P ops n Q rest σ w') :
    RW P ops n Q (⟨none, .call ⟨.builtin .clear, #[x], #[t]⟩, ty, pos, aft, none⟩ :: rest) σ w := by
  obtain ⟨i, hu, hi, hs, hb, hz⟩ := elemInfo_spec ht
  have hzl : (Builtin.zeroCells z.cells m).toList.length = m * size := by rw [toList_zeroCells, hzs]
  have hrun : (Builtin.clear_ #[t] ty #[.slice A m c]).run P w = .ok (.tuple #[]) (w.setRow g (l.take o ++ (Builtin.zeroCells z.cells m).toList ++ l.drop (o + m * size)).toArray) := by
    rcases Nat.eq_zero_or_pos m with h0 | h0
    · subst h0
      have e0 : (Builtin.zeroCells z.cells 0).toList = [] := List.eq_nil_of_length_eq_zero (by rw [hzl]; omega)
      rw [e0]
      have e1 : l.take o ++ [] ++ l.drop (o + 0 * size) = l := by simp
      rw [e1, setRow_same hB]
      cases A <;> simp [Builtin.clear_, run_underlying hu]
    · rw [hA h0]
      have hst := run_splice (P := P) (o := o) hB (by rw [hzl]; exact hfit) (zeroCells_one hz1 m)
      rw [hzl] at hst
      cases m with
      | zero => omega
      | succ m => simp [Builtin.clear_, run_underlying hu, run_zero hi hz, hst]
  refine r_valN (v := .tuple #[]) (by simp [okOp, isSelect, Op.operands, Call.operands, hok]) ?_ (kk _ _ hzl (Fr.setRow _ _ _) (by simp) (hB.setRow _))
  simp only [execOp, resolve, Sem.run_bind, Sem.run_pure, Result.andThen_ok, invoke, builtin, List.map_toArray, List.map_cons, List.map_nil, hx, hrun]
/-- 'append(s, xs...)', where there is room. -/
theorem r_appendIn {t e' size bytes : Nat} {z : Option Value} {x y : Operand} {u : Value} {m k c g e : Nat} {ys l l' : List Value} (hok : okOpd n x = true) (hok2 : okOpd n y = true) (ht : elemInfo P t = some (e', size, bytes, z))
    (hx : ev σ x = .slice (some ⟨g, 0, none⟩) k c) (hy : ev σ y = u) (hu : Rd w size u m ys) (hroom : k + m ≤ c) (hB : Blk w g e l) (h1 : ∀ u ∈ ys, u.oneCell' = true) (hfit : (k + m) * size ≤ l.length)
    (hl : l.take (k * size) ++ ys ++ l.drop ((k + m) * size) = l')
    (kk : ∀ w', Fr (fun b => b = g) w w' → w'.heap.size = w.heap.size → Blk w' g e l' → RW P ops n Q rest (upd σ d (.slice (some ⟨g, 0, none⟩) (k + m) c)) w') :
    RW P ops n Q (⟨some d, .call ⟨.builtin .append, #[x, y], #[t, t]⟩, ty, pos, aft, none⟩ :: rest) σ w := by
  subst hy
  obtain ⟨i, hu', hi, hs, hb, hz⟩ := elemInfo_spec ht
  have hf := run_first (P := P) hu (Nat.le_refl m)
  have hlen := hu.1
  rw [List.take_of_length_le (by omega)] at hf
  have hst := run_splice (P := P) (o := k * size) hB (by rw [hlen, ← Nat.add_mul]; exact hfit) h1
  rw [hlen, ← Nat.add_mul, hl] at hst
  have hrun : (Builtin.append_ #[t, t] ty #[.slice (some ⟨g, 0, none⟩) k c, ev σ y]).run P w = .ok (.slice (some ⟨g, 0, none⟩) (k + m) c) (w.setRow g l'.toArray) := by
    obtain ⟨_, A', c2, e', hc, _⟩ := hu
    rw [e'] at hf ⊢
    simp [Builtin.append_, run_underlying hu', sizeOf, typeInfo, hi, hs, Builtin.lenOf, hroom, hf, Addr.add_lit, hst]
  refine r_val (v := .slice (some ⟨g, 0, none⟩) (k + m) c) (w' := w.setRow g l'.toArray) (by simp [okOp, isSelect, Op.operands, Call.operands, hok, hok2]) ?_ (kk _ (Fr.setRow _ _ _) (by simp) (hB.setRow l'))
  simp only [execOp, resolve, Sem.run_bind, Sem.run_pure, Result.andThen_ok, invoke, builtin, List.map_toArray, List.map_cons, List.map_nil, hx, hrun]
/-- 'append(s, make([]T, m)...)', where there is no room: a new row. -/
theorem r_appendZ {t tn e size bytes : Nat} {z : Value} {kn kq : IntKind} {q : Int} {x y : Operand} {A : Option Addr} {m k c : Nat} {xs : List Value} (hok : okOpd n x = true) (hok2 : okOpd n y = true) (ht : elemInfo P t = some (e, size, bytes, some z)) (hzs : z.cells.size = size) (hsz : 0 < size)
    (htn : P.underlying tn = some (.int kn)) (hx : ev σ x = .slice A k c) (hy : ev σ y = .int kq q) (hq : q = (m : Int)) (hR : Rd w size (.slice A k c) k xs) (hneed : c < k + m) (h63 : k + m ≤ maxLen) (hby : 2 * (k + m) * bytes ≤ 140737488355328)
    (g : Nat) (hg : w.heap.size = g)
    (kk : ∀ w' cap zs, k + m ≤ cap → cap ≤ maxLen → zs.length = (cap - k) * size → Fr No w w' → w'.heap.size = g + 1 → Blk w' g e (xs ++ zs) → RW P ops n Q rest (upd σ d (.slice (some ⟨g, 0, none⟩) (k + m) cap)) w') :
    RW P ops n Q (⟨some d, .call ⟨.builtin .append, #[x, y], #[t, tn]⟩, ty, pos, aft, none⟩ :: rest) σ w := by
  subst hg
  obtain ⟨i, hu', hi, hs, hb, hz⟩ := elemInfo_spec ht
  have hf := run_first (P := P) (hR.fr (Fr.drew No w) (fun _ _ f => f)) (Nat.le_refl k)
  have hlen := hR.1
  rw [List.take_of_length_le (by omega)] at hf
  have hcap := grownCap_ge w (k + m) c e
  have hcm := grownCap_le_maxLen w (k + m) c e h63
  have hsmall : k + m ≤ 9223372036854775807 := by simp only [maxLen] at h63; omega
  have hw : IntKind.i64.wrap (m : Int) = m := by rw [IntKind.wrap_i64]; omega
  have hneg : ¬ ((m : Int) < 0) := by omega
  have hmb : m * bytes ≤ 140737488355328 := Nat.le_trans (Nat.mul_le_mul_right _ (by omega)) hby
  have h48i : ¬ (281474976710656 < (m : Int) * (bytes : Int)) := by
    rw [← Int.natCast_mul]; omega
  have h63' : ¬ (9223372036854775807 < ((k : Int) + (m : Int))) := by omega
  have hnc : Builtin.nextslicecap (k + m) c * bytes ≤ 281474976710656 := by
    have h2 : Builtin.nextslicecap (k + m) c ≤ 2 * (k + m) := nextslicecap_le (by omega)
    exact Nat.le_trans (Nat.mul_le_mul_right _ h2) (by omega)
  have hnot : ¬ (k + m ≤ c) := by omega
  have hnc' : ¬ (281474976710656 < Builtin.nextslicecap (k + m) c * bytes) := by omega
  obtain ⟨zs1, hzs1⟩ : ∃ zs, zs = (if m * size = 0 then #[] else Builtin.zeroCells z.cells m) := ⟨_, rfl⟩
  have hl1 : zs1.size = m * size := by
    rw [hzs1]; split
    · simp [*]
    · simp [Builtin.zeroCells, hzs]
  have hrun : (Builtin.append_ #[t, tn] ty #[.slice A k c, .int kq q]).run P w = .ok (.slice (some ⟨w.heap.size, 0, none⟩) (k + m) (grownCap w (k + m) c e))
      (w.drew.alloc (.cells (xs ++ (zs1.toList ++ (Builtin.zeroCells z.cells (grownCap w (k + m) c e - (k + m))).toList)).toArray e)) := by
    subst hq
    by_cases h0 : m * size = 0
    · have hm0 : m = 0 := by rcases Nat.mul_eq_zero.1 h0 with h | h <;> omega
      obtain ⟨_, _, e0, hkc⟩ := hR.form
      injection e0 with _ _ e3
      omega
    · rw [if_neg h0] at hzs1
      subst hzs1
      simp [Builtin.append_, run_underlying hu', run_underlying htn, sizeOf, typeInfo, zeroValue, hi, hz, hs, hb, asInt, asIntOf, hw, hneg, h0, h63', h48i, hnot, hnc', Question.forced, hf, newRow, grownCap]
      congr 2
      apply Array.ext'
      simp
  refine r_val (v := .slice (some ⟨w.heap.size, 0, none⟩) (k + m) (grownCap w (k + m) c e)) (by simp [okOp, isSelect, Op.operands, Call.operands, hok, hok2]) ?_ (kk _ _ (zs1.toList ++ (Builtin.zeroCells z.cells (grownCap w (k + m) c e - (k + m))).toList) hcap hcm ?_ ((Fr.drew No w).trans (Fr.alloc w.drew _) fun _ _ f => f) (by simp) (Go.heap_alloc_new w.drew _))
  · simp only [execOp, resolve, Sem.run_bind, Sem.run_pure, Result.andThen_ok, invoke, builtin, List.map_toArray, List.map_cons, List.map_nil, hx, hy, hrun]
  · rw [List.length_append, Array.length_toList, hl1, toList_zeroCells, hzs, ← Nat.add_mul]
    congr 1
    omega
/-- slices.overlaps of rows in two blocks. -/
theorem x_overlaps {σ : Env} {f : FuncId} {fn : Func} {t tr size : Nat} {xs : Array Operand} {ats : Array TypeId} {dst : Option Nat} {a b ca cb ga oa gb ob ea eb : Nat} {A B : Option Addr} {la lb : List Value} (hf : P.funcs[f]? = some fn) (hn : (fn.name == "runtime.NumGoroutine") = false) (hb : fn.body.isNone = true)
    (hn2 : Extern.findNext fn = none) (he : Extern.find fn = some (Extern.SlicesOverlaps.overlaps #[t, t] #[tr])) (ht : elemSize P t = some size)
    (hv : xs.toList.map (ev σ) = [.slice A a ca, .slice B b cb]) (hA : A = some ⟨ga, oa, none⟩) (hB : B = some ⟨gb, ob, none⟩) (hne : ga ≠ gb) (hBa : Blk w ga ea la) (hBb : Blk w gb eb lb) (hlb : 0 < lb.length) :
    (execOp (ev σ) ⟨dst, .call ⟨.value (.func f), xs, ats⟩, ty, pos, aft, none⟩).run P w = .ok (.value (.bool false)) w := by
  have e1 : xs.map (ev σ) = #[.slice A a ca, .slice B b cb] := by apply Array.ext'; simpa using hv
  obtain ⟨el, i, hu, hi, hs⟩ := elemSize_info ht
  have hz : ∀ w, (Go.sizeOf el).run P w = .ok size w := fun w => run_sizeOf (by rw [hi]; simp [hs])
  have hrun : (Extern.SlicesOverlaps.overlaps #[t, t] #[tr] #[.slice A a ca, .slice B b cb]).run P w = .ok (.bool false) w := by
    subst hA
    subst hB
    have s1 : w.shape? ga = some (ea, la.length) := by have h := hBa; unfold Blk at h; simp [World.shape?, h]
    have s2 : w.shape? gb = some (eb, lb.length) := by have h := hBb; unfold Blk at h; simp [World.shape?, h]
    exact Lib.run_overlaps_apart w t tr el hu size hz ⟨ga, oa, none⟩ ⟨gb, ob, none⟩ a ca b cb hne ea eb la.length lb.length s1 s2 (by omega) (hBa.free _) (hBa.free _)
  have hc := run_callFunc_extern hf hn hb hn2 he #[.slice A a ca, .slice B b cb] w
  rw [hrun] at hc
  simp only [execOp, resolve, ev, Deferred.ofValue, invoke, Sem.run_bind, e1]
  simp only [Sem.run_pure, Result.andThen_ok, Array.empty_append, Array.append_empty, hc]
end
end Go.Proofs.YthomkocjjkmnkaaDoor
