import Derived.Test.YthomkocjjkmnkaaDoorEng
/- What each operation comes to. -/
namespace Go.Proofs.YthomkocjjkmnkaaDoor
open Go Go.RowKit
section
variable {P : Program} {ρ : Operand → Value} {w : World} {dst : Option Nat} {ty : TypeId} {pos : String} {aft : Array Edge}

theorem x_move {x : Operand} {v : Value} (h : ρ x = v) : (execOp ρ ⟨dst, .move x, ty, pos, aft, none⟩).run P w = .ok (.value v) w := by subst h; rfl
theorem x_assign {x : Operand} {v : Value} (h : ρ x = v) : (execOp ρ ⟨dst, .assign x, ty, pos, aft, none⟩).run P w = .ok (.value v) w := by subst h; rfl
theorem x_pick {c x y : Operand} {b : Bool} {v u : Value} (hc : ρ c = .bool b) (hx : ρ x = v) (hy : ρ y = u) :
    (execOp ρ ⟨dst, .pick c x y, ty, pos, aft, none⟩).run P w = .ok (.value (if b then v else u)) w := by
  subst hx; subst hy; simp [execOp, hc, go_sem]
theorem x_pickT {c x y : Operand} {b : Bool} {v : Value} (hc : ρ c = .bool b) (hb : b = true) (hx : ρ x = v) :
    (execOp ρ ⟨dst, .pick c x y, ty, pos, aft, none⟩).run P w = .ok (.value v) w := by
  subst hx; subst hb; simp [execOp, hc, go_sem]
theorem x_pickF {c x y : Operand} {b : Bool} {v : Value} (hc : ρ c = .bool b) (hb : b = false) (hy : ρ y = v) :
    (execOp ρ ⟨dst, .pick c x y, ty, pos, aft, none⟩).run P w = .ok (.value v) w := by
  subst hy; subst hb; simp [execOp, hc, go_sem]
/-- `a && b`, `a || b` as they are picked. -/
theorem x_and {c x y : Operand} {p q : Bool} (hc : ρ c = .bool p) (hx : p = true → ρ x = .bool q) (hy : ρ y = .bool false) :
    (execOp ρ ⟨dst, .pick c x y, ty, pos, aft, none⟩).run P w = .ok (.value (.bool (p && q))) w := by
  cases p with
  | true => simp [execOp, hc, hx rfl, go_sem]
  | false => simp [execOp, hc, hy, go_sem]
theorem x_or {c x y : Operand} {p q : Bool} (hc : ρ c = .bool p) (hx : ρ x = .bool true) (hy : p = false → ρ y = .bool q) :
    (execOp ρ ⟨dst, .pick c x y, ty, pos, aft, none⟩).run P w = .ok (.value (.bool (p || q))) w := by
  cases p with
  | true => simp [execOp, hc, hx, go_sem]
  | false => simp [execOp, hc, hy rfl, go_sem]
theorem x_extract {x : Operand} {vs : Array Value} {i : Nat} {v : Value} (hx : ρ x = .tuple vs) (hv : vs[i]? = some v) :
    (execOp ρ ⟨dst, .extract x i, ty, pos, aft, none⟩).run P w = .ok (.value v) w := by
  simp [execOp, Instr.extract, hx, hv]
theorem x_makeFunc {fn : Fn} {first captured : Array Operand} {fs cs : List Value} (hf : first.toList.map ρ = fs) (hc : captured.toList.map ρ = cs) :
    (execOp ρ ⟨dst, .makeFunc fn first captured, ty, pos, aft, none⟩).run P w = .ok (.value (.func fn fs.toArray cs.toArray)) w := by
  subst hf; subst hc
  have e : ∀ l : Array Operand, l.map ρ = (l.toList.map ρ).toArray := fun l => by apply Array.ext'; simp
  simp only [execOp, Instr.makeFunc, e]
  rfl
theorem x_nilCheck {x : Operand} {a : Addr} (hx : ρ x = .pointer (some a)) :
    (execOp ρ ⟨dst, .nilCheck x, ty, pos, aft, none⟩).run P w = .ok (.value (.pointer (some a))) w := by
  simp [execOp, hx]

/-! ### Whole numbers -/
theorem x_cmp {op : BinOp} {t t' : TypeId} {x y : Operand} {k : IntKind} {a b : Int} {r : Bool} (hx : ρ x = .int k a) (hy : ρ y = .int k b)
    (hr : (Op.intCmp op a b).run P w = .ok (.bool r) w) (ho : (match op with | .eql | .neq | .lss | .leq | .gtr | .geq => true | _ => false) = true) :
    (execOp ρ ⟨dst, .binOp op t x y t', ty, pos, aft, none⟩).run P w = .ok (.value (.bool r)) w := by
  have he : (eqGuard op t x y (.int k a) (.int k b)).run P w = .ok () w := by
    unfold eqGuard
    cases op <;> simp
  cases op <;> simp at ho <;> simp [execOp, hx, hy, Sem.run_bind, he, binOp, hr]
theorem x_lss {t t' : TypeId} {x y : Operand} {k : IntKind} {a b : Int} (hx : ρ x = .int k a) (hy : ρ y = .int k b) :
    (execOp ρ ⟨dst, .binOp .lss t x y t', ty, pos, aft, none⟩).run P w = .ok (.value (.bool (decide (a < b)))) w := x_cmp hx hy rfl rfl
theorem x_leq {t t' : TypeId} {x y : Operand} {k : IntKind} {a b : Int} (hx : ρ x = .int k a) (hy : ρ y = .int k b) :
    (execOp ρ ⟨dst, .binOp .leq t x y t', ty, pos, aft, none⟩).run P w = .ok (.value (.bool (decide (a ≤ b)))) w := x_cmp hx hy rfl rfl
theorem x_gtr {t t' : TypeId} {x y : Operand} {k : IntKind} {a b : Int} (hx : ρ x = .int k a) (hy : ρ y = .int k b) :
    (execOp ρ ⟨dst, .binOp .gtr t x y t', ty, pos, aft, none⟩).run P w = .ok (.value (.bool (decide (b < a)))) w := x_cmp hx hy rfl rfl
theorem x_geq {t t' : TypeId} {x y : Operand} {k : IntKind} {a b : Int} (hx : ρ x = .int k a) (hy : ρ y = .int k b) :
    (execOp ρ ⟨dst, .binOp .geq t x y t', ty, pos, aft, none⟩).run P w = .ok (.value (.bool (decide (b ≤ a)))) w := x_cmp hx hy rfl rfl
theorem x_eql {t t' : TypeId} {x y : Operand} {k : IntKind} {a b : Int} (hx : ρ x = .int k a) (hy : ρ y = .int k b) :
    (execOp ρ ⟨dst, .binOp .eql t x y t', ty, pos, aft, none⟩).run P w = .ok (.value (.bool (decide (a = b)))) w :=
  x_cmp hx hy (by
    have : (a == b) = decide (a = b) := by rw [Bool.eq_iff_iff]; simp
    rw [← this]; rfl) rfl
theorem x_neq {t t' : TypeId} {x y : Operand} {k : IntKind} {a b : Int} (hx : ρ x = .int k a) (hy : ρ y = .int k b) :
    (execOp ρ ⟨dst, .binOp .neq t x y t', ty, pos, aft, none⟩).run P w = .ok (.value (.bool (decide (a ≠ b)))) w :=
  x_cmp hx hy (by
    have : (a != b) = decide (a ≠ b) := by rw [Bool.eq_iff_iff]; simp
    rw [← this]; rfl) rfl
theorem x_arith {op : BinOp} {t t' : TypeId} {x y : Operand} {k : IntKind} {a b : Int} {r : Int} (hx : ρ x = .int k a) (hy : ρ y = .int k b)
    (hr : (binOp op t (.int k a) (.int k b)).run P w = .ok (.int k r) w) (ho : (match op with | .eql | .neq => false | _ => true) = true) :
    (execOp ρ ⟨dst, .binOp op t x y t', ty, pos, aft, none⟩).run P w = .ok (.value (.int k r)) w := by
  have he : (eqGuard op t x y (.int k a) (.int k b)).run P w = .ok () w := by
    unfold eqGuard
    cases op <;> simp at ho <;> simp
  simp [execOp, hx, hy, Sem.run_bind, he, hr]
theorem x_add {t t' : TypeId} {x y : Operand} {k : IntKind} {a b : Int} (hx : ρ x = .int k a) (hy : ρ y = .int k b) :
    (execOp ρ ⟨dst, .binOp .add t x y t', ty, pos, aft, none⟩).run P w = .ok (.value (.int k (k.wrap (a + b)))) w := x_arith hx hy (by simp [binOp, Op.intArith]) rfl
theorem x_sub {t t' : TypeId} {x y : Operand} {k : IntKind} {a b : Int} (hx : ρ x = .int k a) (hy : ρ y = .int k b) :
    (execOp ρ ⟨dst, .binOp .sub t x y t', ty, pos, aft, none⟩).run P w = .ok (.value (.int k (k.wrap (a - b)))) w := x_arith hx hy (by simp [binOp, Op.intArith]) rfl
theorem x_mul {t t' : TypeId} {x y : Operand} {k : IntKind} {a b : Int} (hx : ρ x = .int k a) (hy : ρ y = .int k b) :
    (execOp ρ ⟨dst, .binOp .mul t x y t', ty, pos, aft, none⟩).run P w = .ok (.value (.int k (k.wrap (a * b)))) w := x_arith hx hy (by simp [binOp, Op.intArith]) rfl
theorem x_bits {op : BinOp} {t t' : TypeId} {x y : Operand} {k : IntKind} {a b : Int} (hx : ρ x = .int k a) (hy : ρ y = .int k b)
    (ho : (match op with | .and | .or | .xor | .andNot => true | _ => false) = true) :
    (execOp ρ ⟨dst, .binOp op t x y t', ty, pos, aft, none⟩).run P w = .ok (.value (.int k (bits op k a b))) w :=
  x_arith hx hy (by cases op <;> simp at ho <;> simp [binOp, Op.intBits, bits]) (by cases op <;> simp at ho <;> rfl)
theorem i64_in {n : Int} (h : -9223372036854775808 ≤ n ∧ n ≤ 9223372036854775807) : IntKind.i64.wrap n = n := IntWalk.i64_in n h
theorem x_add64 {t t' : TypeId} {x y : Operand} {a b : Int} (hx : ρ x = .int .i64 a) (hy : ρ y = .int .i64 b) (h : -9223372036854775808 ≤ a + b ∧ a + b ≤ 9223372036854775807) :
    (execOp ρ ⟨dst, .binOp .add t x y t', ty, pos, aft, none⟩).run P w = .ok (.value (.int .i64 (a + b))) w := by rw [x_add hx hy, i64_in h]
theorem x_sub64 {t t' : TypeId} {x y : Operand} {a b : Int} (hx : ρ x = .int .i64 a) (hy : ρ y = .int .i64 b) (h : -9223372036854775808 ≤ a - b ∧ a - b ≤ 9223372036854775807) :
    (execOp ρ ⟨dst, .binOp .sub t x y t', ty, pos, aft, none⟩).run P w = .ok (.value (.int .i64 (a - b))) w := by rw [x_sub hx hy, i64_in h]
theorem x_mul64 {t t' : TypeId} {x y : Operand} {a b : Int} (hx : ρ x = .int .i64 a) (hy : ρ y = .int .i64 b) (h : -9223372036854775808 ≤ a * b ∧ a * b ≤ 9223372036854775807) :
    (execOp ρ ⟨dst, .binOp .mul t x y t', ty, pos, aft, none⟩).run P w = .ok (.value (.int .i64 (a * b))) w := by rw [x_mul hx hy, i64_in h]
theorem x_quo {t t' : TypeId} {x y : Operand} {k : IntKind} {a b : Int} (hx : ρ x = .int k a) (hy : ρ y = .int k b) (hb : b ≠ 0) :
    (execOp ρ ⟨dst, .binOp .quo t x y t', ty, pos, aft, none⟩).run P w = .ok (.value (.int k (k.wrap (a.tdiv b)))) w := x_arith hx hy (by simp [binOp, Op.intDiv, hb]) rfl
theorem x_rem {t t' : TypeId} {x y : Operand} {k : IntKind} {a b : Int} (hx : ρ x = .int k a) (hy : ρ y = .int k b) (hb : b ≠ 0) :
    (execOp ρ ⟨dst, .binOp .rem t x y t', ty, pos, aft, none⟩).run P w = .ok (.value (.int k (a.tmod b))) w := x_arith hx hy (by simp [binOp, Op.intDiv, hb]) rfl
theorem x_quo64 {t t' : TypeId} {x y : Operand} {a b : Int} (hx : ρ x = .int .i64 a) (hy : ρ y = .int .i64 b) (ha : 0 ≤ a ∧ a ≤ 9223372036854775807) (hb : 1 ≤ b) :
    (execOp ρ ⟨dst, .binOp .quo t x y t', ty, pos, aft, none⟩).run P w = .ok (.value (.int .i64 (a / b))) w := by
  rw [x_quo hx hy (by omega), Int.tdiv_eq_ediv_of_nonneg ha.1, i64_in]
  exact ⟨by have := Int.ediv_nonneg ha.1 (show (0 : Int) ≤ b by omega); omega, by have := Int.ediv_le_self b ha.1; omega⟩
theorem x_rem64 {t t' : TypeId} {x y : Operand} {k : IntKind} {a b : Int} (hx : ρ x = .int k a) (hy : ρ y = .int k b) (ha : 0 ≤ a) (hb : 1 ≤ b) :
    (execOp ρ ⟨dst, .binOp .rem t x y t', ty, pos, aft, none⟩).run P w = .ok (.value (.int k (a % b))) w := by
  rw [x_rem hx hy (by omega), Int.tmod_eq_emod_of_nonneg ha]
theorem x_shl {t t' : TypeId} {x y : Operand} {k k' : IntKind} {a b : Int} (hx : ρ x = .int k a) (hy : ρ y = .int k' b) (hb : 0 ≤ b) :
    (execOp ρ ⟨dst, .binOp .shl t x y t', ty, pos, aft, none⟩).run P w = .ok (.value (.int k (k.wrap (a * 2 ^ min b.toNat k.bits)))) w := by
  have he : (eqGuard .shl t x y (.int k a) (.int k' b)).run P w = .ok () w := by unfold eqGuard; simp
  have hn : ¬ b < 0 := by omega
  simp [execOp, hx, hy, Sem.run_bind, he, binOp, Op.shift, hn]
theorem x_shr {t t' : TypeId} {x y : Operand} {k k' : IntKind} {a b : Int} (hx : ρ x = .int k a) (hy : ρ y = .int k' b) (hb : 0 ≤ b) :
    (execOp ρ ⟨dst, .binOp .shr t x y t', ty, pos, aft, none⟩).run P w = .ok (.value (.int k (a / 2 ^ min b.toNat k.bits))) w := by
  have he : (eqGuard .shr t x y (.int k a) (.int k' b)).run P w = .ok () w := by unfold eqGuard; simp
  have hp : (0 : Int) ≤ 2 ^ min b.toNat k.bits := Int.pow_nonneg (by decide)
  have hn : ¬ b < 0 := by omega
  simp [execOp, hx, hy, Sem.run_bind, he, binOp, Op.shift, hn, Int.fdiv_eq_ediv_of_nonneg _ hp]
theorem x_not {t : TypeId} {x : Operand} {b : Bool} (hx : ρ x = .bool b) :
    (execOp ρ ⟨dst, .unOp .not t x, ty, pos, aft, none⟩).run P w = .ok (.value (.bool !b)) w := by simp [execOp, hx, Op.unary]
theorem x_neg {t : TypeId} {x : Operand} {k : IntKind} {a : Int} (hx : ρ x = .int k a) :
    (execOp ρ ⟨dst, .unOp .neg t x, ty, pos, aft, none⟩).run P w = .ok (.value (.int k (k.wrap (0 - a)))) w := by simp [execOp, hx, Op.unary, Op.intArith]
theorem x_neg64 {t : TypeId} {x : Operand} {a : Int} (hx : ρ x = .int .i64 a) (h : -9223372036854775807 ≤ a ∧ a ≤ 9223372036854775807) :
    (execOp ρ ⟨dst, .unOp .neg t x, ty, pos, aft, none⟩).run P w = .ok (.value (.int .i64 (-a))) w := by rw [x_neg hx, i64_in (by omega), Int.zero_sub]
theorem x_conv {s t : TypeId} {x : Operand} {k k' : IntKind} {a : Int} {d : TypeDesc} (hs : P.underlying s = some d) (ht : P.underlying t = some (.int k')) (hx : ρ x = .int k a) :
    (execOp ρ ⟨dst, .convert s t x, ty, pos, aft, none⟩).run P w = .ok (.value (.int k' (k'.wrap a))) w := by
  simp [execOp, hx, convert, Sem.run_bind, run_underlying hs, run_underlying ht, Conv.intToInt]
theorem x_len {x : Operand} {t e : TypeId} {A : Option Addr} {n c : Nat} (ht : P.underlying t = some (.slice e)) (hx : ρ x = .slice A n c) :
    (execOp ρ ⟨dst, .call ⟨.builtin .len, #[x], #[t]⟩, ty, pos, aft, none⟩).run P w = .ok (.value (.int .i64 n)) w := by
  simp [execOp, resolve, invoke, builtin, Builtin.len_, hx, Sem.run_bind, run_underlying ht, goInt]
theorem x_cap {x : Operand} {t e : TypeId} {A : Option Addr} {n c : Nat} (ht : P.underlying t = some (.slice e)) (hx : ρ x = .slice A n c) :
    (execOp ρ ⟨dst, .call ⟨.builtin .cap, #[x], #[t]⟩, ty, pos, aft, none⟩).run P w = .ok (.value (.int .i64 c)) w := by
  simp [execOp, resolve, invoke, builtin, Builtin.cap_, hx, Sem.run_bind, run_underlying ht, goInt]
theorem x_lenS {x : Operand} {t : TypeId} {s : ByteArray} (ht : P.underlying t = some .string) (hx : ρ x = .string s) :
    (execOp ρ ⟨dst, .call ⟨.builtin .len, #[x], #[t]⟩, ty, pos, aft, none⟩).run P w = .ok (.value (.int .i64 s.size)) w := by
  simp [execOp, resolve, invoke, builtin, Builtin.len_, hx, Sem.run_bind, run_underlying ht, goInt]

/-! ### Calls -/
theorem run_callFunc {f : FuncId} {fn : Func} (a : Array Value) (hf : P.funcs[f]? = some fn) (hn : (fn.name == "runtime.NumGoroutine") = false) (hb : fn.body.isNone = false) :
    (callFunc f a).run P w = .ok (.enter f a) w := by
  unfold callFunc
  rw [Sem.run_bind]
  have e : (program : Sem Program).run P w = .ok P w := rfl
  rw [e, Result.andThen_ok, hf]
  simp only [hn, hb, Bool.false_eq_true, if_false]
  rfl
/-- A call of a Go function by its name. -/
theorem x_call {σ : Env} {f : FuncId} {xs : Array Operand} {ats : Array TypeId} {fn : Func} {vs : List Value} (hf : P.funcs[f]? = some fn) (hn : (fn.name == "runtime.NumGoroutine") = false) (hb : fn.body.isNone = false)
    (hv : xs.toList.map (ev σ) = vs) : (execOp (ev σ) ⟨dst, .call ⟨.value (.func f), xs, ats⟩, ty, pos, aft, none⟩).run P w = .ok (.enter f vs.toArray) w := by
  have e : xs.map (ev σ) = vs.toArray := by subst hv; apply Array.ext'; simp
  have e2 : ∀ a : Array Value, (#[] : Array Value) ++ a ++ #[] = a := fun a => by simp
  simp only [execOp, resolve, ev, Deferred.ofValue, invoke, Sem.run_bind, e]
  simp only [Sem.run_pure, Result.andThen_ok, Array.empty_append, Array.append_empty, run_callFunc _ hf hn hb]
/-- A call through a function's value. -/
theorem x_callV {g : Operand} {f : FuncId} {xs : Array Operand} {ats : Array TypeId} {fn : Func} {vs fs cs : List Value} (hg : ρ g = .func (.func f) fs.toArray cs.toArray) (hf : P.funcs[f]? = some fn) (hn : (fn.name == "runtime.NumGoroutine") = false) (hb : fn.body.isNone = false)
    (hv : fs ++ xs.toList.map ρ ++ cs = vs) : (execOp ρ ⟨dst, .call ⟨.value g, xs, ats⟩, ty, pos, aft, none⟩).run P w = .ok (.enter f vs.toArray) w := by
  have e : fs.toArray ++ xs.map ρ ++ cs.toArray = vs.toArray := by subst hv; apply Array.ext'; simp
  simp only [execOp, resolve, hg, Deferred.ofValue, invoke, Sem.run_bind]
  simp only [Sem.run_pure, Result.andThen_ok, e, run_callFunc _ hf hn hb]
end
end Go.Proofs.YthomkocjjkmnkaaDoor
