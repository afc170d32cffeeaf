import Derived.WalkKit
import Derived.WalkSmall
import Derived.WalkSpells
import Derived.WalkLawsBesides
import Derived.Lib.Hide
import Derived.OrdersHeld
import Derived.Deep.MidRow
import Derived.Maps.AppendAt
/- The core of the walks: a frame's slots as a function, and one rule for each kind of code and operation. -/
namespace Go.Proofs.YthomkocjjkmnkaaDoor
open Go Go.RowKit

abbrev Env := Nat → Value
def upd (σ : Env) (d : Nat) (v : Value) : Env := fun i => bif Nat.beq i d then v else σ i
def act (n : Nat) (σ : Env) : Act := { tmps := (Array.range n).map σ, defers := [] }
def ev (σ : Env) : Operand → Value
  | .tmp t => σ t
  | .const v => v
  | .global g => .pointer (some ⟨g, 0, none⟩)
  | .func f => .func (.func f) #[] #[]
def okOpd (n : Nat) : Operand → Bool
  | .tmp t => Nat.blt t n
  | _ => true
def isSelect : Op → Bool
  | .select _ _ => true
  | _ => false
def okOp (n : Nat) (op : Op) : Bool := !isSelect op && op.operands.toList.all (okOpd n)

theorem upd_same (σ : Env) (d : Nat) (v : Value) : upd σ d v d = v := by simp [upd]
theorem beq_ne {i d : Nat} (h : i ≠ d) : Nat.beq i d = false := by
  cases e : Nat.beq i d with
  | false => rfl
  | true => exact absurd (Nat.eq_of_beq_eq_true e) h
theorem upd_ne (σ : Env) (d i : Nat) (v : Value) (h : i ≠ d) : upd σ d v i = σ i := by
  have : Nat.beq i d = false := beq_ne h
  simp [upd, this]

theorem eval_act {n : Nat} {σ : Env} {x : Operand} (h : okOpd n x = true) : (act n σ).eval x = ev σ x := by
  cases x with
  | tmp t =>
    have ht : t < n := by simpa [okOpd, Nat.blt_eq] using h
    simp [Act.eval, act, ev, ht]
  | _ => rfl

theorem put_act {n : Nat} {σ : Env} {d : Nat} {v : Value} : (act n σ).put (some d) v = act n (upd σ d v) := by
  simp only [Act.put, act]
  congr 1
  apply Array.ext
  · simp
  · intro i h1 h2
    simp only [Array.size_setIfInBounds, Array.size_map, Array.size_range] at h1
    by_cases e : i = d
    · subst e; simp [upd_same]
    · rw [Array.getElem_setIfInBounds_ne (by simpa using h1) (by omega)]
      simp [upd_ne _ _ _ _ e]

theorem put_act_none {n : Nat} {σ : Env} {v : Value} : (act n σ).put none v = act n σ := rfl

theorem execOp_act {n : Nat} {σ : Env} {o : Oper} (h : okOp n o.op = true) : execOp (act n σ).eval o = execOp (ev σ) o := by
  simp only [okOp, Bool.and_eq_true] at h
  refine execOp_congr o (fun cs b e => by rw [e] at h; simp [isSelect] at h) (fun x hx => eval_act ?_)
  have := List.all_eq_true.1 h.2 x (by simpa using hx)
  exact this

/-- A post over slots. -/
def lift (n : Nat) (Q : Exit → Env → World → Prop) : Exit → Act → World → Prop := fun e a w => ∃ σ, a = act n σ ∧ Q e σ w
def W (P : Program) (n : Nat) (c : Code) (Q : Exit → Env → World → Prop) (σ : Env) (w : World) : Prop := c.wp P (lift n Q) (act n σ) w
def RW (P : Program) (ops : Array Oper) (n : Nat) (Q : Exit → Env → World → Prop) (l : List Oper) (σ : Env) (w : World) : Prop :=
  wpList P ops (lift n Q) l (act n σ) w
def thenW (next : Env → World → Prop) (Q : Exit → Env → World → Prop) : Exit → Env → World → Prop
  | .normal, σ, w => next σ w
  | e, σ, w => Q e σ w
def inBlk (id : Nat) (Q : Exit → Env → World → Prop) : Exit → Env → World → Prop
  | .exit id', σ, w => bif Nat.beq id' id then Q .normal σ w else Q (.exit id') σ w
  | e, σ, w => Q e σ w

section rules
variable {P : Program} {n : Nat} {Q : Exit → Env → World → Prop} {σ : Env} {w : World}

theorem W_mono {c : Code} {Q' : Exit → Env → World → Prop} (h : W P n c Q σ w) (hq : ∀ e σ w, Q e σ w → Q' e σ w) : W P n c Q' σ w :=
  Code.wp_mono (fun e a w ⟨σ, ha, q⟩ => ⟨σ, ha, hq _ _ _ q⟩) h
theorem W_seq {x y : Code} (h : W P n x (thenW (W P n y Q) Q) σ w) : W P n (.seq x y) Q σ w := by
  refine wp_seq (Code.wp_mono ?_ h)
  rintro e a w ⟨σ, rfl, q⟩
  cases e <;> first | exact q | exact ⟨σ, rfl, q⟩
/-- A sequence with what holds in between. -/
theorem W_mid {x y : Code} (R : Env → World → Prop) (h : W P n x (thenW R Q) σ w) (k : ∀ σ w, R σ w → W P n y Q σ w) : W P n (.seq x y) Q σ w :=
  W_seq (W_mono h fun e _ _ q => by cases e <;> first | exact k _ _ q | exact q)
theorem W_skip (h : Q .normal σ w) : W P n .skip Q σ w := wp_skip ⟨σ, rfl, h⟩
theorem W_ret (h : Q .ret σ w) : W P n .ret Q σ w := wp_ret ⟨σ, rfl, h⟩
theorem W_exit {id : Nat} (h : Q (.exit id) σ w) : W P n (.exit id) Q σ w := wp_exit ⟨σ, rfl, h⟩
theorem W_block {id : Nat} {c : Code} (h : W P n c (inBlk id Q) σ w) : W P n (.block id c) Q σ w := by
  refine wp_block (Code.wp_mono ?_ h)
  rintro e a w ⟨σ, rfl, q⟩
  cases e with
  | exit id' =>
    by_cases hid : id' = id
    · subst hid; simp only [Exit.inBlock, if_true]; exact ⟨σ, rfl, by simpa [inBlk] using q⟩
    · simp only [Exit.inBlock, hid, if_false]
      have hb : Nat.beq id' id = false := beq_ne hid
      exact ⟨σ, rfl, by simpa [inBlk, hb] using q⟩
  | _ => exact ⟨σ, rfl, q⟩
theorem W_cond {c : Operand} {x y : Code} {b : Bool} (hok : okOpd n c = true) (hc : ev σ c = .bool b)
    (ht : b = true → W P n x Q σ w) (hf : b = false → W P n y Q σ w) : W P n (.cond c x y) Q σ w :=
  wp_cond_split (t := b) (by rw [eval_act hok]; exact hc) ht hf
theorem W_condD {c : Operand} {x y : Code} {p : Prop} [Decidable p] (hok : okOpd n c = true) (hc : ev σ c = .bool (decide p))
    (ht : p → W P n x Q σ w) (hf : ¬ p → W P n y Q σ w) : W P n (.cond c x y) Q σ w :=
  W_cond hok hc (fun h => ht (of_decide_eq_true h)) (fun h => hf (of_decide_eq_false h))
theorem W_condT {c : Operand} {x y : Code} {b : Bool} (hok : okOpd n c = true) (hc : ev σ c = .bool b) (hb : b = true) (h : W P n x Q σ w) : W P n (.cond c x y) Q σ w :=
  W_cond hok hc (fun _ => h) (fun e => by rw [hb] at e; cases e)
theorem W_condF {c : Operand} {x y : Code} {b : Bool} (hok : okOpd n c = true) (hc : ev σ c = .bool b) (hb : b = false) (h : W P n y Q σ w) : W P n (.cond c x y) Q σ w :=
  W_cond hok hc (fun e => by rw [hb] at e; cases e) (fun _ => h)
/-- A loop: an invariant that bears a number, which every round lowers. -/
theorem W_loop {c : Code} (I : Nat → Env → World → Prop) (m : Nat) (h0 : I m σ w)
    (round : ∀ m σ w, I m σ w → W P n c (thenW (fun σ' w' => ∃ m', m' < m ∧ I m' σ' w') Q) σ w) : W P n (.loop c) Q σ w := by
  unfold W at *
  have key : ∀ (k : Nat) (b : Frame) (r : List Item) (cs : List Frame) (σ : Env) (w : World), I k σ w →
      ∃ e a' w', lift n Q e a' w' ∧ Arrives P (lone (b.at (act n σ) (.code c :: .inLoop c :: r)) cs w) b r cs e a' w' := by
    intro k
    induction k using Nat.strongRecOn with
    | _ k ih =>
      intro b r cs σ w hI
      obtain ⟨e, a₁, w₁, ⟨σ₁, rfl, hq⟩, harr⟩ := round k σ w hI b (.inLoop c :: r) cs
      cases e with
      | normal =>
        obtain ⟨m', hlt, hI₁⟩ := hq
        obtain ⟨e₂, a₂, w₂, hq₂, harr₂⟩ := ih m' hlt b r cs σ₁ w₁ hI₁
        exact ⟨e₂, a₂, w₂, hq₂, .of_steps (Steps.trans harr (.one step_inLoop)) harr₂⟩
      | exit id => exact ⟨_, _, w₁, ⟨σ₁, rfl, hq⟩, .pass (x := .inLoop c) rfl (fun _ _ => .inl (by simp)) harr⟩
      | goto l => exact ⟨_, _, w₁, ⟨σ₁, rfl, hq⟩, .pass (x := .inLoop c) rfl (fun _ _ => .inl (by simp)) harr⟩
      | ret => exact ⟨_, _, w₁, ⟨σ₁, rfl, hq⟩, .pass (x := .inLoop c) rfl (fun _ _ => .inl (by simp)) harr⟩
      | panic ch => exact ⟨_, _, w₁, ⟨σ₁, rfl, hq⟩, .pass (x := .inLoop c) rfl (fun _ _ => .inl (by simp)) harr⟩
      | outgrown => exact ⟨_, _, w₁, ⟨σ₁, rfl, hq⟩, .pass (x := .inLoop c) rfl (fun _ _ => .inl (by simp)) harr⟩
  intro b r cs
  obtain ⟨e, a', w', hq, harr⟩ := key m b r cs σ w h0
  exact ⟨e, a', w', hq, .of_steps (.one step_loop) harr⟩

theorem W_region {id : Nat} {l : List Oper} (h : RW P l.toArray n Q l σ w) : W P n (.region id l.toArray false) Q σ w := wp_region_lit h
variable {ops : Array Oper} {rest : List Oper} {d : Nat} {op : Op} {ty : TypeId} {pos : String} {aft : Array Edge}
theorem RW_nil (h : Q .normal σ w) : RW P ops n Q [] σ w := wpList_nil ⟨σ, rfl, h⟩
theorem r_val {v : Value} {w' : World} (hok : okOp n op = true) (h : (execOp (ev σ) ⟨some d, op, ty, pos, aft, none⟩).run P w = .ok (.value v) w')
    (k : RW P ops n Q rest (upd σ d v) w') : RW P ops n Q (⟨some d, op, ty, pos, aft, none⟩ :: rest) σ w :=
  wpList_plain rfl fun K hK => by
    unfold Oper.wp
    rw [execOp_act (o := ⟨some d, op, ty, pos, aft, none⟩) hok, h, Oper.upon_value, put_act]
    exact hK _ _ k
theorem r_valN {v : Value} {w' : World} (hok : okOp n op = true) (h : (execOp (ev σ) ⟨none, op, ty, pos, aft, none⟩).run P w = .ok (.value v) w')
    (k : RW P ops n Q rest σ w') : RW P ops n Q (⟨none, op, ty, pos, aft, none⟩ :: rest) σ w :=
  wpList_plain rfl fun K hK => by
    unfold Oper.wp
    rw [execOp_act (o := ⟨none, op, ty, pos, aft, none⟩) hok, h, Oper.upon_value]
    exact hK _ _ k
theorem r_skip {w' : World} (hok : okOp n op = true) (h : (execOp (ev σ) ⟨none, op, ty, pos, aft, none⟩).run P w = .ok .skip w')
    (k : RW P ops n Q rest σ w') : RW P ops n Q (⟨none, op, ty, pos, aft, none⟩ :: rest) σ w :=
  wpList_plain rfl fun K hK => by
    unfold Oper.wp
    rw [execOp_act (o := ⟨none, op, ty, pos, aft, none⟩) hok, h, Oper.upon_skip]
    exact hK _ _ k
/-- A call: it returns; what it leaves is 'R'. -/
theorem r_call {f : FuncId} {args : Array Value} {R : Ending → World → Prop} (hok : okOp n op = true)
    (h : (execOp (ev σ) ⟨some d, op, ty, pos, aft, none⟩).run P w = .ok (.enter f args) w) (hc : Calls P f args w R)
    (k : ∀ e w', R e w' → ∃ v, e = .returned v ∧ RW P ops n Q rest (upd σ d v) w') : RW P ops n Q (⟨some d, op, ty, pos, aft, none⟩ :: rest) σ w :=
  wpList_plain rfl fun K hK => by
    unfold Oper.wp
    rw [execOp_act (o := ⟨some d, op, ty, pos, aft, none⟩) hok, h, Oper.upon_enter]
    refine hc.mono fun e w' r => ?_
    obtain ⟨v, rfl, k'⟩ := k e w' r
    show K _ _
    rw [put_act]
    exact hK _ _ k'
theorem r_callN {f : FuncId} {args : Array Value} {R : Ending → World → Prop} (hok : okOp n op = true)
    (h : (execOp (ev σ) ⟨none, op, ty, pos, aft, none⟩).run P w = .ok (.enter f args) w) (hc : Calls P f args w R)
    (k : ∀ e w', R e w' → ∃ v, e = .returned v ∧ RW P ops n Q rest σ w') : RW P ops n Q (⟨none, op, ty, pos, aft, none⟩ :: rest) σ w :=
  wpList_plain rfl fun K hK => by
    unfold Oper.wp
    rw [execOp_act (o := ⟨none, op, ty, pos, aft, none⟩) hok, h, Oper.upon_enter]
    refine hc.mono fun e w' r => ?_
    obtain ⟨v, rfl, k'⟩ := k e w' r
    exact hK _ _ k'

/-- A guard. -/
theorem yielded_act {j t : Nat} {b : Bool} (hd : (ops[j]?).bind (·.dst) = some t) (ht : Nat.blt t n = true) (hb : σ t = .bool b) : yielded ops (act n σ).tmps j = some b := by
  have ht' : t < n := by simpa [Nat.blt_eq] using ht
  simp [yielded, hd, act, ht', hb]
theorem r_yes {dst : Option Nat} {j t : Nat} {want b : Bool} (hd : (ops[j]?).bind (·.dst) = some t) (ht : Nat.blt t n = true) (hb : σ t = .bool b) (hw : b = want)
    (k : RW P ops n Q (⟨dst, op, ty, pos, aft, none⟩ :: rest) σ w) : RW P ops n Q (⟨dst, op, ty, pos, aft, some (j, want)⟩ :: rest) σ w := by
  have e := yielded_act (n := n) hd ht hb
  have h1 : Region.wanted ⟨dst, op, ty, pos, aft, some (j, want)⟩ (yielded ops (act n σ).tmps) = true := by simp [Region.wanted, e, hw]
  have h0 : Region.wanted ⟨dst, op, ty, pos, aft, none⟩ (yielded ops (act n σ).tmps) = true := rfl
  unfold RW at k ⊢
  rw [wpList, if_pos h0] at k
  rw [wpList, if_pos h1]
  exact k
theorem r_no {d : Nat} {j t : Nat} {want b : Bool} (hd : (ops[j]?).bind (·.dst) = some t) (ht : Nat.blt t n = true) (hb : σ t = .bool b) (hw : b = !want)
    (k : RW P ops n Q rest (upd σ d undef) w) : RW P ops n Q (⟨some d, op, ty, pos, aft, some (j, want)⟩ :: rest) σ w := by
  have e := yielded_act (n := n) hd ht hb
  have h1 : ¬ (Region.wanted ⟨some d, op, ty, pos, aft, some (j, want)⟩ (yielded ops (act n σ).tmps) = true) := by
    simp [Region.wanted, e, hw]
  unfold RW at k ⊢
  rw [wpList, if_neg h1, put_act]
  exact k
theorem r_noN {j t : Nat} {want b : Bool} (hd : (ops[j]?).bind (·.dst) = some t) (ht : Nat.blt t n = true) (hb : σ t = .bool b) (hw : b = !want)
    (k : RW P ops n Q rest σ w) : RW P ops n Q (⟨none, op, ty, pos, aft, some (j, want)⟩ :: rest) σ w := by
  have e := yielded_act (n := n) hd ht hb
  have h1 : ¬ (Region.wanted ⟨none, op, ty, pos, aft, some (j, want)⟩ (yielded ops (act n σ).tmps) = true) := by
    simp [Region.wanted, e, hw]
  unfold RW at k ⊢
  rw [wpList, if_neg h1]
  exact k

/-- The body's post. -/
def bodyQ (P : Program) (fn : Func) (R : Ending → World → Prop) : Exit → Env → World → Prop
  | .normal, σ, w | .ret, σ, w => ∃ v, (results fn (act fn.ntmps σ).tmps).run P w = .ok v w ∧ R (.returned v) w
  | _, _, _ => False
def args0 (args : Array Value) : Env := fun i => args.toList.getD i undef
theorem calls_of_W {f : FuncId} {fn : Func} {c : Code} {args : Array Value} {R : Ending → World → Prop} (hf : P.funcs[f]? = some fn) (hb : fn.body = some c)
    (n : Nat) (hnn : fn.ntmps = n) (hn : args.size ≤ n) (h : W P n c (bodyQ P fn R) (args0 args) w) : Calls P f args w R := by
  subst hnn
  refine calls_of_wp hf hb ?_
  have e : ({ tmps := args ++ Array.replicate (fn.ntmps - args.size) undef, defers := [] } : Act) = act fn.ntmps (args0 args) := by
    simp only [act]
    congr 1
    apply Array.ext
    · simp; omega
    · intro i h1 h2
      simp only [Array.size_map, Array.size_range] at h2
      simp only [Array.getElem_map, Array.getElem_range, args0]
      by_cases hi : i < args.size
      · rw [Array.getElem_append_left hi, List.getD_eq_getElem?_getD, List.getElem?_eq_getElem (by simpa using hi)]; simp
      · rw [Array.getElem_append_right (by omega), List.getD_eq_getElem?_getD, List.getElem?_eq_none (by simpa using hi)]; simp
  rw [e]
  refine Code.wp_mono ?_ h
  rintro e a w ⟨σ, rfl, q⟩
  cases e with
  | normal => obtain ⟨v, hr, q⟩ := q; exact ⟨rfl, v, hr, q⟩
  | ret => obtain ⟨v, hr, q⟩ := q; exact ⟨rfl, v, hr, q⟩
  | exit _ => exact q.elim
  | goto _ => exact q.elim
  | panic _ => exact q.elim
  | outgrown => exact q.elim
/-! ### The ways through what stands around a piece of code -/
theorem thenW_n {next : Env → World → Prop} (h : next σ w) : thenW next Q .normal σ w := h
theorem thenW_x {next : Env → World → Prop} {id : Nat} (h : Q (.exit id) σ w) : thenW next Q (.exit id) σ w := h
theorem thenW_r {next : Env → World → Prop} (h : Q .ret σ w) : thenW next Q .ret σ w := h
theorem inBlk_n {id : Nat} (h : Q .normal σ w) : inBlk id Q .normal σ w := h
theorem inBlk_r {id : Nat} (h : Q .ret σ w) : inBlk id Q .ret σ w := h
theorem inBlk_xs {id : Nat} (h : Q .normal σ w) : inBlk id Q (.exit id) σ w := by
  have : Nat.beq id id = true := Nat.beq_refl id
  simpa [inBlk, this] using h
theorem inBlk_xo {id id' : Nat} (hne : Nat.beq id' id = false) (h : Q (.exit id') σ w) : inBlk id Q (.exit id') σ w := by
  simpa [inBlk, hne] using h
/-- Slots that are said over slots that are not. -/
def ovl (τ : Env) : List (Nat × Value) → Env
  | [] => τ
  | (i, v) :: l => upd (ovl τ l) i v
theorem ovl_nil (σ : Env) : ovl σ [] = σ := rfl
theorem ovl_cons {σ : Env} {l : List (Nat × Value)} {i : Nat} {v : Value} (h : ovl σ l = σ) (hv : σ i = v) : ovl σ ((i, v) :: l) = σ := by
  funext j
  show upd (ovl σ l) i v j = σ j
  rw [h]
  by_cases e : j = i
  · subst e; rw [upd_same, hv]
  · rw [upd_ne _ _ _ _ e]
/-- No way out by a panic. -/
theorem np_then {next : Env → World → Prop} (h : ∀ ch σ w, ¬ Q (.panic ch) σ w) : ∀ ch σ w, ¬ thenW next Q (.panic ch) σ w := h
theorem np_blk {id : Nat} (h : ∀ ch σ w, ¬ Q (.panic ch) σ w) : ∀ ch σ w, ¬ inBlk id Q (.panic ch) σ w := h
theorem np_body {fn : Func} {R : Ending → World → Prop} : ∀ ch σ w, ¬ bodyQ P fn R (.panic ch) σ w := fun _ _ _ h => h
end rules
end Go.Proofs.YthomkocjjkmnkaaDoor
