import Derived.Test.YthomkocjjkmnkaaDoorApp
/- Results; regions whose order is drawn. -/
namespace Go.Proofs.YthomkocjjkmnkaaDoor
open Go Go.RowKit

section
variable {P : Program} {fn : Func} {R : Ending → World → Prop} {σ : Env} {w : World}
theorem getD_act {n t : Nat} {σ : Env} (h : Nat.blt t n = true) : (act n σ).tmps.getD t undef = σ t := by
  have ht' : t < n := by simpa [Nat.blt_eq] using h
  simp [act, ht']
theorem q_none (h : fn.results = #[]) (hR : R (.returned (.tuple #[])) w) : bodyQ P fn R .normal σ w := ⟨_, results_none h _ P w, hR⟩
theorem q_ret0 (h : fn.results = #[]) (hR : R (.returned (.tuple #[])) w) : bodyQ P fn R .ret σ w := ⟨_, results_none h _ P w, hR⟩
theorem q_ret1 {a : Nat} {v : Value} (h : fn.results = #[.tmp a]) (ha : Nat.blt a fn.ntmps = true) (hv : σ a = v) (hR : R (.returned v) w) : bodyQ P fn R .ret σ w :=
  ⟨v, by rw [results_tmp h, getD_act ha, hv], hR⟩
theorem q_ret2 {a b : Nat} {v u : Value} (h : fn.results = #[.tmp a, .tmp b]) (ha : Nat.blt a fn.ntmps = true) (hb : Nat.blt b fn.ntmps = true) (hv : σ a = v) (hu : σ b = u) (hR : R (.returned (.tuple #[v, u])) w) : bodyQ P fn R .ret σ w :=
  ⟨_, by rw [results_tmp2 h, getD_act ha, getD_act hb, hv, hu], hR⟩
theorem q_ret3 {a b c : Nat} {v u x : Value} (h : fn.results = #[.tmp a, .tmp b, .tmp c]) (ha : Nat.blt a fn.ntmps = true) (hb : Nat.blt b fn.ntmps = true) (hc : Nat.blt c fn.ntmps = true) (hv : σ a = v) (hu : σ b = u) (hx : σ c = x)
    (hR : R (.returned (.tuple #[v, u, x])) w) : bodyQ P fn R .ret σ w :=
  ⟨_, by rw [results_tmp3 h, getD_act ha, getD_act hb, getD_act hc, hv, hu, hx], hR⟩
/-- One result, that lies in a block of its own. -/
theorem q_retC {a ty e b : Nat} {l : List Value} (h : fn.results = #[.cell a ty]) (ha : Nat.blt a fn.ntmps = true) (hv : σ a = .pointer (some ⟨b, 0, none⟩)) (hk : (P.underlying ty).map TypeDesc.isRow = some true)
    (hs : (P.info? ty).map (·.size) = some l.length) (hB : Blk w b e l) (hR : R (.returned (.agg l.toArray)) w) : bodyQ P fn R .ret σ w := by
  refine ⟨_, ?_, hR⟩
  cases hu : P.underlying ty with
  | none => rw [hu] at hk; cases hk
  | some d =>
    exact results_cell_row h _ w b e l.toArray (0, 0) d (by rw [getD_act ha, hv]) hB hu (by rw [hu] at hk; cases d <;> simp_all) (by simpa using hs)
end

section
variable {P : Program} {ops : Array Oper} {Q : Exit → Act → World → Prop} {md : Region.Mode} {S : World → Prop} {c : Nat}

/-- Whatever order is picked from here on; till operation c has come up, S holds behind whatever is carried out. -/
def wpAnyD (P : Program) (md : Region.Mode) (ops : Array Oper) (Q : Exit → Act → World → Prop) (c : Nat) (S : World → Prop) : Nat → Array Bool → Act → World → Prop
  | 0, listed, a, w => Region.ready md ops listed = [] ∧ Q .normal a w
  | fuel + 1, listed, a, w =>
    (Region.ready md ops listed = [] → Q .normal a w) ∧
    ∀ i ∈ Region.ready md ops listed, wpOp P ops Q i (fun a' w' => ((listed.setIfInBounds i true).getD c false = false → S w') ∧ wpAnyD P md ops Q c S fuel (listed.setIfInBounds i true) a' w') a w

theorem wpAny_of_duty : ∀ (fuel : Nat) (listed : Array Bool) (a : Act) (w : World), wpAnyD P md ops Q c S fuel listed a w → wpAny P md ops Q fuel listed a w
  | 0, _, _, _, h => h
  | fuel + 1, _, _, _, h => ⟨h.1, fun i hi => wpOp_mono (fun a' w' h' => wpAny_of_duty fuel _ a' w' h'.2) (h.2 i hi)⟩

/-! ### What comes up early -/
/-- An operation's outcome in a world: a value, or a call that comes back with it and has changed nothing. -/
def Gives (P : Program) (v : Value) (w : World) (r : Result Next) : Prop :=
  r = .ok (.value v) w ∨ ∃ f args, r = .ok (.enter f args) w ∧ Calls P f args w (fun e w' => e = .returned v ∧ w = w')
def YieldsC (P : Program) (ops : Array Oper) (S : World → Prop) (o : Oper) (v : Value) (a : Act) : Prop :=
  (Region.wanted o (yielded ops a.tmps) = true ∧ ∀ w, S w → Gives P v w ((execOp a.eval o).run P w)) ∨ (Region.wanted o (yielded ops a.tmps) = false ∧ v = undef)
theorem YieldsC.wpOp {i : Nat} {o : Oper} {v : Value} {a : Act} (hi : ops[i]? = some o) (hy : YieldsC P ops S o v a) {K : Act → World → Prop} {w : World} (hS : S w) (h : K (a.put o.dst v) w) : Go.wpOp P ops Q i K a w := by
  unfold Go.wpOp
  rw [hi]
  rcases hy with ⟨hw, hv⟩ | ⟨hw, rfl⟩
  · simp only [hw, if_true]
    refine .inl ?_
    unfold Oper.wp
    rcases hv w hS with e | ⟨f, args, e, hc⟩
    · rw [e]; exact h
    · rw [e]
      refine hc.mono ?_
      rintro e' w' ⟨rfl, rfl⟩
      exact h
  · simp only [hw, Bool.false_eq_true, if_false]; exact h
/-- It stays so behind another operation that is apart from it. -/
theorem YieldsC.put {oi oj : Oper} {v : Value} {a : Act} (hy : YieldsC P ops S oi v a) (hsi : ∀ cs b, oi.op ≠ .select cs b) (h3 : ∀ d, oj.dst = some d → d ∉ oi.looksAt ops) (u : Value) : YieldsC P ops S oi v (a.put oj.dst u) := by
  unfold YieldsC at *
  rw [execOp_put oi hsi a oj.dst u h3, wanted_put oi a oj.dst u h3]
  exact hy
theorem wpOp_putC {j : Nat} {oi oj : Oper} {v : Value} (hj : ops[j]? = some oj) (hap : oi.apart ops oj = true) (hsi : ∀ cs b, oi.op ≠ .select cs b) (hsj : ∀ cs b, oj.op ≠ .select cs b)
    (hQ : ∀ c a w, Q (.panic c) (a.put oi.dst v) w → Q (.panic c) a w) {K : Act → World → Prop} {a : Act} {w : World} (hy : YieldsC P ops S oi v a) (h : wpOp P ops Q j K (a.put oi.dst v) w) :
    wpOp P ops Q j (fun a' w' => YieldsC P ops S oi v a' ∧ K (a'.put oi.dst v) w') a w := by
  obtain ⟨h1, h2, h3⟩ := Oper.apart_spec hap
  have run : execOp (a.put oi.dst v).eval oj = execOp a.eval oj := execOp_put oj hsj a oi.dst v h1
  have go : ∀ u w', K ((a.put oi.dst v).put oj.dst u) w' → YieldsC P ops S oi v (a.put oj.dst u) ∧ K ((a.put oj.dst u).put oi.dst v) w' := fun u w' hk =>
    ⟨hy.put hsi h3 u, by rw [← Act.put_comm a v u h2]; exact hk⟩
  unfold Go.wpOp at *
  rw [hj] at h ⊢
  simp only [wanted_put oj a oi.dst v h1] at h
  cases hw : Region.wanted oj (yielded ops a.tmps) with
  | false =>
    simp only [hw, Bool.false_eq_true, if_false] at h ⊢
    exact go undef w h
  | true =>
    simp only [hw, if_true] at h ⊢
    refine h.imp (fun h => ?_) (fun ⟨ha, hl⟩ => ⟨by unfold Oper.asks at *; rw [run] at ha; exact ha, hl⟩)
    unfold Oper.wp at *
    rw [run] at h
    cases hr : (execOp a.eval oj).run P w with
    | ok n w' =>
      rw [hr] at h
      cases n with
      | value u => exact go u w' h
      | skip => exact go undef w' h
      | defer d =>
        have hyd : YieldsC P ops S oi v ({ a with defers := d :: a.defers } : Act) := hy
        refine ⟨hyd.put hsi h3 undef, ?_⟩
        have h' : K (({ (a.put oi.dst v) with defers := d :: (a.put oi.dst v).defers } : Act).put oj.dst undef) w' := h
        rw [← Act.put_comm _ v undef h2, ← Act.put_defers]
        exact h'
      | enter f args =>
        refine Calls.mono (show Calls P f args w' _ from h) fun e w'' he => ?_
        cases e with
        | returned u => exact go u w'' he
        | panicked c => exact hQ _ _ _ he
        | outgrown => exact he
      | row row args => exact Rows.mono (show Rows P row args w' _ from h) fun u w'' he => go u w'' he
      | _ => exact False.elim h
    | halt x w' =>
      rw [hr] at h
      cases x <;> first | exact hQ _ _ _ h | exact h

theorem wpAnyD_first {i : Nat} {oi : Oper} {v : Value} (hi : ops[i]? = some oi) (hsel : ∀ (j : Nat) (o : Oper) cs b, ops[j]? = some o → o.op ≠ .select cs b)
    (hQ : ∀ c a w, Q (.panic c) (a.put oi.dst v) w → Q (.panic c) a w) (hci : c ≠ i) (hcw : ops.size ≤ c ∨ ∃ oc, ops[c]? = some oc ∧ ∃ e ∈ oc.after, Region.binds md e = true ∧ e.on = i) :
    ∀ (fuel : Nat) (listed : Array Bool) (a : Act) (w : World),
      (∀ j oj, ops[j]? = some oj → j ≠ i → listed.getD j true = false → (∀ e ∈ oj.after, Region.binds md e = true → e.on ≠ i) → oi.apart ops oj = true) →
      listed.getD c false = false → i ∈ Region.ready md ops listed → YieldsC P ops S oi v a → S w →
      wpAnyD P md ops Q c S fuel (listed.setIfInBounds i true) (a.put oi.dst v) w → wpAnyD P md ops Q c S (fuel + 1) listed a w := by
  have cw : ∀ listed : Array Bool, i ∈ Region.ready md ops listed → c ∉ Region.ready md ops listed := by
    intro listed hr hc
    obtain ⟨_, o, ho, hall⟩ := mem_ready.1 hc
    rcases hcw with hcw | ⟨oc, hoc, e, he, hb, hon⟩
    · rw [Array.getElem?_eq_none hcw] at ho; cases ho
    rw [hoc] at ho
    cases ho
    have h1 := hall e he hb
    have h0 := (mem_ready.1 hr).1
    rw [hon] at h1
    rcases Nat.lt_or_ge i listed.size with h' | h'
    · simp [h'] at h0 h1; rw [h0] at h1; cases h1
    · simp [Array.getElem?_eq_none h'] at h1
  intro fuel
  induction fuel with
  | zero =>
    intro listed a w _ hc hr hy hS H
    refine ⟨fun h => (by rw [h] at hr; cases hr), fun j hj => ?_⟩
    by_cases hji : j = i
    · subst hji; exact hy.wpOp hi hS ⟨fun _ => hS, H⟩
    · have := ready_mono hj hji
      rw [H.1] at this
      cases this
  | succ fuel ih =>
    intro listed a w hfree hc hr hy hS H
    refine ⟨fun h => (by rw [h] at hr; cases hr), fun j hj => ?_⟩
    by_cases hji : j = i
    · subst hji; exact hy.wpOp hi hS ⟨fun _ => hS, H⟩
    · have h1 := H.2 j (ready_mono hj hji)
      obtain ⟨hjun, oj, hoj, hall⟩ := mem_ready.1 hj
      have hjc : j ≠ c := fun e => cw listed hr (e ▸ hj)
      have hnot : ∀ e ∈ oj.after, Region.binds md e = true → e.on ≠ i := fun e he hb heq => by
        have h1 := hall e he hb
        have h0 := (mem_ready.1 hr).1
        rw [heq] at h1
        rcases Nat.lt_or_ge i listed.size with h' | h'
        · simp [h'] at h0 h1; rw [h0] at h1; cases h1
        · simp [Array.getElem?_eq_none h'] at h1
      have h2 := wpOp_putC hoj (hfree j oj hoj hji hjun hnot) (fun cs b => hsel i oi cs b hi) (fun cs b => hsel j oj cs b hoj) hQ hy h1
      have hfree' : ∀ k ok, ops[k]? = some ok → k ≠ i → (listed.setIfInBounds j true).getD k true = false →
          (∀ e ∈ ok.after, Region.binds md e = true → e.on ≠ i) → oi.apart ops ok = true := fun k ok hk hki hun hno => by
        refine hfree k ok hk hki ?_ hno
        by_cases hjk : j = k
        · subst hjk; exact hjun
        · rw [getD_set_ne true hjk] at hun; exact hun
      have hc' : (listed.setIfInBounds j true).getD c false = false := by rw [getD_set_ne false hjc]; exact hc
      have hcc : ((listed.setIfInBounds i true).setIfInBounds j true).getD c false = false := by
        rw [getD_set_ne false hjc, getD_set_ne false (Ne.symm hci)]; exact hc
      refine wpOp_mono (fun a' w' h3 => ⟨fun _ => h3.2.1 hcc, ih (listed.setIfInBounds j true) a' w' hfree' hc' (ready_mono hr (Ne.symm hji)) h3.1 (h3.2.1 hcc) ?_⟩) h2
      rw [Array.setIfInBounds_comm _ _ hji]
      exact h3.2.2

/-- An operation that yields in whatever world is taken first. -/
theorem wpAnyD_pure {i : Nat} {oi : Oper} {v : Value} (hi : ops[i]? = some oi) (hsel : ∀ (j : Nat) (o : Oper) cs b, ops[j]? = some o → o.op ≠ .select cs b)
    (hQ : ∀ c a w, Q (.panic c) (a.put oi.dst v) w → Q (.panic c) a w) (hci : c ≠ i) :
    ∀ (fuel : Nat) (listed : Array Bool) (a : Act) (w : World),
      (∀ j oj, ops[j]? = some oj → j ≠ i → listed.getD j true = false → (∀ e ∈ oj.after, Region.binds md e = true → e.on ≠ i) → oi.apart ops oj = true) →
      i ∈ Region.ready md ops listed → YieldsC P ops (fun _ => True) oi v a → (listed.getD c false = false → S w) →
      wpAnyD P md ops Q c S fuel (listed.setIfInBounds i true) (a.put oi.dst v) w → wpAnyD P md ops Q c S (fuel + 1) listed a w := by
  intro fuel
  induction fuel with
  | zero =>
    intro listed a w _ hr hy hS H
    refine ⟨fun h => (by rw [h] at hr; cases hr), fun j hj => ?_⟩
    by_cases hji : j = i
    · subst hji; exact hy.wpOp hi trivial ⟨fun h => hS (by rw [getD_set_ne false (Ne.symm hci)] at h; exact h), H⟩
    · have := ready_mono hj hji
      rw [H.1] at this
      cases this
  | succ fuel ih =>
    intro listed a w hfree hr hy hS H
    refine ⟨fun h => (by rw [h] at hr; cases hr), fun j hj => ?_⟩
    by_cases hji : j = i
    · subst hji; exact hy.wpOp hi trivial ⟨fun h => hS (by rw [getD_set_ne false (Ne.symm hci)] at h; exact h), H⟩
    · have h1 := H.2 j (ready_mono hj hji)
      obtain ⟨hjun, oj, hoj, hall⟩ := mem_ready.1 hj
      have hnot : ∀ e ∈ oj.after, Region.binds md e = true → e.on ≠ i := fun e he hb heq => by
        have h1 := hall e he hb
        have h0 := (mem_ready.1 hr).1
        rw [heq] at h1
        rcases Nat.lt_or_ge i listed.size with h' | h'
        · simp [h'] at h0 h1; rw [h0] at h1; cases h1
        · simp [Array.getElem?_eq_none h'] at h1
      have h2 := wpOp_putC hoj (hfree j oj hoj hji hjun hnot) (fun cs b => hsel i oi cs b hi) (fun cs b => hsel j oj cs b hoj) hQ hy h1
      have hfree' : ∀ k ok, ops[k]? = some ok → k ≠ i → (listed.setIfInBounds j true).getD k true = false →
          (∀ e ∈ ok.after, Region.binds md e = true → e.on ≠ i) → oi.apart ops ok = true := fun k ok hk hki hun hno => by
        refine hfree k ok hk hki ?_ hno
        by_cases hjk : j = k
        · subst hjk; exact hjun
        · rw [getD_set_ne true hjk] at hun; exact hun
      have hcc : (listed.setIfInBounds j true).getD c false = false → ((listed.setIfInBounds i true).setIfInBounds j true).getD c false = false := by
        intro h
        rw [Array.setIfInBounds_comm _ _ (fun e => hji e.symm), getD_set_ne false (Ne.symm hci)]
        exact h
      refine wpOp_mono (fun a' w' h3 => ⟨fun h => h3.2.1 (hcc h), ih (listed.setIfInBounds j true) a' w' hfree' (ready_mono hr (Ne.symm hji)) h3.1 (fun h => h3.2.1 (hcc h)) ?_⟩) h2
      rw [Array.setIfInBounds_comm _ _ hji]
      exact h3.2.2
end

/-! ### The same, over slots -/
def RD (P : Program) (ops : Array Oper) (n : Nat) (Q : Exit → Env → World → Prop) (c : Nat) (S : World → Prop) (fuel : Nat) (listed : List Bool) (σ : Env) (w : World) : Prop :=
  wpAnyD P .any ops (lift n Q) c S fuel listed.toArray (act n σ) w
/-- What binds, of what an operation waits for. -/
def waitsOn (o : Oper) (i : Nat) : Bool := o.after.toList.any fun e => Region.binds .any e && Nat.beq e.on i
/-- The checks of a take, as one Bool. -/
def takeOk (ops : Array Oper) (n : Nat) (listed : List Bool) (i : Nat) (op : Op) : Bool :=
  Region.noSelect ops && Region.free .any ops listed.toArray i && (Region.ready .any ops listed.toArray).contains i && okOp n op
section
variable {P : Program} {ops : Array Oper} {n : Nat} {Q : Exit → Env → World → Prop} {c : Nat} {S : World → Prop} {fuel : Nat} {listed : List Bool} {σ : Env} {w : World} {d : Nat} {op : Op} {ty : TypeId} {pos : String} {aft : Array Edge}
theorem lift_panic (hQ : ∀ ch σ w, ¬ Q (.panic ch) σ w) {dst : Option Nat} {v : Value} : ∀ c a w, lift n Q (.panic c) (Act.put a dst v) w → lift n Q (.panic c) a w :=
  fun _ _ _ ⟨_, _, h⟩ => (hQ _ _ _ h).elim
theorem set_toArray (l : List Bool) (i : Nat) : l.toArray.setIfInBounds i true = (l.set i true).toArray := by simp
theorem d_begin {id : Nat} {l : List Oper} (hm : P.follows .mixedOrders = true) (c : Nat) (S : World → Prop)
    (h : RD P l.toArray n Q c S l.length (List.replicate l.length false) σ w.drew) : W P n (.region id l.toArray true) Q σ w := by
  unfold RD at h
  refine wp_region_any hm ?_
  have := wpAny_of_duty _ _ _ _ h
  simpa using this
theorem d_pure' {i : Nat} {g : Option (Nat × Bool)} {v : Value} (hi : ops[i]? = some ⟨some d, op, ty, pos, aft, g⟩) (hk : takeOk ops n listed i op = true) (hQ : ∀ ch σ w, ¬ Q (.panic ch) σ w) (hci : Nat.beq i c = false)
    (hg : Region.wanted ⟨some d, op, ty, pos, aft, g⟩ (yielded ops (act n σ).tmps) = true)
    (hv : ∀ w, (execOp (ev σ) ⟨some d, op, ty, pos, aft, none⟩).run P w = .ok (.value v) w) (hS : listed.getD c false = false → S w)
    (h : RD P ops n Q c S fuel (listed.set i true) (upd σ d v) w) : RD P ops n Q c S (fuel + 1) listed σ w := by
  simp only [takeOk, Bool.and_eq_true] at hk
  obtain ⟨⟨⟨hs, hf⟩, hr⟩, hok⟩ := hk
  have hci' : c ≠ i := fun e => by subst e; simp at hci
  refine wpAnyD_pure (v := v) hi (Region.noSelect_spec hs) (lift_panic hQ) hci' fuel listed.toArray (act n σ) w (Region.free_spec hi hf) (by simpa using hr) (.inl ⟨hg, fun w _ => .inl ?_⟩) (fun hx => hS (by simpa [List.getD_eq_getElem?_getD] using hx)) ?_
  · rw [execOp_act (o := ⟨some d, op, ty, pos, aft, g⟩) hok]; exact hv w
  · rw [set_toArray, put_act]; exact h
theorem d_load' {i : Nat} {g : Option (Nat × Bool)} {v : Value} (hi : ops[i]? = some ⟨some d, op, ty, pos, aft, g⟩) (hk : takeOk ops n listed i op = true) (hQ : ∀ ch σ w, ¬ Q (.panic ch) σ w) (hci : Nat.beq i c = false)
    (hcw : (Nat.ble ops.size c || ((ops[c]?).map (waitsOn · i)).getD false) = true) (hcl : listed.getD c false = false)
    (hg : Region.wanted ⟨some d, op, ty, pos, aft, g⟩ (yielded ops (act n σ).tmps) = true)
    (hv : ∀ w, S w → (execOp (ev σ) ⟨some d, op, ty, pos, aft, none⟩).run P w = .ok (.value v) w) (hS : S w)
    (h : RD P ops n Q c S fuel (listed.set i true) (upd σ d v) w) : RD P ops n Q c S (fuel + 1) listed σ w := by
  simp only [takeOk, Bool.and_eq_true] at hk
  obtain ⟨⟨⟨hs, hf⟩, hr⟩, hok⟩ := hk
  have hci' : c ≠ i := fun e => by subst e; simp at hci
  have hcw' : ops.size ≤ c ∨ ∃ oc, ops[c]? = some oc ∧ ∃ e ∈ oc.after, Region.binds .any e = true ∧ e.on = i := by
    rw [Bool.or_eq_true] at hcw
    rcases hcw with h | h
    · exact .inl (Nat.le_of_ble_eq_true h)
    · cases ho : ops[c]? with
      | none => rw [ho] at h; cases h
      | some oc =>
        rw [ho] at h
        obtain ⟨e, he, h⟩ := List.any_eq_true.1 h
        simp only [Bool.and_eq_true] at h
        exact .inr ⟨oc, rfl, e, by simpa using he, h.1, Nat.eq_of_beq_eq_true h.2⟩
  refine wpAnyD_first (v := v) hi (Region.noSelect_spec hs) (lift_panic hQ) hci' hcw' fuel listed.toArray (act n σ) w (Region.free_spec hi hf) (by simpa [List.getD_eq_getElem?_getD] using hcl) (by simpa using hr) (.inl ⟨hg, fun w hw => .inl ?_⟩) hS ?_
  · rw [execOp_act (o := ⟨some d, op, ty, pos, aft, g⟩) hok]; exact hv w hw
  · rw [set_toArray, put_act]; exact h
/-- A call that comes back with its value and has changed nothing, in whatever world. -/
theorem d_call' {i : Nat} {g : Option (Nat × Bool)} {v : Value} {f : FuncId} {args : Array Value} (hi : ops[i]? = some ⟨some d, op, ty, pos, aft, g⟩) (hk : takeOk ops n listed i op = true) (hQ : ∀ ch σ w, ¬ Q (.panic ch) σ w) (hci : Nat.beq i c = false)
    (hg : Region.wanted ⟨some d, op, ty, pos, aft, g⟩ (yielded ops (act n σ).tmps) = true)
    (hv : ∀ w, (execOp (ev σ) ⟨some d, op, ty, pos, aft, none⟩).run P w = .ok (.enter f args) w) (hcall : ∀ w, Calls P f args w (fun e w' => e = .returned v ∧ w = w')) (hS : listed.getD c false = false → S w)
    (h : RD P ops n Q c S fuel (listed.set i true) (upd σ d v) w) : RD P ops n Q c S (fuel + 1) listed σ w := by
  simp only [takeOk, Bool.and_eq_true] at hk
  obtain ⟨⟨⟨hs, hf⟩, hr⟩, hok⟩ := hk
  have hci' : c ≠ i := fun e => by subst e; simp at hci
  refine wpAnyD_pure (v := v) hi (Region.noSelect_spec hs) (lift_panic hQ) hci' fuel listed.toArray (act n σ) w (Region.free_spec hi hf) (by simpa using hr) (.inl ⟨hg, fun w _ => .inr ⟨f, args, ?_, hcall w⟩⟩) (fun hx => hS (by simpa [List.getD_eq_getElem?_getD] using hx)) ?_
  · rw [execOp_act (o := ⟨some d, op, ty, pos, aft, g⟩) hok]; exact hv w
  · rw [set_toArray, put_act]; exact h
theorem d_call {i : Nat} {v : Value} {f : FuncId} {args : Array Value} (hi : ops[i]? = some ⟨some d, op, ty, pos, aft, none⟩) (hk : takeOk ops n listed i op = true) (hQ : ∀ ch σ w, ¬ Q (.panic ch) σ w) (hci : Nat.beq i c = false)
    (hv : ∀ w, (execOp (ev σ) ⟨some d, op, ty, pos, aft, none⟩).run P w = .ok (.enter f args) w) (hcall : ∀ w, Calls P f args w (fun e w' => e = .returned v ∧ w = w')) (hS : listed.getD c false = false → S w)
    (h : RD P ops n Q c S fuel (listed.set i true) (upd σ d v) w) : RD P ops n Q c S (fuel + 1) listed σ w := d_call' hi hk hQ hci rfl hv hcall hS h
theorem d_pure {i : Nat} {v : Value} (hi : ops[i]? = some ⟨some d, op, ty, pos, aft, none⟩) (hk : takeOk ops n listed i op = true) (hQ : ∀ ch σ w, ¬ Q (.panic ch) σ w) (hci : Nat.beq i c = false)
    (hv : ∀ w, (execOp (ev σ) ⟨some d, op, ty, pos, aft, none⟩).run P w = .ok (.value v) w) (hS : listed.getD c false = false → S w)
    (h : RD P ops n Q c S fuel (listed.set i true) (upd σ d v) w) : RD P ops n Q c S (fuel + 1) listed σ w := d_pure' hi hk hQ hci rfl hv hS h
theorem d_load {i : Nat} {v : Value} (hi : ops[i]? = some ⟨some d, op, ty, pos, aft, none⟩) (hk : takeOk ops n listed i op = true) (hQ : ∀ ch σ w, ¬ Q (.panic ch) σ w) (hci : Nat.beq i c = false)
    (hcw : (Nat.ble ops.size c || ((ops[c]?).map (waitsOn · i)).getD false) = true) (hcl : listed.getD c false = false)
    (hv : ∀ w, S w → (execOp (ev σ) ⟨some d, op, ty, pos, aft, none⟩).run P w = .ok (.value v) w) (hS : S w)
    (h : RD P ops n Q c S fuel (listed.set i true) (upd σ d v) w) : RD P ops n Q c S (fuel + 1) listed σ w := d_load' hi hk hQ hci hcw hcl rfl hv hS h
theorem wanted_act {dst : Option Nat} {j t : Nat} {want b : Bool} (hd : (ops[j]?).bind (·.dst) = some t) (ht : Nat.blt t n = true) (hb : σ t = .bool b) (hw : b = want) :
    Region.wanted ⟨dst, op, ty, pos, aft, some (j, want)⟩ (yielded ops (act n σ).tmps) = true := by
  have e := yielded_act (n := n) hd ht hb
  simp [Region.wanted, e, hw]
/-- What is guarded and not wanted. -/
theorem d_no {i j t : Nat} {want b : Bool} (hi : ops[i]? = some ⟨some d, op, ty, pos, aft, some (j, want)⟩) (hk : takeOk ops n listed i op = true) (hQ : ∀ ch σ w, ¬ Q (.panic ch) σ w) (hci : Nat.beq i c = false)
    (hd : (ops[j]?).bind (·.dst) = some t) (ht : Nat.blt t n = true) (hb : σ t = .bool b) (hw : b = !want) (hS : listed.getD c false = false → S w)
    (h : RD P ops n Q c S fuel (listed.set i true) (upd σ d undef) w) : RD P ops n Q c S (fuel + 1) listed σ w := by
  simp only [takeOk, Bool.and_eq_true] at hk
  obtain ⟨⟨⟨hs, hf⟩, hr⟩, hok⟩ := hk
  have hci' : c ≠ i := fun e => by subst e; simp at hci
  have e := yielded_act (n := n) hd ht hb
  refine wpAnyD_pure (v := undef) hi (Region.noSelect_spec hs) (lift_panic hQ) hci' fuel listed.toArray (act n σ) w (Region.free_spec hi hf) (by simpa using hr) (.inr ⟨by simp only [Region.wanted, e, hw]; cases want <;> rfl, rfl⟩) (fun hx => hS (by simpa [List.getD_eq_getElem?_getD] using hx)) ?_
  rw [set_toArray, put_act]; exact h
theorem wp_Q {o : Oper} {a : Act} {K : Act → World → Prop} {Q Q' : Exit → Act → World → Prop} (hp : ∀ c a w, Q' (.panic c) a w → Q (.panic c) a w) (ho : LetsOut Q' → LetsOut Q)
    (h : o.wp P a w K Q') : o.wp P a w K Q := by
  unfold Oper.wp at *
  generalize (execOp a.eval o).run P w = r at *
  cases r with
  | ok n w' =>
    cases n <;> simp only [Oper.upon] at h ⊢ <;> first | exact h | skip
    case enter f args =>
      refine Calls.mono h fun e w'' he => ?_
      cases e with
      | returned u => exact he
      | panicked c => exact hp _ _ _ he
      | outgrown => exact ho he
  | halt x w' =>
    cases x <;> simp only [Oper.upon] at h ⊢
    case panic u => exact hp _ _ _ h
/-- What must hold behind operation i, carried out where it comes up. -/
def afterD (P : Program) (ops : Array Oper) (n : Nat) (Q : Exit → Env → World → Prop) (c : Nat) (S : World → Prop) (fuel : Nat) (listed : List Bool) : Exit → Env → World → Prop
  | .normal, σ, w => (listed.getD c false = false → S w) ∧ RD P ops n Q c S fuel listed σ w
  | e, σ, w => Q e σ w
theorem d_one {i : Nat} {o : Oper} (hi : ops[i]? = some o) (h : RW P ops n (afterD P ops n Q c S fuel (listed.set i true)) [o] σ w) :
    wpOp P ops (lift n Q) i (fun a' w' => ((listed.toArray.setIfInBounds i true).getD c false = false → S w') ∧ wpAnyD P .any ops (lift n Q) c S fuel (listed.toArray.setIfInBounds i true) a' w') (act n σ) w := by
  unfold RW at h
  unfold wpOp
  simp only [hi]
  rw [wpList] at h
  have key : ∀ a w, wpList P ops (lift n (afterD P ops n Q c S fuel (listed.set i true))) [] a w →
      ((listed.toArray.setIfInBounds i true).getD c false = false → S w) ∧ wpAnyD P .any ops (lift n Q) c S fuel (listed.toArray.setIfInBounds i true) a w := by
    intro a w hh
    simp only [wpList] at hh
    obtain ⟨σ', rfl, h1, h2⟩ := hh
    rw [set_toArray]
    exact ⟨fun hx => h1 (by simpa [List.getD_eq_getElem?_getD] using hx), h2⟩
  split
  · rename_i hw
    rw [if_pos hw] at h
    refine h.imp (fun hh => ?_) (fun hh => ⟨hh.1, ?_⟩)
    · have := Oper.wp_mono key hh
      exact wp_Q (fun _ _ _ hh => hh) (fun hh => hh) this
    · obtain ⟨a0, w0, σ0, h0, q0⟩ := hh.2
      exact ⟨a0, w0, σ0, h0, q0⟩
  · rename_i hw
    rw [if_neg hw] at h
    exact key _ _ h
/-- The one that comes up, carried out: as in a plain region. -/
theorem d_force {i : Nat} {o : Oper} (hi : ops[i]? = some o) (hr : Region.ready .any ops listed.toArray = [i])
    (h : RW P ops n (afterD P ops n Q c S fuel (listed.set i true)) [o] σ w) : RD P ops n Q c S (fuel + 1) listed σ w := by
  refine ⟨fun h0 => (by rw [hr] at h0; cases h0), fun j hj => ?_⟩
  rw [hr] at hj
  obtain rfl : j = i := by simpa using hj
  exact d_one hi h
/-- One of two comes up. -/
theorem d_two {i j : Nat} {o o' : Oper} (hi : ops[i]? = some o) (hj : ops[j]? = some o') (hr : Region.ready .any ops listed.toArray = [i, j])
    (h : RW P ops n (afterD P ops n Q c S fuel (listed.set i true)) [o] σ w) (h' : RW P ops n (afterD P ops n Q c S fuel (listed.set j true)) [o'] σ w) : RD P ops n Q c S (fuel + 1) listed σ w := by
  refine ⟨fun h0 => (by rw [hr] at h0; cases h0), fun k hk => ?_⟩
  rw [hr] at hk
  simp only [List.mem_cons, List.not_mem_nil, or_false] at hk
  rcases hk with rfl | rfl
  · exact d_one hi h
  · exact d_one hj h'
theorem d_three {i j k : Nat} {o o' o2 : Oper} (hi : ops[i]? = some o) (hj : ops[j]? = some o') (hk : ops[k]? = some o2) (hr : Region.ready .any ops listed.toArray = [i, j, k])
    (h : RW P ops n (afterD P ops n Q c S fuel (listed.set i true)) [o] σ w) (h' : RW P ops n (afterD P ops n Q c S fuel (listed.set j true)) [o'] σ w)
    (h2 : RW P ops n (afterD P ops n Q c S fuel (listed.set k true)) [o2] σ w) : RD P ops n Q c S (fuel + 1) listed σ w := by
  refine ⟨fun h0 => (by rw [hr] at h0; cases h0), fun m hm => ?_⟩
  rw [hr] at hm
  simp only [List.mem_cons, List.not_mem_nil, or_false] at hm
  rcases hm with rfl | rfl | rfl
  · exact d_one hi h
  · exact d_one hj h'
  · exact d_one hk h2
theorem d_next (hS : listed.getD c false = false → S w) (h : RD P ops n Q c S fuel listed σ w) : RW P ops n (afterD P ops n Q c S fuel listed) [] σ w :=
  RW_nil ⟨hS, h⟩
theorem d_done (hr : Region.ready .any ops listed.toArray = []) (h : Q .normal σ w) : RD P ops n Q c S fuel listed σ w := by
  cases fuel with
  | zero => exact ⟨hr, σ, rfl, h⟩
  | succ f => exact ⟨fun _ => ⟨σ, rfl, h⟩, by rw [hr]; simp⟩
end
end Go.Proofs.YthomkocjjkmnkaaDoor
