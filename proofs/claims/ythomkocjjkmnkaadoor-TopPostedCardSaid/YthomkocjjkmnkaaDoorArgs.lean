import Derived.Test.YthomkocjjkmnkaaDoorRows
import Derived.Test.YthomkocjjkmnkaaDoorNetO
import Derived.Test.YthomkocjjkmnkaaDoorShaB
import Derived.ProofKit
import Derived.LaidMore
import Derived.OpenShut
import Derived.Stop.Joined
import Derived.Lib.LaidTab
import Derived.Deep.Slices
import Derived.Deep.Fields
import Derived.ChangeSame
/- The arguments of a law, and the listed variable, as the walks read them. -/
namespace Go.Proofs.YthomkocjjkmnkaaDoor
open Go Go.RowKit Go.ChangeShapes Go.WideShapes Go.ChangeAt Go.Deep
set_option maxRecDepth 100000
set_option linter.unusedVariables false
section
variable {H : Type} {enc : TypeId × Value → H} {P : Program} {w : World} {base : Nat} {spare : Nat → Bool} {held : Bool}
theorem open_slice_fields {t e : TypeId} {fs : Array Field} {fuel : Nat} {cs : List Value} {x : DataW H × List MemPlace} (ht : P.underlying t = some (.slice e)) (he : P.underlying e = some (.struct fs))
    (hone : oneCellFields P fs = true) (hC : P.cellsOf e = fs.size) (h : DataW.trod enc P w base spare held fuel t cs = some x) :
    (cs = [.slice none 0 0] ∧ x = (.nil, [])) ∨
    ∃ (a : Addr) (len cap m : Nat), cs = [.slice (some a) len cap] ∧ base ≤ a.block ∧ len ≤ cap ∧ cap ≤ maxLen ∧ m = (if spare a.block then cap else len) ∧
      ∀ i, i < m → ∀ (j : Nat) (f : Field), fs[j]? = some f → ∃ (v : Value) (y : DataW H × List MemPlace) (n : Nat), w.cell? (a.add (i * fs.size + j)) = some v ∧ DataW.trod enc P w base spare held n f.type [v] = some y := by
  rcases open_slice ht h with h0 | ⟨a, len, cap, m, n, D, Pl, hcs, hb, hl, hm, hmm, hx, hi⟩
  · exact .inl h0
  · refine .inr ⟨a, len, cap, m, hcs, hb, hl, hm, hmm, fun i him j f hj => ?_⟩
    obtain ⟨cs', hc, ht'⟩ := hi i him
    rw [hC] at hc
    obtain ⟨ys, n', hn', hy, hlen, hyl, hf⟩ := DataW.trod_struct he ht'
    obtain ⟨_, hcl, hat⟩ := World.cells?_some hc
    obtain ⟨ho, hk⟩ := hone_of hone j f hj
    have hjl : j < fs.size := (Array.getElem?_eq_some_iff.1 hj).1
    have hcell := hat j hjl
    have hv : cs'[j]? = some (cs'[j]'(by omega)) := List.getElem?_eq_getElem (by omega)
    have h1 := hf j f hj
    rw [ho, hk] at h1
    have hone' : (cs'.drop j).take 1 = [cs'[j]'(by omega)] := by
      rw [List.drop_eq_getElem_cons (by omega)]
      rfl
    rw [hone'] at h1
    have hys : ys[j]? = some (ys[j]'(by omega)) := List.getElem?_eq_getElem (by omega)
    refine ⟨_, _, n', ?_, h1.trans hys⟩
    rw [← Go.Deep.add_add, hcell, hv]
end
theorem exists_list {α : Type} {n : Nat} {Q : Nat → α → Prop} (d : α) (h : ∀ i, i < n → ∃ a, Q i a) : ∃ l : List α, l.length = n ∧ ∀ i, i < n → Q i (l.getD i d) := by
  induction n with
  | zero => exact ⟨[], rfl, fun i hi => absurd hi (Nat.not_lt_zero _)⟩
  | succ n ih =>
    obtain ⟨l, hl, hq⟩ := ih fun i hi => h i (by omega)
    obtain ⟨a, ha⟩ := h n (by omega)
    refine ⟨l ++ [a], by simp [hl], fun i hi => ?_⟩
    rcases Nat.lt_succ_iff_lt_or_eq.1 hi with h1 | rfl
    · have e : (l ++ [a]).getD i d = l.getD i d := by
        rw [List.getD_eq_getElem?_getD, List.getD_eq_getElem?_getD, List.getElem?_append_left (by omega)]
      rw [e]; exact hq i h1
    · have e : (l ++ [a]).getD i d = a := by
        rw [List.getD_eq_getElem?_getD, List.getElem?_append_right (by omega), hl, Nat.sub_self]; rfl
      rw [e]; exact ha
theorem encL_inv {α : Type} {E : α → List Value} {size : Nat} (hE : ∀ a, (E a).length = size) (d : α) : ∀ (l : List α) {j : Nat} {u : Value}, (encL E l)[j]? = some u → ∃ i f, i < l.length ∧ f < size ∧ j = i * size + f ∧ (E (l.getD i d))[f]? = some u := by
  intro l
  induction l with
  | nil => intro j u h; simp [encL] at h
  | cons a l ih =>
    intro j u h
    rw [encL_cons] at h
    rcases Nat.lt_or_ge j (E a).length with hlt | hge
    · rw [List.getElem?_append_left hlt] at h
      exact ⟨0, j, by simp, by rw [← hE a]; exact hlt, by omega, h⟩
    · rw [List.getElem?_append_right hge] at h
      obtain ⟨i, f, h1, h2, h3, h4⟩ := ih h
      refine ⟨i + 1, f, by simp; omega, h2, ?_, h4⟩
      rw [hE] at h3 hge
      rw [Nat.add_one_mul]; omega
section
variable {H : Type} {enc : TypeId × Value → H} {w : World} {base : Nat} {held : Bool} {fuel : Nat} {cs : List Value} {x : DataW H × List MemPlace}
/-- Bytes that came in. -/
theorem open_bytes (h : DataW.trod enc Tryd.prog w base (fun _ => true) held fuel 33 cs = some x) :
    ∃ FA mc, ∃ bs : List UInt8, cs = [.slice FA bs.length mc] ∧ Rd w 1 (.slice FA bs.length mc) bs.length (BC bs) := by
  rcases open_ints Tryd.underlying33 Tryd.underlying5 (by kernel_rfl) h with ⟨rfl, _⟩ | ⟨a, len, cap, zs, rfl, _, hl, hm, hz, _, hcell, hwz⟩
  · exact ⟨none, 0, [], rfl, Rd.nil _ _ _ _⟩
  · have hz' : zs.length = cap := by simpa using hz
    have hb : ∀ z ∈ zs, 0 ≤ z ∧ z < 256 := fun z hz => by
      have := hwz z hz
      simp [Lit.wf] at this
      have e1 : IntKind.u8.min = 0 := rfl
      have e2 : IntKind.u8.max = 255 := rfl
      omega
    have hbl : ((zs.take len).map fun z => UInt8.ofNat z.toNat).length = len := by rw [List.length_map, List.length_take]; omega
    refine ⟨some a, cap, (zs.take len).map fun z => UInt8.ofNat z.toNat, by rw [hbl], ?_⟩
    refine ⟨by rw [BC_length, Nat.mul_one], some a, cap, rfl, by omega, fun h0 => ?_⟩
    rw [hbl] at h0
    obtain ⟨b, off, rfl, hc⟩ := ints_at hcell (by omega)
    refine ⟨b, off, rfl, fun j u hu => ?_⟩
    unfold BC at hu
    rw [List.getElem?_map, List.getElem?_map] at hu
    rcases Nat.lt_or_ge j len with hj | hj
    · rw [List.getElem?_take, if_pos hj, List.getElem?_eq_getElem (by omega)] at hu
      simp only [Option.map_some, Option.some.injEq] at hu
      have h1 := hb zs[j] (List.getElem_mem _)
      have e : ((UInt8.ofNat zs[j].toNat).toNat : Int) = zs[j] := by rw [UInt8.toNat_ofNat']; omega
      rw [e] at hu
      rw [hc j (by omega), ← hu, List.getD_eq_getElem?_getD, List.getElem?_eq_getElem (by omega)]; rfl
    · rw [List.getElem?_eq_none (by rw [List.length_take]; omega)] at hu; cases hu
theorem open_i64 {t : TypeId} (ht : Tryd.prog.underlying t = some (.int .i64)) {v : Value} (h : DataW.trod enc Tryd.prog w base (fun _ => true) held fuel t [v] = some x) : ∃ n : Int, v = .int .i64 n ∧ -9223372036854775808 ≤ n ∧ n ≤ 9223372036854775807 := by
  obtain ⟨n, e0, _, wf⟩ := DataW.trod_int ht h
  simp at e0
  have := wf
  simp [Lit.wf] at this
  have e1 : IntKind.i64.min = -9223372036854775808 := rfl
  have e2 : IntKind.i64.max = 9223372036854775807 := rfl
  exact ⟨n, e0, by omega, by omega⟩
/-- Acts that came in. -/
theorem open_acts (h : DataW.trod enc Tryd.prog w base (fun _ => true) held fuel 22 cs = some x) :
    ∃ (A : Option Addr) (n c : Nat) (acts : List (Fl × Value)), cs = [.slice A n c] ∧ acts.length = n ∧ Rd w 5 (.slice A n c) n (encL FC acts) ∧
      ∀ p ∈ acts, Rd w 1 p.2 p.1.bs.length (BC p.1.bs) ∧ (-9223372036854775808 ≤ p.1.num ∧ p.1.num ≤ 9223372036854775807) ∧ (-9223372036854775808 ≤ p.1.frm ∧ p.1.frm ≤ 9223372036854775807) ∧ (-9223372036854775808 ≤ p.1.dst ∧ p.1.dst ≤ 9223372036854775807) ∧ (-9223372036854775808 ≤ p.1.due ∧ p.1.due ≤ 9223372036854775807) := by
  rcases open_slice_fields Tryd.underlying22 Tryd.underlying35 (by kernel_rfl) (by kernel_rfl) h with ⟨rfl, _⟩ | ⟨a, len, cap, m, rfl, _, hl, hm, hmm, hi⟩
  · exact ⟨none, 0, 0, [], rfl, rfl, Rd.nil _ _ _ _, fun p hp => by cases hp⟩
  · have hmc : m = cap := by simpa using hmm
    obtain ⟨acts, hal, hq⟩ := exists_list (n := len) (Q := fun i (p : Fl × Value) => (∀ j u, (FC p)[j]? = some u → w.cell? (a.add (i * 5 + j)) = some u) ∧ Rd w 1 p.2 p.1.bs.length (BC p.1.bs) ∧ (-9223372036854775808 ≤ p.1.num ∧ p.1.num ≤ 9223372036854775807) ∧ (-9223372036854775808 ≤ p.1.frm ∧ p.1.frm ≤ 9223372036854775807) ∧ (-9223372036854775808 ≤ p.1.dst ∧ p.1.dst ≤ 9223372036854775807) ∧ (-9223372036854775808 ≤ p.1.due ∧ p.1.due ≤ 9223372036854775807)) fl0 (fun i hilt => by
      have hf := hi i (by omega)
      obtain ⟨v0, y0, n0, c0, t0⟩ := hf 0 _ rfl
      obtain ⟨v1, y1, n1, c1, t1⟩ := hf 1 _ rfl
      obtain ⟨v2, y2, n2, c2, t2⟩ := hf 2 _ rfl
      obtain ⟨v3, y3, n3, c3, t3⟩ := hf 3 _ rfl
      obtain ⟨v4, y4, n4, c4, t4⟩ := hf 4 _ rfl
      obtain ⟨z0, rfl, b0⟩ := open_i64 Tryd.underlying3 t0
      obtain ⟨z1, rfl, b1⟩ := open_i64 Tryd.underlying3 t1
      obtain ⟨z2, rfl, b2⟩ := open_i64 Tryd.underlying3 t2
      obtain ⟨z3, rfl, b3⟩ := open_i64 Tryd.underlying3 t3
      obtain ⟨FA, mc, bs, hv, hr⟩ := open_bytes t4
      obtain rfl : v4 = .slice FA bs.length mc := by simpa using hv
      refine ⟨(⟨z0, z1, z2, z3, bs⟩, .slice FA bs.length mc), fun j u hu => ?_, hr, b0, b1, b2, b3⟩
      match j, hu with
      | 0, hu => injection hu with hu; subst hu; exact c0
      | 1, hu => injection hu with hu; subst hu; exact c1
      | 2, hu => injection hu with hu; subst hu; exact c2
      | 3, hu => injection hu with hu; subst hu; exact c3
      | 4, hu => injection hu with hu; subst hu; exact c4
      | j + 5, hu => simp [FC] at hu)
    have hmem : ∀ p ∈ acts, ∃ i, i < len ∧ acts.getD i fl0 = p := fun p hp => by
      obtain ⟨i, hi, rfl⟩ := List.mem_iff_getElem.1 hp
      exact ⟨i, by omega, by rw [List.getD_eq_getElem?_getD, List.getElem?_eq_getElem hi]; rfl⟩
    refine ⟨some a, len, cap, acts, rfl, hal, ⟨by rw [encL_length FC_len, hal], some a, cap, rfl, hl, fun h0 => ?_⟩, fun p hp => by
      obtain ⟨i, hi, rfl⟩ := hmem p hp
      exact (hq i hi).2⟩
    obtain ⟨b, off, spot⟩ := a
    have hs0 := (hq 0 h0).1 0 _ rfl
    have hspot : spot = none := by simpa [Addr.add] using World.cell?_spot hs0
    subst hspot
    refine ⟨b, off, rfl, fun j u hu => ?_⟩
    obtain ⟨i, f, h1, h2, rfl, h4⟩ := encL_inv FC_len fl0 acts hu
    have := (hq i (by omega)).1 f u h4
    rwa [Addr.add_mid] at this
end
theorem Tryd.gK : Tryd.prog.globalNamed "starling/digest.constants" = some 0 := by kernel_rfl
theorem Tryd.gKt : (Tryd.prog.globals[0]?).map (·.type) = some 247 := by kernel_rfl
/-- The listed variable: the digest's constants. -/
theorem kst_of_laid {W : World} (h : laidMetH Tryd.prog [("starling/digest.constants", Rows.laid_starling_digest_constants)] W) : Kst W := by
  rw [MakeChecks.laidMetH_plain _ _ _ (by kernel_rfl)] at h
  have hT := Lib.tabIs_of_head (k := .u32) (zs := ksL) Tryd.gK Tryd.gKt Tryd.underlying247 Tryd.underlying164 (by kernel_rfl) (by kernel_rfl) h
  exact fun k hk => hT.cell Tryd.gK k hk
theorem own : ownKnob Tryd.prog.godebug = none := by kernel_rfl
theorem laidOut : laidOutB Tryd.prog = true := by kernel_rfl
theorem door_met (os : Os) (args : Array Value) : laidMetH Tryd.prog [("starling/digest.constants", Rows.laid_starling_digest_constants)] ((World.doorLaid Tryd.prog 400 os).forCall (fun _ _ => 0) ⟨#[], args, []⟩).memory :=
  laidMetH_of_parts3 (fuel := 8) (laidMet_of_run' 8 (by kernel_rfl) (by kernel_rfl)) (by kernel_rfl) (by kernel_rfl)

end Go.Proofs.YthomkocjjkmnkaaDoor
