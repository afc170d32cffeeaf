import Derived.Test.YthomkocjjkmnkaaDoorNetJ
/- PRINTED by gen.py (wip/tools) from the plan wip/plans: walks. -/
namespace Go.Proofs.YthomkocjjkmnkaaDoor
open Go Go.RowKit
set_option maxRecDepth 100000
set_option linter.unusedVariables false

/-- Sorted by due, then by number. -/
def lef (p q : Fl) : Prop := p.due < q.due ∨ p.due = q.due ∧ p.num ≤ q.num
def aheadB (f p : Fl) : Bool := decide (p.due < f.due ∨ p.due = f.due ∧ p.num < f.num)
/-- Behind all that come ahead of it. -/
def insF (f : Fl) (l : List Fl) : List Fl := l.takeWhile (aheadB f) ++ f :: l.dropWhile (aheadB f)
theorem ahead_B (f : Fl) (p : Fl × Value) : ahead f.due f.num p ↔ aheadB f p.1 = true := by
  rw [ahead_iff]; simp [aheadB]
theorem ahead_mono {d m : Int} {l : List (Fl × Value)} (hs : (l.map (·.1)).Pairwise lef) : ∀ i j, i ≤ j → j < l.length → ahead d m (l.getD j fl0) → ahead d m (l.getD i fl0) := by
  intro i j hij hj h
  rcases Nat.lt_or_ge i j with hlt | hge
  · rw [ahead_iff] at h ⊢
    have e : ∀ k (hk : k < l.length), l.getD k fl0 = l[k] := fun k hk => by rw [List.getD_eq_getElem?_getD, List.getElem?_eq_getElem hk]; rfl
    have hp := List.pairwise_iff_getElem.1 hs i j (by simp; omega) (by simpa using hj) hlt
    rw [e j hj] at h
    rw [e i (by omega)]
    simp only [List.getElem_map, lef] at hp
    omega
  · have : i = j := by omega
    subst this; exact h
theorem ins_at {f : Fl} {l : List (Fl × Value)} {k : Nat} {v : Value} (hk : k ≤ l.length) (hlo : ∀ i, i < k → ahead f.due f.num (l.getD i fl0)) (hhi : ∀ i, k ≤ i → i < l.length → ¬ ahead f.due f.num (l.getD i fl0)) :
    (l.take k ++ (f, v) :: l.drop k).map (·.1) = insF f (l.map (·.1)) := by
  have e : ∀ k (hk : k < l.length), l.getD k fl0 = l[k] := fun k hk => by rw [List.getD_eq_getElem?_getD, List.getElem?_eq_getElem hk]; rfl
  have h1 : ∀ a ∈ (l.take k).map (·.1), aheadB f a = true := by
    intro a ha
    obtain ⟨p, hp, rfl⟩ := List.mem_map.1 ha
    obtain ⟨i, hi, rfl⟩ := List.mem_iff_getElem.1 hp
    have hi' : i < k := by simp at hi; omega
    have := hlo i hi'
    rw [e i (by omega)] at this
    rw [List.getElem_take]
    exact (ahead_B f _).1 this
  have h2 : (l.map (·.1)) = (l.take k).map (·.1) ++ (l.drop k).map (·.1) := by rw [← List.map_append, List.take_append_drop]
  have h3 : ((l.drop k).map (·.1)).takeWhile (aheadB f) = [] ∧ ((l.drop k).map (·.1)).dropWhile (aheadB f) = (l.drop k).map (·.1) := by
    rcases Nat.lt_or_ge k l.length with hlt | hge
    · have := hhi k (Nat.le_refl k) hlt
      rw [e k hlt] at this
      have hb : aheadB f l[k].1 = false := by
        cases hx : aheadB f l[k].1 with
        | false => rfl
        | true => exact absurd ((ahead_B f _).2 hx) this
      rw [List.drop_eq_getElem_cons hlt, List.map_cons]
      exact ⟨List.takeWhile_cons_of_neg (by simp [hb]), List.dropWhile_cons_of_neg (by simp [hb])⟩
    · rw [List.drop_of_length_le hge]; simp
  unfold insF
  rw [h2, List.takeWhile_append_of_pos h1, List.dropWhile_append_of_pos h1, h3.1, h3.2]
  simp
theorem insF_length (f : Fl) (l : List Fl) : (insF f l).length = l.length + 1 := by
  have := congrArg List.length (List.takeWhile_append_dropWhile (p := aheadB f) (l := l))
  simp only [List.length_append] at this
  simp only [insF, List.length_append, List.length_cons]
  omega
theorem ins_sorted {f : Fl} : ∀ {l : List Fl}, l.Pairwise lef → (insF f l).Pairwise lef := by
  intro l
  induction l with
  | nil => intro _; simp [insF]
  | cons a l ih =>
    intro h
    obtain ⟨ha, hl⟩ := List.pairwise_cons.1 h
    cases hb : aheadB f a with
    | true =>
      have e : insF f (a :: l) = a :: insF f l := by simp [insF, hb]
      rw [e]
      refine List.pairwise_cons.2 ⟨fun q hq => ?_, ih hl⟩
      have hm : q = f ∨ q ∈ l := by
        simp only [insF, List.mem_append, List.mem_cons] at hq
        rcases hq with hq | hq | hq
        · exact .inr (List.takeWhile_sublist _ |>.subset hq)
        · exact .inl hq
        · exact .inr (List.dropWhile_sublist _ |>.subset hq)
      rcases hm with rfl | hm
      · simp only [aheadB, decide_eq_true_eq] at hb; unfold lef; omega
      · exact ha q hm
    | false =>
      have e : insF f (a :: l) = f :: a :: l := by simp [insF, hb]
      rw [e]
      have hf : lef f a := by simp only [aheadB, decide_eq_false_iff_not] at hb; unfold lef; omega
      refine List.pairwise_cons.2 ⟨fun q hq => ?_, h⟩
      rcases List.mem_cons.1 hq with rfl | hq
      · exact hf
      · have := ha q hq; unfold lef at *; omega
/-- What a send leaves: the newest lies in its place; if there are too many, the last is lost. -/
def absFresh (mst : Nat) (f : Fl) (l : List Fl) (lost : Int) : List Fl × Int :=
  if mst < (insF f l).length then ((insF f l).take mst, lost + 1) else (insF f l, lost)

theorem Own.ne2 {w : World} {e e' : TypeId} {size size' n n' : Nat} {v v' : Value} {xs xs' : List Value} (h : Own w e size v n xs) (h' : Own w e' size' v' n' xs') (hne : e ≠ e') {b : Nat} (hb : v.ownBlock = some b) : v'.ownBlock ≠ some b := by
  rcases h'.2 with ⟨rfl, _⟩ | ⟨g, cap, cur, rfl, _, hg, _⟩
  · intro h; cases h
  · intro hv
    simp [Value.ownBlock] at hv
    subst hv
    exact h.type_ne (show Blk w g e' cur.toList from hg) hne hb
/-- The net: its block, the row of what is on the way, the bytes; all of it in the territory K. -/
structure NetS (w : World) (K : Nat → Prop) (B : Nat) (nodes : Int) (mst : Nat) (sent lost : Int) (l : List (Fl × Value)) : Prop where
  net : ∃ A c, Blk w B 154 [.int .i64 nodes, .int .i64 (mst : Int), .slice A l.length c, .int .i64 sent, .int .i64 lost] ∧ Own w 37 5 (.slice A l.length c) l.length (encL FC l) ∧ ∀ b, (Value.slice A l.length c).ownBlock = some b → K b
  home : K B
  bytes : ∀ p ∈ l, Own w 5 1 p.2 p.1.bs.length (BC p.1.bs) ∧ ∀ b, p.2.ownBlock = some b → K b
  apart : l.Pairwise fun p q => ∀ b, p.2.ownBlock = some b → q.2.ownBlock ≠ some b
  sorted : (l.map (·.1)).Pairwise lef
def grow (K : Nat → Prop) (w : World) : Nat → Prop := fun b => K b ∨ w.heap.size ≤ b
section
variable {w w' : World} {K K' S : Nat → Prop} {B : Nat} {nodes : Int} {mst : Nat} {sent lost : Int} {l : List (Fl × Value)}
theorem NetS.fr (h : NetS w K B nodes mst sent lost l) (hf : Fr S w w') (hn : ∀ b, K b → b < w.heap.size → ¬ S b) : NetS w' K B nodes mst sent lost l := by
  obtain ⟨⟨A, c, hB, hO, hK⟩, hh, hb, ha, hs⟩ := h
  exact ⟨⟨A, c, hB.fr hf (hn B hh hB.lt), hO.fr hf fun b hb => hn b (hK b hb) (hO.lt hb), hK⟩, hh, fun p hp => ⟨(hb p hp).1.fr hf fun b h => hn b ((hb p hp).2 b h) ((hb p hp).1.lt h), (hb p hp).2⟩, ha, hs⟩
theorem NetS.mono (h : NetS w K B nodes mst sent lost l) (hK : ∀ b, b < w.heap.size → K b → K' b) : NetS w K' B nodes mst sent lost l := by
  obtain ⟨⟨A, c, hB, hO, hK1⟩, hh, hb, ha, hs⟩ := h
  exact ⟨⟨A, c, hB, hO, fun b hb => hK b (hO.lt hb) (hK1 b hb)⟩, hK B hB.lt hh, fun p hp => ⟨(hb p hp).1, fun b h => hK b ((hb p hp).1.lt h) ((hb p hp).2 b h)⟩, ha, hs⟩
theorem NetS.one (h : NetS w K B nodes mst sent lost l) : ∀ p ∈ l, p.2.oneCell' = true := fun p hp => (h.bytes p hp).1.one
end
section
variable {w w' : World} {K : Nat → Prop} {B : Nat} {nodes : Int} {mst : Nat} {sent lost sent' lost' : Int} {l l' : List (Fl × Value)} {A A' : Option Addr} {n c n' c' : Nat}
/-- Another row of what is on the way, the bytes as they were. -/
theorem NetS.re (h : NetS w K B nodes mst sent lost l) (hB : Blk w B 154 [.int .i64 nodes, .int .i64 (mst : Int), .slice A n c, .int .i64 sent, .int .i64 lost]) (hO : Own w 37 5 (.slice A n c) n (encL FC l)) (hK : ∀ b, (Value.slice A n c).ownBlock = some b → K b)
    (hF : Fr (fun b => b = B ∨ (Value.slice A n c).ownBlock = some b) w w') (hB' : Blk w' B 154 [.int .i64 nodes, .int .i64 (mst : Int), .slice A' n' c', .int .i64 sent', .int .i64 lost']) (hn' : n' = l'.length) (hO' : Own w' 37 5 (.slice A' n' c') n' (encL FC l'))
    (hv : ∀ b, (Value.slice A' n' c').ownBlock = some b → (Value.slice A n c).ownBlock = some b ∨ w.heap.size ≤ b) (hb : ∀ p ∈ l', ∃ q ∈ l, p.2 = q.2 ∧ p.1.bs = q.1.bs)
    (ha : l'.Pairwise fun p q => ∀ b, p.2.ownBlock = some b → q.2.ownBlock ≠ some b) (hs : (l'.map (·.1)).Pairwise lef) : NetS w' (grow K w) B nodes mst sent' lost' l' ∧ Fr K w w' := by
  subst hn'
  refine ⟨⟨⟨A', c', hB', hO', fun b hb => (hv b hb).imp (hK b) id⟩, .inl h.home, fun p hp => ?_, ha, hs⟩, hF.mono fun b _ h2 => by rcases h2 with h2 | h2; (exact h2 ▸ h.home); (exact hK b h2)⟩
  obtain ⟨q, hq, e1, e2⟩ := hb p hp
  obtain ⟨h1, h2⟩ := h.bytes q hq
  rw [e1, e2]
  exact ⟨h1.fr hF fun b h3 => by rintro (h4 | h4); (exact h1.type_ne hB (by decide) (h4 ▸ h3)); (exact h1.ne2 hO (by decide) h3 h4), fun b h3 => .inl (h2 b h3)⟩
end
theorem mem_ins {α : Type} {l : List α} {k : Nat} {a p : α} (h : p ∈ l.take k ++ a :: l.drop k) : p = a ∨ p ∈ l := by
  simp only [List.mem_append, List.mem_cons] at h
  rcases h with h | h | h
  · exact .inr (List.mem_of_mem_take h)
  · exact .inl h
  · exact .inr (List.mem_of_mem_drop h)
theorem apart_ins {l : List (Fl × Value)} {k : Nat} {a : Fl × Value} (h : l.Pairwise fun p q => ∀ b, p.2.ownBlock = some b → q.2.ownBlock ≠ some b) (ha : ∀ p ∈ l, ∀ b, p.2.ownBlock = some b → a.2.ownBlock ≠ some b) :
    (l.take k ++ a :: l.drop k).Pairwise fun p q => ∀ b, p.2.ownBlock = some b → q.2.ownBlock ≠ some b := by
  have h2 := h
  rw [← List.take_append_drop k l, List.pairwise_append] at h2
  refine List.pairwise_append.2 ⟨h2.1, List.pairwise_cons.2 ⟨fun q hq b hb hq2 => ha q (List.mem_of_mem_drop hq) b hq2 hb, h2.2.1⟩, fun p hp q hq => ?_⟩
  rcases List.mem_cons.1 hq with rfl | hq
  · exact ha p (List.mem_of_mem_take hp)
  · exact h2.2.2 p hp q hq


set_option maxHeartbeats 400000 in
theorem netFresh {w : World} {K : Nat → Prop} {B : Nat} {nodes : Int} {mst : Nat} {sent lost : Int} {l : List (Fl × Value)} (hN : NetS w K B nodes mst sent lost l) (hl : l.length ≤ 1000000) (hse : 0 ≤ sent ∧ sent ≤ 1000000) (hlo : 0 ≤ lost ∧ lost ≤ 1000000) (hmo : mst ≤ 1000000)
    (fn ff ft fd : Int) {FA : Option Addr} {m mc : Nat} {bs : List UInt8} (hR : Rd w 1 (.slice FA m mc) m (BC bs)) (hfB : ∀ b, (Value.slice FA m mc).ownBlock = some b → b ≠ B) (hnil : FA = none → m = 0) (hm : m ≤ 1000000) :
    Calls Tryd.prog 77 #[.pointer (some ⟨B, 0, none⟩), .agg #[.int .i64 fn, .int .i64 ff, .int .i64 ft, .int .i64 fd, .slice FA m mc]] w fun e w' =>
      e = .returned (.tuple #[]) ∧ Fr K w w' ∧ ∃ l' lost', NetS w' (grow K w) B nodes mst (sent + 1) lost' l' ∧ (l'.map (·.1), lost') = absFresh mst ⟨sent + 1, ff, ft, fd, bs⟩ (l.map (·.1)) lost := by
  obtain ⟨⟨A, c, hB, hO, hK⟩, hh, hb, ha, hs⟩ := hN
  have hbl : m = bs.length := by have := hR.1; rw [BC_length] at this; omega
  refine Calls.mono (fresh_any B l.length c mst m mc A FA nodes sent lost l fn ff ft fd bs w hB hO rfl hl (fun p hp => (hb p hp).1.one) hse hlo hmo hR hfB hnil hm (ahead_mono hs)) ?_
  rintro e w' ⟨rfl, v, bv, k, lost', hB', hk, hlo', hhi', hOb, hbv, hcase, hF, hv⟩
  have hFK : Fr K w w' := hF.mono fun b _ h => by rcases h with h | h; (exact h ▸ hh); (exact hK b h)
  have hins := ins_at (f := ⟨sent + 1, ff, ft, fd, bs⟩) (v := bv) hk hlo' hhi'
  have hvK : ∀ b, v.ownBlock = some b → grow K w b := fun b hb => (hv b hb).imp (hK b) id
  have hold : ∀ p ∈ l, Own w' 5 1 p.2 p.1.bs.length (BC p.1.bs) ∧ ∀ b, p.2.ownBlock = some b → grow K w b := fun p hp =>
    ⟨(hb p hp).1.fr hF fun b h => by rintro (h2 | h2); (exact (hb p hp).1.type_ne hB (by decide) (h2 ▸ h)); (exact (hb p hp).1.ne2 hO (by decide) h h2), fun b h => .inl ((hb p hp).2 b h)⟩
  have hnew : Own w' 5 1 bv bs.length (BC bs) ∧ ∀ b, bv.ownBlock = some b → grow K w b := ⟨hbl ▸ hOb, fun b h => .inr (hbv b h)⟩
  have hall : ∀ p ∈ l.take k ++ (⟨sent + 1, ff, ft, fd, bs⟩, bv) :: l.drop k, Own w' 5 1 p.2 p.1.bs.length (BC p.1.bs) ∧ ∀ b, p.2.ownBlock = some b → grow K w b := fun p hp => by
    rcases mem_ins hp with rfl | hp
    · exact hnew
    · exact hold p hp
  have hap := apart_ins (k := k) (a := ((⟨sent + 1, ff, ft, fd, bs⟩ : Fl), bv)) ha fun p hp b h h2 => by
    have h3 := hbv b h2
    have h4 := (hb p hp).1.lt h
    omega
  have hsl : (l.take k ++ ((⟨sent + 1, ff, ft, fd, bs⟩ : Fl), bv) :: l.drop k).length = l.length + 1 := by simp only [List.length_append, List.length_cons, List.length_take, List.length_drop]; omega
  have hlen : (insF ⟨sent + 1, ff, ft, fd, bs⟩ (l.map (·.1))).length = l.length + 1 := by rw [insF_length, List.length_map]
  have hsort := ins_sorted (f := ⟨sent + 1, ff, ft, fd, bs⟩) hs
  refine ⟨rfl, hFK, ?_⟩
  rcases hcase with ⟨hle, hl2, hO'⟩ | ⟨hlt, hl2, hO'⟩
  · obtain ⟨A', c', rfl, hc'⟩ := hO'.rd.form
    refine ⟨l.take k ++ ((⟨sent + 1, ff, ft, fd, bs⟩ : Fl), bv) :: l.drop k, lost', ⟨⟨A', c', ?_, ?_, ?_⟩, .inl hh, hall, hap, by rw [hins]; exact hsort⟩, ?_⟩
    · rw [hsl]; exact hB'
    · rw [hsl]; exact hO'
    · rw [hsl]; exact hvK
    · rw [hins]; unfold absFresh; rw [if_neg (by omega), hl2]
  · obtain ⟨A', c', rfl, hc'⟩ := hO'.rd.form
    have htl : ((l.take k ++ ((⟨sent + 1, ff, ft, fd, bs⟩ : Fl), bv) :: l.drop k).take mst).length = mst := by rw [List.length_take, hsl]; omega
    refine ⟨(l.take k ++ ((⟨sent + 1, ff, ft, fd, bs⟩ : Fl), bv) :: l.drop k).take mst, lost', ⟨⟨A', c', ?_, ?_, ?_⟩, .inl hh, fun p hp => hall p (List.mem_of_mem_take hp), hap.sublist (List.take_sublist _ _), ?_⟩, ?_⟩
    · rw [htl]; exact hB'
    · rw [htl]; exact hO'
    · rw [htl]; exact hvK
    · rw [List.map_take, hins]; exact hsort.sublist (List.take_sublist _ _)
    · rw [List.map_take, hins]; unfold absFresh; rw [if_pos (by omega), hl2]


end Go.Proofs.YthomkocjjkmnkaaDoor
