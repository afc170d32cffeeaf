import Derived.Test.YthomkocjjkmnkaaDoorNetS
import Derived.Test.YthomkocjjkmnkaaDoorNetN
/- PRINTED by gen.py (wip/tools) from the plan wip/plans: walks. -/
namespace Go.Proofs.YthomkocjjkmnkaaDoor
open Go Go.RowKit
set_option maxRecDepth 100000
set_option linter.unusedVariables false
/-- The law's own list: its block N, its row, its bytes; all outside of the net's territory K. -/
structure PapS (w : World) (K : Nat → Prop) (N : Nat) (mst : Nat) (num lost : Int) (l : List (Fl × Value)) : Prop where
  pap : ∃ A c, Blk w N 28 [.slice A l.length c, .int .i64 num, .int .i64 lost, .int .i64 (mst : Int)] ∧ Rd w 5 (.slice A l.length c) l.length (encL FC l) ∧ ∀ b, (Value.slice A l.length c).ownBlock = some b → ¬ K b ∧ b ≠ N ∧ b < w.heap.size
  home : ¬ K N
  bytes : ∀ p ∈ l, Rd w 1 p.2 p.1.bs.length (BC p.1.bs) ∧ ∀ b, p.2.ownBlock = some b → ¬ K b ∧ b ≠ N ∧ b < w.heap.size
def shrink (K : Nat → Prop) (w : World) : Nat → Prop := fun b => K b ∧ b < w.heap.size
section
variable {w w' : World} {K K' S : Nat → Prop} {N mst : Nat} {num lost : Int} {l : List (Fl × Value)}
theorem PapS.fr (h : PapS w K N mst num lost l) (hF : Fr S w w') (hS : ∀ b, b < w.heap.size → S b → K b) (hK : ∀ b, b < w.heap.size → ¬ K b → ¬ K' b) : PapS w' K' N mst num lost l := by
  obtain ⟨⟨A, c, hB, hR, hb⟩, hh, hy⟩ := h
  have hs := hF.size
  exact ⟨⟨A, c, hB.fr hF fun s => hh (hS N hB.lt s), hR.fr hF fun b h1 s => (hb b h1).1 (hS b (hb b h1).2.2 s), fun b h1 => ⟨hK b (hb b h1).2.2 (hb b h1).1, (hb b h1).2.1, by have := (hb b h1).2.2; omega⟩⟩, hK N hB.lt hh,
    fun p hp => ⟨(hy p hp).1.fr hF fun b h1 s => ((hy p hp).2 b h1).1 (hS b ((hy p hp).2 b h1).2.2 s), fun b h1 => ⟨hK b ((hy p hp).2 b h1).2.2 ((hy p hp).2 b h1).1, ((hy p hp).2 b h1).2.1, by have := ((hy p hp).2 b h1).2.2; omega⟩⟩⟩
/-- The net did something. -/
theorem PapS.net (h : PapS w K N mst num lost l) (hF : Fr K w w') : PapS w' (grow K w) N mst num lost l :=
  h.fr hF (fun _ _ s => s) (fun b hb hn hg => hg.elim hn (fun h => by omega))
theorem PapS.no (h : PapS w K N mst num lost l) (hF : Fr No w w') : PapS w' K N mst num lost l := h.fr hF (fun _ _ s => s.elim) (fun _ _ hn => hn)
/-- The law's list anew: its row and perhaps bytes are new, or were there. -/
theorem PapS.re (h : PapS w K N mst num lost l) (hF : Fr (fun b => b = N) w w') {v : Value} {n' : Nat} {num' lost' : Int} {l' : List (Fl × Value)} (hB : Blk w' N 28 [v, .int .i64 num', .int .i64 lost', .int .i64 (mst : Int)]) (hn : n' = l'.length) (hR : Rd w' 5 v n' (encL FC l'))
    (hv : ∀ b, v.ownBlock = some b → (¬ K b ∨ w.heap.size ≤ b) ∧ b ≠ N ∧ b < w'.heap.size)
    (hb : ∀ p ∈ l', (Rd w' 1 p.2 p.1.bs.length (BC p.1.bs) ∧ ∀ b, p.2.ownBlock = some b → (¬ K b ∨ w.heap.size ≤ b) ∧ b ≠ N ∧ b < w'.heap.size) ∨ ∃ q ∈ l, p.2 = q.2 ∧ p.1.bs = q.1.bs) : PapS w' (shrink K w) N mst num' lost' l' := by
  subst hn
  obtain ⟨A, c, rfl, _⟩ := hR.form
  have hs := hF.size
  have hk : ∀ b, (¬ K b ∨ w.heap.size ≤ b) → ¬ shrink K w b := fun b hb hk => hb.elim (fun h => h hk.1) (fun h => by have := hk.2; omega)
  refine ⟨⟨A, c, hB, hR, fun b h1 => ⟨hk b (hv b h1).1, (hv b h1).2⟩⟩, fun hk => h.home hk.1, fun p hp => ?_⟩
  rcases hb p hp with ⟨h1, h2⟩ | ⟨q, hq, e1, e2⟩
  · exact ⟨h1, fun b h3 => ⟨hk b (h2 b h3).1, (h2 b h3).2⟩⟩
  · obtain ⟨h1, h2⟩ := h.bytes q hq
    rw [e1, e2]
    exact ⟨h1.fr hF fun b h3 h4 => (h2 b h3).2.1 h4, fun b h3 => ⟨hk b (.inl (h2 b h3).1), (h2 b h3).2.1, by have := (h2 b h3).2.2; omega⟩⟩
end
theorem papSends {w : World} {K : Nat → Prop} {N mst : Nat} {num lost : Int} {l : List (Fl × Value)} (hP : PapS w K N mst num lost l) (hl : l.length ≤ 1000000) (hse : 0 ≤ num ∧ num ≤ 1000000) (hlo : 0 ≤ lost ∧ lost ≤ 1000000) (hmo : 1 ≤ mst ∧ mst ≤ 1000000) (hs : (l.map (·.1)).Pairwise lef)
    (fn ff ft fd : Int) {fv : Value} {bs : List UInt8} (hR : Rd w 1 fv bs.length (BC bs)) (hv : ∀ b, fv.ownBlock = some b → ¬ K b ∧ b ≠ N ∧ b < w.heap.size) :
    Calls Tryd.prog 11 #[.pointer (some ⟨N, 0, none⟩), .agg #[.int .i64 fn, .int .i64 ff, .int .i64 ft, .int .i64 fd, fv]] w fun e w' =>
      e = .returned (.tuple #[]) ∧ Fr (fun b => b = N) w w' ∧ ∃ l' lost', PapS w' (shrink K w) N mst (num + 1) lost' l' ∧ (l'.map (·.1), lost') = absFresh mst ⟨num + 1, ff, ft, fd, bs⟩ (l.map (·.1)) lost := by
  obtain ⟨A, c, hB, hRr, hb⟩ := hP.pap
  refine Calls.mono (sends_any N l.length c mst A num lost l fn ff ft fd fv bs w hB hRr rfl hl hse hlo hmo.2 (fun b h => ⟨(hb b h).2.2, (hb b h).2.1⟩) (fun p hp => (hP.bytes p hp).1.one) hR.one) ?_
  rintro e w' ⟨rfl, v, k, lost', hB', hk, hlo', hhi', hcase, hvf, hF⟩
  have hsz := hF.size
  have hnah : ∀ i, k ≤ i → i < l.length → ¬ ahead fd (num + 1) (l.getD i fl0) := fun i h1 h2 h3 => hhi' (by omega) (ahead_mono hs k i h1 h2 h3)
  have hins := ins_at (f := ⟨num + 1, ff, ft, fd, bs⟩) (v := fv) hk hlo' hnah
  have hrl : ∀ {n : Nat} {xs : List Value}, Rd w' 5 v n xs → 0 < n → ∀ b, v.ownBlock = some b → b < w'.heap.size := fun h h0 b hb => by
    obtain ⟨b0, h1, h2⟩ := h.lt h0 (by decide); rw [h1] at hb; injection hb with hb; omega
  have hnew : ∀ p ∈ l.take k ++ ((⟨num + 1, ff, ft, fd, bs⟩ : Fl), fv) :: l.drop k, (Rd w' 1 p.2 p.1.bs.length (BC p.1.bs) ∧ ∀ b, p.2.ownBlock = some b → (¬ K b ∨ w.heap.size ≤ b) ∧ b ≠ N ∧ b < w'.heap.size) ∨ ∃ q ∈ l, p.2 = q.2 ∧ p.1.bs = q.1.bs := fun p hp => by
    rcases mem_ins hp with rfl | hp
    · exact .inl ⟨hR.fr hF fun b h1 h2 => (hv b h1).2.1 h2, fun b h1 => ⟨.inl (hv b h1).1, (hv b h1).2.1, by have := (hv b h1).2.2; omega⟩⟩
    · exact .inr ⟨p, hp, rfl, rfl⟩
  have hsl : (l.take k ++ ((⟨num + 1, ff, ft, fd, bs⟩ : Fl), fv) :: l.drop k).length = l.length + 1 := by simp only [List.length_append, List.length_cons, List.length_take, List.length_drop]; omega
  have hlen : (insF ⟨num + 1, ff, ft, fd, bs⟩ (l.map (·.1))).length = l.length + 1 := by rw [insF_length, List.length_map]
  have hNl := hB.lt
  refine ⟨rfl, hF, ?_⟩
  rcases hcase with ⟨hle, hl2, hR'⟩ | ⟨hlt, hl2, hR'⟩
  · refine ⟨_, lost', hP.re hF hB' hsl.symm hR' (fun b h => ⟨.inr (hvf b h), by have := hvf b h; omega, hrl hR' (by omega) b h⟩) hnew, ?_⟩
    rw [hins]; unfold absFresh; rw [if_neg (by omega), hl2]
  · refine ⟨_, lost', hP.re (l' := (l.take k ++ ((⟨num + 1, ff, ft, fd, bs⟩ : Fl), fv) :: l.drop k).take mst) hF hB' (by rw [List.length_take, hsl]; omega) hR' (fun b h => ⟨.inr (hvf b h), by have := hvf b h; omega, hrl hR' (by omega) b h⟩) (fun p hp => hnew p (List.mem_of_mem_take hp)), ?_⟩
    rw [List.map_take, hins]; unfold absFresh; rw [if_pos (by omega), hl2]
theorem papLays {w : World} {K : Nat → Prop} {N mst : Nat} {num lost : Int} {l : List (Fl × Value)} (hP : PapS w K N mst num lost l) (hl : l.length ≤ 1000000) (hs : (l.map (·.1)).Pairwise lef)
    (fn ff ft fd : Int) {fv : Value} {bs : List UInt8} (hR : Rd w 1 fv bs.length (BC bs)) (hv : ∀ b, fv.ownBlock = some b → ¬ K b ∧ b ≠ N ∧ b < w.heap.size) :
    Calls Tryd.prog 16 #[.pointer (some ⟨N, 0, none⟩), .agg #[.int .i64 fn, .int .i64 ff, .int .i64 ft, .int .i64 fd, fv]] w fun e w' =>
      e = .returned (.tuple #[]) ∧ Fr (fun b => b = N) w w' ∧ ∃ l', PapS w' (shrink K w) N mst num lost l' ∧ l'.map (·.1) = insF ⟨fn, ff, ft, fd, bs⟩ (l.map (·.1)) := by
  obtain ⟨A, c, hB, hRr, hb⟩ := hP.pap
  refine Calls.mono (lays_any N l.length c A num lost (mst : Int) l fn ff ft fd fv bs w hB hRr rfl hl (fun b h => ⟨(hb b h).2.2, (hb b h).2.1⟩) (fun p hp => (hP.bytes p hp).1.one) hR.one) ?_
  rintro e w' ⟨rfl, v, k, hB', hk, hlo', hhi', hO', hvf, hF⟩
  have hsz := hF.size
  have hnah : ∀ i, k ≤ i → i < l.length → ¬ ahead fd fn (l.getD i fl0) := fun i h1 h2 h3 => hhi' (by omega) (ahead_mono hs k i h1 h2 h3)
  have hins := ins_at (f := ⟨fn, ff, ft, fd, bs⟩) (v := fv) hk hlo' hnah
  have hsl : (l.take k ++ ((⟨fn, ff, ft, fd, bs⟩ : Fl), fv) :: l.drop k).length = l.length + 1 := by simp only [List.length_append, List.length_cons, List.length_take, List.length_drop]; omega
  have hNl := hB.lt
  refine ⟨rfl, hF, _, hP.re hF hB' hsl.symm hO'.rd (fun b h => ⟨.inr (hvf b h), by have := hvf b h; omega, hO'.lt h⟩) (fun p hp => ?_), hins⟩
  rcases mem_ins hp with rfl | hp
  · exact .inl ⟨hR.fr hF fun b h1 h2 => (hv b h1).2.1 h2, fun b h1 => ⟨.inl (hv b h1).1, (hv b h1).2.1, by have := (hv b h1).2.2; omega⟩⟩
  · exact .inr ⟨p, hp, rfl, rfl⟩


end Go.Proofs.YthomkocjjkmnkaaDoor
