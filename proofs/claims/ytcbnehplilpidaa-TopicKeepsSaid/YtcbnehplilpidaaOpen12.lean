/- Arguments opened: topics. -/
import Derived.Test.YtcbnehplilpidaaOpen4
import Derived.Test.YtcbnehplilpidaaTopO
set_option linter.unusedVariables false
set_option linter.unusedSimpArgs false
namespace Tryst
open Go Go.RowKit Go.ChangeShapes Go.WideShapes Go.Joins
/-- a slice whose elements take some cells each, read -/
theorem read_slice {H : Type} {enc : TypeId × Value → H} {P : Program} {w : World} {base : Nat} {sp : Nat → Bool} {hd : Bool} {T E : TypeId} {k : Nat} {α : Type} (cells : α → List Value) (p : α → Prop) (zero : α) (hk : 0 < k) (hu : P.underlying T = some (.slice E)) (hc : P.cellsOf E = k) (hlen : ∀ y, (cells y).length = k)
    (hread : ∀ {fuel : Nat} {cs : List Value} {x : DataW H × List MemPlace}, DataW.trod enc P w base sp hd fuel E cs = some x → ∃ y, cs = cells y ∧ p y)
    {fuel : Nat} {cs : List Value} {x : DataW H × List MemPlace} (h : DataW.trod enc P w base sp hd fuel T cs = some x) :
    ∃ (a : Option Addr) (l : List α) (c : Nat), cs = [.slice a l.length c] ∧ Row w a k (l.map cells) ∧ (∀ y ∈ l, p y) ∧ l.length ≤ 9223372036854775807 ∧ l.length ≤ c := by
  rcases Go.Deep.open_slice hu h with ⟨rfl, _⟩ | ⟨ad, len, cap, m, n, D, Pl, rfl, _, hl, hm, hmm, _, hi⟩
  · exact ⟨none, [], 0, rfl, Row.nil _ _ _, (fun f hf => by cases hf), Nat.zero_le _, Nat.le_refl _⟩
  · have hml : len ≤ m := by rw [hmm]; split <;> omega
    have key : ∀ i, i < len → ∃ y : α, (∀ j, j < k → w.cell? ((ad.add (i * k)).add j) = (cells y)[j]?) ∧ p y := fun i hil => by
      obtain ⟨cs', hc', ht⟩ := hi i (by omega)
      rw [hc] at hc'
      obtain ⟨_, _, hcell⟩ := World.cells?_some hc'
      obtain ⟨y, rfl, hy⟩ := hread ht
      exact ⟨y, hcell, hy⟩
    obtain ⟨g, hg⟩ : ∃ g : Nat → α, ∀ i, i < len → (∀ j, j < k → w.cell? ((ad.add (i * k)).add j) = (cells (g i))[j]?) ∧ p (g i) :=
      ⟨fun i => if h : i < len then (key i h).choose else zero, fun i h => by simp only [dif_pos h]; exact (key i h).choose_spec⟩
    refine ⟨some ad, (List.range len).map g, cap, by rw [List.length_map, List.length_range], ?_, ?_, ?_, ?_⟩
    · intro i hil
      rw [List.length_map, List.length_map, List.length_range] at hil
      obtain ⟨hc, _⟩ := hg i hil
      obtain ⟨b, o, sp⟩ := ad
      have hz0 := (hg 0 (by omega)).1 0 hk
      have hk0 : 0 < (cells (g 0)).length := by rw [hlen]; exact hk
      rw [List.getElem?_eq_getElem hk0] at hz0
      obtain ⟨hb, hs⟩ := cell_lt hz0
      have hb' : b < w.heap.size := by simpa [Addr.add] using hb
      have hs' : sp = none := by simpa [Addr.add] using hs
      subst hs'
      refine ⟨b, o, rfl, hb', fun j hj => ?_⟩
      have e : (((List.range len).map g).map cells)[i]'(by simpa using hil) = cells (g i) := by simp
      rw [e, ← hc j hj, Addr.add_lit, Addr.add_lit]
    · intro y hy
      obtain ⟨i, hi', rfl⟩ := List.mem_map.1 hy
      exact (hg i (by simpa using hi')).2
    · rw [List.length_map, List.length_range]; exact Nat.le_trans hl hm
    · rw [List.length_map, List.length_range]; exact hl
end Tryst
namespace Go.Proofs.Ytcbnehplilpidaa
set_option maxRecDepth 100000
open Go.RowKit Tryst Go.ChangeShapes Go.WideShapes Go.Joins
section
variable {H : Type} {enc : TypeId × Value → H} {w : World} {base : Nat} {sp : Nat → Bool} {hd : Bool}
theorem read_strs {fuel : Nat} {cs : List Value} {x : DataW H × List MemPlace} (h : DataW.trod enc Try.prog w base sp hd fuel 72 cs = some x) : ∃ (a : Option Addr) (l : List ByteArray) (c : Nat), cs = [.slice a l.length c] ∧ Strs w a l ∧ (∀ s ∈ l, s.size ≤ 9223372036854775807) ∧ l.length ≤ 9223372036854775807 := by
  obtain ⟨a, l, c, h1, h2, h3, h4, _⟩ := read_slice (fun s : ByteArray => [Value.string s]) (fun s => s.size ≤ 9223372036854775807) ⟨#[]⟩ (by decide) Try.underlying72 kStr (fun _ => rfl) (fun h => read_str h) h
  exact ⟨a, l, c, h1, strs_row.2 h2, h3, h4⟩
theorem kTop : Try.prog.cellsOf 74 = 3 := by kernel_rfl
theorem kInt : Try.prog.cellsOf 3 = 1 := by kernel_rfl
theorem kStrs : Try.prog.cellsOf 72 = 1 := by kernel_rfl
theorem read_top {fuel : Nat} {cs : List Value} {x : DataW H × List MemPlace} (h : DataW.trod enc Try.prog w base sp hd fuel 74 cs = some x) :
    ∃ t : TB, cs = t.cells ∧ Strs w t.la t.log ∧ t.name.size ≤ 9223372036854775807 ∧ (∀ s ∈ t.log, s.size ≤ 9223372036854775807) ∧ t.log.length ≤ 9223372036854775807 ∧ -9223372036854775808 ≤ t.first ∧ t.first ≤ 9223372036854775807 := by
  obtain ⟨xs, n, _, _, hlen, hxl, hf⟩ := DataW.trod_struct Try.underlying74 h
  rw [kTop] at hlen
  match cs, hlen, xs, hxl with
  | [c0, c1, c2], _, [y0, y1, y2], _ =>
    have h0 : DataW.trod enc Try.prog w base sp hd n 9 (([c0, c1, c2].drop 0).take (Try.prog.cellsOf 9)) = some y0 := hf 0 _ rfl
    have h1 : DataW.trod enc Try.prog w base sp hd n 3 (([c0, c1, c2].drop 1).take (Try.prog.cellsOf 3)) = some y1 := hf 1 _ rfl
    have h2 : DataW.trod enc Try.prog w base sp hd n 72 (([c0, c1, c2].drop 2).take (Try.prog.cellsOf 72)) = some y2 := hf 2 _ rfl
    rw [kStr] at h0
    rw [kInt] at h1
    rw [kStrs] at h2
    obtain ⟨s, e0, hs⟩ := read_str h0
    obtain ⟨i, e1, _, hw⟩ := DataW.trod_int Try.underlying3 h1
    obtain ⟨a, l, c, e2, q1, q2, q3⟩ := read_strs h2
    simp at e0 e1 e2
    obtain ⟨hl, hh⟩ : -9223372036854775808 ≤ i ∧ i ≤ 9223372036854775807 := by simpa [Lit.wf, IntKind.min, IntKind.max, IntKind.signed, IntKind.bits] using hw
    exact ⟨⟨s, i, a, l, c⟩, by rw [e0, e1, e2]; rfl, q1, hs, q2, q3, hl, hh⟩
/-- topics as an argument has them -/
def TArg (l : List TB) : Prop := ∀ t ∈ l, t.name.size ≤ 9223372036854775807 ∧ (∀ s ∈ t.log, s.size ≤ 9223372036854775807) ∧ t.log.length ≤ 9223372036854775807 ∧ -9223372036854775808 ≤ t.first ∧ t.first ≤ 9223372036854775807
theorem read_tops {fuel : Nat} {cs : List Value} {x : DataW H × List MemPlace} (h : DataW.trod enc Try.prog w base sp hd fuel 50 cs = some x) : ∃ (a : Option Addr) (l : List TB) (c : Nat), cs = [.slice a l.length c] ∧ TopsA w a l ∧ TArg l ∧ l.length ≤ 9223372036854775807 := by
  obtain ⟨a, l, c, h1, h2, h3, h4, _⟩ := read_slice TB.cells (fun t => Strs w t.la t.log ∧ t.name.size ≤ 9223372036854775807 ∧ (∀ s ∈ t.log, s.size ≤ 9223372036854775807) ∧ t.log.length ≤ 9223372036854775807 ∧ -9223372036854775808 ≤ t.first ∧ t.first ≤ 9223372036854775807) ⟨⟨#[]⟩, 0, none, [], 0⟩ (by decide) Try.underlying50 kTop (fun _ => rfl) (fun h => read_top h) h
  exact ⟨a, l, c, h1, ⟨h2, fun t ht => (h3 t ht).1⟩, fun t ht => (h3 t ht).2, h4⟩
theorem open_tops {r : Reach} {b0 : Nat} {v : Value} {d : DataW H} {ps : List MemPlace} (hv : Value.okWide Try.prog w r b0 50 v) (h : DataW.Trod enc Try.prog w base sp hd 50 v d ps) :
    ∃ (a : Option Addr) (l : List TB) (c : Nat), v = .slice a l.length c ∧ TopsA w a l ∧ TArg l ∧ l.length ≤ 9223372036854775807 := by
  obtain ⟨fuel, hf⟩ := h
  obtain ⟨a, n, c, rfl⟩ := okWide_slice Try.underlying50 hv
  obtain ⟨a', l, c', e, rest⟩ := read_tops hf
  have e2 : Value.slice a n c = .slice a' l.length c' := by simpa [Value.cells] using e
  rw [e2]
  exact ⟨a', l, c', rfl, rest⟩
end
end Go.Proofs.Ytcbnehplilpidaa
