/- Arguments opened: events, octets. -/
import Derived.Test.YtcbnehplilpidaaOpen12
import Derived.Test.YtcbnehplilpidaaKeeps12
set_option linter.unusedVariables false
set_option linter.unusedSimpArgs false
namespace Go.Proofs.Ytcbnehplilpidaa
set_option maxRecDepth 100000
open Go.RowKit Tryst Go.ChangeShapes Go.WideShapes Go.Joins
section
variable {H : Type} {enc : TypeId × Value → H} {w : World} {base : Nat} {sp : Nat → Bool} {hd : Bool}
theorem kU8 : Try.prog.cellsOf 5 = 1 := by kernel_rfl
theorem read_evs {fuel : Nat} {cs : List Value} {x : DataW H × List MemPlace} (h : DataW.trod enc Try.prog w base sp hd fuel 76 cs = some x) : ∃ (a : Option Addr) (l : List EB) (c : Nat), cs = [.slice a l.length c] ∧ EvsA w a l ∧ EArg l ∧ l.length ≤ 9223372036854775807 := by
  obtain ⟨a, l, c, h1, h2, h3, h4, _⟩ := read_slice EB.cells (fun e => Flds w e.a e.l ∧ e.t.size ≤ 9223372036854775807 ∧ e.p.size ≤ 9223372036854775807 ∧ 0 ≤ e.q ∧ e.q ≤ 18446744073709551615 ∧ (∀ f ∈ e.l, f.name.size ≤ 9223372036854775807 ∧ f.s.size ≤ 9223372036854775807 ∧ -9223372036854775808 ≤ f.n ∧ f.n ≤ 9223372036854775807) ∧ e.l.length ≤ 9223372036854775807) ⟨⟨#[]⟩, ⟨#[]⟩, 0, none, [], 0⟩ (by decide) Try.underlying76 kEv (fun _ => rfl) (fun h => by
    obtain ⟨t, p, q, a, l, c, e, ht, hp, h0, h4, hF, hI, hm⟩ := read_ev h
    exact ⟨⟨t, p, q, a, l, c⟩, e, hF, ht, hp, h0, h4, hI, hm⟩) h
  exact ⟨a, l, c, h1, ⟨h2, fun t ht => (h3 t ht).1⟩, fun t ht => (h3 t ht).2, h4⟩
theorem open_evs {r : Reach} {b0 : Nat} {v : Value} {d : DataW H} {ps : List MemPlace} (hv : Value.okWide Try.prog w r b0 76 v) (h : DataW.Trod enc Try.prog w base sp hd 76 v d ps) :
    ∃ (a : Option Addr) (l : List EB) (c : Nat), v = .slice a l.length c ∧ EvsA w a l ∧ EArg l ∧ l.length ≤ 9223372036854775807 := by
  obtain ⟨fuel, hf⟩ := h
  obtain ⟨a, n, c, rfl⟩ := okWide_slice Try.underlying76 hv
  obtain ⟨a', l, c', e, rest⟩ := read_evs hf
  have e2 : Value.slice a n c = .slice a' l.length c' := by simpa [Value.cells] using e
  rw [e2]
  exact ⟨a', l, c', rfl, rest⟩
theorem open_u8s {r : Reach} {b0 : Nat} {v : Value} {d : DataW H} {ps : List MemPlace} (hv : Value.okWide Try.prog w r b0 77 v) (h : DataW.Trod enc Try.prog w base sp hd 77 v d ps) :
    ∃ (a : Option Addr) (l : List Int) (c : Nat), v = .slice a l.length c ∧ Row w a 1 (l.map fun x => [Value.int .u8 x]) ∧ (∀ x ∈ l, 0 ≤ x ∧ x ≤ 255) ∧ l.length ≤ 9223372036854775807 := by
  obtain ⟨fuel, hf⟩ := h
  obtain ⟨a, n, c, rfl⟩ := okWide_slice Try.underlying77 hv
  obtain ⟨a', l, c', e, h2, h3, h4, _⟩ := read_slice (fun x : Int => [Value.int .u8 x]) (fun x => 0 ≤ x ∧ x ≤ 255) 0 (by decide) Try.underlying77 kU8 (fun _ => rfl) (fun h => by
    obtain ⟨i, e1, _, hw⟩ := DataW.trod_int Try.underlying5 h
    exact ⟨i, e1, by simpa [Lit.wf, IntKind.min, IntKind.max, IntKind.signed, IntKind.bits] using hw⟩) hf
  have e2 : Value.slice a n c = .slice a' l.length c' := by simpa [Value.cells] using e
  rw [e2]
  exact ⟨a', l, c', rfl, h2, h3, h4⟩
end
end Go.Proofs.Ytcbnehplilpidaa
