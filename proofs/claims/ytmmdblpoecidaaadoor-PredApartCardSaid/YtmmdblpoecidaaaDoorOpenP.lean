/- Arguments opened: predicates. -/
import Derived.Test.YtmmdblpoecidaaaDoorProg
import Derived.Test.YtmmdblpoecidaaaDoorOpen4
import Derived.Test.YtmmdblpoecidaaaDoorFewP5
set_option linter.unusedVariables false
set_option linter.unusedSimpArgs false
namespace Tryst
open Go Go.RowKit Go.ChangeShapes Go.WideShapes Go.Joins
/-- a slice whose elements take some cells each, read; its elements are read with less fuel -/
theorem read_sliceL {H : Type} {enc : TypeId × Value → H} {P : Program} {w : World} {base : Nat} {sp : Nat → Bool} {hd : Bool} {T E : TypeId} {k : Nat} {α : Type} (cells : α → List Value) (p : α → Prop) (zero : α) (hk : 0 < k) (hu : P.underlying T = some (.slice E)) (hc : P.cellsOf E = k) (hlen : ∀ y, (cells y).length = k)
    {fuel : Nat} (hread : ∀ (m : Nat), m < fuel → ∀ {cs : List Value} {x : DataW H × List MemPlace}, DataW.trod enc P w base sp hd m E cs = some x → ∃ y, cs = cells y ∧ p y)
    {cs : List Value} {x : DataW H × List MemPlace} (h : DataW.trod enc P w base sp hd fuel T cs = some x) :
    ∃ (a : Option Addr) (l : List α) (c : Nat), cs = [.slice a l.length c] ∧ Row w a k (l.map cells) ∧ (∀ y ∈ l, p y) ∧ l.length ≤ 9223372036854775807 := by
  rcases DataW.trod_slice hu h with ⟨rfl, _⟩ | ⟨ad, len, cap, elems, rest, n, hn, rfl, _, _, hl, hm, hle, hel, _⟩
  · exact ⟨none, [], 0, rfl, Row.nil _ _ _, (fun f hf => by cases hf), Nat.zero_le _⟩
  · have key : ∀ i, i < len → ∃ y : α, (∀ j, j < k → w.cell? ((ad.add (i * k)).add j) = (cells y)[j]?) ∧ p y := fun i hil => by
      have hi := hel i hil
      rw [List.getElem?_eq_getElem (by omega), Option.bind_eq_some_iff] at hi
      obtain ⟨cs', hc', ht⟩ := hi
      rw [hc] at hc'
      obtain ⟨_, _, hcell⟩ := World.cells?_some hc'
      obtain ⟨y, rfl, hy⟩ := hread n (by omega) ht
      exact ⟨y, hcell, hy⟩
    obtain ⟨g, hg⟩ : ∃ g : Nat → α, ∀ i, i < len → (∀ j, j < k → w.cell? ((ad.add (i * k)).add j) = (cells (g i))[j]?) ∧ p (g i) :=
      ⟨fun i => if h : i < len then (key i h).choose else zero, fun i h => by simp only [dif_pos h]; exact (key i h).choose_spec⟩
    refine ⟨some ad, (List.range len).map g, cap, by rw [List.length_map, List.length_range], ?_, ?_, ?_⟩
    · intro i hil
      rw [List.length_map, List.length_map, List.length_range] at hil
      obtain ⟨hc, _⟩ := hg i hil
      obtain ⟨b, o, sp⟩ := ad
      have hz0 := (hg 0 (by omega)).1 0 hk
      have hk0 : 0 < (cells (g 0)).length := by rw [hlen]; exact hk
      rw [List.getElem?_eq_getElem hk0] at hz0
      obtain ⟨hb, hs⟩ := cell_lt hz0
      have hb' : b < w.heap.size := by simpa [Addr.add] using hb
      have hs' : sp = none := by simpa [Addr.add] using hs
      subst hs'
      refine ⟨b, o, rfl, hb', fun j hj => ?_⟩
      have e : (((List.range len).map g).map cells)[i]'(by simpa using hil) = cells (g i) := by simp
      rw [e, ← hc j hj, Addr.add_lit, Addr.add_lit]
    · intro y hy
      obtain ⟨i, hi', rfl⟩ := List.mem_map.1 hy
      exact (hg i (by simpa using hi')).2
    · rw [List.length_map, List.length_range]; exact Nat.le_trans hl hm
end Tryst
namespace Go.Proofs.YtmmdblpoecidaaaDoor
set_option maxRecDepth 100000
open Go.RowKit Tryst Go.ChangeShapes Go.WideShapes Go.Joins
section
variable {H : Type} {enc : TypeId × Value → H} {w : World} {base : Nat} {sp : Nat → Bool} {hd : Bool}
theorem kPred : Tryd.prog.cellsOf 26 = 6 := by kernel_rfl
theorem kPreds : Tryd.prog.cellsOf 24 = 1 := by kernel_rfl
theorem read_pred (fuel : Nat) : ∀ {cs : List Value} {x : DataW H × List MemPlace}, DataW.trod enc Tryd.prog w base sp hd fuel 26 cs = some x → ∃ y : PB, cs = y.cells ∧ PArg w y := by
  induction fuel using Nat.strongRecOn with
  | _ fuel ih =>
    intro cs x h
    obtain ⟨xs, n, hn, _, hlen, hxl, hf⟩ := DataW.trod_struct Tryd.underlying26 h
    rw [kPred] at hlen
    match cs, hlen, xs, hxl with
    | [c0, c1, c2, c3, c4, c5], _, [y0, y1, y2, y3], _ =>
      have h0 : DataW.trod enc Tryd.prog w base sp hd n 9 (([c0, c1, c2, c3, c4, c5].drop 0).take (Tryd.prog.cellsOf 9)) = some y0 := hf 0 _ rfl
      have h1 : DataW.trod enc Tryd.prog w base sp hd n 9 (([c0, c1, c2, c3, c4, c5].drop 1).take (Tryd.prog.cellsOf 9)) = some y1 := hf 1 _ rfl
      have h2 : DataW.trod enc Tryd.prog w base sp hd n 23 (([c0, c1, c2, c3, c4, c5].drop 2).take (Tryd.prog.cellsOf 23)) = some y2 := hf 2 _ rfl
      have h3 : DataW.trod enc Tryd.prog w base sp hd n 24 (([c0, c1, c2, c3, c4, c5].drop 5).take (Tryd.prog.cellsOf 24)) = some y3 := hf 3 _ rfl
      rw [kStr] at h0 h1
      rw [kVal] at h2
      rw [kPreds] at h3
      obtain ⟨op, e0, ho⟩ := read_str h0
      obtain ⟨s, e1, hs⟩ := read_str h1
      obtain ⟨num, i, vs, e2, hv, hl, hh⟩ := read_val h2
      obtain ⟨a, l, c, e3, q1, q2, q3⟩ := read_sliceL PB.cells (PArg w) (.mk ⟨#[]⟩ ⟨#[]⟩ false 0 ⟨#[]⟩ none 0 []) (by decide) Tryd.underlying24 kPred (fun y => by cases y; rfl) (fun m hm => ih m (by omega)) h3
      simp at e0 e1 e2 e3
      obtain ⟨k2, k3, k4⟩ := e2
      exact ⟨.mk op s num i vs a c l, by rw [e0, e1, k2, k3, k4, e3]; rfl, .mk _ _ _ _ _ _ _ _ ho hs hv q3 ⟨hl, hh⟩ q1 q2⟩
theorem open_pred {r : Reach} {b0 : Nat} {v : Value} {d : DataW H} {ps : List MemPlace} (hv : Value.okWide Tryd.prog w r b0 26 v) (h : DataW.Trod enc Tryd.prog w base sp hd 26 v d ps) :
    ∃ y : PB, v = y.agg ∧ PArg w y := by
  obtain ⟨cs, rfl, hcs⟩ := cells_agg Tryd.underlying26 hv
  obtain ⟨fuel, hf⟩ := h
  rw [hcs] at hf
  obtain ⟨y, e, hy⟩ := read_pred fuel hf
  refine ⟨y, ?_, hy⟩
  rw [agg_of e]
  cases y
  rfl
end
end Go.Proofs.YtmmdblpoecidaaaDoor
