/- definitions, offsets, and what the laws of chapter 14 ask, as arguments. -/
import Derived.Test.YtmlbdblnmbmnpaaGreatDoorProg
import Derived.Test.YtmlbdblnmbmnpaaGreatDoorOpen4
import Derived.Test.YtmlbdblnmbmnpaaGreatDoorTopOC
import Derived.Test.YtmlbdblnmbmnpaaGreatDoorFwP5
import Derived.Test.YtmlbdblnmbmnpaaGreatDoorFewD14
import Derived.Test.YtmlbdblnmbmnpaaGreatDoorOffU
set_option linter.unusedVariables false
set_option linter.unusedSimpArgs false
namespace Go.Proofs.YtmlbdblnmbmnpaaGreatDoor
set_option maxRecDepth 100000
open Go.RowKit Tryst Go.ChangeShapes Go.WideShapes Go.Joins
section
variable {H : Type} {enc : TypeId × Value → H} {w : World} {base : Nat} {sp : Nat → Bool} {hd : Bool}
theorem kJoin : Tryz.prog.cellsOf 25 = 4 := by kernel_rfl
theorem kDef : Tryz.prog.cellsOf 27 = 8 := by kernel_rfl
theorem kOff : Tryz.prog.cellsOf 31 = 2 := by kernel_rfl
theorem kOffs : Tryz.prog.cellsOf 28 = 1 := by kernel_rfl
theorem kTops14 : Tryz.prog.cellsOf 29 = 1 := by kernel_rfl
/-- an offset as it was handed in -/
def OIn (x : OB) : Prop := x.topic.size ≤ 9223372036854775807 ∧ -9223372036854775808 ≤ x.next ∧ x.next ≤ 9223372036854775807
theorem read_join {fuel : Nat} {cs : List Value} {x : DataW H × List MemPlace} (h : DataW.trod enc Tryz.prog w base sp hd fuel 25 cs = some x) :
  ∃ j : JB, cs = [.string j.kind, .int .i64 j.parts, .int .i64 j.need, .int .i64 j.window] ∧ j.kind.size ≤ 9223372036854775807 := by
 obtain ⟨xs, n, _, _, hlen, hxl, hf⟩ := DataW.trod_struct Tryz.underlying25 h
 rw [kJoin] at hlen
 match cs, hlen, xs, hxl with
 | [c0, c1, c2, c3], _, [y0, y1, y2, y3], _ =>
  have h0 : DataW.trod enc Tryz.prog w base sp hd n 9 (([c0, c1, c2, c3].drop 0).take (Tryz.prog.cellsOf 9)) = some y0 := hf 0 _ rfl
  have h1 : DataW.trod enc Tryz.prog w base sp hd n 3 (([c0, c1, c2, c3].drop 1).take (Tryz.prog.cellsOf 3)) = some y1 := hf 1 _ rfl
  have h2 : DataW.trod enc Tryz.prog w base sp hd n 3 (([c0, c1, c2, c3].drop 2).take (Tryz.prog.cellsOf 3)) = some y2 := hf 2 _ rfl
  have h3 : DataW.trod enc Tryz.prog w base sp hd n 3 (([c0, c1, c2, c3].drop 3).take (Tryz.prog.cellsOf 3)) = some y3 := hf 3 _ rfl
  rw [kStr] at h0
  rw [kInt] at h1 h2 h3
  obtain ⟨s, e0, hs⟩ := read_str h0
  obtain ⟨i, e1, _, _⟩ := DataW.trod_int Tryz.underlying3 h1
  obtain ⟨j, e2, _, _⟩ := DataW.trod_int Tryz.underlying3 h2
  obtain ⟨k, e3, _, _⟩ := DataW.trod_int Tryz.underlying3 h3
  simp at e0 e1 e2 e3
  exact ⟨⟨s, i, j, k⟩, by rw [e0, e1, e2, e3], hs⟩
theorem read_preds {fuel : Nat} {cs : List Value} {x : DataW H × List MemPlace} (h : DataW.trod enc Tryz.prog w base sp hd fuel 23 cs = some x) :
  ∃ (a : Option Addr) (l : List PB) (c : Nat), cs = [.slice a l.length c] ∧ Row w a 6 (l.map PB.cells) ∧ (∀ y ∈ l, PArg w y) ∧ l.length ≤ 9223372036854775807 := by
 obtain ⟨a, l, c, h1, h2, h3, h4, _⟩ := read_slice PB.cells (PArg w) (.mk ⟨#[]⟩ ⟨#[]⟩ false 0 ⟨#[]⟩ none 0 []) (by decide) Tryz.underlying23 kPred (fun y => by cases y; rfl) (fun h => read_pred _ h) h
 exact ⟨a, l, c, h1, h2, h3, h4⟩
theorem read_def {fuel : Nat} {cs : List Value} {x : DataW H × List MemPlace} (h : DataW.trod enc Tryz.prog w base sp hd fuel 27 cs = some x) : ∃ d : DB, cs = d.cells ∧ DArg w d := by
 obtain ⟨xs, n, _, _, hlen, hxl, hf⟩ := DataW.trod_struct Tryz.underlying27 h
 rw [kDef] at hlen
 match cs, hlen, xs, hxl with
 | [c0, c1, c2, c3, c4, c5, c6, c7], _, [y0, y1, y2, y3, y4], _ =>
  have h0 : DataW.trod enc Tryz.prog w base sp hd n 9 (([c0, c1, c2, c3, c4, c5, c6, c7].drop 0).take (Tryz.prog.cellsOf 9)) = some y0 := hf 0 _ rfl
  have h1 : DataW.trod enc Tryz.prog w base sp hd n 22 (([c0, c1, c2, c3, c4, c5, c6, c7].drop 1).take (Tryz.prog.cellsOf 22)) = some y1 := hf 1 _ rfl
  have h2 : DataW.trod enc Tryz.prog w base sp hd n 23 (([c0, c1, c2, c3, c4, c5, c6, c7].drop 2).take (Tryz.prog.cellsOf 23)) = some y2 := hf 2 _ rfl
  have h3 : DataW.trod enc Tryz.prog w base sp hd n 9 (([c0, c1, c2, c3, c4, c5, c6, c7].drop 3).take (Tryz.prog.cellsOf 9)) = some y3 := hf 3 _ rfl
  have h4 : DataW.trod enc Tryz.prog w base sp hd n 25 (([c0, c1, c2, c3, c4, c5, c6, c7].drop 4).take (Tryz.prog.cellsOf 25)) = some y4 := hf 4 _ rfl
  rw [kStr] at h0 h3
  rw [kStrs] at h1
  rw [kPreds] at h2
  rw [kJoin] at h4
  obtain ⟨nm, e0, q0⟩ := read_str h0
  obtain ⟨ga, gl, gc, e1, g1, g2, g3⟩ := read_strs h1
  obtain ⟨wa, wl, wc, e2, w1, w2, w3⟩ := read_preds h2
  obtain ⟨ky, e3, q3⟩ := read_str h3
  obtain ⟨j, e4, q4⟩ := read_join h4
  simp at e0 e1 e2 e3 e4
  obtain ⟨k4, k5, k6, k7⟩ := e4
  exact ⟨⟨nm, ga, gl, gc, wa, wl, wc, ky, j⟩, by rw [e0, e1, e2, e3, k4, k5, k6, k7]; rfl, ⟨q0, q3, q4, g1, g2, g3, w1, w2, w3⟩⟩
theorem read_off {fuel : Nat} {cs : List Value} {x : DataW H × List MemPlace} (h : DataW.trod enc Tryz.prog w base sp hd fuel 31 cs = some x) : ∃ o : OB, cs = o.cells ∧ OIn o := by
 obtain ⟨xs, n, _, _, hlen, hxl, hf⟩ := DataW.trod_struct Tryz.underlying31 h
 rw [kOff] at hlen
 match cs, hlen, xs, hxl with
 | [c0, c1], _, [y0, y1], _ =>
  have h0 : DataW.trod enc Tryz.prog w base sp hd n 9 (([c0, c1].drop 0).take (Tryz.prog.cellsOf 9)) = some y0 := hf 0 _ rfl
  have h1 : DataW.trod enc Tryz.prog w base sp hd n 3 (([c0, c1].drop 1).take (Tryz.prog.cellsOf 3)) = some y1 := hf 1 _ rfl
  rw [kStr] at h0
  rw [kInt] at h1
  obtain ⟨s, e0, hs⟩ := read_str h0
  obtain ⟨i, e1, _, hw⟩ := DataW.trod_int Tryz.underlying3 h1
  obtain ⟨hl, hh⟩ : -9223372036854775808 ≤ i ∧ i ≤ 9223372036854775807 := by simpa [Lit.wf, IntKind.min, IntKind.max, IntKind.signed, IntKind.bits] using hw
  simp at e0 e1
  exact ⟨⟨s, i⟩, by rw [e0, e1]; rfl, hs, hl, hh⟩
theorem read_offs {fuel : Nat} {cs : List Value} {x : DataW H × List MemPlace} (h : DataW.trod enc Tryz.prog w base sp hd fuel 28 cs = some x) :
  ∃ (a : Option Addr) (l : List OB) (c : Nat), cs = [.slice a l.length c] ∧ Offs w a l ∧ (∀ y ∈ l, OIn y) ∧ l.length ≤ 9223372036854775807 := by
 obtain ⟨a, l, c, h1, h2, h3, h4, _⟩ := read_slice OB.cells OIn ⟨⟨#[]⟩, 0⟩ (by decide) Tryz.underlying28 kOff (fun _ => rfl) (fun h => read_off h) h
 exact ⟨a, l, c, h1, h2, h3, h4⟩
def DB.l8 (y : DB) : List Value := [.string y.name, .slice y.ga y.gl.length y.gc, .slice y.wa y.wl.length y.wc, .string y.key, .string y.j.kind, .int .i64 y.j.parts, .int .i64 y.j.need, .int .i64 y.j.window]
theorem read_read {fuel : Nat} {cs : List Value} {x : DataW H × List MemPlace} (h : DataW.trod enc Tryz.prog w base sp hd fuel 33 cs = some x) :
  ∃ (y : DB) (la : Option Addr) (l : List OB) (lc : Nat) (ta : Option Addr) (tl : List TB) (tc : Nat) (o : OB), cs = [.string y.name, .slice y.ga y.gl.length y.gc, .slice y.wa y.wl.length y.wc, .string y.key, .string y.j.kind, .int .i64 y.j.parts, .int .i64 y.j.need, .int .i64 y.j.window, .slice la l.length lc, .slice ta tl.length tc, .string o.topic, .int .i64 o.next] ∧
   DArg w y ∧ Offs w la l ∧ (∀ x ∈ l, OIn x) ∧ l.length ≤ 9223372036854775807 ∧ TopsA w ta tl ∧ TArg tl ∧ tl.length ≤ 9223372036854775807 ∧ OIn o := by
 obtain ⟨xs, n, _, _, hlen, hxl, hf⟩ := DataW.trod_struct Tryz.underlying33 h
 rw [show Tryz.prog.cellsOf 33 = 12 by kernel_rfl] at hlen
 match cs, hlen, xs, hxl with
 | [c0, c1, c2, c3, c4, c5, c6, c7, c8, c9, c10, c11], _, [y0, y1, y2, y3], _ =>
  have h0 : DataW.trod enc Tryz.prog w base sp hd n 27 (([c0, c1, c2, c3, c4, c5, c6, c7, c8, c9, c10, c11].drop 0).take (Tryz.prog.cellsOf 27)) = some y0 := hf 0 _ rfl
  have h1 : DataW.trod enc Tryz.prog w base sp hd n 28 (([c0, c1, c2, c3, c4, c5, c6, c7, c8, c9, c10, c11].drop 8).take (Tryz.prog.cellsOf 28)) = some y1 := hf 1 _ rfl
  have h2 : DataW.trod enc Tryz.prog w base sp hd n 29 (([c0, c1, c2, c3, c4, c5, c6, c7, c8, c9, c10, c11].drop 9).take (Tryz.prog.cellsOf 29)) = some y2 := hf 2 _ rfl
  have h3 : DataW.trod enc Tryz.prog w base sp hd n 31 (([c0, c1, c2, c3, c4, c5, c6, c7, c8, c9, c10, c11].drop 10).take (Tryz.prog.cellsOf 31)) = some y3 := hf 3 _ rfl
  rw [kDef] at h0
  rw [kOffs] at h1
  rw [kTops14] at h2
  rw [kOff] at h3
  obtain ⟨d, e0, hd⟩ := read_def h0
  obtain ⟨la, l, lc, e1, q1, q2, q3⟩ := read_offs h1
  obtain ⟨ta, tl, tc, e2, r1, r2, r3⟩ := read_tops h2
  obtain ⟨o, e3, ho⟩ := read_off h3
  simp [DB.cells, OB.cells] at e0 e1 e2 e3
  obtain ⟨k0, k1, k2, k3, k4, k5, k6, k7⟩ := e0
  obtain ⟨k8, k9⟩ := e3
  exact ⟨d, la, l, lc, ta, tl, tc, o, by rw [k0, k1, k2, k3, k4, k5, k6, k7, k8, k9, e1, e2], hd, q1, q2, q3, r1, r2, r3, ho⟩
theorem open_read {r : Reach} {b0 : Nat} {v : Value} {d : DataW H} {ps : List MemPlace} (hv : Value.okWide Tryz.prog w r b0 33 v) (h : DataW.Trod enc Tryz.prog w base sp hd 33 v d ps) :
  ∃ (y : DB) (la : Option Addr) (l : List OB) (lc : Nat) (ta : Option Addr) (tl : List TB) (tc : Nat) (o : OB), v = .agg #[.string y.name, .slice y.ga y.gl.length y.gc, .slice y.wa y.wl.length y.wc, .string y.key, .string y.j.kind, .int .i64 y.j.parts, .int .i64 y.j.need, .int .i64 y.j.window, .slice la l.length lc, .slice ta tl.length tc, .string o.topic, .int .i64 o.next] ∧
   DArg w y ∧ Offs w la l ∧ (∀ x ∈ l, OIn x) ∧ l.length ≤ 9223372036854775807 ∧ TopsA w ta tl ∧ TArg tl ∧ tl.length ≤ 9223372036854775807 ∧ OIn o := by
 obtain ⟨cs, rfl, hcs⟩ := cells_agg Tryz.underlying33 hv
 obtain ⟨fuel, hf⟩ := h
 rw [hcs] at hf
 obtain ⟨y, la, l, lc, ta, tl, tc, o, e, rest⟩ := read_read hf
 exact ⟨y, la, l, lc, ta, tl, tc, o, agg_of e, rest⟩
end
end Go.Proofs.YtmlbdblnmbmnpaaGreatDoor
