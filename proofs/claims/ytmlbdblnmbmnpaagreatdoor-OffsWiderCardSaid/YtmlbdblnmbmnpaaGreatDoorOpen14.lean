/- definitions, offsets, and what the laws of chapter 14 ask, as arguments. -/
import Derived.Test.YtmlbdblnmbmnpaaGreatDoorProg
import Derived.Test.YtmlbdblnmbmnpaaGreatDoorOpen4
import Derived.Test.YtmlbdblnmbmnpaaGreatDoorTopOC
import Derived.Test.YtmlbdblnmbmnpaaGreatDoorFwP5
import Derived.Test.YtmlbdblnmbmnpaaGreatDoorFewD14
import Derived.Test.YtmlbdblnmbmnpaaGreatDoorOffU
set_option linter.unusedVariables false
set_option linter.unusedSimpArgs false
namespace Go.Proofs.YtmlbdblnmbmnpaaGreatDoor
set_option maxRecDepth 100000
open Go.RowKit Tryst Go.ChangeShapes Go.WideShapes Go.Joins
section
variable {H : Type} {enc : TypeId × Value → H} {w : World} {base : Nat} {sp : Nat → Bool} {hd : Bool}
theorem kJoin : Tryz.prog.cellsOf 25 = 4 := by kernel_rfl
theorem kDef : Tryz.prog.cellsOf 27 = 8 := by kernel_rfl
theorem read_join {fuel : Nat} {cs : List Value} {x : DataW H × List MemPlace} (h : DataW.trod enc Tryz.prog w base sp hd fuel 25 cs = some x) :
  ∃ j : JB, cs = [.string j.kind, .int .i64 j.parts, .int .i64 j.need, .int .i64 j.window] ∧ j.kind.size ≤ 9223372036854775807 := by
 obtain ⟨xs, n, _, _, hlen, hxl, hf⟩ := DataW.trod_struct Tryz.underlying25 h
 rw [kJoin] at hlen
 match cs, hlen, xs, hxl with
 | [c0, c1, c2, c3], _, [y0, y1, y2, y3], _ =>
  have h0 : DataW.trod enc Tryz.prog w base sp hd n 9 (([c0, c1, c2, c3].drop 0).take (Tryz.prog.cellsOf 9)) = some y0 := hf 0 _ rfl
  have h1 : DataW.trod enc Tryz.prog w base sp hd n 3 (([c0, c1, c2, c3].drop 1).take (Tryz.prog.cellsOf 3)) = some y1 := hf 1 _ rfl
  have h2 : DataW.trod enc Tryz.prog w base sp hd n 3 (([c0, c1, c2, c3].drop 2).take (Tryz.prog.cellsOf 3)) = some y2 := hf 2 _ rfl
  have h3 : DataW.trod enc Tryz.prog w base sp hd n 3 (([c0, c1, c2, c3].drop 3).take (Tryz.prog.cellsOf 3)) = some y3 := hf 3 _ rfl
  rw [kStr] at h0
  rw [kInt] at h1 h2 h3
  obtain ⟨s, e0, hs⟩ := read_str h0
  obtain ⟨i, e1, _, _⟩ := DataW.trod_int Tryz.underlying3 h1
  obtain ⟨j, e2, _, _⟩ := DataW.trod_int Tryz.underlying3 h2
  obtain ⟨k, e3, _, _⟩ := DataW.trod_int Tryz.underlying3 h3
  simp at e0 e1 e2 e3
  exact ⟨⟨s, i, j, k⟩, by rw [e0, e1, e2, e3], hs⟩
theorem read_preds {fuel : Nat} {cs : List Value} {x : DataW H × List MemPlace} (h : DataW.trod enc Tryz.prog w base sp hd fuel 23 cs = some x) :
  ∃ (a : Option Addr) (l : List PB) (c : Nat), cs = [.slice a l.length c] ∧ Row w a 6 (l.map PB.cells) ∧ (∀ y ∈ l, PArg w y) ∧ l.length ≤ 9223372036854775807 := by
 obtain ⟨a, l, c, h1, h2, h3, h4, _⟩ := read_slice PB.cells (PArg w) (.mk ⟨#[]⟩ ⟨#[]⟩ false 0 ⟨#[]⟩ none 0 []) (by decide) Tryz.underlying23 kPred (fun y => by cases y; rfl) (fun h => read_pred _ h) h
 exact ⟨a, l, c, h1, h2, h3, h4⟩
theorem read_def {fuel : Nat} {cs : List Value} {x : DataW H × List MemPlace} (h : DataW.trod enc Tryz.prog w base sp hd fuel 27 cs = some x) : ∃ d : DB, cs = d.cells ∧ DArg w d := by
 obtain ⟨xs, n, _, _, hlen, hxl, hf⟩ := DataW.trod_struct Tryz.underlying27 h
 rw [kDef] at hlen
 match cs, hlen, xs, hxl with
 | [c0, c1, c2, c3, c4, c5, c6, c7], _, [y0, y1, y2, y3, y4], _ =>
  have h0 : DataW.trod enc Tryz.prog w base sp hd n 9 (([c0, c1, c2, c3, c4, c5, c6, c7].drop 0).take (Tryz.prog.cellsOf 9)) = some y0 := hf 0 _ rfl
  have h1 : DataW.trod enc Tryz.prog w base sp hd n 22 (([c0, c1, c2, c3, c4, c5, c6, c7].drop 1).take (Tryz.prog.cellsOf 22)) = some y1 := hf 1 _ rfl
  have h2 : DataW.trod enc Tryz.prog w base sp hd n 23 (([c0, c1, c2, c3, c4, c5, c6, c7].drop 2).take (Tryz.prog.cellsOf 23)) = some y2 := hf 2 _ rfl
  have h3 : DataW.trod enc Tryz.prog w base sp hd n 9 (([c0, c1, c2, c3, c4, c5, c6, c7].drop 3).take (Tryz.prog.cellsOf 9)) = some y3 := hf 3 _ rfl
  have h4 : DataW.trod enc Tryz.prog w base sp hd n 25 (([c0, c1, c2, c3, c4, c5, c6, c7].drop 4).take (Tryz.prog.cellsOf 25)) = some y4 := hf 4 _ rfl
  rw [kStr] at h0 h3
  rw [kStrs] at h1
  rw [kPreds] at h2
  rw [kJoin] at h4
  obtain ⟨nm, e0, q0⟩ := read_str h0
  obtain ⟨ga, gl, gc, e1, g1, g2, g3⟩ := read_strs h1
  obtain ⟨wa, wl, wc, e2, w1, w2, w3⟩ := read_preds h2
  obtain ⟨ky, e3, q3⟩ := read_str h3
  obtain ⟨j, e4, q4⟩ := read_join h4
  simp at e0 e1 e2 e3 e4
  obtain ⟨k4, k5, k6, k7⟩ := e4
  exact ⟨⟨nm, ga, gl, gc, wa, wl, wc, ky, j⟩, by rw [e0, e1, e2, e3, k4, k5, k6, k7]; rfl, ⟨q0, q3, q4, g1, g2, g3, w1, w2, w3⟩⟩
def DB.l8 (y : DB) : List Value := [.string y.name, .slice y.ga y.gl.length y.gc, .slice y.wa y.wl.length y.wc, .string y.key, .string y.j.kind, .int .i64 y.j.parts, .int .i64 y.j.need, .int .i64 y.j.window]
theorem read_asked {fuel : Nat} {cs : List Value} {x : DataW H × List MemPlace} (h : DataW.trod enc Tryz.prog w base sp hd fuel 65 cs = some x) :
  ∃ (y z : DB) (t p : ByteArray) (q : Int) (a : Option Addr) (l : List FB) (c : Nat) (s : ByteArray), cs = [.string y.name, .slice y.ga y.gl.length y.gc, .slice y.wa y.wl.length y.wc, .string y.key, .string y.j.kind, .int .i64 y.j.parts, .int .i64 y.j.need, .int .i64 y.j.window, .string z.name, .slice z.ga z.gl.length z.gc, .slice z.wa z.wl.length z.wc, .string z.key, .string z.j.kind, .int .i64 z.j.parts, .int .i64 z.j.need, .int .i64 z.j.window, .string t, .string p, .int .u64 q, .slice a l.length c, .string s] ∧ DArg w y ∧ DArg w z ∧ (t.size ≤ 9223372036854775807 ∧ p.size ≤ 9223372036854775807 ∧ 0 ≤ q ∧ q ≤ 18446744073709551615 ∧ Flds w a l ∧ FIn l ∧ l.length ≤ maxLen) ∧ s.size ≤ 9223372036854775807 := by
 obtain ⟨xs, n, _, _, hlen, hxl, hf⟩ := DataW.trod_struct Tryz.underlying65 h
 rw [show Tryz.prog.cellsOf 65 = 21 by kernel_rfl] at hlen
 match cs, hlen, xs, hxl with
 | [c0, c1, c2, c3, c4, c5, c6, c7, c8, c9, c10, c11, c12, c13, c14, c15, c16, c17, c18, c19, c20], _, [y0, y1, y2, y3], _ =>
  have h0 : DataW.trod enc Tryz.prog w base sp hd n 27 (([c0, c1, c2, c3, c4, c5, c6, c7, c8, c9, c10, c11, c12, c13, c14, c15, c16, c17, c18, c19, c20].drop 0).take (Tryz.prog.cellsOf 27)) = some y0 := hf 0 _ rfl
  have h1 : DataW.trod enc Tryz.prog w base sp hd n 27 (([c0, c1, c2, c3, c4, c5, c6, c7, c8, c9, c10, c11, c12, c13, c14, c15, c16, c17, c18, c19, c20].drop 8).take (Tryz.prog.cellsOf 27)) = some y1 := hf 1 _ rfl
  have h2 : DataW.trod enc Tryz.prog w base sp hd n 63 (([c0, c1, c2, c3, c4, c5, c6, c7, c8, c9, c10, c11, c12, c13, c14, c15, c16, c17, c18, c19, c20].drop 16).take (Tryz.prog.cellsOf 63)) = some y2 := hf 2 _ rfl
  have h3 : DataW.trod enc Tryz.prog w base sp hd n 9 (([c0, c1, c2, c3, c4, c5, c6, c7, c8, c9, c10, c11, c12, c13, c14, c15, c16, c17, c18, c19, c20].drop 20).take (Tryz.prog.cellsOf 9)) = some y3 := hf 3 _ rfl
  rw [kDef] at h0 h1
  rw [kEv] at h2
  rw [kStr] at h3
  obtain ⟨d, e0, hd⟩ := read_def h0
  obtain ⟨d', e1, hd'⟩ := read_def h1
  obtain ⟨t, p, q, a, l, c, e2, rest⟩ := read_ev h2
  obtain ⟨s, e3, hs⟩ := read_str h3
  simp [DB.cells] at e0 e1 e2 e3
  obtain ⟨k0, k1, k2, k3, k4, k5, k6, k7⟩ := e0
  obtain ⟨l0, l1, l2, l3, l4, l5, l6, l7⟩ := e1
  obtain ⟨m0, m1, m2, m3⟩ := e2
  exact ⟨d, d', t, p, q, a, l, c, s, by rw [k0, k1, k2, k3, k4, k5, k6, k7, l0, l1, l2, l3, l4, l5, l6, l7, m0, m1, m2, m3, e3], hd, hd', rest, hs⟩
theorem open_asked {r : Reach} {b0 : Nat} {v : Value} {d : DataW H} {ps : List MemPlace} (hv : Value.okWide Tryz.prog w r b0 65 v) (h : DataW.Trod enc Tryz.prog w base sp hd 65 v d ps) :
  ∃ (y z : DB) (t p : ByteArray) (q : Int) (a : Option Addr) (l : List FB) (c : Nat) (s : ByteArray), v = .agg #[.string y.name, .slice y.ga y.gl.length y.gc, .slice y.wa y.wl.length y.wc, .string y.key, .string y.j.kind, .int .i64 y.j.parts, .int .i64 y.j.need, .int .i64 y.j.window, .string z.name, .slice z.ga z.gl.length z.gc, .slice z.wa z.wl.length z.wc, .string z.key, .string z.j.kind, .int .i64 z.j.parts, .int .i64 z.j.need, .int .i64 z.j.window, .string t, .string p, .int .u64 q, .slice a l.length c, .string s] ∧ DArg w y ∧ DArg w z ∧ (t.size ≤ 9223372036854775807 ∧ p.size ≤ 9223372036854775807 ∧ 0 ≤ q ∧ q ≤ 18446744073709551615 ∧ Flds w a l ∧ FIn l ∧ l.length ≤ maxLen) ∧ s.size ≤ 9223372036854775807 := by
 obtain ⟨cs, rfl, hcs⟩ := cells_agg Tryz.underlying65 hv
 obtain ⟨fuel, hf⟩ := h
 rw [hcs] at hf
 obtain ⟨y, z, t, p, q, a, l, c, s, e, rest⟩ := read_asked hf
 exact ⟨y, z, t, p, q, a, l, c, s, agg_of e, rest⟩
end
end Go.Proofs.YtmlbdblnmbmnpaaGreatDoor
