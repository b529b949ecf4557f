/- stores of whole structs into boxes that were just made -/
/- stores -/
import Derived.Test.YtmlbdblnmbmnpaaGreatDoorProg
import Derived.WalkKit
import Derived.WalkSpells
import Derived.WalkLawsBesides
import Derived.Lib.Hide
import Derived.Deep.RegionWith
import Derived.IntWalk
import Derived.Test.YtmlbdblnmbmnpaaGreatDoorDrawT
import Derived.Test.YtmlbdblnmbmnpaaGreatDoorFewDB14
set_option linter.unusedVariables false
set_option linter.unusedSimpArgs false

namespace Go.Proofs.YtmlbdblnmbmnpaaGreatDoor
open Go.RowKit Tryst
set_option maxHeartbeats 4000000
set_option maxRecDepth 20000
theorem cells_of {W : World} {g n : Nat} {cs : Array Value} {T : TypeId} (h : W.heap[g]? = some (.cells cs T (0, 0))) (hc : cs.size = n) {j : Nat} (hj : j < n) : (∃ u, W.cell? ⟨g, j, none⟩ = some u) ∧ W.frozen? ⟨g, j, none⟩ = false := by
 have h2 : j < cs.size := by omega
 constructor
 ·
  exact ⟨cs[j], by simp [World.cell?, h, h2]⟩
 ·
  simp [World.frozen?, h]
theorem store8 {tv : Nat → Value} {o : Oper} {p s : Nat} {W : World} {g : Nat} {cs : Array Value} {d : DB} (ho : o.op = .store 27 (.tmp p) (.tmp s)) (hp : tv p = .pointer (some ⟨g, 0, none⟩)) (hs : tv s = d.agg)
  (hg : W.heap[g]? = some (.cells cs 27 (0, 0))) (hc : cs.size = 8) : (execOp (Tryst2.evOf tv) o).run Tryz.prog W = .ok .skip (DS8 W g d.name (.slice d.ga d.gl.length d.gc) (.slice d.wa d.wl.length d.wc) d.key d.j.kind d.j.parts d.j.need d.j.window) := by
 obtain ⟨⟨u0, c0⟩, z0⟩ := cells_of hg hc (j := 0) (by decide)
 obtain ⟨⟨u1, c1⟩, z1⟩ := cells_of hg hc (j := 1) (by decide)
 obtain ⟨⟨u2, c2⟩, z2⟩ := cells_of hg hc (j := 2) (by decide)
 obtain ⟨⟨u3, c3⟩, z3⟩ := cells_of hg hc (j := 3) (by decide)
 obtain ⟨⟨u4, c4⟩, z4⟩ := cells_of hg hc (j := 4) (by decide)
 obtain ⟨⟨u5, c5⟩, z5⟩ := cells_of hg hc (j := 5) (by decide)
 obtain ⟨⟨u6, c6⟩, z6⟩ := cells_of hg hc (j := 6) (by decide)
 obtain ⟨⟨u7, c7⟩, z7⟩ := cells_of hg hc (j := 7) (by decide)
 have hlt := (Array.getElem?_eq_some_iff.1 hg).1
 obtain ⟨nm, ga, gl, gc, wa, wl, wc, ky, ⟨kd, n0, n1, n2⟩⟩ := d
 unfold DB.agg at hs
 simp only at hs
 unfold execOp DS8
 rw [ho]
 clear hg hc
 go_simp
theorem cells8 {w : World} {g : Nat} {cs : Array Value} (h : cs.size = 8) : ∃ a0 a1 a2 a3 a4 a5 a6 a7, cs = #[a0, a1, a2, a3, a4, a5, a6, a7] := by
 obtain ⟨l⟩ := cs
 match l, h with
 | [a0, a1, a2, a3, a4, a5, a6, a7], _ => exact ⟨_, _, _, _, _, _, _, _, rfl⟩
/-- the store of a definition into a box -/
theorem stored8 {tv : Nat → Value} {o : Oper} {p s : Nat} {W : World} {d : DB} (ho : o.op = .store 27 (.tmp p) (.tmp s)) (hs : tv s = d.agg)
  (hb : ∃ (g : Nat) (cs : Array Value), tv p = .pointer (some ⟨g, 0, none⟩) ∧ W.heap[g]? = some (.cells cs 27 (0, 0)) ∧ cs.size = 8) :
  Tryst2.stepV Tryz.prog (fun v w'' => ∀ g : Nat, tv p = .pointer (some ⟨g, 0, none⟩) → Tryst4.Only g W w'' ∧ w''.heap[g]? = some (.cells (Tryst4.cellsOf (tv s)).toArray 27 (0, 0)) ∧ (Tryst4.cellsOf (tv s)).length = 8) ((execOp (Tryst2.evOf tv) o).run Tryz.prog W) := by
 obtain ⟨g, cs, hp, hg, hc⟩ := hb
 rw [store8 ho hp hs hg hc, Tryst2.stepV_skip]
 intro g' hg'
 rw [hp] at hg'
 simp only [Value.pointer.injEq, Option.some.injEq, Addr.mk.injEq, and_true] at hg'
 subst hg'
 obtain ⟨nm, ga, gl, gc, wa, wl, wc, ky, ⟨kd, n0, n1, n2⟩⟩ := d
 rw [hs]
 obtain ⟨a0, a1, a2, a3, a4, a5, a6, a7, rfl⟩ := cells8 (w := W) (g := g) hc
 have hB : Below g W (DS8 W g nm (.slice ga gl.length gc) (.slice wa wl.length wc) ky kd n0 n1 n2) := DS8.below (Nat.le_refl g) (Below.refl g W)
 simp only
 refine ⟨⟨hB.os, hB.tape, hB.output, DS8.size, fun b hb => DS8.away hb⟩, ?_, by unfold DB.agg Tryst4.cellsOf; rfl⟩
 unfold DS8 DB.agg Tryst4.cellsOf
 simp [World.setCell, Array.getElem?_modify, hg]
end Go.Proofs.YtmlbdblnmbmnpaaGreatDoor
