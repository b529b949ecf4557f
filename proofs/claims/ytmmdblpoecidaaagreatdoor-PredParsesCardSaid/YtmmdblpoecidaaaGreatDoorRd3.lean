/- The walk of the reader s value. -/
import Derived.Test.YtmmdblpoecidaaaGreatDoorProg
import Derived.WalkKit
import Derived.WalkSpells
import Derived.WalkLawsBesides
import Derived.Lib.Hide
import Derived.Deep.RegionWith
import Derived.Deep.RegionHeld3
import Derived.Deep.Cut
import Derived.Test.YtmmdblpoecidaaaGreatDoorRdA
set_option linter.unusedVariables false
set_option linter.unusedSimpArgs false
namespace Go.Proofs.YtmmdblpoecidaaaGreatDoor
open Go.RowKit Tryst
set_option maxHeartbeats 400000
set_option maxRecDepth 20000
theorem _root_.Tryst.RAt.other {w : World} {g c o : Nat} {s : ByteArray} {a e : Nat} {u : Value} (h : RAt w g s a e) (hc : c ≠ g) : RAt (w.setCell ⟨c, o, none⟩ u) g s a e := by
  obtain ⟨h0, h1, h2, h3, h4, h5⟩ := h
  constructor <;> simp [cell_setCell, frozen_setCell, hc, h0, h1, h2, h3, h4, h5]
theorem _root_.Tryst.RAt.put {w : World} {g : Nat} {s : ByteArray} {a e a' e' : Nat} {x : Int} (h : RAt w g s a e) (hx : (a' : Int) = x) : RAt ((w.setCell ⟨g, 1, none⟩ (.int .i64 x)).setCell ⟨g, 2, none⟩ (.int .i64 e')) g s a' e' := by
  subst hx; exact h.set1.set2
theorem _root_.Tryst.RAt.alloc {w : World} {g : Nat} {s : ByteArray} {a e : Nat} (h : RAt w g s a e) (o : Obj) : RAt (w.alloc o) g s a e := h.grow (balloc _ (.refl _ _))
theorem _root_.Tryst.RAt.drew {w : World} {g : Nat} {s : ByteArray} {a e : Nat} (h : RAt w g s a e) : RAt w.drew g s a e := ⟨h.c0, h.c1, h.c2, h.f1, h.f2, h.hz⟩
theorem _root_.Tryst.Only.new {g c : Nat} {u v : World} (h : Only g u v) (hg : g < u.heap.size) (hc : u.heap.size ≤ c) (o : Nat) (x : Value) : Only g u (v.setCell ⟨c, o, none⟩ x) :=
  ⟨h.below.setCell (p := ⟨c, o, none⟩) (show g ≤ c by omega) x, fun k hk hkg => by
    rw [Below.heap_setCell _ _ _ _ (fun e => (by have e' : k = c := e; omega))]; exact h.keep k hk hkg⟩
theorem _root_.Tryst.Only.alloc {g : Nat} {u v : World} (h : Only g u v) (hg : g < u.heap.size) (o : Obj) : Only g u (v.alloc o) :=
  h.trans (Only.ofBelow (Nat.lt_of_lt_of_le hg h.below.size) (balloc o (.refl _ _)))
def VV (v : V) : Value := .agg #[.bool v.num, .int .i64 v.n, .string ⟨v.s.toArray⟩]
def ValR (w : World) (g : Nat) (s : ByteArray) (v : V) (a e : Nat) (x : Ending) (w' : World) : Prop := x = .returned (VV v) ∧ RAt w' g s a e ∧ Only g w w'
/-- a value's three cells, which may be written -/
structure VBox (w : World) (b : Nat) (v : V) : Prop where
  c0 : w.cell? ⟨b, 0, none⟩ = some (.bool v.num)
  c1 : w.cell? ⟨b, 1, none⟩ = some (.int .i64 v.n)
  c2 : w.cell? ⟨b, 2, none⟩ = some (.string ⟨v.s.toArray⟩)
  f0 : w.frozen? ⟨b, 0, none⟩ = false
  f1 : w.frozen? ⟨b, 1, none⟩ = false
  f2 : w.frozen? ⟨b, 2, none⟩ = false
  hz : b < w.heap.size
theorem VBox.grow {w w' : World} {b : Nat} {v : V} (h : VBox w b v) (hb : Below w.heap.size w w') : VBox w' b v := by
  obtain ⟨h0, h1, h2, h3, h4, h5, h6⟩ := h
  exact ⟨by rw [hb.cell (p := ⟨b, 0, none⟩) h6]; exact h0, by rw [hb.cell (p := ⟨b, 1, none⟩) h6]; exact h1, by rw [hb.cell (p := ⟨b, 2, none⟩) h6]; exact h2, by rw [hb.frozen (p := ⟨b, 0, none⟩) h6]; exact h3, by rw [hb.frozen (p := ⟨b, 1, none⟩) h6]; exact h4, by rw [hb.frozen (p := ⟨b, 2, none⟩) h6]; exact h5, Nat.lt_of_lt_of_le h6 hb.size⟩
theorem VBox.alloc {w : World} {b : Nat} {v : V} (h : VBox w b v) (o : Obj) : VBox (w.alloc o) b v := h.grow (balloc _ (.refl _ _))
theorem VBox.drew {w : World} {b : Nat} {v : V} (h : VBox w b v) : VBox w.drew b v := ⟨h.c0, h.c1, h.c2, h.f0, h.f1, h.f2, h.hz⟩
theorem VBox.other {w : World} {b c o : Nat} {v : V} {u : Value} (h : VBox w b v) (hc : c ≠ b) : VBox (w.setCell ⟨c, o, none⟩ u) b v := by
  obtain ⟨h0, h1, h2, h3, h4, h5, h6⟩ := h
  constructor <;> simp [cell_setCell, frozen_setCell, hc, h0, h1, h2, h3, h4, h5, h6]
theorem VBox.set {w : World} {b : Nat} {v u : V} (h : VBox w b u) : VBox (((w.setCell ⟨b, 0, none⟩ (.bool v.num)).setCell ⟨b, 1, none⟩ (.int .i64 v.n)).setCell ⟨b, 2, none⟩ (.string ⟨v.s.toArray⟩)) b v := by
  obtain ⟨h0, h1, h2, h3, h4, h5, h6⟩ := h
  constructor <;> simp [cell_setCell, frozen_setCell, h0, h1, h2, h3, h4, h5, h6]
theorem VBox.new (w : World) (v : V) (T : TypeId) : VBox (w.alloc (.cells #[.bool v.num, .int .i64 v.n, .string ⟨v.s.toArray⟩] T)) w.heap.size v := by
  constructor <;> simp [go_sem]
def ValMid (w : World) (g : Nat) (s : ByteArray) (a : Nat) (v : V) (k e' : Nat) (c : Act) (w' : World) : Prop :=
  ∃ g3, c = ⟨#[.pointer (some ⟨g, 0, none⟩), undef, .pointer (some ⟨w.heap.size, 0, none⟩), .pointer (some ⟨g3, 0, none⟩), .int .i64 k, .int .i64 e', .pointer (some ⟨g, 0, none⟩), .pointer (some ⟨g, 0, none⟩), .pointer (some ⟨g, 2, none⟩), .int .i64 0, .bool false, undef, .tuple #[.agg #[.bool v.num, .int .i64 v.n, .string ⟨v.s.toArray⟩], .int .i64 k, .int .i64 e'], .pointer (some ⟨g, 0, none⟩), .pointer (some ⟨g, 0, none⟩), .pointer (some ⟨g, 0, none⟩), .string s, .pointer (some ⟨g, 0, none⟩), .pointer (some ⟨g, 0, none⟩), .pointer (some ⟨g, 1, none⟩), .int .i64 a, .string (s.extract a s.size), .tuple #[.agg #[.bool v.num, .int .i64 v.n, .string ⟨v.s.toArray⟩], .int .i64 k, .int .i64 e'], .agg #[.bool v.num, .int .i64 v.n, .string ⟨v.s.toArray⟩], .int .i64 k, .int .i64 e', undef, undef, undef, undef, undef, undef, undef, undef, undef, undef, undef, undef, undef, undef], []⟩ ∧
    w.heap.size < g3 ∧ RAt w' g s a 0 ∧ Only g w w' ∧ VBox w' w.heap.size V.zero ∧ VBox w' g3 v
theorem cut_then {C : Code} {P : Program} {K : Act → World → Prop} {Q : Exit → Act → World → Prop} {a : Act} {w : World} (M : Act → World → Prop) (h1 : C.wp P (Exit.then M Q) a w) (h2 : ∀ a w, M a w → K a w) : C.wp P (Exit.then K Q) a w :=
  Code.wp_mono (fun e a w h => by cases e <;> first | exact h2 a w h | exact h) h1
end Go.Proofs.YtmmdblpoecidaaaGreatDoor
