/- The beginning of PredLogic and PredHolds: two predicates and an event. -/
import Derived.Test.YtmmdblpoecidaaaDoorProg
import Derived.WalkKit
import Derived.WalkSpells
import Derived.WalkLawsBesides
import Derived.Lib.Hide
import Derived.Test.YtmmdblpoecidaaaDoorFewP
import Derived.Test.YtmmdblpoecidaaaDoorEv3O
import Derived.Test.YtmmdblpoecidaaaDoorAw4s
set_option linter.unusedVariables false
set_option linter.unusedSimpArgs false
namespace Go.Proofs.YtmmdblpoecidaaaDoor
open Go.RowKit Tryst
set_option maxHeartbeats 4000000
set_option maxRecDepth 20000
/-- a predicate of the call's own -/
def PrO (base : Nat) (v : Value) (w : World) : Prop := ∃ y : PB, v = y.agg ∧ POwn w (fun b => base ≤ b) y
theorem PrO.at {base : Nat} {v : Value} {w' : World} (h : ∃ w0, Tryst2.Grow w0 w' ∧ PrO base v w0) : PrO base v w' := by
  obtain ⟨w0, hg, y, h1, h2⟩ := h
  exact ⟨y, h1, h2.grow hg (fun _ h => h)⟩
theorem PrO.of {base : Nat} {w w' : World} {y : PB} (h : POwn w' (fun b => w.heap.size ≤ b) y) (hb : Below w.heap.size w w') (hz : base ≤ w.heap.size) : Tryst2.Grow w w' ∧ ∃ w0, Tryst2.Grow w0 w' ∧ PrO base y.agg w0 :=
  ⟨hb, w', Tryst2.Grow.refl _, y, rfl, h.grow (.refl _ _) (fun b hb => Nat.le_trans hz hb)⟩
/-- an event of the call's own -/
def EvO (base : Nat) (t p : ByteArray) (q : Int) (l : List FB) (v : Value) (w : World) : Prop := ∃ a c, v = .agg #[.string t, .string p, .int .u64 q, .slice a l.length c] ∧ Flds w a l ∧ Sl a c l.length ∧ ∀ b o, a = some ⟨b, o, none⟩ → base ≤ b
theorem EvO.at {base : Nat} {t p : ByteArray} {q : Int} {l : List FB} {v : Value} {w' : World} (h : ∃ w0, Tryst2.Grow w0 w' ∧ EvO base t p q l v w0) : EvO base t p q l v w' := by
  obtain ⟨w0, hg, a, c, h1, h2, h3, h4⟩ := h
  exact ⟨a, c, h1, h2.grow hg, h3, h4⟩
theorem EvO.of {base : Nat} {w w' : World} {t p : ByteArray} {q : Int} {l : List FB} {a : Option Addr} {c : Nat} (h : FOwn 54 w' w.heap.size (.slice a l.length c) l) (hb : Below w.heap.size w w') (hz : base ≤ w.heap.size) : Tryst2.Grow w w' ∧ ∃ w0, Tryst2.Grow w0 w' ∧ EvO base t p q l (.agg #[.string t, .string p, .int .u64 q, .slice a l.length c]) w0 := by
  obtain ⟨a', c', e, h1, h2, _, h3⟩ := h.flds
  simp only [Value.slice.injEq, true_and] at e
  obtain ⟨rfl, rfl⟩ := e
  exact ⟨hb, w', Tryst2.Grow.refl _, a, c, rfl, h1, h3, fun b o e => Nat.le_trans hz (h2 b o e).1⟩
theorem Flds.keep {w w' : World} {a : Option Addr} {l : List FB} (h : Flds w a l) (hb : ∀ b o, a = some ⟨b, o, none⟩ → w'.heap[b]? = w.heap[b]?) (hz : w.heap.size ≤ w'.heap.size) : Flds w' a l := by
  intro i hi
  obtain ⟨b, o, h1, h2, h3⟩ := h i hi
  have hc : ∀ j, w'.cell? ⟨b, j, none⟩ = w.cell? ⟨b, j, none⟩ := fun j => World.cell?_of_block (w := w) (a := ⟨b, j, none⟩) (hb b o h1)
  obtain ⟨k0, k1, k2, k3⟩ := h3
  exact ⟨b, o, h1, by omega, ⟨by rw [hc]; exact k0, by rw [hc]; exact k1, by rw [hc]; exact k2, by rw [hc]; exact k3⟩⟩
/-- the stores into the three boxes -/
def three (w : World) (B : Nat) (a0 a1 : ByteArray) (a2 : Bool) (a3 : Int) (a4 : ByteArray) (a5 : Value) (b0 b1 : ByteArray) (b2 : Bool) (b3 : Int) (b4 : ByteArray) (b5 : Value) (t p : ByteArray) (q : Int) (u : Value) : World :=
  (((((((((((((((w.setCell ⟨B, 0, none⟩ (.string a0)).setCell ⟨B, 1, none⟩ (.string a1)).setCell ⟨B, 2, none⟩ (.bool a2)).setCell ⟨B, 3, none⟩ (.int .i64 a3)).setCell ⟨B, 4, none⟩ (.string a4)).setCell ⟨B, 5, none⟩ a5).setCell ⟨B + 1, 0, none⟩ (.string b0)).setCell ⟨B + 1, 1, none⟩ (.string b1)).setCell ⟨B + 1, 2, none⟩ (.bool b2)).setCell ⟨B + 1, 3, none⟩ (.int .i64 b3)).setCell ⟨B + 1, 4, none⟩ (.string b4)).setCell ⟨B + 1, 5, none⟩ b5).setCell ⟨B + 2, 0, none⟩ (.string t)).setCell ⟨B + 2, 1, none⟩ (.string p)).setCell ⟨B + 2, 2, none⟩ (.int .u64 q)).setCell ⟨B + 2, 3, none⟩ u
section
variable {w : World} {B : Nat} {a0 a1 : ByteArray} {a2 : Bool} {a3 : Int} {a4 : ByteArray} {a5 : Value} {b0 b1 : ByteArray} {b2 : Bool} {b3 : Int} {b4 : ByteArray} {b5 : Value} {t p : ByteArray} {q : Int} {u : Value}
theorem three_away {k : Nat} (h : B + 3 ≤ k) : (three w B a0 a1 a2 a3 a4 a5 b0 b1 b2 b3 b4 b5 t p q u).heap[k]? = w.heap[k]? := by
  unfold three
  repeat rw [Below.heap_setCell _ _ _ _ (show k ≠ _ by simp; omega)]
theorem three_size : (three w B a0 a1 a2 a3 a4 a5 b0 b1 b2 b3 b4 b5 t p q u).heap.size = w.heap.size := by
  unfold three
  simp
theorem two_p {c0 c1 : ByteArray} {c2 : Bool} {c3 : Int} {c4 : ByteArray} {c5 : Value} (h : BX w B c0 c1 c2 c3 c4 c5) : BX (three w B a0 a1 a2 a3 a4 a5 b0 b1 b2 b3 b4 b5 t p q u) B a0 a1 a2 a3 a4 a5 := by
  have h1 := h.all a0 a1 a2 a3 a4 a5
  unfold three
  repeat (refine BX.away ?_ (by omega) _)
  exact h1
theorem two_q {c0 c1 : ByteArray} {c2 : Bool} {c3 : Int} {c4 : ByteArray} {c5 : Value} (h : BX w (B + 1) c0 c1 c2 c3 c4 c5) : BX (three w B a0 a1 a2 a3 a4 a5 b0 b1 b2 b3 b4 b5 t p q u) (B + 1) b0 b1 b2 b3 b4 b5 := by
  unfold three
  refine BX.away (BX.away (BX.away (BX.away ?_ (by omega) _) (by omega) _) (by omega) _) (by omega) _
  refine BX.all (op := c0) (s := c1) (num := c2) (n := c3) (vs := c4) (u := c5) ?_ _ _ _ _ _ _
  repeat (refine BX.away ?_ (by omega) _)
  exact h
theorem two_e {t0 p0 : ByteArray} {q0 : Int} {u0 : Value} (h : EAt w (B + 2) t0 p0 q0 u0) : EAt (three w B a0 a1 a2 a3 a4 a5 b0 b1 b2 b3 b4 b5 t p q u) (B + 2) t p q u := by
  obtain ⟨h1, h2, h3, h4, g1, g2, g3, g4⟩ := h
  unfold three
  refine EAt.setAll (t := t0) (p := p0) (q := q0) (u := u0) ?_
  constructor <;> simp [cell_setCell, frozen_setCell, h1, h2, h3, h4, g1, g2, g3, g4]
theorem two_o {y : PB} (h : POwn w (fun b => B + 3 ≤ b) y) : POwn (three w B a0 a1 a2 a3 a4 a5 b0 b1 b2 b3 b4 b5 t p q u) (fun b => B + 3 ≤ b) y :=
  h.keep (fun b hb _ => ⟨three_away hb, hb⟩) (by rw [three_size]; exact Nat.le_refl _)
theorem two_f {a : Option Addr} {l : List FB} (h : Flds w a l) (hb : ∀ b o, a = some ⟨b, o, none⟩ → B + 3 ≤ b) : Flds (three w B a0 a1 a2 a3 a4 a5 b0 b1 b2 b3 b4 b5 t p q u) a l :=
  Flds.keep h (fun b o e => three_away (hb b o e)) (by rw [three_size]; exact Nat.le_refl _)
theorem two_b {v : World} (h : Below B v w) : Below B v (three w B a0 a1 a2 a3 a4 a5 b0 b1 b2 b3 b4 b5 t p q u) := by
  exact (Below.setCell (Below.setCell (Below.setCell (Below.setCell (Below.setCell (Below.setCell (Below.setCell (Below.setCell (Below.setCell (Below.setCell (Below.setCell (Below.setCell (Below.setCell (Below.setCell (Below.setCell (Below.setCell h (p := ⟨B, 0, none⟩) (show B ≤ B by omega) _) (p := ⟨B, 1, none⟩) (show B ≤ B by omega) _) (p := ⟨B, 2, none⟩) (show B ≤ B by omega) _) (p := ⟨B, 3, none⟩) (show B ≤ B by omega) _) (p := ⟨B, 4, none⟩) (show B ≤ B by omega) _) (p := ⟨B, 5, none⟩) (show B ≤ B by omega) _) (p := ⟨B + 1, 0, none⟩) (show B ≤ B + 1 by omega) _) (p := ⟨B + 1, 1, none⟩) (show B ≤ B + 1 by omega) _) (p := ⟨B + 1, 2, none⟩) (show B ≤ B + 1 by omega) _) (p := ⟨B + 1, 3, none⟩) (show B ≤ B + 1 by omega) _) (p := ⟨B + 1, 4, none⟩) (show B ≤ B + 1 by omega) _) (p := ⟨B + 1, 5, none⟩) (show B ≤ B + 1 by omega) _) (p := ⟨B + 2, 0, none⟩) (show B ≤ B + 2 by omega) _) (p := ⟨B + 2, 1, none⟩) (show B ≤ B + 2 by omega) _) (p := ⟨B + 2, 2, none⟩) (show B ≤ B + 2 by omega) _) (p := ⟨B + 2, 3, none⟩) (show B ≤ B + 2 by omega) _)
end
end Go.Proofs.YtmmdblpoecidaaaDoor
