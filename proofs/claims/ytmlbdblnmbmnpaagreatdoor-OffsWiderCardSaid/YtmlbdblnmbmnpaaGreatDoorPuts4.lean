/- The walk of EventPuts. -/
import Derived.Test.YtmlbdblnmbmnpaaGreatDoorProg
import Derived.WalkKit
import Derived.WalkSpells
import Derived.WalkLawsBesides
import Derived.Lib.Hide
import Derived.Deep.RegionWith
import Derived.Deep.Cut
import Derived.Test.YtmlbdblnmbmnpaaGreatDoorAw4s
import Derived.Test.YtmlbdblnmbmnpaaGreatDoorPutU
set_option linter.unusedVariables false
set_option linter.unusedSimpArgs false
namespace Go.Proofs.YtmlbdblnmbmnpaaGreatDoor
open Go.RowKit Tryst
set_option maxHeartbeats 400000
set_option maxRecDepth 20000
/-- a value that is an event with these fields, as Go has slices -/
def EvS (t p : ByteArray) (q : Int) (l : List FB) (v : Value) (w : World) : Prop := ∃ a c, v = .agg #[.string t, .string p, .int .u64 q, .slice a l.length c] ∧ Flds w a l ∧ Sl a c l.length
theorem EvS.at {t p : ByteArray} {q : Int} {l : List FB} {v : Value} {w' : World} (h : ∃ w0, Tryst2.Grow w0 w' ∧ EvS t p q l v w0) : EvS t p q l v w' := by
 obtain ⟨w0, hg, a, c, h1, h2, h3⟩ := h
 exact ⟨a, c, h1, h2.grow hg, h3⟩
theorem EvS.of {w w' : World} {t p : ByteArray} {q : Int} {l : List FB} {a : Option Addr} {c : Nat} (h : Flds w' a l) (hs : Sl a c l.length) (hb : Below w.heap.size w w') : Tryst2.Grow w w' ∧ ∃ w0, Tryst2.Grow w0 w' ∧ EvS t p q l (.agg #[.string t, .string p, .int .u64 q, .slice a l.length c]) w0 :=
 ⟨hb, w', Tryst2.Grow.refl _, a, c, rfl, h, hs⟩
/-- a value's three cells -/
structure VB3 (w : World) (b : Nat) (x : Bool) (n : Int) (s : ByteArray) : Prop where
 c0 : w.cell? ⟨b, 0, none⟩ = some (.bool x)
 c1 : w.cell? ⟨b, 1, none⟩ = some (.int .i64 n)
 c2 : w.cell? ⟨b, 2, none⟩ = some (.string s)
 hz : b < w.heap.size
theorem VB3.grow {w w' : World} {b : Nat} {x : Bool} {n : Int} {s : ByteArray} (h : VB3 w b x n s) (hb : Below w.heap.size w w') : VB3 w' b x n s := by
 obtain ⟨h0, h1, h2, h6⟩ := h
 exact ⟨by rw [hb.cell (p := ⟨b, 0, none⟩) h6]; exact h0, by rw [hb.cell (p := ⟨b, 1, none⟩) h6]; exact h1, by rw [hb.cell (p := ⟨b, 2, none⟩) h6]; exact h2, Nat.lt_of_lt_of_le h6 hb.size⟩
theorem VB3.new (w : World) (x : Bool) (n : Int) (s : ByteArray) (T : TypeId) : VB3 (w.alloc (.cells #[.bool x, .int .i64 n, .string s] T)) w.heap.size x n s := by
 constructor <;> simp [go_sem]
theorem VB3.set {w : World} {b : Nat} {x y : Bool} {n m : Int} {s u : ByteArray} (h : VB3 w b x n s) : VB3 (((w.setCell ⟨b, 0, none⟩ (.bool y)).setCell ⟨b, 1, none⟩ (.int .i64 m)).setCell ⟨b, 2, none⟩ (.string u)) b y m u := by
 obtain ⟨h0, h1, h2, h6⟩ := h
 constructor <;> simp [cell_setCell, h0, h1, h2, h6]
theorem VB3.away {w : World} {b c o : Nat} {x : Bool} {n : Int} {s : ByteArray} {u : Value} (h : VB3 w b x n s) (hc : c ≠ b) : VB3 (w.setCell ⟨c, o, none⟩ u) b x n s := by
 obtain ⟨h0, h1, h2, h6⟩ := h
 constructor <;> simp [cell_setCell, hc, h0, h1, h2, h6]
end Go.Proofs.YtmlbdblnmbmnpaaGreatDoor
