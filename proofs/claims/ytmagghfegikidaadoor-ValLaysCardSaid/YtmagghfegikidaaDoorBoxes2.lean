/- Two boxes of three cells each, behind stores and calls. -/
import Derived.WalkKit
import Derived.WalkSpells
import Derived.Test.YtmagghfegikidaaDoorCell
set_option linter.unusedVariables false
set_option linter.unusedSimpArgs false
namespace Tryst
open Go Go.RowKit
set_option maxHeartbeats 400000
set_option maxRecDepth 20000
structure Two (v : World) (b : Nat) (x0 : Bool) (n0 : Int) (s0 : ByteArray) (x1 : Bool) (n1 : Int) (s1 : ByteArray) : Prop where
  a0 : v.cell? ⟨b, 0, none⟩ = some (.bool x0)
  a1 : v.cell? ⟨b, 1, none⟩ = some (.int .i64 n0)
  a2 : v.cell? ⟨b, 2, none⟩ = some (.string s0)
  b0 : v.cell? ⟨b + 1, 0, none⟩ = some (.bool x1)
  b1 : v.cell? ⟨b + 1, 1, none⟩ = some (.int .i64 n1)
  b2 : v.cell? ⟨b + 1, 2, none⟩ = some (.string s1)
theorem Two.set {v : World} {b : Nat} {x0 x1 y0 y1 : Bool} {n0 n1 m0 m1 : Int} {s0 s1 t0 t1 : ByteArray} (h : Two v b x0 n0 s0 x1 n1 s1) :
    Two ((((((v.setCell ⟨b, 0, none⟩ (.bool y0)).setCell ⟨b, 1, none⟩ (.int .i64 m0)).setCell ⟨b, 2, none⟩ (.string t0)).setCell ⟨b + 1, 0, none⟩ (.bool y1)).setCell ⟨b + 1, 1, none⟩ (.int .i64 m1)).setCell ⟨b + 1, 2, none⟩ (.string t1)) b y0 m0 t0 y1 m1 t1 := by
  obtain ⟨h1, h2, h3, h4, h5, h6⟩ := h
  have e3 : ¬ b + 1 = b := by omega
  have e4 : ¬ b = b + 1 := by omega
  refine ⟨?_, ?_, ?_, ?_, ?_, ?_⟩
  all_goals
    simp [cell_setCell, e3, e4, h1, h2, h3, h4, h5, h6]
theorem Two.new (w : World) (T : TypeId) {x0 x1 : Bool} {n0 n1 : Int} {s0 s1 : ByteArray} :
    Two ((w.alloc (.cells #[.bool x0, .int .i64 n0, .string s0] T)).alloc (.cells #[.bool x1, .int .i64 n1, .string s1] T)) w.heap.size x0 n0 s0 x1 n1 s1 := by
  refine ⟨?_, ?_, ?_, ?_, ?_, ?_⟩
  all_goals simp [go_sem]
theorem Two.grow {v w : World} {b : Nat} {x0 x1 : Bool} {n0 n1 : Int} {s0 s1 : ByteArray} (h : Two v b x0 n0 s0 x1 n1 s1) (hb : b + 1 < v.heap.size)
    (hc : ∀ c o, c < v.heap.size → w.cell? ⟨c, o, none⟩ = v.cell? ⟨c, o, none⟩) : Two w b x0 n0 s0 x1 n1 s1 := by
  obtain ⟨h1, h2, h3, h4, h5, h6⟩ := h
  refine ⟨?_, ?_, ?_, ?_, ?_, ?_⟩
  all_goals (rw [hc _ _ (by omega)]; assumption)
end Tryst
