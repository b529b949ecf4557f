/- Three boxes of three cells each, behind stores and calls. -/
import Derived.WalkKit
import Derived.WalkSpells
import Derived.Test.YtmagghfegikidaaDoorCell
set_option linter.unusedVariables false
set_option linter.unusedSimpArgs false
namespace Tryst
open Go Go.RowKit
set_option maxHeartbeats 400000
set_option maxRecDepth 20000
structure Three (v : World) (b : Nat) (x0 : Bool) (n0 : Int) (s0 : ByteArray) (x1 : Bool) (n1 : Int) (s1 : ByteArray) (x2 : Bool) (n2 : Int) (s2 : ByteArray) : Prop where
  a0 : v.cell? ⟨b, 0, none⟩ = some (.bool x0)
  a1 : v.cell? ⟨b, 1, none⟩ = some (.int .i64 n0)
  a2 : v.cell? ⟨b, 2, none⟩ = some (.string s0)
  b0 : v.cell? ⟨b + 1, 0, none⟩ = some (.bool x1)
  b1 : v.cell? ⟨b + 1, 1, none⟩ = some (.int .i64 n1)
  b2 : v.cell? ⟨b + 1, 2, none⟩ = some (.string s1)
  c0 : v.cell? ⟨b + 1 + 1, 0, none⟩ = some (.bool x2)
  c1 : v.cell? ⟨b + 1 + 1, 1, none⟩ = some (.int .i64 n2)
  c2 : v.cell? ⟨b + 1 + 1, 2, none⟩ = some (.string s2)
theorem Three.set {v : World} {b : Nat} {x0 x1 x2 y0 y1 y2 : Bool} {n0 n1 n2 m0 m1 m2 : Int} {s0 s1 s2 t0 t1 t2 : ByteArray} (h : Three v b x0 n0 s0 x1 n1 s1 x2 n2 s2) :
    Three (((((((((v.setCell ⟨b, 0, none⟩ (.bool y0)).setCell ⟨b, 1, none⟩ (.int .i64 m0)).setCell ⟨b, 2, none⟩ (.string t0)).setCell ⟨b + 1, 0, none⟩ (.bool y1)).setCell ⟨b + 1, 1, none⟩ (.int .i64 m1)).setCell ⟨b + 1, 2, none⟩ (.string t1)).setCell ⟨b + 1 + 1, 0, none⟩ (.bool y2)).setCell ⟨b + 1 + 1, 1, none⟩ (.int .i64 m2)).setCell ⟨b + 1 + 1, 2, none⟩ (.string t2)) b y0 m0 t0 y1 m1 t1 y2 m2 t2 := by
  obtain ⟨h1, h2, h3, h4, h5, h6, h7, h8, h9⟩ := h
  have e1 : ¬ b + 1 + 1 = b := by omega
  have e2 : ¬ b = b + 1 + 1 := by omega
  have e3 : ¬ b + 1 = b := by omega
  have e4 : ¬ b = b + 1 := by omega
  have e5 : ¬ b + 1 = b + 1 + 1 := by omega
  have e6 : ¬ b + 1 + 1 = b + 1 := by omega
  refine ⟨?_, ?_, ?_, ?_, ?_, ?_, ?_, ?_, ?_⟩
  all_goals
    simp [cell_setCell, e1, e2, e3, e4, e5, e6, h1, h2, h3, h4, h5, h6, h7, h8, h9]
theorem Three.new (w : World) (T : TypeId) {x0 x1 x2 : Bool} {n0 n1 n2 : Int} {s0 s1 s2 : ByteArray} :
    Three (((w.alloc (.cells #[.bool x0, .int .i64 n0, .string s0] T)).alloc (.cells #[.bool x1, .int .i64 n1, .string s1] T)).alloc (.cells #[.bool x2, .int .i64 n2, .string s2] T)) w.heap.size x0 n0 s0 x1 n1 s1 x2 n2 s2 := by
  refine ⟨?_, ?_, ?_, ?_, ?_, ?_, ?_, ?_, ?_⟩
  all_goals simp [go_sem]
theorem Three.grow {v w : World} {b : Nat} {x0 x1 x2 : Bool} {n0 n1 n2 : Int} {s0 s1 s2 : ByteArray} (h : Three v b x0 n0 s0 x1 n1 s1 x2 n2 s2) (hb : b + 2 < v.heap.size)
    (hc : ∀ c o, c < v.heap.size → w.cell? ⟨c, o, none⟩ = v.cell? ⟨c, o, none⟩) : Three w b x0 n0 s0 x1 n1 s1 x2 n2 s2 := by
  obtain ⟨h1, h2, h3, h4, h5, h6, h7, h8, h9⟩ := h
  refine ⟨?_, ?_, ?_, ?_, ?_, ?_, ?_, ?_, ?_⟩
  all_goals (rw [hc _ _ (by omega)]; assumption)
theorem wp_gen {C : Code} {P : Program} {Q : Exit → Act → World → Prop} {a : Act} {W : World} (F : World → Prop) (h : F W) (k : ∀ w1, F w1 → C.wp P Q a w1) : C.wp P Q a W := k W h
end Tryst
