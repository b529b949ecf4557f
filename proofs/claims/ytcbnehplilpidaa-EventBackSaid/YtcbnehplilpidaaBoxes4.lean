/- An event s box and a value s, written one behind the other. -/
import Derived.Test.YtcbnehplilpidaaPuts4
set_option linter.unusedVariables false
set_option linter.unusedSimpArgs false
namespace Go.Proofs.Ytcbnehplilpidaa
open Go.RowKit Tryst
theorem ev_val_boxes {w : World} {B0 B1 : Nat} {t p : ByteArray} {q : Int} {a0 : Option Addr} {m0 c0 : Nat} {b : Bool} {i : Int} {z : ByteArray} {T U : TypeId} {x : Option Addr} {L : List FB}
    (h0 : w.heap[B0]? = some (.cells #[.string t, .string p, .int .u64 q, .slice a0 m0 c0] T (0, 0))) (h1 : w.heap[B1]? = some (.cells #[.bool b, .int .i64 i, .string z] U (0, 0)))
    (F : Flds w x L) (u v : ByteArray) (r : Int) (g : Value) (b' : Bool) (i' : Int) (z' : ByteArray) :
    B0 ≠ B1 ∧
    EAt (((((((w.setCell ⟨B0, 0, none⟩ (.string u)).setCell ⟨B0, 1, none⟩ (.string v)).setCell ⟨B0, 2, none⟩ (.int .u64 r)).setCell ⟨B0, 3, none⟩ g).setCell ⟨B1, 0, none⟩ (.bool b')).setCell ⟨B1, 1, none⟩ (.int .i64 i')).setCell ⟨B1, 2, none⟩ (.string z')) B0 u v r g ∧
    VB3 (((((((w.setCell ⟨B0, 0, none⟩ (.string u)).setCell ⟨B0, 1, none⟩ (.string v)).setCell ⟨B0, 2, none⟩ (.int .u64 r)).setCell ⟨B0, 3, none⟩ g).setCell ⟨B1, 0, none⟩ (.bool b')).setCell ⟨B1, 1, none⟩ (.int .i64 i')).setCell ⟨B1, 2, none⟩ (.string z')) B1 b' i' z' ∧
    Flds (((((((w.setCell ⟨B0, 0, none⟩ (.string u)).setCell ⟨B0, 1, none⟩ (.string v)).setCell ⟨B0, 2, none⟩ (.int .u64 r)).setCell ⟨B0, 3, none⟩ g).setCell ⟨B1, 0, none⟩ (.bool b')).setCell ⟨B1, 1, none⟩ (.int .i64 i')).setCell ⟨B1, 2, none⟩ (.string z')) x L := by
  have hne : B0 ≠ B1 := fun e => by
    subst e
    rw [h0] at h1
    simp at h1
  have hz : B1 < w.heap.size := (Array.getElem?_eq_some_iff.1 h1).1
  have e0 : EAt w B0 t p q (.slice a0 m0 c0) := EAt.of h0
  have v0 : VB3 w B1 b i z := ⟨by rw [Lib.cell_of_heap h1]; rfl, by rw [Lib.cell_of_heap h1]; rfl, by rw [Lib.cell_of_heap h1]; rfl, hz⟩
  have h1' : ((((w.setCell ⟨B0, 0, none⟩ (.string u)).setCell ⟨B0, 1, none⟩ (.string v)).setCell ⟨B0, 2, none⟩ (.int .u64 r)).setCell ⟨B0, 3, none⟩ g).heap[B1]? = some (.cells #[.bool b, .int .i64 i, .string z] U (0, 0)) := by
    rw [Below.heap_setCell _ _ _ _ (fun e => hne e.symm), Below.heap_setCell _ _ _ _ (fun e => hne e.symm), Below.heap_setCell _ _ _ _ (fun e => hne e.symm), Below.heap_setCell _ _ _ _ (fun e => hne e.symm)]
    exact h1
  refine ⟨hne, ?_, ?_, flds_vbox h1' (flds_box h0 F _ _ _ _) _ _ _⟩
  · exact ((e0.setAll.away (fun e => hne e.symm)).away (fun e => hne e.symm)).away (fun e => hne e.symm)
  · exact ((((v0.away hne).away hne).away hne).away hne).set
end Go.Proofs.Ytcbnehplilpidaa
