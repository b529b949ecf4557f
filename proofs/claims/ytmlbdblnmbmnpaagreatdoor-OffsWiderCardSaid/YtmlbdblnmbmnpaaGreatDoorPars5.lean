/- The parser on the examples. -/
import Derived.Test.YtmlbdblnmbmnpaaGreatDoorProg
import Derived.WalkKit
import Derived.WalkSpells
import Derived.WalkLawsBesides
import Derived.Lib.Hide
import Derived.Deep.RegionWith
import Derived.Deep.Cut
import Derived.IntWalk
import Derived.Test.YtmlbdblnmbmnpaaGreatDoorMay5
import Derived.Test.YtmlbdblnmbmnpaaGreatDoorShelf
import Derived.Test.YtmlbdblnmbmnpaaGreatDoorVal47
import Derived.Test.YtmlbdblnmbmnpaaGreatDoorPuts4
import Derived.Test.YtmlbdblnmbmnpaaGreatDoorRdAB
set_option linter.unusedVariables false
set_option linter.unusedSimpArgs false
namespace Tryst
open Go Go.RowKit
/-- a parser: what is left, and how many nodes were counted -/
def ParAt (w : World) (g : Nat) (s : ByteArray) (m : Nat) (T : TypeId) : Prop := w.heap[g]? = some (.cells #[.string s, .int .i64 m] T (0, 0))
/-- block g alone has turned: it is the parser; new blocks -/
structure ParP (g : Nat) (s : ByteArray) (m : Nat) (T : TypeId) (w w' : World) : Prop where
 os : w'.os = w.os
 tape : w'.tape = w.tape
 output : w'.output = w.output
 size : w.heap.size ≤ w'.heap.size
 block : ∀ k, k < w.heap.size → k ≠ g → w'.heap[k]? = w.heap[k]?
 at' : ParAt w' g s m T
theorem ParP.refl {g m : Nat} {s : ByteArray} {T : TypeId} {w : World} (h : ParAt w g s m T) : ParP g s m T w w := ⟨rfl, rfl, rfl, Nat.le_refl _, fun _ _ _ => rfl, h⟩
theorem ParP.trans {g m m' : Nat} {s s' : ByteArray} {T : TypeId} {a b c : World} (h : ParP g s m T a b) (k : ParP g s' m' T b c) : ParP g s' m' T a c :=
 ⟨k.os.trans h.os, k.tape.trans h.tape, k.output.trans h.output, Nat.le_trans h.size k.size, fun i hi hg => (k.block i (Nat.lt_of_lt_of_le hi h.size) hg).trans (h.block i hi hg), k.at'⟩
theorem ParP.grow {g m : Nat} {s : ByteArray} {T : TypeId} {a b c : World} (h : ParP g s m T a b) (hb : Below b.heap.size b c) : ParP g s m T a c :=
 ⟨hb.os.trans h.os, hb.tape.trans h.tape, hb.output.trans h.output, Nat.le_trans h.size hb.size, fun k hk hg => (hb.block k (Nat.lt_of_lt_of_le hk h.size)).trans (h.block k hk hg), (hb.block g (Array.getElem?_eq_some_iff.1 h.at').1).trans h.at'⟩
theorem ParP.below {g m B : Nat} {s : ByteArray} {T : TypeId} {a b c : World} (h : ParP g s m T b c) (k : Below B a b) (hB : B ≤ g) (hz : B ≤ b.heap.size) : Below B a c :=
 ⟨h.os.trans k.os, h.tape.trans k.tape, h.output.trans k.output, Nat.le_trans k.size h.size, fun i hi => (h.block i (by omega) (by omega)).trans (k.block i hi)⟩
theorem ParP.cell {g m : Nat} {s : ByteArray} {T : TypeId} {a b : World} (h : ParP g s m T a b) {k : Nat} (hk : k < a.heap.size) (hg : k ≠ g) (o : Nat) : b.cell? ⟨k, o, none⟩ = a.cell? ⟨k, o, none⟩ := World.cell?_of_block (w := a) (a := ⟨k, o, none⟩) (h.block k hk hg)
theorem ParP.frozen {g m : Nat} {s : ByteArray} {T : TypeId} {a b : World} (h : ParP g s m T a b) {k : Nat} (hk : k < a.heap.size) (hg : k ≠ g) (o : Nat) : b.frozen? ⟨k, o, none⟩ = a.frozen? ⟨k, o, none⟩ := World.frozen?_of_block (w := a) (a := ⟨k, o, none⟩) (h.block k hk hg)
theorem ParP.drew {g m : Nat} {s : ByteArray} {T : TypeId} {a b : World} (h : ParP g s m T a b) : ParP g s m T a b.drew := ⟨h.os, h.tape, h.output, h.size, h.block, h.at'⟩
theorem ParP.setB {w w' : World} {g m : Nat} {s : ByteArray} {T : TypeId} (h : ParP g s m T w w') {b o : Nat} (hb : w.heap.size ≤ b) (hg : b ≠ g) (v : Value) : ParP g s m T w (w'.setCell ⟨b, o, none⟩ v) :=
 ⟨h.os, h.tape, h.output, by simpa using h.size, fun k hk hg => (Below.heap_setCell _ _ _ _ (by show k ≠ b; omega)).trans (h.block k hk hg), (Below.heap_setCell _ _ _ _ (fun e => hg e.symm)).trans h.at'⟩
theorem ParAt.cells {w : World} {g m : Nat} {s : ByteArray} {T : TypeId} (h : ParAt w g s m T) : w.cell? ⟨g, 0, none⟩ = some (.string s) ∧ w.cell? ⟨g, 1, none⟩ = some (.int .i64 m) ∧ w.frozen? ⟨g, 0, none⟩ = false ∧ w.frozen? ⟨g, 1, none⟩ = false ∧ g < w.heap.size :=
 ⟨by rw [Lib.cell_of_heap h]; rfl, by rw [Lib.cell_of_heap h]; rfl, Lib.frozen_of_heap h 0, Lib.frozen_of_heap h 1, (Array.getElem?_eq_some_iff.1 h).1⟩
theorem ParAt.set0 {w : World} {g m : Nat} {s : ByteArray} {T : TypeId} (h : ParAt w g s m T) (s' : ByteArray) : ParAt (w.setCell ⟨g, 0, none⟩ (.string s')) g s' m T := by
 unfold ParAt at h ⊢
 simp [World.setCell, Array.getElem?_modify, h]
theorem ParAt.set1 {w : World} {g m : Nat} {s : ByteArray} {T : TypeId} (h : ParAt w g s m T) (m' : Nat) : ParAt (w.setCell ⟨g, 1, none⟩ (.int .i64 (m' : Int))) g s m' T := by
 unfold ParAt at h ⊢
 simp [World.setCell, Array.getElem?_modify, h]
theorem ParP.set0 {g m : Nat} {s : ByteArray} {T : TypeId} {a b : World} (h : ParP g s m T a b) (s' : ByteArray) : ParP g s' m T a (b.setCell ⟨g, 0, none⟩ (.string s')) :=
 ⟨h.os, h.tape, h.output, by simpa using h.size, fun k hk hg => (Below.heap_setCell _ _ _ _ hg).trans (h.block k hk hg), h.at'.set0 s'⟩
end Tryst
namespace Go.Proofs.YtmlbdblnmbmnpaaGreatDoor
open Go.RowKit Tryst
set_option maxHeartbeats 1000000
set_option maxRecDepth 20000
theorem PBox.away {w : World} {b c j : Nat} {op s : ByteArray} {num : Bool} {n : Int} {vs : ByteArray} {u : Value} (h : PBox w b op s num n vs u) (hc : c ≠ b) (v : Value) : PBox (w.setCell ⟨c, j, none⟩ v) b op s num n vs u := by
 obtain ⟨h0, h1, h2, h3, h4, h5, h6⟩ := h
 constructor <;> simp [cell_setCell, h0, h1, h2, h3, h4, h5, h6, hc]
end Go.Proofs.YtmlbdblnmbmnpaaGreatDoor
namespace Go.Proofs.YtmlbdblnmbmnpaaGreatDoor
open Go.RowKit Tryst
set_option maxHeartbeats 2000000
set_option maxRecDepth 20000
end Go.Proofs.YtmlbdblnmbmnpaaGreatDoor
namespace Go.Proofs.YtmlbdblnmbmnpaaGreatDoor
open Go.RowKit Tryst
set_option maxHeartbeats 2000000
set_option maxRecDepth 20000
end Go.Proofs.YtmlbdblnmbmnpaaGreatDoor
namespace Go.Proofs.YtmlbdblnmbmnpaaGreatDoor
open Go.RowKit Tryst
set_option maxHeartbeats 2000000
set_option maxRecDepth 20000
end Go.Proofs.YtmlbdblnmbmnpaaGreatDoor
namespace Go.Proofs.YtmlbdblnmbmnpaaGreatDoor
open Go.RowKit Tryst
set_option maxHeartbeats 2000000
set_option maxRecDepth 20000
end Go.Proofs.YtmlbdblnmbmnpaaGreatDoor
