/- ref14.Part. -/
import Derived.Test.YtmlbdblnmbmnpaaGreatDoorProg
import Derived.WalkKit
import Derived.WalkSpells
import Derived.WalkLawsBesides
import Derived.Lib.Hide
import Derived.Deep.RegionWith
import Derived.Deep.Cut
import Derived.IntWalk
import Derived.Test.YtmlbdblnmbmnpaaGreatDoorDefU
import Derived.Test.YtmlbdblnmbmnpaaGreatDoorROffA
import Derived.Test.YtmlbdblnmbmnpaaGreatDoorRFH5
set_option linter.unusedVariables false
set_option linter.unusedSimpArgs false
namespace Go.Proofs.YtmlbdblnmbmnpaaGreatDoor
open Go.RowKit Tryst
set_option maxHeartbeats 4000000
set_option maxRecDepth 20000
/-- a definition's box and an event's -/
structure DE2 (w v : World) (g0 g1 : Nat) (nm : ByteArray) (G U : Value) (ky kd : ByteArray) (n0 n1 n2 : Int) (t p : ByteArray) (q : Int) (u : Value) : Prop where
 d : DX v g0 nm G U ky kd n0 n1 n2
 e : EX v g1 t p q u
 l : Below w.heap.size w v
theorem DE2.grow {w v v' : World} {g0 g1 : Nat} {nm : ByteArray} {G U : Value} {ky kd : ByteArray} {n0 n1 n2 : Int} {t p : ByteArray} {q : Int} {u : Value} (h : DE2 w v g0 g1 nm G U ky kd n0 n1 n2 t p q u) (hb : Below v.heap.size v v') : DE2 w v' g0 g1 nm G U ky kd n0 n1 n2 t p q u := ⟨h.d.grow hb, h.e.grow hb, bstep hb h.l⟩
theorem DE2.new (w : World) (nm : ByteArray) (G U : Value) (ky kd : ByteArray) (n0 n1 n2 : Int) (t p : ByteArray) (q : Int) (u : Value) :
  DE2 w ((w.alloc (.cells #[.string nm, G, U, .string ky, .string kd, .int .i64 n0, .int .i64 n1, .int .i64 n2] 27)).alloc (.cells #[.string t, .string p, .int .u64 q, u] 63)) w.heap.size (w.heap.size + 1) nm G U ky kd n0 n1 n2 t p q u := by
 have e1 := EX.new (w.alloc (.cells #[.string nm, G, U, .string ky, .string kd, .int .i64 n0, .int .i64 n1, .int .i64 n2] 27)) t p q u
 rw [show (w.alloc (.cells #[.string nm, G, U, .string ky, .string kd, .int .i64 n0, .int .i64 n1, .int .i64 n2] 27)).heap.size = w.heap.size + 1 by simp] at e1
 exact ⟨(DX.new _ _ _ _ _ _ _ _ _).grow (balloc _ (.refl _ _)), e1, balloc _ (balloc _ (.refl _ _))⟩
theorem mayD_all {d : DB} (h : mayD d = true) : ∀ p ∈ d.wl, mayP p.pr = true := by
 unfold mayD at h
 simp only [Bool.and_eq_true, List.all_eq_true] at h
 exact h.2.2.2.2.2.2.2
end Go.Proofs.YtmlbdblnmbmnpaaGreatDoor
