/- The walks of ref04.Same and event.Same. -/
import Derived.Test.YtmmdblpoecidaaaGreatDoorProg
import Derived.WalkKit
import Derived.WalkSpells
import Derived.WalkLawsBesides
import Derived.Lib.Hide
import Derived.Deep.RegionWith
import Derived.Deep.Cut
import Derived.Test.YtmmdblpoecidaaaGreatDoorFldG
set_option linter.unusedVariables false
set_option linter.unusedSimpArgs false
namespace Go.Proofs.YtmmdblpoecidaaaGreatDoor
open Go.RowKit Tryst
set_option maxHeartbeats 400000
set_option maxRecDepth 20000
def fV2 (f : FB) : Value := .agg #[.string f.name, .bool f.num, .int .i64 f.n, .string f.s]
def SameR (w : World) (t1 t2 p1 p2 : ByteArray) (q1 q2 : Int) (l1 l2 : List FB) (e : Ending) (w' : World) : Prop := ∃ r : Bool, e = .returned (.bool r) ∧ (r = true ↔ t1 = t2 ∧ p1 = p2 ∧ q1 = q2 ∧ l1 = l2) ∧ Below w.heap.size w w'
theorem fb_cases (x y : FB) : x = y ∨ (x ≠ y ∧ (((x.name.toList == y.name.toList) = false) ∨ ((x.name.toList == y.name.toList) = true ∧ (x.num == y.num) = false) ∨ ((x.name.toList == y.name.toList) = true ∧ (x.num == y.num) = true ∧ (x.n == y.n) = false) ∨ ((x.name.toList == y.name.toList) = true ∧ (x.num == y.num) = true ∧ (x.n == y.n) = true ∧ (x.s.toList == y.s.toList) = false))) := by
  by_cases h : x = y
  · exact .inl h
  · refine .inr ⟨h, ?_⟩
    by_cases h1 : x.name.data.toList = y.name.data.toList
    · by_cases h2 : x.num = y.num
      · by_cases h3 : x.n = y.n
        · have h4 : ¬ x.s.data.toList = y.s.data.toList := fun h4 => h (FB.ext' (by simp only [FB.fld, h1, h2, h3, h4]))
          exact .inr (.inr (.inr ⟨strEq h1, by simpa using h2, by simpa using h3, strNe h4⟩))
        · exact .inr (.inr (.inl ⟨strEq h1, by simpa using h2, by simpa using h3⟩))
      · exact .inr (.inl ⟨strEq h1, by simpa using h2⟩)
    · exact .inl (strNe h1)
theorem ba_cases (s t : ByteArray) : (s = t) ∨ (s ≠ t ∧ (s.toList == t.toList) = false ∧ (s.toList != t.toList) = true) := by
  by_cases h : s = t
  · exact .inl h
  · have h1 : (s.toList == t.toList) = false := strNe (fun e => h (str_ext e))
    exact .inr ⟨h, h1, by rw [bne, h1]; rfl⟩
def SameRel (w W : World) (l1 l2 : List FB) (i : Value) (wr : World) : Prop := ∃ k : Nat, k ≤ l1.length ∧ i = .int .i64 k ∧ Hid (∀ (j : Nat) (h1 : j < l1.length) (h2 : j < l2.length), j < k → l1[j] = l2[j]) ∧ Hid (Below W.heap.size W wr) ∧ W.heap.size ≤ wr.heap.size
end Go.Proofs.YtmmdblpoecidaaaGreatDoor
namespace Go.Proofs.YtmmdblpoecidaaaGreatDoor
open Go.RowKit Tryst
set_option maxHeartbeats 400000
set_option maxRecDepth 20000
def EqR (w : World) (l1 l2 : List FB) (e : Ending) (w' : World) : Prop := ∃ r : Bool, e = .returned (.bool r) ∧ (r = true ↔ l1 = l2) ∧ Below w.heap.size w w'
end Go.Proofs.YtmmdblpoecidaaaGreatDoor
