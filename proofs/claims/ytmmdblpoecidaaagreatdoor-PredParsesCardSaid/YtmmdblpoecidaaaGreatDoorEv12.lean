/- The walk of the document s Put. -/
import Derived.Test.YtmmdblpoecidaaaGreatDoorProg
import Derived.WalkKit
import Derived.WalkSpells
import Derived.WalkLawsBesides
import Derived.Lib.Hide
import Derived.Deep.RegionWith
import Derived.Deep.Cut
import Derived.Test.YtmmdblpoecidaaaGreatDoorEvA
import Derived.Test.YtmmdblpoecidaaaGreatDoorEv3
import Derived.Test.YtmmdblpoecidaaaGreatDoorFldG
set_option linter.unusedVariables false
set_option linter.unusedSimpArgs false
namespace Go.Proofs.YtmmdblpoecidaaaGreatDoor
open Go.RowKit Tryst
set_option maxHeartbeats 400000
set_option maxRecDepth 20000
/-- what is still to come of fields, behind those that were gone through -/
def restF (there done : Bool) (l : List FB) (f : FB) : List FB := if done then l else if there then setB l f else insB l f
structure RPut (there done : Bool) (acc rest : List FB) (l : List FB) (f : FB) : Prop where
  all : acc ++ restF there done rest f = putB l f
  is : there = true → done = false → (findB rest f.name).isSome = true
theorem RPut.start (l : List FB) (f : FB) : RPut (findB l f.name).isSome false [] l l f := by
  refine ⟨?_, fun h _ => h⟩
  unfold restF putB
  rfl
theorem RPut.step {there done : Bool} {acc l : List FB} {x : FB} {r : List FB} {f : FB} (h : RPut there done acc (x :: r) l f) :
    (done = true → RPut there true (acc ++ [x]) r l f) ∧
    (done = false → there = true → x.name.data.toList = f.name.data.toList → RPut true true (acc ++ [f]) r l f) ∧
    (done = false → there = true → x.name.data.toList ≠ f.name.data.toList → RPut true false (acc ++ [x]) r l f) ∧
    (done = false → there = false → Op.bytesLess f.name.data.toList x.name.data.toList = true → RPut false true (acc ++ [f] ++ [x]) r l f) ∧
    (done = false → there = false → Op.bytesLess f.name.data.toList x.name.data.toList = false → RPut false false (acc ++ [x]) r l f) := by
  obtain ⟨h1, h2⟩ := h
  refine ⟨?_, ?_, ?_, ?_, ?_⟩
  · rintro rfl
    refine ⟨?_, fun _ h => by cases h⟩
    rw [← h1]; simp [restF]
  · rintro rfl rfl e
    refine ⟨?_, fun _ h => by cases h⟩
    rw [← h1]; simp [restF, setB_cons, e]
  · rintro rfl rfl e
    refine ⟨?_, fun _ _ => ?_⟩
    · rw [← h1]; simp [restF, setB_cons, e]
    · have := h2 rfl rfl
      rwa [findB_cons, if_neg e] at this
  · rintro rfl rfl e
    refine ⟨?_, fun h => by cases h⟩
    rw [← h1]; simp [restF, insB_cons, e]
  · rintro rfl rfl e
    refine ⟨?_, fun h => by cases h⟩
    rw [← h1]; simp [restF, insB_cons, e]
theorem RPut.done {there done : Bool} {acc l : List FB} {f : FB} (h : RPut there done acc [] l f) : (done = true → acc = putB l f) ∧ (done = false → there = false ∧ acc ++ [f] = putB l f) := by
  obtain ⟨h1, h2⟩ := h
  refine ⟨?_, ?_⟩
  · rintro rfl; rw [← h1]; simp [restF]
  · rintro rfl
    cases there with
    | true => have := h2 rfl rfl; simp [findB] at this
    | false => exact ⟨rfl, by rw [← h1]; simp [restF, insB]⟩
structure RW (w : World) (B : Nat) (t p : ByteArray) (q : Int) (v : Value) (f : FB) (X : World) : Prop where
  e : EAt X w.heap.size t p q v
  z : EAt X (w.heap.size + 1 + 1) ⟨#[]⟩ ⟨#[]⟩ 0 (.slice none 0 0)
  v0 : X.cell? ⟨w.heap.size + 1, 0, none⟩ = some (.bool f.num)
  v1 : X.cell? ⟨w.heap.size + 1, 1, none⟩ = some (.int .i64 f.n)
  v2 : X.cell? ⟨w.heap.size + 1, 2, none⟩ = some (.string f.s)
  b : Below w.heap.size w X
  lo : w.heap.size + 3 ≤ B
  hi : B ≤ X.heap.size
theorem RW.grow {w X Y : World} {B C : Nat} {t p : ByteArray} {q : Int} {v : Value} {f : FB} (h : RW w B t p q v f X) (hC : B ≤ C) (hb : Below C X Y) : RW w B t p q v f Y := by
  have h1 := h.lo
  have h2 := hb.size
  have h3 := h.hi
  exact ⟨h.e.growB (by omega) hb, h.z.growB (by omega) hb, by rw [hb.cell (p := ⟨w.heap.size + 1, 0, none⟩) (by show w.heap.size + 1 < _; omega)]; exact h.v0, by rw [hb.cell (p := ⟨w.heap.size + 1, 1, none⟩) (by show w.heap.size + 1 < _; omega)]; exact h.v1, by rw [hb.cell (p := ⟨w.heap.size + 1, 2, none⟩) (by show w.heap.size + 1 < _; omega)]; exact h.v2, h.b.trans (hb.mono (by omega)), h.lo, by omega⟩
def RPutRel (w : World) (B : Nat) (t p : ByteArray) (q : Int) (sv : Value) (l : List FB) (f : FB) (there : Bool) (v d i : Value) (wr : World) : Prop :=
  ∃ (k : Nat) (acc : List FB) (done : Bool), k ≤ l.length ∧ i = .int .i64 k ∧ d = .bool done ∧ Hid (FOwn 52 wr B v acc) ∧ acc.length ≤ k + 1 ∧ Hid (done = false → acc.length ≤ k) ∧ Hid (RPut there done acc (l.drop k) l f) ∧ Hid (RW w B t p q sv f wr)
end Go.Proofs.YtmmdblpoecidaaaGreatDoor
