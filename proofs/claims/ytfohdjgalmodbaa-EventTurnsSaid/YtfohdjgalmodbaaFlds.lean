/- Fields as the program holds them: a slice of structs of four cells each. -/
import Derived.WalkKit
import Derived.WalkSpells
import Derived.Test.YtfohdjgalmodbaaBase
import Derived.Test.YtfohdjgalmodbaaFacts
set_option linter.unusedVariables false
set_option linter.unusedSimpArgs false
namespace Tryst
open Go Go.RowKit
structure FB where
  name : ByteArray
  num : Bool
  n : Int
  s : ByteArray
def FB.fld (f : FB) : Fld := ⟨f.name.data.toList, ⟨f.num, f.n, f.s.data.toList⟩⟩
def FB.zero : FB := ⟨⟨#[]⟩, false, 0, ⟨#[]⟩⟩
theorem FB.ext' {a b : FB} (h : a.fld = b.fld) : a = b := by
  obtain ⟨an, ab, ai, as⟩ := a
  obtain ⟨bn, bb, bi, bs⟩ := b
  simp only [FB.fld, Fld.mk.injEq, V.mk.injEq] at h
  obtain ⟨h1, rfl, rfl, h2⟩ := h
  rw [str_ext h1, str_ext h2]
theorem FB.map_inj {a b : List FB} (h : a.map FB.fld = b.map FB.fld) : a = b := by
  induction a generalizing b with
  | nil => cases b with
    | nil => rfl
    | cons => simp at h
  | cons x a ih => cases b with
    | nil => simp at h
    | cons y b =>
      simp only [List.map_cons, List.cons.injEq] at h
      rw [FB.ext' h.1, ih h.2]
/-- a field's four cells lie at a place -/
structure FAt (w : World) (b o : Nat) (f : FB) : Prop where
  c0 : w.cell? ⟨b, o, none⟩ = some (.string f.name)
  c1 : w.cell? ⟨b, o + 1, none⟩ = some (.bool f.num)
  c2 : w.cell? ⟨b, o + 2, none⟩ = some (.int .i64 f.n)
  c3 : w.cell? ⟨b, o + 3, none⟩ = some (.string f.s)
/-- a slice's elements are these fields -/
def Flds (w : World) (a : Option Addr) (l : List FB) : Prop := ∀ (i : Nat) (h : i < l.length), ∃ b o, a = some ⟨b, o, none⟩ ∧ b < w.heap.size ∧ FAt w b (o + i * 4) l[i]
theorem FAt.grow {v w : World} {b o : Nat} {f : FB} (h : FAt v b o f) (hb : b < v.heap.size) (hw : Below v.heap.size v w) : FAt w b o f := by
  obtain ⟨h1, h2, h3, h4⟩ := h
  exact ⟨by rw [hw.cell (p := ⟨b, o, none⟩) hb]; exact h1, by rw [hw.cell (p := ⟨b, o + 1, none⟩) hb]; exact h2, by rw [hw.cell (p := ⟨b, o + 2, none⟩) hb]; exact h3, by rw [hw.cell (p := ⟨b, o + 3, none⟩) hb]; exact h4⟩
theorem Flds.grow {v w : World} {a : Option Addr} {l : List FB} (h : Flds v a l) (hw : Below v.heap.size v w) : Flds w a l := by
  intro i hi
  obtain ⟨b, o, h1, h2, h3⟩ := h i hi
  exact ⟨b, o, h1, Nat.lt_of_lt_of_le h2 hw.size, h3.grow h2 hw⟩
theorem Flds.nil (w : World) (a : Option Addr) : Flds w a [] := fun i h => absurd h (Nat.not_lt_zero i)
theorem Flds.head {w : World} {a : Option Addr} {l : List FB} (h : Flds w a l) {i : Nat} (hi : i < l.length) : ∃ b o, a = some ⟨b, o, none⟩ ∧ b < w.heap.size := by
  obtain ⟨b, o, h1, h2, _⟩ := h i hi
  exact ⟨b, o, h1, h2⟩
theorem Flds.at {w : World} {b o : Nat} {l : List FB} (h : Flds w (some ⟨b, o, none⟩) l) {i : Nat} (hi : i < l.length) : b < w.heap.size ∧ FAt w b (o + i * 4) l[i] := by
  obtain ⟨b', o', h1, h2, h3⟩ := h i hi
  simp only [Option.some.injEq, Addr.mk.injEq, and_true] at h1
  obtain ⟨rfl, rfl⟩ := h1
  exact ⟨h2, h3⟩
/-- the first field of a name -/
def findB (l : List FB) (n : ByteArray) : Option FB := l.find? (fun f => decide (f.name.data.toList = n.data.toList))
theorem findB_cons (f : FB) (l : List FB) (n : ByteArray) : findB (f :: l) n = if f.name.data.toList = n.data.toList then some f else findB l n := by
  unfold findB
  rw [List.find?_cons]
  by_cases h : f.name.data.toList = n.data.toList
  · rw [if_pos h, decide_eq_true h]
  · rw [if_neg h, decide_eq_false h]
theorem findB_get (l : List FB) (n : ByteArray) : getF (l.map FB.fld) n.data.toList = (findB l n).map (fun f => f.fld.v) := by
  induction l with
  | nil => rfl
  | cons f l ih =>
    rw [List.map_cons, get_cons, findB_cons, ih]
    have e : f.fld.name = f.name.data.toList := rfl
    rw [e]
    split <;> rfl
end Tryst
