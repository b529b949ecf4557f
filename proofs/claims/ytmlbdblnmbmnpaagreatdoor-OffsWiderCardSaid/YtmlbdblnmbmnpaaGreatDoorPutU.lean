/- joined: event.Put. -/
import Derived.Test.YtmlbdblnmbmnpaaGreatDoorProg
import Derived.WalkKit
import Derived.WalkSpells
import Derived.WalkLawsBesides
import Derived.Lib.Hide
import Derived.Lib.Builder
import Derived.Lib.OthersKept
import Derived.Lib.OwnKind
import Derived.Lib.AppendStr
import Derived.Laws.Externs
import Derived.Deep.Cut
import Derived.Test.YtmlbdblnmbmnpaaGreatDoorDraws
import Derived.Deep.RegionWith
import Derived.Test.YtmlbdblnmbmnpaaGreatDoorEvM
import Derived.Test.YtmlbdblnmbmnpaaGreatDoorFacts
import Derived.Test.YtmlbdblnmbmnpaaGreatDoorVal47
import Derived.Test.YtmlbdblnmbmnpaaGreatDoorShelf
import Derived.Lib.BufferKept
import Derived.Test.YtmlbdblnmbmnpaaGreatDoorEvAC
import Derived.Test.YtmlbdblnmbmnpaaGreatDoorEv3U
import Derived.Test.YtmlbdblnmbmnpaaGreatDoorFldG
set_option linter.unusedVariables false
set_option linter.unusedSimpArgs false
namespace Go.Proofs.YtmlbdblnmbmnpaaGreatDoor
open Go.RowKit Tryst
set_option maxHeartbeats 400000
set_option maxRecDepth 20000
theorem len_wrap (n : Nat) (h : n ≤ 1000000000) : IntKind.u64.wrap (n : Int) = n := by rw [IntKind.wrap_u64]; omega
theorem _root_.Tryst.mk_size (l : List UInt8) : (ByteArray.mk l.toArray).size = l.length := rfl
end Go.Proofs.YtmlbdblnmbmnpaaGreatDoor
namespace Go.Proofs.YtmlbdblnmbmnpaaGreatDoor
open Go.RowKit Tryst
set_option maxHeartbeats 400000
set_option maxRecDepth 20000
def evE (t p : ByteArray) (q : Int) (l : List FB) : Ev := ⟨t.data.toList, p.data.toList, q.toNat, l.map FB.fld⟩
theorem evMay_eq (t p : ByteArray) (q : Int) (l : List FB) (h0 : 0 ≤ q) : evMay t p q l = (evE t p q l).may := by
 unfold evMay evE Ev.may
 simp only [List.length_map]
 congr 3
 by_cases h : 1 ≤ q
 ·
  rw [decide_eq_true h, decide_eq_true (by omega)]
 ·
  rw [decide_eq_false h, decide_eq_false (by omega)]
/-- each field's parts are such as Go has them -/
def FOk (l : List FB) : Prop := ∀ f ∈ l, f.name.size ≤ 1000000000 ∧ f.s.size ≤ 1000000000 ∧ -9223372036854775808 ≤ f.n ∧ f.n ≤ 9223372036854775807
theorem FOk.sizes {l : List FB} (h : FOk l) : ∀ f ∈ l, f.name.size ≤ 1000000000 ∧ f.s.size ≤ 1000000000 := fun f hf => ⟨(h f hf).1, (h f hf).2.1⟩
def headL (t p : ByteArray) (q : Int) (n : Nat) : List UInt8 := textL t.data.toList ++ textL p.data.toList ++ pack q.toNat ++ pack n
theorem lay_parts (t p : ByteArray) (q : Int) (l : List FB) : (evE t p q l).lay = headL t p q l.length ++ layF (l.map FB.fld) := by
 unfold Ev.lay evE headL
 simp only [List.length_map, List.append_assoc]
theorem may_fld {t p : ByteArray} {q : Int} {l : List FB} (h : (evE t p q l).may = true) (k : Nat) (hk : k < l.length) : V.May ⟨l[k].num, l[k].n, l[k].s.data.toList⟩ ∧ (layF ((l.take k).map FB.fld)).length ≤ 704 ∧ (headL t p q l.length).length ≤ 100 ∧ l[k].name.data.toList.length ≤ 16 := by
 obtain ⟨h1, h2, h3, h4⟩ := may_parts h
 have e : (evE t p q l).l = l.map FB.fld := rfl
 rw [e] at h3 h4
 rw [List.length_map] at h3
 have h5 := h4 l[k].fld (List.mem_map.2 ⟨l[k], List.getElem_mem hk, rfl⟩)
 refine ⟨h5.2, ?_, ?_, h5.1⟩
 ·
  have := layF_le (l := (l.take k).map FB.fld) fun f hf => h4 f (by
   obtain ⟨g, hg, rfl⟩ := List.mem_map.1 hf
   exact List.mem_map.2 ⟨g, List.mem_of_mem_take hg, rfl⟩)
  rw [List.length_map, List.length_take] at this
  omega
 ·
  have g1 := text_le (s := t.data.toList) (m := 40) h1 (by decide)
  have g2 := text_le (s := p.data.toList) (m := 16) h2 (by decide)
  have g3 := pack_le q.toNat
  have g4 := pack_le l.length
  unfold headL
  simp only [List.length_append]
  omega
theorem layF_step {l : List FB} {k : Nat} (hk : k < l.length) : layF ((l.take (k + 1)).map FB.fld) = layF ((l.take k).map FB.fld) ++ (textL l[k].name.data.toList ++ V.lay ⟨l[k].num, l[k].n, l[k].s.data.toList⟩) := by
 rw [List.take_succ_eq_append_getElem hk, List.map_append, layF_append]
 congr 1
 simp [layF, Fld.lay, FB.fld]
end Go.Proofs.YtmlbdblnmbmnpaaGreatDoor
namespace Go.Proofs.YtmlbdblnmbmnpaaGreatDoor
open Go.RowKit Tryst
set_option maxHeartbeats 400000
set_option maxRecDepth 20000
/-- what is still to come of fields, behind those that were gone through -/
def restF (there done : Bool) (l : List FB) (f : FB) : List FB := if done then l else if there then setB l f else insB l f
structure RPut (there done : Bool) (acc rest : List FB) (l : List FB) (f : FB) : Prop where
 all : acc ++ restF there done rest f = putB l f
 is : there = true → done = false → (findB rest f.name).isSome = true
theorem RPut.start (l : List FB) (f : FB) : RPut (findB l f.name).isSome false [] l l f := by
 refine ⟨?_, fun h _ => h⟩
 unfold restF putB
 rfl
theorem RPut.step {there done : Bool} {acc l : List FB} {x : FB} {r : List FB} {f : FB} (h : RPut there done acc (x :: r) l f) :
  (done = true → RPut there true (acc ++ [x]) r l f) ∧
  (done = false → there = true → x.name.data.toList = f.name.data.toList → RPut true true (acc ++ [f]) r l f) ∧
  (done = false → there = true → x.name.data.toList ≠ f.name.data.toList → RPut true false (acc ++ [x]) r l f) ∧
  (done = false → there = false → Op.bytesLess f.name.data.toList x.name.data.toList = true → RPut false true (acc ++ [f] ++ [x]) r l f) ∧
  (done = false → there = false → Op.bytesLess f.name.data.toList x.name.data.toList = false → RPut false false (acc ++ [x]) r l f) := by
 obtain ⟨h1, h2⟩ := h
 refine ⟨?_, ?_, ?_, ?_, ?_⟩
 ·
  rintro rfl
  refine ⟨?_, fun _ h => by cases h⟩
  rw [← h1]; simp [restF]
 ·
  rintro rfl rfl e
  refine ⟨?_, fun _ h => by cases h⟩
  rw [← h1]; simp [restF, setB_cons, e]
 ·
  rintro rfl rfl e
  refine ⟨?_, fun _ _ => ?_⟩
  ·
   rw [← h1]; simp [restF, setB_cons, e]
  ·
   have := h2 rfl rfl
   rwa [findB_cons, if_neg e] at this
 ·
  rintro rfl rfl e
  refine ⟨?_, fun h => by cases h⟩
  rw [← h1]; simp [restF, insB_cons, e]
 ·
  rintro rfl rfl e
  refine ⟨?_, fun h => by cases h⟩
  rw [← h1]; simp [restF, insB_cons, e]
theorem RPut.done {there done : Bool} {acc l : List FB} {f : FB} (h : RPut there done acc [] l f) : (done = true → acc = putB l f) ∧ (done = false → there = false ∧ acc ++ [f] = putB l f) := by
 obtain ⟨h1, h2⟩ := h
 refine ⟨?_, ?_⟩
 ·
  rintro rfl; rw [← h1]; simp [restF]
 ·
  rintro rfl
  cases there with
  | true => have := h2 rfl rfl; simp [findB] at this
  | false => exact ⟨rfl, by rw [← h1]; simp [restF, insB]⟩
structure RW (w : World) (B : Nat) (t p : ByteArray) (q : Int) (v : Value) (f : FB) (X : World) : Prop where
 e : EAt X w.heap.size t p q v
 z : EAt X (w.heap.size + 1 + 1) ⟨#[]⟩ ⟨#[]⟩ 0 (.slice none 0 0)
 v0 : X.cell? ⟨w.heap.size + 1, 0, none⟩ = some (.bool f.num)
 v1 : X.cell? ⟨w.heap.size + 1, 1, none⟩ = some (.int .i64 f.n)
 v2 : X.cell? ⟨w.heap.size + 1, 2, none⟩ = some (.string f.s)
 b : Below w.heap.size w X
 lo : w.heap.size + 3 ≤ B
 hi : B ≤ X.heap.size
theorem RW.grow {w X Y : World} {B C : Nat} {t p : ByteArray} {q : Int} {v : Value} {f : FB} (h : RW w B t p q v f X) (hC : B ≤ C) (hb : Below C X Y) : RW w B t p q v f Y := by
 have h1 := h.lo
 have h2 := hb.size
 have h3 := h.hi
 exact ⟨h.e.growB (by omega) hb, h.z.growB (by omega) hb, by rw [hb.cell (p := ⟨w.heap.size + 1, 0, none⟩) (by show w.heap.size + 1 < _; omega)]; exact h.v0, by rw [hb.cell (p := ⟨w.heap.size + 1, 1, none⟩) (by show w.heap.size + 1 < _; omega)]; exact h.v1, by rw [hb.cell (p := ⟨w.heap.size + 1, 2, none⟩) (by show w.heap.size + 1 < _; omega)]; exact h.v2, h.b.trans (hb.mono (by omega)), h.lo, by omega⟩
end Go.Proofs.YtmlbdblnmbmnpaaGreatDoor
