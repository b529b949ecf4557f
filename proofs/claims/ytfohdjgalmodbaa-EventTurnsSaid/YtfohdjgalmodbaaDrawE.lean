/- A region that draws its order, and writes one row of the call's own to a content that is known ahead. -/
import Derived.Test.YtfohdjgalmodbaaDraw2g
set_option linter.unusedVariables false
set_option linter.unusedSimpArgs false
namespace Tryst3
open Go Go.RowKit
/-- the world has grown; block g is as it was, or holds what it is to hold -/
structure Ext (g : Nat) (C : Obj) (x y : World) : Prop where
  os : y.os = x.os
  tape : y.tape = x.tape
  output : y.output = x.output
  size : x.heap.size ≤ y.heap.size
  block : ∀ k, k < x.heap.size → k ≠ g → y.heap[k]? = x.heap[k]?
  row : y.heap[g]? = x.heap[g]? ∨ y.heap[g]? = some C
theorem Ext.refl (g : Nat) (C : Obj) (x : World) : Ext g C x x := ⟨rfl, rfl, rfl, Nat.le_refl _, fun _ _ _ => rfl, .inl rfl⟩
@[go_sem] theorem Ext.refl_iff (g : Nat) (C : Obj) (x : World) : Ext g C x x = True := eq_true (Ext.refl g C x)
theorem Ext.trans {g : Nat} {C : Obj} {x y z : World} (h : Ext g C x y) (k : Ext g C y z) : Ext g C x z :=
  ⟨k.os.trans h.os, k.tape.trans h.tape, k.output.trans h.output, Nat.le_trans h.size k.size, fun i hi hg => (k.block i (Nat.lt_of_lt_of_le hi h.size) hg).trans (h.block i hi hg), by
    rcases k.row with e | e
    · rcases h.row with f | f
      · exact .inl (e.trans f)
      · exact .inr (e.trans f)
    · exact .inr e⟩
theorem Ext.alloc (g : Nat) (C : Obj) (x : World) (hg : g < x.heap.size) (o : Obj) : Ext g C x (x.alloc o) :=
  ⟨rfl, rfl, rfl, by simp, fun k hk _ => Below.heap_alloc _ _ _ hk, .inl (Below.heap_alloc _ _ _ hg)⟩
theorem Ext.below {g : Nat} {C : Obj} {x y : World} (h : Ext g C x y) {B : Nat} (hB : B ≤ g) (hx : B ≤ x.heap.size) : Below B x y :=
  ⟨h.os, h.tape, h.output, h.size, fun k hk => h.block k (by omega) (by omega)⟩
theorem Ext.cell {g : Nat} {C : Obj} {x y : World} (h : Ext g C x y) {b : Nat} (hb : b < x.heap.size) (hg : b ≠ g) (o : Nat) : y.cell? ⟨b, o, none⟩ = x.cell? ⟨b, o, none⟩ := World.cell?_of_block (w := x) (a := ⟨b, o, none⟩) (h.block b hb hg)
theorem Ext.frozen {g : Nat} {C : Obj} {x y : World} (h : Ext g C x y) {b : Nat} (hb : b < x.heap.size) (hg : b ≠ g) (o : Nat) : y.frozen? ⟨b, o, none⟩ = x.frozen? ⟨b, o, none⟩ := World.frozen?_of_block (w := x) (a := ⟨b, o, none⟩) (h.block b hb hg)
inductive Rsp where
  | is (v : Value)
  | any (p : Value → World → Prop)
def Rsp.pred (g : Nat) (C : Obj) : Rsp → Value → World → Prop
  | .is c => fun v _ => v = c
  | .any p => fun v w => ∃ w0, Ext g C w0 w ∧ p v w0
theorem Rsp.stable (g : Nat) (C : Obj) (r : Rsp) (v : Value) (x y : World) (h : Ext g C x y) (hr : r.pred g C v x) : r.pred g C v y := by
  cases r with
  | is c => exact hr
  | any p => obtain ⟨w0, h1, h2⟩ := hr; exact ⟨w0, h1.trans h, h2⟩
theorem wp_region_ext {P : Program} {ops : Array Oper} {Q : Exit → Act → World → Prop} {rid : Nat} {a0 : Act} {w0 : World} (g : Nat) (C : Obj) (rs : List Rsp)
    (hm : P.follows .mixedOrders = true) (hok : Tryst2.drawOk ops rs.length a0.tmps.size = true)
    (obl : Tryst2.AllObl P a0 w0.drew (Ext g C) (rs.map (Rsp.pred g C)) (Tryst2.dstL ops) (ops.toList.take rs.length) (rs.map (Rsp.pred g C)))
    (fin : ∀ (tv : Nat → Value) (w' : World), Ext g C w0.drew w' → Tryst2.allR (rs.map (Rsp.pred g C)) tv w' ((Tryst2.dstL ops).take rs.length) →
      wpList P ops Q (ops.toList.drop rs.length) (Tryst2.putAll tv ((Tryst2.dstL ops).take rs.length) a0) w') :
    (Code.region rid ops true).wp P Q a0 w0 :=
  Tryst2.wp_region_drawn rs.length (rs.map (Rsp.pred g C)) (Ext g C) hm hok (by simp) (Ext.refl g C) (fun _ _ h k => h.trans k)
    (fun i r hr v x y hx hv => by
      rw [List.getElem?_map, Option.map_eq_some_iff] at hr
      obtain ⟨q, _, rfl⟩ := hr
      exact q.stable g C v x y hx hv) obl fin
end Tryst3
