/- Slices of fields that a call makes itself; boxes and one-field slices in regions that draw their order. -/
import Derived.Test.YtfohdjgalmodbaaFlds
import Derived.Test.YtfohdjgalmodbaaDraw2g
import Derived.Test.YtfohdjgalmodbaaCell
set_option linter.unusedVariables false
set_option linter.unusedSimpArgs false
namespace Tryst
open Go Go.RowKit
def FB.cells (f : FB) : List Value := [.string f.name, .bool f.num, .int .i64 f.n, .string f.s]
theorem flat_len (l : List FB) : (l.flatMap FB.cells).length = l.length * 4 := by
  induction l with
  | nil => rfl
  | cons f l ih => rw [List.flatMap_cons, List.length_append, ih, List.length_cons]; simp [FB.cells]; omega
theorem flat_at : ∀ (l : List FB) (i : Nat) (h : i < l.length) (j : Nat), j < 4 → (l.flatMap FB.cells)[i * 4 + j]? = l[i].cells[j]?
  | f :: l, 0, h, j, hj => by
    rw [List.flatMap_cons, List.getElem?_append_left (by simp [FB.cells]; omega)]; simp
  | f :: l, i + 1, h, j, hj => by
    rw [List.flatMap_cons, List.getElem?_append_right (by simp [FB.cells]; omega)]
    have := flat_at l i (by simpa using h) j hj
    rw [List.getElem_cons_succ, ← this]
    congr 1
    simp [FB.cells]; omega
/-- a slice's address and capacity, as Go has them -/
structure Sl (a : Option Addr) (c n : Nat) : Prop where
  cap : n ≤ c
  spot : ∀ A, a = some A → A.spot = none
  zero : a = none → c = 0
/-- a slice of the call's own, of these fields -/
def FOwn (e : TypeId) (w : World) (base : Nat) (v : Value) (l : List FB) : Prop := w.ownsRow base e 4 v l.length (l.flatMap FB.cells)
theorem FOwn.nil (e : TypeId) (w : World) (base : Nat) : FOwn e w base (.slice none 0 0) [] := World.ownsRow_nil w base e 4
theorem FOwn.flds {e : TypeId} {w : World} {base : Nat} {v : Value} {l : List FB} (h : FOwn e w base v l) : ∃ a c, v = .slice a l.length c ∧ Flds w a l ∧ (∀ b o, a = some ⟨b, o, none⟩ → base ≤ b ∧ b < w.heap.size) ∧ (a = none → c = 0) ∧ Sl a c l.length := by
  have h0 := h
  rcases h.2 with ⟨rfl, hn⟩ | ⟨g, cap, cur, rfl, hg, hh, hcap, _⟩
  · have : l = [] := List.eq_nil_of_length_eq_zero hn
    subst this
    exact ⟨none, 0, rfl, Flds.nil _ _, fun b o h => (by cases h), fun _ => rfl, ⟨Nat.le_refl _, fun A h => (by cases h), fun _ => rfl⟩⟩
  · have hlt : g < w.heap.size := (h.lt g rfl).2
    refine ⟨some ⟨g, 0, none⟩, cap, rfl, ?_, fun b o h => (by cases h; exact ⟨hg, hlt⟩), fun h => (by cases h), ⟨hcap, fun A h => (by cases h; rfl), fun h => (by cases h)⟩⟩
    intro i hi
    refine ⟨g, 0, rfl, hlt, ?_⟩
    rw [Nat.zero_add]
    have hc : ∀ j, j < 4 → w.cell? ⟨g, i * 4 + j, none⟩ = l[i].cells[j]? := fun j hj => by
      rw [h0.cellAt (i * 4 + j) (by omega), flat_at l i hi j hj]
    exact ⟨hc 0 (by omega), hc 1 (by omega), hc 2 (by omega), hc 3 (by omega)⟩
theorem own_kept {e : TypeId} {size n : Nat} {w w' : World} {base : Nat} {v : Value} {xs : List Value} (h : w.ownsRow base e size v n xs) (hb : Below w.heap.size w w') : w'.ownsRow base e size v n xs := by
  refine ⟨h.1, ?_⟩
  rcases h.2 with h2 | ⟨g, cap, cur, h1, h2, h3, h4⟩
  · exact .inl h2
  · have hlt : g < w.heap.size := (h.lt g (by rw [h1]; rfl)).2
    exact .inr ⟨g, cap, cur, h1, h2, (hb.block g hlt).trans h3, h4⟩
theorem FOwn.grow {e : TypeId} {w w' : World} {base : Nat} {v : Value} {l : List FB} (h : FOwn e w base v l) (hb : Below w.heap.size w w') : FOwn e w' base v l := own_kept h hb
/-- append of one field, which lies in a block of its own -/
theorem wpList_appF {P : Program} {w : World} {ops : Array Oper} {rest : List Oper} {o : Oper} {a : Act} {Q : Exit → Act → World → Prop} {t e : TypeId} {bytes : Nat} (E : SliceOf P t e 4 bytes) (hgd : o.guard = none) (s x : Operand)
    (ho : o.op = .call { callee := .builtin .append, args := #[s, x], argTypes := #[t, t] })
    (base : Nat) (v : Value) (l : List FB) (hs : a.eval s = v) (hown : FOwn e w base v l) (f : FB)
    (g : Nat) (hx : a.eval x = .slice (some ⟨g, 0, none⟩) 1 1) (hf : FAt w g 0 f)
    (hn : l.length + 1 ≤ 1073741824) (hbase : base ≤ w.heap.size)
    (h : ∀ a' c' w', FOwn e w' base (.slice a' (l.length + 1) c') (l ++ [f]) → Below base w w' → wpList P ops Q rest (a.put o.dst (.slice a' (l.length + 1) c')) w') : wpList P ops Q (o :: rest) a w := by
  refine wpList_app E hgd s x ho base v l.length (l.flatMap FB.cells) hs hown ⟨g, 0, none⟩ 1 1 f.cells hx rfl ?_ ?_ hn hbase ?_
  · intro j u hj
    rw [Addr.add_lit, Nat.zero_add]
    obtain ⟨h0, h1, h2, h3⟩ := hf
    match j with
    | 0 => simp [FB.cells] at hj; subst hj; exact h0
    | 1 => simp [FB.cells] at hj; subst hj; exact h1
    | 2 => simp [FB.cells] at hj; subst hj; exact h2
    | 3 => simp [FB.cells] at hj; subst hj; exact h3
    | j + 4 => simp [FB.cells] at hj
  · intro u hu
    simp [FB.cells] at hu
    rcases hu with rfl | rfl | rfl | rfl <;> rfl
  · intro v' w' ho' hb' _
    have ho2 : FOwn e w' base v' (l ++ [f]) := by
      unfold FOwn
      rw [List.flatMap_append, List.length_append]
      simpa using ho'
    obtain ⟨a', c', rfl, _⟩ := ho2.flds
    rw [List.length_append] at ho2 ⊢
    exact h a' c' w' ho2 hb'
theorem wpList_appN {P : Program} {w : World} {ops : Array Oper} {rest : List Oper} {o : Oper} {a : Act} {Q : Exit → Act → World → Prop} {t e : TypeId} {bytes : Nat} (E : SliceOf P t e 4 bytes) (hgd : o.guard = none) (s x : Operand)
    (ho : o.op = .call { callee := .builtin .append, args := #[s, x], argTypes := #[t, t] })
    (base : Nat) (v : Value) (l : List FB) (n : Nat) (hln : l.length = n) (hs : a.eval s = v) (hown : FOwn e w base v l) (f : FB)
    (g : Nat) (hx : a.eval x = .slice (some ⟨g, 0, none⟩) 1 1) (hf : FAt w g 0 f)
    (hn : n + 1 ≤ 1073741824) (hbase : base ≤ w.heap.size)
    (h : ∀ a' c' w', FOwn e w' base (.slice a' (n + 1) c') (l ++ [f]) → Below base w w' → wpList P ops Q rest (a.put o.dst (.slice a' (n + 1) c')) w') : wpList P ops Q (o :: rest) a w := by
  subst hln
  exact wpList_appF E hgd s x ho base v l hs hown f g hx hf hn hbase h
theorem Flds.drew {w : World} {a : Option Addr} {l : List FB} (h : Flds w a l) : Flds w.drew a l := fun i hi => by
  obtain ⟨b, o, h1, h2, h3⟩ := h i hi
  exact ⟨b, o, h1, h2, ⟨h3.c0, h3.c1, h3.c2, h3.c3⟩⟩
/-- a new variable, in a region that draws its order -/
def NewBox (B : Nat) (T : TypeId) (cs : List Value) (v : Value) (w : World) : Prop := ∃ g, v = .pointer (some ⟨g, 0, none⟩) ∧ B ≤ g ∧ w.heap[g]? = some (.cells cs.toArray T (0, 0))
/-- a slice of one field, likewise -/
def OneF (f : FB) (v : Value) (w : World) : Prop := ∃ g, v = .slice (some ⟨g, 0, none⟩) 1 1 ∧ g < w.heap.size ∧ FAt w g 0 f
theorem newBox (B : Nat) (T : TypeId) (cs : List Value) (w : World) (h : B ≤ w.heap.size) : Tryst2.Grow w (w.alloc (.cells cs.toArray T)) ∧ ∃ w0, Tryst2.Grow w0 (w.alloc (.cells cs.toArray T)) ∧ NewBox B T cs (.pointer (some ⟨w.heap.size, 0, none⟩)) w0 :=
  ⟨Tryst2.Grow.alloc (Tryst2.Grow.refl _) _, _, Tryst2.Grow.refl _, _, rfl, h, by show (w.heap.push _)[w.heap.size]? = _; simp⟩
theorem oneF (f : FB) (T : TypeId) (w : World) : Tryst2.Grow w (w.alloc (.cells #[.string f.name, .bool f.num, .int .i64 f.n, .string f.s] T)) ∧ ∃ w0, Tryst2.Grow w0 (w.alloc (.cells #[.string f.name, .bool f.num, .int .i64 f.n, .string f.s] T)) ∧ OneF f (.slice (some ⟨w.heap.size, 0, none⟩) 1 1) w0 :=
  ⟨Tryst2.Grow.alloc (Tryst2.Grow.refl _) _, _, Tryst2.Grow.refl _, _, rfl, by simp, by constructor <;> simp [go_sem]⟩
theorem OneF.at {f : FB} {v : Value} {w' : World} (h : ∃ w0, Tryst2.Grow w0 w' ∧ OneF f v w0) : ∃ g, v = .slice (some ⟨g, 0, none⟩) 1 1 ∧ g < w'.heap.size ∧ FAt w' g 0 f := by
  obtain ⟨w0, hg, g, h1, h2, h3⟩ := h
  exact ⟨g, h1, Nat.lt_of_lt_of_le h2 hg.size, h3.grow h2 hg⟩
theorem NewBox.at {B : Nat} {T : TypeId} {cs : List Value} {v : Value} {w' : World} (h : ∃ w0, Tryst2.Grow w0 w' ∧ NewBox B T cs v w0) : ∃ g, v = .pointer (some ⟨g, 0, none⟩) ∧ B ≤ g ∧ g < w'.heap.size ∧ w'.heap[g]? = some (.cells cs.toArray T (0, 0)) := by
  obtain ⟨w0, hg, g, h1, h2, h3⟩ := h
  have hlt : g < w0.heap.size := (Array.getElem?_eq_some_iff.1 h3).1
  exact ⟨g, h1, h2, Nat.lt_of_lt_of_le hlt hg.size, (hg.block g hlt).trans h3⟩
/-- an event's four cells, in a box that may be written -/
structure EAt (w : World) (b : Nat) (t p : ByteArray) (q : Int) (v : Value) : Prop where
  c0 : w.cell? ⟨b, 0, none⟩ = some (.string t)
  c1 : w.cell? ⟨b, 1, none⟩ = some (.string p)
  c2 : w.cell? ⟨b, 2, none⟩ = some (.int .u64 q)
  c3 : w.cell? ⟨b, 3, none⟩ = some v
  f0 : w.frozen? ⟨b, 0, none⟩ = false
  f1 : w.frozen? ⟨b, 1, none⟩ = false
  f2 : w.frozen? ⟨b, 2, none⟩ = false
  f3 : w.frozen? ⟨b, 3, none⟩ = false
theorem EAt.of {w : World} {b : Nat} {t p : ByteArray} {q : Int} {v : Value} {T : TypeId} (h : w.heap[b]? = some (.cells #[.string t, .string p, .int .u64 q, v] T (0, 0))) : EAt w b t p q v := by
  constructor <;> simp [World.cell?, World.frozen?, h]
theorem EAt.grow {v w : World} {b : Nat} {t p : ByteArray} {q : Int} {u : Value} (h : EAt v b t p q u) (hb : b < v.heap.size) (hw : Below v.heap.size v w) : EAt w b t p q u := by
  obtain ⟨h1, h2, h3, h4, g1, g2, g3, g4⟩ := h
  exact ⟨by rw [hw.cell (p := ⟨b, 0, none⟩) hb]; exact h1, by rw [hw.cell (p := ⟨b, 1, none⟩) hb]; exact h2, by rw [hw.cell (p := ⟨b, 2, none⟩) hb]; exact h3, by rw [hw.cell (p := ⟨b, 3, none⟩) hb]; exact h4,
    by rw [hw.frozen (p := ⟨b, 0, none⟩) hb]; exact g1, by rw [hw.frozen (p := ⟨b, 1, none⟩) hb]; exact g2, by rw [hw.frozen (p := ⟨b, 2, none⟩) hb]; exact g3, by rw [hw.frozen (p := ⟨b, 3, none⟩) hb]; exact g4⟩
theorem EAt.growB {v w : World} {b B : Nat} {t p : ByteArray} {q : Int} {u : Value} (h : EAt v b t p q u) (hb : b < B) (hw : Below B v w) : EAt w b t p q u := by
  obtain ⟨h1, h2, h3, h4, g1, g2, g3, g4⟩ := h
  exact ⟨by rw [hw.cell (p := ⟨b, 0, none⟩) hb]; exact h1, by rw [hw.cell (p := ⟨b, 1, none⟩) hb]; exact h2, by rw [hw.cell (p := ⟨b, 2, none⟩) hb]; exact h3, by rw [hw.cell (p := ⟨b, 3, none⟩) hb]; exact h4,
    by rw [hw.frozen (p := ⟨b, 0, none⟩) hb]; exact g1, by rw [hw.frozen (p := ⟨b, 1, none⟩) hb]; exact g2, by rw [hw.frozen (p := ⟨b, 2, none⟩) hb]; exact g3, by rw [hw.frozen (p := ⟨b, 3, none⟩) hb]; exact g4⟩
theorem EAt.setAll {w : World} {b : Nat} {t p t' p' : ByteArray} {q q' : Int} {u u' : Value} (h : EAt w b t p q u) :
    EAt ((((w.setCell ⟨b, 0, none⟩ (.string t')).setCell ⟨b, 1, none⟩ (.string p')).setCell ⟨b, 2, none⟩ (.int .u64 q')).setCell ⟨b, 3, none⟩ u') b t' p' q' u' := by
  obtain ⟨h1, h2, h3, h4, g1, g2, g3, g4⟩ := h
  constructor <;> simp [cell_setCell, frozen_setCell, h1, h2, h3, h4, g1, g2, g3, g4]
theorem EAt.otherAll {w : World} {b c : Nat} {t p : ByteArray} {q : Int} {u v0 v1 v2 v3 : Value} (h : EAt w b t p q u) (hn : c ≠ b) :
    EAt ((((w.setCell ⟨c, 0, none⟩ v0).setCell ⟨c, 1, none⟩ v1).setCell ⟨c, 2, none⟩ v2).setCell ⟨c, 3, none⟩ v3) b t p q u := by
  obtain ⟨h1, h2, h3, h4, g1, g2, g3, g4⟩ := h
  constructor <;> simp [cell_setCell, frozen_setCell, hn, h1, h2, h3, h4, g1, g2, g3, g4]
theorem EAt.other3 {w : World} {b c : Nat} {t p : ByteArray} {q : Int} {u v3 : Value} (h : EAt w b t p q u) (hn : c ≠ b) :
    EAt (w.setCell ⟨c, 3, none⟩ v3) b t p q u := by
  obtain ⟨h1, h2, h3, h4, g1, g2, g3, g4⟩ := h
  constructor <;> simp [cell_setCell, frozen_setCell, hn, h1, h2, h3, h4, g1, g2, g3, g4]
theorem FOwn.set {e : TypeId} {w : World} {base : Nat} {v : Value} {l : List FB} (h : FOwn e w base v l) {b o : Nat} (hb : b < base) (u : Value) : FOwn e (w.setCell ⟨b, o, none⟩ u) base v l := ownsRow_setCell_below h (a := ⟨b, o, none⟩) hb u
theorem FOwn.alloc {e : TypeId} {w : World} {base : Nat} {v : Value} {l : List FB} (h : FOwn e w base v l) (o : Obj) : FOwn e (w.alloc o) base v l := World.ownsRow.alloc h o
theorem wp_genC {C : Code} {P : Program} {Q : Exit → Act → World → Prop} {a : Act} {W : World} (F : World → Prop) (h : F W) (k : ∀ w1, F w1 → C.wp P Q a w1) : C.wp P Q a W := k W h
theorem EAt.set3 {w : World} {b : Nat} {t p : ByteArray} {q : Int} {u v : Value} (h : EAt w b t p q u) : EAt (w.setCell ⟨b, 3, none⟩ v) b t p q v := by
  obtain ⟨h1, h2, h3, h4, g1, g2, g3, g4⟩ := h
  constructor <;> simp [cell_setCell, frozen_setCell, h1, h2, h3, h4, g1, g2, g3, g4]
end Tryst
