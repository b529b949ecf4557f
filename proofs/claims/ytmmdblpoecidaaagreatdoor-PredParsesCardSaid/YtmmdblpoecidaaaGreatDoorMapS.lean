/- Maps with texts as keys, by what each key holds. -/
import Derived.Test.YtmmdblpoecidaaaGreatDoorProg
import Derived.WalkKit
import Derived.Maps.OwnSet
import Derived.Maps.RangeWalk
import Derived.Maps.Views
import Derived.StringKeys
set_option linter.unusedVariables false
set_option linter.unusedSimpArgs false
namespace Tryst
open Go Go.RowKit Go.Maps
def rawE (v : Value) : Option (DataW Value × List MemPlace) := some (.held v, [])
def keyL (l : List UInt8) : Lit := .string l
/-- block b is a map with texts as keys; f: what each text's look-up gives (z where there is none), p: is there one? -/
def MapS (P : Program) (k : TypeId) (w : World) (b n : Nat) (z : Value) (f : List UInt8 → Value) (p : List UInt8 → Bool) : Prop :=
  ∃ D : DataW Value, w.ownsMap P k rawE b n D ∧ (∀ l, D.atKey (keyL l) (.held z) = .held (f l)) ∧ (∀ l, Maps.has D (keyL l) = p l)
section
variable {P : Program} {k e t : TypeId} {w w' : World} {b n : Nat} {z : Value} {f : List UInt8 → Value} {p : List UInt8 → Bool}
theorem MapS.lt (h : MapS P k w b n z f p) : b < w.heap.size := by
  obtain ⟨D, h1, _⟩ := h
  exact h1.lt
theorem MapS.of_block (h : MapS P k w b n z f p) (hb : w'.heap[b]? = w.heap[b]?) : MapS P k w' b n z f p := by
  obtain ⟨D, ⟨es, c, h1, h2⟩, h3⟩ := h
  exact ⟨D, ⟨es, c, hb.trans h1, h2⟩, h3⟩
theorem MapS.growB (h : MapS P k w b n z f p) {B : Nat} (hB : b < B) (hb : Below B w w') : MapS P k w' b n z f p := h.of_block (hb.block b hB)
theorem MapS.grow (h : MapS P k w b n z f p) (hb : Below w.heap.size w w') : MapS P k w' b n z f p := h.growB h.lt hb
theorem MapS.away (h : MapS P k w b n z f p) {c o : Nat} (hc : c ≠ b) (u : Value) : MapS P k (w.setCell ⟨c, o, none⟩ u) b n z f p := h.of_block (Below.heap_setCell _ _ _ _ (fun e => hc e.symm))
theorem MapS.kept {row : Option Nat} (h : MapS P k w b n z f p) (hg : w.grownBy w' row) (hr : some b ≠ row) : MapS P k w' b n z f p := h.of_block (hg.block b h.lt hr)
theorem MapS.made (P : Program) (k : TypeId) (w : World) (z : Value) : MapS P k (w.alloc (.map #[] 0)) w.heap.size 0 z (fun _ => z) (fun _ => false) :=
  ⟨.map [], World.ownsMap_made w P k rawE, fun _ => rfl, fun _ => rfl⟩
theorem MapS.congr {f' : List UInt8 → Value} {p' : List UInt8 → Bool} (h : MapS P k w b n z f p) (hf : ∀ l, f l = f' l) (hp : ∀ l, p l = p' l) : MapS P k w b n z f' p' := by
  obtain rfl : f = f' := funext hf
  obtain rfl : p = p' := funext hp
  exact h
theorem MapS.mono {n' : Nat} (h : MapS P k w b n z f p) (hn : n ≤ n') : MapS P k w b n' z f p := by
  obtain ⟨D, h1, h2⟩ := h
  exact ⟨D, h1.mono hn, h2⟩
theorem isKey (l : List UInt8) : WideAt.IsKeyLit (keyL l) := by unfold WideAt.IsKeyLit keyL; trivial
theorem MapS.look (h : MapS P k w b n z f p) (hk : P.underlying k = some .string) (ht : P.underlying t = some (.map k e)) (hz : (zeroValue e).run P w = .ok z w) {s : ByteArray} (hs : s.size ≤ maxLen) :
    (Instr.lookup t (.map (some b)) (.string s) false).run P w = .ok (f s.data.toList) w := by
  obtain ⟨D, h1, h2, _⟩ := h
  obtain ⟨v, ps, hrun, hv⟩ := h1.lookup (string_keyed hk) ht hz rfl (WideMaps.keyOf_string_mk hk hs)
  have e1 : D.atKey (.string s.data.toList) (.held z) = .held (f s.data.toList) := h2 s.data.toList
  rw [e1] at hv
  simp only [rawE, Option.some.injEq, Prod.mk.injEq, DataW.held.injEq] at hv
  rw [hrun, hv.1]
theorem MapS.look_ok (h : MapS P k w b n z f p) (hk : P.underlying k = some .string) (ht : P.underlying t = some (.map k e)) (hz : (zeroValue e).run P w = .ok z w) {s : ByteArray} (hs : s.size ≤ maxLen) :
    (Instr.lookup t (.map (some b)) (.string s) true).run P w = .ok (.tuple #[f s.data.toList, .bool (p s.data.toList)]) w := by
  obtain ⟨D, h1, h2, h3⟩ := h
  obtain ⟨v, ps, hrun, hv⟩ := h1.look_ok (string_keyed hk) ht hz rfl (WideMaps.keyOf_string_mk hk hs)
  have e1 : D.atKey (.string s.data.toList) (.held z) = .held (f s.data.toList) := h2 s.data.toList
  have e2 : Maps.has D (.string s.data.toList) = p s.data.toList := h3 s.data.toList
  rw [e1] at hv
  rw [e2] at hrun
  simp only [rawE, Option.some.injEq, Prod.mk.injEq, DataW.held.injEq] at hv
  rw [hrun, hv.1]
theorem MapS.put (h : MapS P k w b n z f p) (hk : P.underlying k = some .string) (ht : P.underlying t = some (.map k e)) (hn : n < maxLen) {s : ByteArray} (hs : s.size ≤ maxLen) (v : Value) :
    ∃ w', (Instr.mapUpdate t (.map (some b)) (.string s) v).run P w = .ok () w' ∧ MapS P k w' b (n + 1) z (fun l => if l = s.data.toList then v else f l) (fun l => decide (l = s.data.toList) || p l) ∧ w.grownBy w' (some b) := by
  obtain ⟨D, h1, h2, h3⟩ := h
  obtain ⟨w', hrun, ho, hg⟩ := h1.update (string_keyed hk) ht hn (WideMaps.keyOf_string_mk hk hs) (val := v) rfl
  have hM := h1.isMap
  refine ⟨w', hrun, ⟨_, ho, fun l => ?_, fun l => ?_⟩, hg⟩
  · by_cases hl : l = s.data.toList
    · subst hl
      simp only [if_true]
      exact atKey_put_same hM (isKey _) _ _
    · simp only [hl, if_false]
      exact (atKey_put_other (fun e => hl (by simpa [keyL] using e)) _ _).trans (h2 l)
  · by_cases hl : l = s.data.toList
    · subst hl
      simp only [decide_true, Bool.true_or]
      exact has_put_same hM (isKey _) _
    · simp only [hl, decide_false, Bool.false_or]
      exact (has_put_other (fun e => hl (by simpa [keyL] using e)) _).trans (h3 l)
theorem wpList_lookS {ops : Array Oper} {rest : List Oper} {o : Oper} {a : Act} {Q : Exit → Act → World → Prop} (hg : o.guard = none) (m x : Operand) (hop : o.op = Op.lookup t m x false)
    (h : MapS P k w b n z f p) (hk : P.underlying k = some .string) (ht : P.underlying t = some (.map k e)) (hz : (zeroValue e).run P w = .ok z w) (hm : a.eval m = .map (some b)) {s : ByteArray} (hs : s.size ≤ maxLen) (hx : a.eval x = .string s) {v : Value} (hv : f s.data.toList = v)
    (hK : wpList P ops Q rest (a.put o.dst v) w) : wpList P ops Q (o :: rest) a w := by
  refine wpList_plain hg fun K' hK' => ?_
  have hrun := h.look hk ht hz hs
  unfold Oper.wp
  simp [execOp, hop, hm, hx, hrun, Result.andThen, hv]
  exact hK' _ _ hK
theorem wpList_lookS_ok {ops : Array Oper} {rest : List Oper} {o : Oper} {a : Act} {Q : Exit → Act → World → Prop} (hg : o.guard = none) (m x : Operand) (hop : o.op = Op.lookup t m x true)
    (h : MapS P k w b n z f p) (hk : P.underlying k = some .string) (ht : P.underlying t = some (.map k e)) (hz : (zeroValue e).run P w = .ok z w) (hm : a.eval m = .map (some b)) {s : ByteArray} (hs : s.size ≤ maxLen) (hx : a.eval x = .string s) {v : Value} (hv : f s.data.toList = v)
    (hK : wpList P ops Q rest (a.put o.dst (.tuple #[v, .bool (p s.data.toList)])) w) : wpList P ops Q (o :: rest) a w := by
  refine wpList_plain hg fun K' hK' => ?_
  have hrun := h.look_ok hk ht hz hs
  unfold Oper.wp
  simp [execOp, hop, hm, hx, hrun, Result.andThen, hv]
  exact hK' _ _ hK
theorem wpList_putS {ops : Array Oper} {rest : List Oper} {o : Oper} {a : Act} {Q : Exit → Act → World → Prop} (hg : o.guard = none) (m x y : Operand) (hop : o.op = Op.mapUpdate t m x y)
    (h : MapS P k w b n z f p) (hk : P.underlying k = some .string) (ht : P.underlying t = some (.map k e)) (hn : n < maxLen) (hm : a.eval m = .map (some b)) {s : ByteArray} (hs : s.size ≤ maxLen) (hx : a.eval x = .string s) {v : Value} (hy : a.eval y = v)
    (hK : ∀ w', MapS P k w' b (n + 1) z (fun l => if l = s.data.toList then v else f l) (fun l => decide (l = s.data.toList) || p l) → w.grownBy w' (some b) → wpList P ops Q rest (a.put o.dst undef) w') : wpList P ops Q (o :: rest) a w := by
  refine wpList_plain hg fun K' hK' => ?_
  obtain ⟨w', hrun, h1, h2⟩ := h.put hk ht hn hs v
  unfold Oper.wp
  simp [execOp, hop, hm, hx, hy, hrun, Result.andThen]
  exact hK' _ _ (hK w' h1 h2)
/-- a range over it under way: q says which keys are still to come -/
def RangeS (P : Program) (k : TypeId) (w : World) (b r n : Nat) (z : Value) (f : List UInt8 → Value) (p q : List UInt8 → Bool) (cnt : Nat) : Prop :=
  ∃ (D : DataW Value) (left : Lit → Bool), w.ranges P k rawE b r n D left cnt ∧ (∀ l, D.atKey (keyL l) (.held z) = .held (f l)) ∧ (∀ l, Maps.has D (keyL l) = p l) ∧ (∀ l, left (keyL l) = q l)
theorem RangeS.map {r cnt : Nat} {q : List UInt8 → Bool} (h : RangeS P k w b r n z f p q cnt) : MapS P k w b n z f p := by
  obtain ⟨D, left, h1, h2, h3, _⟩ := h
  exact ⟨D, h1.owns, h2, h3⟩
theorem RangeS.left_eq {r cnt : Nat} {q : List UInt8 → Bool} (h : RangeS P k w b r n z f p q cnt) : w.rangeLeft b r = cnt := by
  obtain ⟨D, left, h1, _⟩ := h
  exact h1.left_eq
theorem RangeS.lt {r cnt : Nat} {q : List UInt8 → Bool} (h : RangeS P k w b r n z f p q cnt) : r < w.heap.size := by
  obtain ⟨D, left, h1, _⟩ := h
  exact h1.lt
theorem RangeS.of_block {r cnt : Nat} {q : List UInt8 → Bool} (h : RangeS P k w b r n z f p q cnt) (hb : w'.heap[b]? = w.heap[b]?) (hr : w'.heap[r]? = w.heap[r]?) : RangeS P k w' b r n z f p q cnt := by
  obtain ⟨D, left, ⟨es, c, since, seen, c0, h1, h2, h3, h4, h5, h6⟩, hh⟩ := h
  exact ⟨D, left, ⟨es, c, since, seen, c0, hb.trans h1, h2, h3, h4, hr.trans h5, h6⟩, hh⟩
theorem RangeS.grow {r cnt : Nat} {q : List UInt8 → Bool} (h : RangeS P k w b r n z f p q cnt) (hb : Below w.heap.size w w') : RangeS P k w' b r n z f p q cnt := h.of_block (hb.block b h.map.lt) (hb.block r h.lt)
theorem RangeS.away {r cnt : Nat} {q : List UInt8 → Bool} (h : RangeS P k w b r n z f p q cnt) {c o : Nat} (h1 : c ≠ b) (h2 : c ≠ r) (u : Value) : RangeS P k (w.setCell ⟨c, o, none⟩ u) b r n z f p q cnt :=
  h.of_block (Below.heap_setCell _ _ _ _ (fun e => h1 e.symm)) (Below.heap_setCell _ _ _ _ (fun e => h2 e.symm))
theorem wpList_rangeS {ops : Array Oper} {rest : List Oper} {o : Oper} {a : Act} {Q : Exit → Act → World → Prop} (hg : o.guard = none) (m : Operand) (hop : o.op = Op.range t m)
    (h : MapS P k w b n z f p) (hk : P.underlying k = some .string) (ht : P.underlying t = some (.map k e)) (hm : a.eval m = .map (some b))
    (hK : ∀ w' cnt, RangeS P k w' b w.heap.size n z f p p cnt → w.grownBy w' none → w'.heap.size = w.heap.size + 1 → wpList P ops Q rest (a.put o.dst (.pointer (some ⟨w.heap.size, 0, none⟩))) w') : wpList P ops Q (o :: rest) a w := by
  obtain ⟨D, h1, h2, h3⟩ := h
  exact wpList_range_own w hg m t hop k e (string_keyed hk) ht rawE b n D hm h1 (fun w' r1 r2 r3 => hK w' _ ⟨D, Maps.has D, r1, h2, h3, h3⟩ r2 r3)
theorem wpList_nextS {ops : Array Oper} {rest : List Oper} {o : Oper} {a : Act} {Q : Exit → Act → World → Prop} {r cnt : Nat} {q : List UInt8 → Bool} (hg : o.guard = none) (it : Operand) (hop : o.op = Op.next it false)
    (h : RangeS P k w b r n z f p q cnt) (hk : P.underlying k = some .string) (hit : a.eval it = .pointer (some ⟨r, 0, none⟩))
    (hDone : (∀ l, q l = false) → wpList P ops Q rest (a.put o.dst (.tuple #[.bool false])) w)
    (hMore : ∀ (s : ByteArray) (w' : World) (cnt' : Nat), s.size ≤ maxLen → q s.data.toList = true → RangeS P k w' b r n z f p (fun l => q l && !decide (l = s.data.toList)) cnt' → cnt' < cnt → w.grownBy w' (some r) → w'.heap.size = w.heap.size →
      (Instr.entry (.pointer (some ⟨r, 0, none⟩))).run P w' = .ok (.tuple #[.string s, f s.data.toList]) w' → wpList P ops Q rest (a.put o.dst (.tuple #[.bool true, .string s, f s.data.toList])) w') : wpList P ops Q (o :: rest) a w := by
  obtain ⟨D, left, h1, h2, h3, h4⟩ := h
  have inv : ∀ key kl, keyOf P k key = some kl → ∃ s : ByteArray, key = .string s ∧ kl = .string s.data.toList ∧ s.size ≤ maxLen := fun key kl hkey => by
    rw [keyOf_string hk] at hkey
    cases key <;> simp [mapKey, hk] at hkey
    exact ⟨_, rfl, hkey.2.symm, hkey.1⟩
  refine wpList_next_ranges w hg it hop k (string_keyed hk) rawE (Value.string) id (fun key kl hkey => by obtain ⟨s, rfl, _⟩ := inv key kl hkey; exact ⟨s, rfl⟩) (fun v y _ => ⟨v, rfl⟩) b r n D left cnt hit h1 (fun _ hl => hDone fun l => by rw [← h4]; exact hl _) ?_
  intro s c kl y w' cnt' hkey hlk hv hat hrg hlt hgr hsz hen
  obtain ⟨s', e1, rfl, hsz'⟩ := inv _ _ hkey
  cases e1
  have hc : c = f s.data.toList := by
    have e2 := hat (.held z)
    have e3 : D.atKey (.string s.data.toList) (.held z) = .held (f s.data.toList) := h2 s.data.toList
    rw [e3] at e2
    simp only [rawE, id, Option.some.injEq] at hv
    subst hv
    simpa using e2.symm
  subst hc
  refine hMore s w' cnt' hsz' ((h4 s.data.toList).symm.trans hlk) ⟨D, _, hrg, h2, h3, fun l => ?_⟩ hlt hgr hsz hen
  have e5 : (keyL l).sameKey (.string s.data.toList) = decide (l = s.data.toList) := by
    show (l == s.data.toList) = _
    by_cases h : l = s.data.toList <;> simp [h]
  simp only [e5, h4]
end
end Tryst
