/- A field that is put among fields, as the program holds them. -/
import Derived.Test.YtfohdjgalmodbaaOwnF
set_option linter.unusedVariables false
set_option linter.unusedSimpArgs false
namespace Tryst
open Go Go.RowKit
def setB : List FB → FB → List FB
  | [], _ => []
  | x :: r, f => if x.name.data.toList = f.name.data.toList then f :: r else x :: setB r f
def insB : List FB → FB → List FB
  | [], f => [f]
  | x :: r, f => if Op.bytesLess f.name.data.toList x.name.data.toList = true then f :: x :: r else x :: insB r f
def putB (l : List FB) (f : FB) : List FB := if (findB l f.name).isSome = true then setB l f else insB l f
theorem setB_cons (x : FB) (r : List FB) (f : FB) : setB (x :: r) f = if x.name.data.toList = f.name.data.toList then f :: r else x :: setB r f := rfl
theorem insB_cons (x : FB) (r : List FB) (f : FB) : insB (x :: r) f = if Op.bytesLess f.name.data.toList x.name.data.toList = true then f :: x :: r else x :: insB r f := rfl
theorem setB_map (l : List FB) (f : FB) : (setB l f).map FB.fld = setF (l.map FB.fld) f.name.data.toList f.fld.v := by
  induction l with
  | nil => rfl
  | cons x r ih =>
    rw [setB_cons, List.map_cons, set_cons]
    have e : x.fld.name = x.name.data.toList := rfl
    rw [e]
    split
    · rename_i h; rw [List.map_cons]; rfl
    · rw [List.map_cons, ih]
theorem insB_map (l : List FB) (f : FB) : (insB l f).map FB.fld = insF (l.map FB.fld) f.name.data.toList f.fld.v := by
  induction l with
  | nil => rfl
  | cons x r ih =>
    rw [insB_cons, List.map_cons, ins_cons]
    have e : x.fld.name = x.name.data.toList := rfl
    rw [e]
    split
    · rw [List.map_cons, List.map_cons]; rfl
    · rw [List.map_cons, ih]
theorem hasF_find (l : List FB) (n : ByteArray) : hasF (l.map FB.fld) n.data.toList = (findB l n).isSome := by
  rw [has_get, findB_get, Option.isSome_map]
theorem putB_map (l : List FB) (f : FB) : (putB l f).map FB.fld = putF (l.map FB.fld) f.name.data.toList f.fld.v := by
  unfold putB putF
  rw [hasF_find]
  split
  · exact setB_map l f
  · exact insB_map l f
theorem setB_length (l : List FB) (f : FB) : (setB l f).length = l.length := by
  have := congrArg List.length (setB_map l f)
  rwa [set_length, List.length_map, List.length_map] at this
theorem insB_length (l : List FB) (f : FB) : (insB l f).length = l.length + 1 := by
  have := congrArg List.length (insB_map l f)
  rwa [ins_length, List.length_map, List.length_map] at this
theorem putB_length (l : List FB) (f : FB) : (putB l f).length ≤ l.length + 1 := by
  unfold putB; split
  · rw [setB_length]; omega
  · rw [insB_length]; omega
theorem setB_at (l : List FB) (f : FB) : ∀ (k : Nat) (h : k < l.length), l[k].name.data.toList = f.name.data.toList → (∀ (j : Nat) (h : j < l.length), j < k → l[j].name.data.toList ≠ f.name.data.toList) → setB l f = l.set k f := by
  induction l with
  | nil => intro k h; simp at h
  | cons x r ih =>
    intro k h hk hj
    rw [setB_cons]
    cases k with
    | zero =>
      have hk0 : x.name.data.toList = f.name.data.toList := hk
      rw [if_pos hk0]; rfl
    | succ k =>
      have h0 : x.name.data.toList ≠ f.name.data.toList := hj 0 (by simp) (by omega)
      rw [if_neg h0, List.set_cons_succ, ih k (by simpa using h) (by simpa using hk) (fun j hj' hlt => by
        have := hj (j + 1) (by simpa using hj') (by omega)
        simpa using this)]
theorem insB_at (l : List FB) (f : FB) : ∀ (k : Nat) (h : k ≤ l.length), (∀ h : k < l.length, Op.bytesLess f.name.data.toList l[k].name.data.toList = true) → (∀ (j : Nat) (h : j < l.length), j < k → Op.bytesLess f.name.data.toList l[j].name.data.toList = false) → insB l f = l.take k ++ [f] ++ l.drop k := by
  induction l with
  | nil => intro k h _ _; simp at h; subst h; rfl
  | cons x r ih =>
    intro k h hk hj
    rw [insB_cons]
    cases k with
    | zero =>
      have hk0 : Op.bytesLess f.name.data.toList x.name.data.toList = true := hk (by simp)
      rw [if_pos hk0]; rfl
    | succ k =>
      have h0 : Op.bytesLess f.name.data.toList x.name.data.toList = false := hj 0 (by simp) (by omega)
      rw [h0, if_neg (by simp), ih k (by simpa using h) (fun h' => hk (by simpa using h')) (fun j hj' hlt => by
        have := hj (j + 1) (by simpa using hj') (by omega)
        simpa using this)]
      simp
theorem FOwn.row {e : TypeId} {w : World} {base : Nat} {a : Option Addr} {c : Nat} {l : List FB} (h : FOwn e w base (.slice a l.length c) l) (h0 : 0 < l.length) : ∃ g, a = some ⟨g, 0, none⟩ ∧ base ≤ g ∧ g < w.heap.size ∧ ∀ j, w.frozen? ⟨g, j, none⟩ = false := by
  have h1 := h
  rcases h.2 with ⟨_, hn⟩ | ⟨g, cap, cur, hv, hg, _⟩
  · omega
  · cases hv
    exact ⟨g, rfl, hg, (h1.lt g rfl).2, fun j => World.ownsRow.frozenAt h1 j⟩
theorem Flds.set {w : World} {b o : Nat} {l : List FB} (h : Flds w (some ⟨b, o, none⟩) l) {c j : Nat} (hc : c ≠ b) (u : Value) : Flds (w.setCell ⟨c, j, none⟩ u) (some ⟨b, o, none⟩) l := by
  intro i hi
  obtain ⟨hb, f0, f1, f2, f3⟩ := h.at hi
  refine ⟨b, o, rfl, by simpa using hb, ?_⟩
  constructor <;> (rw [cell_setCell, if_neg (fun h => hc h.1)]; assumption)
/-- what event.Put has laid when it looks for the field -/
structure PutW (w X : World) (t p : ByteArray) (q : Int) (v : Value) (f : FB) : Prop where
  e : EAt X w.heap.size t p q v
  z : EAt X (w.heap.size + 1 + 1 + 1) ⟨#[]⟩ ⟨#[]⟩ 0 (.slice none 0 0)
  fa : FAt X (w.heap.size + 1 + 1 + 1 + 1) 0 f
  n : X.cell? ⟨w.heap.size + 1, 0, none⟩ = some (.string f.name)
  b : Below w.heap.size w X
  size : w.heap.size + 5 ≤ X.heap.size
theorem PutW.new (w : World) (t p : ByteArray) (q : Int) (v : Value) (f : FB) (T1 T2 T3 T4 T5 : TypeId) :
    PutW w (((((w.alloc (.cells #[.string t, .string p, .int .u64 q, v] T1)).alloc (.cells #[.string f.name] T2)).alloc (.cells #[.bool f.num, .int .i64 f.n, .string f.s] T3)).alloc (.cells #[.string ⟨#[]⟩, .string ⟨#[]⟩, .int .u64 0, .slice none 0 0] T4)).alloc (.cells #[.string f.name, .bool f.num, .int .i64 f.n, .string f.s] T5)) t p q v f := by
  refine ⟨?_, ?_, ?_, ?_, balloc _ (balloc _ (balloc _ (balloc _ (balloc _ (.refl _ _))))), by simp⟩
  · constructor <;> simp [go_sem]
  · constructor <;> simp [go_sem]
  · constructor <;> simp [go_sem]
  · simp [go_sem]
theorem PutW.grow {w X Y : World} {t p : ByteArray} {q : Int} {v : Value} {f : FB} (h : PutW w X t p q v f) (hb : Below X.heap.size X Y) : PutW w Y t p q v f := by
  have hs := h.size
  have hs2 := hb.size
  refine ⟨h.e.grow (by omega) hb, h.z.grow (by omega) hb, h.fa.grow (by omega) hb, ?_, bstep hb h.b, by omega⟩
  rw [hb.cell (p := ⟨w.heap.size + 1, 0, none⟩) (by show w.heap.size + 1 < _; omega)]; exact h.n
/-- append of a slice of fields that lies somewhere, nil or not -/
theorem wpList_appS {P : Program} {w : World} {ops : Array Oper} {rest : List Oper} {o : Oper} {a : Act} {Q : Exit → Act → World → Prop} {t e : TypeId} {bytes : Nat} (E : SliceOf P t e 4 bytes) (hgd : o.guard = none) (s x : Operand)
    (ho : o.op = .call { callee := .builtin .append, args := #[s, x], argTypes := #[t, t] })
    (base : Nat) (v : Value) (l : List FB) (hs : a.eval s = v) (hown : FOwn e w base v l) (r : List FB) (m : Nat) (hm : r.length = m)
    (b i c : Nat) (hx : a.eval x = .slice (some ⟨b, i, none⟩) m c) (hf : ∀ (j : Nat) u, (r.flatMap FB.cells)[j]? = some u → w.cell? ((⟨b, i, none⟩ : Addr).add j) = some u)
    (hn : l.length + r.length ≤ 1073741824) (hbase : base ≤ w.heap.size)
    (h : ∀ a' c' w', FOwn e w' base (.slice a' (l.length + m) c') (l ++ r) → Below base w w' → wpList P ops Q rest (a.put o.dst (.slice a' (l.length + m) c')) w') : wpList P ops Q (o :: rest) a w := by
  subst hm
  refine wpList_app E hgd s x ho base v l.length (l.flatMap FB.cells) hs hown ⟨b, i, none⟩ r.length c (r.flatMap FB.cells) hx (flat_len r) hf ?_ hn hbase ?_
  · intro u hu
    obtain ⟨f, _, hf⟩ := List.mem_flatMap.1 hu
    simp [FB.cells] at hf
    rcases hf with rfl | rfl | rfl | rfl <;> rfl
  · intro v' w' ho' hb' _
    have ho2 : FOwn e w' base v' (l ++ r) := by
      unfold FOwn
      rw [List.flatMap_append, List.length_append]
      exact ho'
    obtain ⟨a', c', rfl, _⟩ := ho2.flds
    rw [List.length_append] at ho2 ⊢
    exact h a' c' w' ho2 hb'
theorem wpList_appSN {P : Program} {w : World} {ops : Array Oper} {rest : List Oper} {o : Oper} {a : Act} {Q : Exit → Act → World → Prop} {t e : TypeId} {bytes : Nat} (E : SliceOf P t e 4 bytes) (hgd : o.guard = none) (s x : Operand)
    (ho : o.op = .call { callee := .builtin .append, args := #[s, x], argTypes := #[t, t] })
    (base : Nat) (v : Value) (l : List FB) (n : Nat) (hln : l.length = n) (hs : a.eval s = v) (hown : FOwn e w base v l) (r : List FB) (m : Nat) (hm : r.length = m)
    (b i c : Nat) (hx : a.eval x = .slice (some ⟨b, i, none⟩) m c) (hf : ∀ (j : Nat) u, (r.flatMap FB.cells)[j]? = some u → w.cell? ((⟨b, i, none⟩ : Addr).add j) = some u)
    (hn : n + m ≤ 1073741824) (hbase : base ≤ w.heap.size)
    (h : ∀ a' c' w', FOwn e w' base (.slice a' (n + m) c') (l ++ r) → Below base w w' → wpList P ops Q rest (a.put o.dst (.slice a' (n + m) c')) w') : wpList P ops Q (o :: rest) a w := by
  subst hln
  exact wpList_appS E hgd s x ho base v l hs hown r m hm b i c hx hf (by omega) hbase h
theorem Flds.growB {v w : World} {b o B : Nat} {l : List FB} (h : Flds v (some ⟨b, o, none⟩) l) (hb : b < B) (hw : Below B v w) : Flds w (some ⟨b, o, none⟩) l := by
  intro i hi
  obtain ⟨h1, h2⟩ := h.at hi
  obtain ⟨f0, f1, f2, f3⟩ := h2
  exact ⟨b, o, rfl, Nat.lt_of_lt_of_le h1 hw.size, by rw [hw.cell (p := ⟨b, o + i * 4, none⟩) hb]; exact f0, by rw [hw.cell (p := ⟨b, o + i * 4 + 1, none⟩) hb]; exact f1, by rw [hw.cell (p := ⟨b, o + i * 4 + 2, none⟩) hb]; exact f2, by rw [hw.cell (p := ⟨b, o + i * 4 + 3, none⟩) hb]; exact f3⟩
end Tryst
