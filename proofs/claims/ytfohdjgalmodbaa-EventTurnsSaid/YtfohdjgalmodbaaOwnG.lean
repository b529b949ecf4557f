/- Append of one field to a slice of the call's own: what else there is stays. -/
import Derived.Test.YtfohdjgalmodbaaPutB
set_option linter.unusedVariables false
set_option linter.unusedSimpArgs false
namespace Tryst
open Go Go.RowKit
theorem FAt.new (f : FB) (w : World) (T : TypeId) : FAt (w.alloc (.cells #[.string f.name, .bool f.num, .int .i64 f.n, .string f.s] T)) w.heap.size 0 f := by constructor <;> simp [go_sem]
theorem FAt.new' (f : FB) (w : World) (T : TypeId) (g : Nat) (hg : g = w.heap.size) : FAt (w.alloc (.cells #[.string f.name, .bool f.num, .int .i64 f.n, .string f.s] T)) g 0 f := by subst hg; exact FAt.new f w T
/-- the block of a slice's row -/
def Away (v : Value) (k : Nat) : Prop := ∀ a n c, v = .slice (some a) n c → a.block ≠ k
theorem Away.of {e : TypeId} {w : World} {base : Nat} {v : Value} {l : List FB} (h : FOwn e w base v l) {k : Nat} (hk : w.heap.size ≤ k) : Away v k := by
  intro a n c hv
  have := (h.lt a.block (by rw [hv]; rfl)).2
  omega
theorem wpList_appG {P : Program} {w : World} {ops : Array Oper} {rest : List Oper} {o : Oper} {a : Act} {Q : Exit → Act → World → Prop} {t e : TypeId} {bytes : Nat} (E : SliceOf P t e 4 bytes) (hgd : o.guard = none) (s x : Operand)
    (ho : o.op = .call { callee := .builtin .append, args := #[s, x], argTypes := #[t, t] })
    (base : Nat) (v : Value) (l : List FB) (hs : a.eval s = v) (hown : FOwn e w base v l) (f : FB)
    (g : Nat) (hx : a.eval x = .slice (some ⟨g, 0, none⟩) 1 1) (hf : FAt w g 0 f)
    (hn : l.length + 1 ≤ 1073741824) (hbase : base ≤ w.heap.size)
    (h : ∀ v' w', FOwn e w' base v' (l ++ [f]) → Below base w w' → (∀ k, k < w.heap.size → Away v k → w'.heap[k]? = w.heap[k]?) → wpList P ops Q rest (a.put o.dst v') w') : wpList P ops Q (o :: rest) a w := by
  obtain ⟨i, z, hi, hz, h2, h3, h4⟩ := E.info
  have hown' : w.ownsRow base e 4 v l.length (l.flatMap FB.cells) := hown
  refine wpList_append_own w hgd s x t ho base e i z 4 bytes E.und hi hz h2 h3 h4 E.pos v l.length (l.flatMap FB.cells) hs hown' ⟨g, 0, none⟩ 1 1 f.cells hx rfl ?_ ?_ (by unfold maxLen; omega) ?_ hbase ?_
  · intro j u hj
    rw [Addr.add_lit, Nat.zero_add]
    obtain ⟨h0, h1, h2, h3⟩ := hf
    match j with
    | 0 => simp [FB.cells] at hj; subst hj; exact h0
    | 1 => simp [FB.cells] at hj; subst hj; exact h1
    | 2 => simp [FB.cells] at hj; subst hj; exact h2
    | 3 => simp [FB.cells] at hj; subst hj; exact h3
    | j + 4 => simp [FB.cells] at hj
  · intro u hu
    simp [FB.cells] at hu
    rcases hu with rfl | rfl | rfl | rfl <;> rfl
  · have := E.small
    calc (l.length + 1) * bytes ≤ 1073741824 * 65536 := Nat.mul_le_mul hn this
      _ ≤ _ := by decide
  · intro v' w' ho' hg' _
    have ho2 : FOwn e w' base v' (l ++ [f]) := by
      unfold FOwn
      rw [List.flatMap_append, List.length_append]
      simpa using ho'
    refine h v' w' ho2 ((Below.refl base w).grown hg' hbase fun k hk => (hown'.lt k hk).1) fun k hk ha => hg'.block k hk fun hc => ?_
    cases v with
    | slice a0 n c =>
      cases a0 with
      | none => simp [Value.ownBlock] at hc
      | some A => simp [Value.ownBlock] at hc; exact ha A n c rfl hc.symm
    | _ => simp [Value.ownBlock] at hc
theorem FAt.of_block {w w' : World} {g o : Nat} {f : FB} (h : FAt w g o f) (hb : w'.heap[g]? = w.heap[g]?) : FAt w' g o f := by
  obtain ⟨h0, h1, h2, h3⟩ := h
  exact ⟨by rw [World.cell?_of_block (w := w) (a := ⟨g, o, none⟩) hb]; exact h0, by rw [World.cell?_of_block (w := w) (a := ⟨g, o + 1, none⟩) hb]; exact h1, by rw [World.cell?_of_block (w := w) (a := ⟨g, o + 2, none⟩) hb]; exact h2, by rw [World.cell?_of_block (w := w) (a := ⟨g, o + 3, none⟩) hb]; exact h3⟩
end Tryst
