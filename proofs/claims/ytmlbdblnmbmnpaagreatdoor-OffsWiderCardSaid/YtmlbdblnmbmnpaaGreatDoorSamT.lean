/- Which predicates are the same, their texts, and that texts are parsed as they were; plain. -/
import Derived.Test.YtmlbdblnmbmnpaaGreatDoorProg
import Derived.Test.YtmlbdblnmbmnpaaGreatDoorMay5
import Derived.Test.YtmlbdblnmbmnpaaGreatDoorFacts
import Derived.Test.YtmlbdblnmbmnpaaGreatDoorPrF
set_option linter.unusedVariables false
set_option linter.unusedSimpArgs false
namespace Tryst
open Go Go.RowKit
/-- are two nodes the same, but for their parts? -/
def headB (x y : PB) : Bool := decide (x.op = y.op) && (decide (x.s = y.s) && ((decide (x.num = y.num) && (decide (x.n = y.n) && decide (x.vs = y.vs))) && decide (x.l.length = y.l.length)))
mutual
/-- are two predicates the same? -/
def sameB : PB → PB → Bool
 | .mk op s num n vs a c l, .mk op' s' num' n' vs' a' c' l' => headB (.mk op s num n vs a c l) (.mk op' s' num' n' vs' a' c' l') && sameL l l'
def sameL : List PB → List PB → Bool
 | [], [] => true
 | x :: r, y :: t => sameB x y && sameL r t
 | [], _ :: _ => false
 | _ :: _, [] => false
end
theorem sameB_eq (x y : PB) : sameB x y = (headB x y && sameL x.l y.l) := by
 cases x; cases y
 rw [sameB]
 rfl
theorem headB_len {x y : PB} (h : headB x y = true) : x.l.length = y.l.length := by
 unfold headB at h
 simp only [Bool.and_eq_true, decide_eq_true_eq] at h
 exact h.2.2.2
theorem sameL_iff : ∀ (l m : List PB), l.length = m.length → (sameL l m = true ↔ ∀ (i : Nat) (x y : PB), l[i]? = some x → m[i]? = some y → sameB x y = true)
 | [], [], _ => by rw [sameL]; simp
 | x :: r, y :: t, h => by
  rw [sameL, Bool.and_eq_true, sameL_iff r t (by simpa using h)]
  constructor
  ·
   rintro ⟨h1, h2⟩ i u v hu hv
   cases i with
   | zero =>
    simp at hu hv
    subst hu; subst hv
    exact h1
   | succ i => exact h2 i u v (by simpa using hu) (by simpa using hv)
  ·
   intro h
   exact ⟨h 0 x y rfl rfl, fun i u v hu hv => h (i + 1) u v (by simpa using hu) (by simpa using hv)⟩
 | [], _ :: _, h => by simp at h
 | _ :: _, [], h => by simp at h
/-- two lists of parts that are gone through, and where they lie -/
structure SW where
 a : Option Addr
 l : List PB
 c : Nat
 b : Option Addr
 m : List PB
 d : Nat
def SW.cells (s : SW) : List Value := [.slice s.a s.l.length s.c, .slice s.b s.m.length s.d]
/-- these nodes are the same, and their parts are, or were, looked at -/
def okB (S : List SW) (x y : PB) : Prop := headB x y = true ∧ (x.l = [] ∨ ∃ s ∈ S, s.l = x.l ∧ s.m = y.l)
theorem okB.mono {S S' : List SW} {x y : PB} (h : okB S x y) (hs : ∀ s ∈ S, s ∈ S') : okB S' x y := ⟨h.1, h.2.imp id fun ⟨s, h1, h2⟩ => ⟨s, hs s h1, h2⟩⟩
/-- all that was looked at, and what is still to do -/
structure SameI (p q : PB) (S Wk : List SW) : Prop where
 start : ∃ s ∈ S, s.l = [p] ∧ s.m = [q]
 wk : ∀ s ∈ Wk, s ∈ S
 len : ∀ s ∈ S, s.l.length = s.m.length
 back : sameB p q = true → ∀ s ∈ S, sameL s.l s.m = true
 done : ∀ s ∈ S, s ∈ Wk ∨ ∀ (i : Nat) (x y : PB), s.l[i]? = some x → s.m[i]? = some y → okB S x y
/-- the same, while one pair of lists is gone through: k parts of it are done -/
structure SameJ (p q : PB) (S Wk : List SW) (t : SW) (k : Nat) : Prop where
 start : ∃ s ∈ S, s.l = [p] ∧ s.m = [q]
 wk : ∀ s ∈ Wk, s ∈ S
 len : ∀ s ∈ S, s.l.length = s.m.length
 back : sameB p q = true → ∀ s ∈ S, sameL s.l s.m = true
 mem : t ∈ S
 part : ∀ (i : Nat) (x y : PB), i < k → t.l[i]? = some x → t.m[i]? = some y → okB S x y
 done : ∀ s ∈ S, s ∈ Wk ∨ s = t ∨ ∀ (i : Nat) (x y : PB), s.l[i]? = some x → s.m[i]? = some y → okB S x y
section
variable {p q : PB} {S Wk : List SW} {t : SW} {k : Nat}
theorem SameI.first (a b : Option Addr) (c d : Nat) : SameI p q [⟨a, [p], c, b, [q], d⟩] [⟨a, [p], c, b, [q], d⟩] where
 start := ⟨_, List.mem_singleton.2 rfl, rfl, rfl⟩
 wk s h := h
 len s h := by rw [List.mem_singleton] at h; subst h; rfl
 back h s hs := by
  rw [List.mem_singleton] at hs
  subst hs
  show sameL [p] [q] = true
  rw [sameL, h, sameL]
  rfl
 done s h := .inl h
theorem SameI.pop (h : SameI p q S (Wk ++ [t])) : SameJ p q S Wk t 0 where
 start := h.start
 wk s hs := h.wk s (List.mem_append_left _ hs)
 len := h.len
 back := h.back
 mem := h.wk t (by simp)
 part i x y hi := by omega
 done s hs := by
  rcases h.done s hs with h1 | h1
  ·
   rcases List.mem_append.1 h1 with h2 | h2
   ·
    exact .inl h2
   ·
    exact .inr (.inl (List.mem_singleton.1 h2))
  ·
   exact .inr (.inr h1)
theorem SameJ.at (h : SameJ p q S Wk t k) {x y : PB} (hx : t.l[k]? = some x) (hy : t.m[k]? = some y) (hs : sameB p q = true) : sameB x y = true :=
 (sameL_iff _ _ (h.len t h.mem)).1 (h.back hs t h.mem) k x y hx hy
theorem SameJ.fail (h : SameJ p q S Wk t k) {x y : PB} (hx : t.l[k]? = some x) (hy : t.m[k]? = some y) (hh : headB x y = false) : sameB p q = false := by
 cases e : sameB p q with
 | false => rfl
 | true =>
  have := h.at hx hy e
  rw [sameB_eq, hh] at this
  cases this
theorem SameJ.step (h : SameJ p q S Wk t k) {x y : PB} (hx : t.l[k]? = some x) (hy : t.m[k]? = some y) (ho : okB S x y) : SameJ p q S Wk t (k + 1) where
 start := h.start
 wk := h.wk
 len := h.len
 back := h.back
 mem := h.mem
 part i u v hi hu hv := by
  by_cases e : i = k
  ·
   subst e
   rw [hx] at hu
   rw [hy] at hv
   cases hu; cases hv
   exact ho
  ·
   exact h.part i u v (by omega) hu hv
 done := h.done
theorem SameJ.push (h : SameJ p q S Wk t k) {x y : PB} (hx : t.l[k]? = some x) (hy : t.m[k]? = some y) (hh : headB x y = true) (a b : Option Addr) (c d : Nat) : SameJ p q (⟨a, x.l, c, b, y.l, d⟩ :: S) (Wk ++ [⟨a, x.l, c, b, y.l, d⟩]) t (k + 1) := by
 have hm : ∀ s ∈ S, s ∈ (⟨a, x.l, c, b, y.l, d⟩ :: S : List SW) := fun s hs => List.mem_cons_of_mem _ hs
 refine ⟨?_, ?_, ?_, ?_, hm _ h.mem, ?_, ?_⟩
 ·
  obtain ⟨s, h1, h2⟩ := h.start
  exact ⟨s, hm s h1, h2⟩
 ·
  intro s hs
  rcases List.mem_append.1 hs with h1 | h1
  ·
   exact hm s (h.wk s h1)
  ·
   rw [List.mem_singleton] at h1
   subst h1
   exact List.mem_cons_self
 ·
  intro s hs
  rcases List.mem_cons.1 hs with rfl | h1
  ·
   exact headB_len hh
  ·
   exact h.len s h1
 ·
  intro e s hs
  rcases List.mem_cons.1 hs with rfl | h1
  ·
   have := h.at hx hy e
   rw [sameB_eq, hh] at this
   exact this
  ·
   exact h.back e s h1
 ·
  intro i u v hi hu hv
  by_cases e : i = k
  ·
   subst e
   rw [hx] at hu
   rw [hy] at hv
   cases hu; cases hv
   exact ⟨hh, .inr ⟨_, List.mem_cons_self, rfl, rfl⟩⟩
  ·
   exact (h.part i u v (by omega) hu hv).mono hm
 ·
  intro s hs
  rcases List.mem_cons.1 hs with rfl | h1
  ·
   exact .inl (by simp)
  ·
   rcases h.done s h1 with h2 | h2 | h2
   ·
    exact .inl (List.mem_append_left _ h2)
   ·
    exact .inr (.inl h2)
   ·
    exact .inr (.inr fun i u v hu hv => (h2 i u v hu hv).mono hm)
theorem SameJ.stop (h : SameJ p q S Wk t k) (hk : t.l.length ≤ k) : SameI p q S Wk where
 start := h.start
 wk := h.wk
 len := h.len
 back := h.back
 done s hs := by
  rcases h.done s hs with h2 | h2 | h2
  ·
   exact .inl h2
  ·
   subst h2
   exact .inr fun i x y hx hy => h.part i x y (by have := (List.getElem?_eq_some_iff.1 hx).1; omega) hx hy
  ·
   exact .inr h2
mutual
def nodesB : PB → Nat
 | .mk _ _ _ _ _ _ _ l => 1 + nodesBL l
def nodesBL : List PB → Nat
 | [] => 0
 | x :: r => nodesB x + nodesBL r
end
theorem nodesB_eq (x : PB) : nodesB x = 1 + nodesBL x.l := by
 cases x
 rw [nodesB]
 rfl
theorem nodesBL_at : ∀ {l : List PB} {i : Nat} {x : PB}, l[i]? = some x → nodesB x ≤ nodesBL l
 | [], i, x, h => by simp at h
 | y :: r, 0, x, h => by
  simp at h
  subst h
  rw [nodesBL]
  omega
 | y :: r, i + 1, x, h => by
  have := nodesBL_at (l := r) (i := i) (x := x) (by simpa using h)
  rw [nodesBL]
  omega
theorem SameI.all (h : SameI p q S []) : ∀ (n : Nat) (s : SW), s ∈ S → nodesBL s.l ≤ n → sameL s.l s.m = true := by
 intro n
 induction n with
 | zero =>
  intro s hs hn
  rw [sameL_iff _ _ (h.len s hs)]
  intro i x y hx hy
  have := nodesBL_at hx
  rw [nodesB_eq] at this
  omega
 | succ n ih =>
  intro s hs hn
  rw [sameL_iff _ _ (h.len s hs)]
  intro i x y hx hy
  rcases h.done s hs with h1 | h1
  ·
   cases h1
  ·
   obtain ⟨h2, h3⟩ := h1 i x y hx hy
   rw [sameB_eq, h2, Bool.true_and]
   rcases h3 with h3 | ⟨u, h4, h5, h6⟩
   ·
    have := headB_len h2
    rw [h3] at this ⊢
    have hy0 : y.l = [] := List.length_eq_zero_iff.1 this.symm
    rw [hy0, sameL]
   ·
    rw [← h5, ← h6]
    refine ih u h4 ?_
    have := nodesBL_at hx
    rw [nodesB_eq] at this
    rw [h5]
    omega
theorem SameI.last (h : SameI p q S []) : sameB p q = true := by
 obtain ⟨s, h1, h2, h3⟩ := h.start
 have := h.all _ s h1 (Nat.le_refl _)
 rw [h2, h3, sameL, Bool.and_eq_true] at this
 exact this.1
end
mutual
/-- what lies at one place is one -/
theorem uniB {w : World} : ∀ (x y : PB), PMem w x → PMem w y → x.cells = y.cells → x = y
 | .mk op s num n vs a c l, .mk op' s' num' n' vs' a' c' l', h1, h2, e => by
  simp only [PB.cells, PB.op, PB.s, PB.num, PB.n, PB.vs, PB.a, PB.c, PB.l, List.cons.injEq, Value.string.injEq, Value.bool.injEq, Value.slice.injEq] at e
  obtain ⟨e1, e2, e3, e4, e5, ⟨e6, e7, e8⟩, _⟩ := e
  subst e1; subst e2; subst e3; subst e5; subst e6; subst e8
  cases e4
  cases h1 with
  | mk _ _ _ _ _ _ _ _ _ _ _ r1 m1 =>
   cases h2 with
   | mk _ _ _ _ _ _ _ _ _ _ _ r2 m2 =>
    rw [uniL l l' a e7 m1 m2 r1 r2]
theorem uniL {w : World} : ∀ (l m : List PB) (a : Option Addr), l.length = m.length → (∀ x, x ∈ l → PMem w x) → (∀ x, x ∈ m → PMem w x) → Row w a 6 (l.map PB.cells) → Row w a 6 (m.map PB.cells) → l = m
 | [], [], _, _, _, _, _, _ => rfl
 | x :: r, y :: t, a, h, h1, h2, r1, r2 => by
  have e1 : x.cells = y.cells := by
   obtain ⟨b, o, e, _, c1⟩ := r1 0 (by simp)
   obtain ⟨b', o', e', _, c2⟩ := r2 0 (by simp)
   rw [e] at e'
   cases e'
   have key : ∀ j, j < 6 → x.cells[j]? = y.cells[j]? := fun j hj => by
    have q1 := c1 j hj
    have q2 := c2 j hj
    rw [q1] at q2
    simpa using q2
   refine List.ext_getElem? fun j => ?_
   by_cases hj : j < 6
   ·
    exact key j hj
   ·
    rw [List.getElem?_eq_none (by show x.cells.length ≤ j; simp [PB.cells]; omega), List.getElem?_eq_none (by show y.cells.length ≤ j; simp [PB.cells]; omega)]
  rw [uniB x y (h1 x List.mem_cons_self) (h2 y List.mem_cons_self) e1]
  congr 1
  obtain ⟨b, o, e, hb, c1⟩ := r1 0 (by simp)
  subst e
  refine uniL r t (some ⟨b, o + 6, none⟩) (by simpa using h) (fun x hx => h1 x (List.mem_cons_of_mem _ hx)) (fun x hx => h2 x (List.mem_cons_of_mem _ hx)) ?_ ?_
  ·
   intro i hi
   obtain ⟨b', o', e, hb', c⟩ := r1 (i + 1) (by simpa using hi)
   cases e
   exact ⟨b, o + 6, rfl, hb, fun j hj => by
    have := c j hj
    rw [show o + 6 + i * 6 + j = o + (i + 1) * 6 + j by omega]
    exact this⟩
  ·
   intro i hi
   obtain ⟨b', o', e, hb', c⟩ := r2 (i + 1) (by simpa using hi)
   cases e
   exact ⟨b, o + 6, rfl, hb, fun j hj => by
    have := c j hj
    rw [show o + 6 + i * 6 + j = o + (i + 1) * 6 + j by omega]
    exact this⟩
 | [], _ :: _, _, h, _, _, _, _ => by simp at h
 | _ :: _, [], _, h, _, _, _, _ => by simp at h
end
end Tryst
namespace Tryst
open Go Go.Lib
end Tryst
namespace Tryst
open Go Go.Lib
theorem form_at {op s : ByteArray} {num : Bool} {n : Int} {vs : ByteArray} {l : List Pr} {d : Nat} (h : formP (.mk op s num n vs l) (d + 1) = true) : ∃ k : Opk, op = k.text ∧ aloneK k s num n vs l.length = true ∧ formL l d = true := by
 rw [formP] at h
 simp only [Bool.and_eq_true, Nat.add_sub_cancel] at h
 obtain ⟨-, h1, h2⟩ := h
 rcases op_cases op with ⟨k, rfl⟩ | ⟨h, _⟩
 ·
  rw [aloneB_at] at h1
  exact ⟨k, rfl, h1, h2⟩
 ·
  unfold aloneB at h1
  rw [h] at h1
  cases h1
end Tryst
