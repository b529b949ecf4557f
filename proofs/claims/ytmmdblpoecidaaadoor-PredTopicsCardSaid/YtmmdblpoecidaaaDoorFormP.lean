/- Predicates that may be, in plain words. -/
import Derived.Test.YtmmdblpoecidaaaDoorPrP
set_option linter.unusedVariables false
set_option linter.unusedSimpArgs false
namespace Tryst
open Go Go.Lib
mutual
/-- is each node as it must be, down to so deep? -/
def formP : Pr → Nat → Bool
  | .mk op s num n vs l, room => decide (room ≠ 0) && (aloneB op s num n vs l.length && formL l (room - 1))
def formL : List Pr → Nat → Bool
  | [], _ => true
  | q :: r, room => formP q room && formL r room
end
mutual
def nodesP : Pr → Nat
  | .mk _ _ _ _ _ l => 1 + nodesL l
def nodesL : List Pr → Nat
  | [] => 0
  | q :: r => nodesP q + nodesL r
end
theorem nodesP_pos (p : Pr) : 1 ≤ nodesP p := by
  cases p
  rw [nodesP]
  omega
mutual
theorem deepP_eq : ∀ (p : Pr) (room k : Nat), (deepP p room k).1.2 = (formP p room && decide (k + nodesP p ≤ 40)) ∧ ((deepP p room k).1.2 = true → (deepP p room k).2 = k + nodesP p ∧ (deepP p room k).1.1 ≤ room)
  | .mk op s num n vs l, room, k => by
    rw [deepP, formP, nodesP]
    by_cases h : room = 0 ∨ 40 < k + 1 ∨ aloneB op s num n vs l.length = false
    · rw [if_pos h]
      refine ⟨?_, fun e => by cases e⟩
      rcases h with h | h | h
      · simp [h]
      · have : ¬ (k + (1 + nodesL l) ≤ 40) := by omega
        simp [this]
      · simp [h]
    · rw [if_neg h]
      have h1 : room ≠ 0 := fun e => h (.inl e)
      have h2 : k + 1 ≤ 40 := by
        have := fun e => h (.inr (.inl e))
        omega
      have h3 : aloneB op s num n vs l.length = true := by
        cases e : aloneB op s num n vs l.length with
        | false => exact absurd (.inr (.inr e)) h
        | true => rfl
      obtain ⟨e1, e2⟩ := deepL_eq l (room - 1) (k + 1) 0 h2 (Nat.zero_le _)
      rw [h3]
      have hk : k + (1 + nodesL l) = k + 1 + nodesL l := by omega
      rw [hk]
      rcases hd : deepL l (room - 1) (k + 1) 0 with ⟨⟨d, b⟩, m⟩
      rw [hd] at e1 e2
      cases b with
      | true =>
        obtain ⟨e3, e4⟩ := e2 rfl
        refine ⟨?_, fun _ => ⟨e3, ?_⟩⟩
        · show true = _
          simp only [h1, ne_eq, not_false_eq_true, decide_true, Bool.true_and]
          exact e1
        · show d + 1 ≤ room
          have e4 : d ≤ room - 1 := e4
          omega
      | false =>
        refine ⟨?_, fun e => by cases e⟩
        show false = _
        simp only [h1, ne_eq, not_false_eq_true, decide_true, Bool.true_and]
        exact e1
theorem deepL_eq : ∀ (l : List Pr) (room k d : Nat), k ≤ 40 → d ≤ room → (deepL l room k d).1.2 = (formL l room && decide (k + nodesL l ≤ 40)) ∧ ((deepL l room k d).1.2 = true → (deepL l room k d).2 = k + nodesL l ∧ (deepL l room k d).1.1 ≤ room)
  | [], room, k, d, hk, hd => by
    rw [deepL, formL, nodesL]
    exact ⟨by simp [hk], fun _ => ⟨rfl, hd⟩⟩
  | q :: r, room, k, d, hk, hd => by
    rw [deepL, formL, nodesL]
    obtain ⟨e1, e2⟩ := deepP_eq q room k
    rcases hq : deepP q room k with ⟨⟨b, ok⟩, m⟩
    rw [hq] at e1 e2
    cases ok with
    | true =>
      obtain ⟨rfl, e4⟩ := e2 rfl
      have e1 : true = (formP q room && decide (k + nodesP q ≤ 40)) := e1
      have e5 := e1.symm
      rw [Bool.and_eq_true, decide_eq_true_eq] at e5
      have e4 : b ≤ room := e4
      obtain ⟨f1, f2⟩ := deepL_eq r room (k + nodesP q) (max d b) e5.2 (by omega)
      have hn : k + (nodesP q + nodesL r) = k + nodesP q + nodesL r := by omega
      rw [hn, e5.1, Bool.true_and]
      exact ⟨f1, f2⟩
    | false =>
      refine ⟨?_, fun e => by cases e⟩
      show false = _
      have e1 : false = (formP q room && decide (k + nodesP q ≤ 40)) := e1
      rcases Bool.and_eq_false_iff.1 e1.symm with e | e
      · rw [e]; rfl
      · have : ¬ (k + (nodesP q + nodesL r) ≤ 40) := by
          simp only [decide_eq_false_iff_not] at e
          omega
        simp [this]
end
theorem mayP_eq (p : Pr) : mayP p = (formP p 8 && decide (nodesP p ≤ 40)) := by
  obtain ⟨h1, h2⟩ := deepP_eq p 8 0
  unfold mayP
  rw [Nat.zero_add] at h1
  cases hb : (deepP p 8 0).1.2 with
  | false => rw [← h1, hb]; rfl
  | true =>
    rw [← h1, hb]
    have := (h2 hb).2
    simp [this]
mutual
theorem formP_mono : ∀ (p : Pr) {a b : Nat}, a ≤ b → formP p a = true → formP p b = true
  | .mk op s num n vs l, a, b, hab, h => by
    rw [formP] at h ⊢
    simp only [Bool.and_eq_true, decide_eq_true_eq] at h ⊢
    exact ⟨by omega, h.2.1, formL_mono l (by omega) h.2.2⟩
theorem formL_mono : ∀ (l : List Pr) {a b : Nat}, a ≤ b → formL l a = true → formL l b = true
  | [], _, _, _, _ => by rw [formL]
  | q :: r, a, b, hab, h => by
    rw [formL] at h ⊢
    simp only [Bool.and_eq_true] at h ⊢
    exact ⟨formP_mono q hab h.1, formL_mono r hab h.2⟩
end
theorem nodesL_mem : ∀ {l : List Pr} {q : Pr}, q ∈ l → nodesP q ≤ nodesL l
  | [], _, h => by cases h
  | x :: r, q, h => by
    rw [nodesL]
    rcases List.mem_cons.1 h with rfl | h
    · omega
    · have := nodesL_mem h; omega
theorem formL_mem : ∀ {l : List Pr} {q : Pr} {a : Nat}, q ∈ l → formL l a = true → formP q a = true
  | [], _, _, h, _ => by cases h
  | x :: r, q, a, h, hf => by
    rw [formL, Bool.and_eq_true] at hf
    rcases List.mem_cons.1 h with rfl | h
    · exact hf.1
    · exact formL_mem h hf.2
/-- a part of one that may be may be -/
theorem mayP_part {op s : ByteArray} {num : Bool} {n : Int} {vs : ByteArray} {l : List Pr} (h : mayP (.mk op s num n vs l) = true) {q : Pr} (hq : q ∈ l) : mayP q = true := by
  rw [mayP_eq, formP, nodesP] at h
  rw [mayP_eq]
  simp only [Bool.and_eq_true, decide_eq_true_eq] at h ⊢
  have := nodesL_mem hq
  exact ⟨formP_mono q (by decide) (formL_mem hq h.1.2.2), by omega⟩
end Tryst
