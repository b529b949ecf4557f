/- The loops of num.Pack and num.Unpack as plain relations. -/
import Derived.WalkKit
import Derived.Test.YtfohdjgalmodbaaPlain
set_option linter.unusedVariables false
set_option linter.unusedSimpArgs false
namespace Tryst
open Go
/-- after k rounds of Unpack's loop -/
def UnpRel (l : List UInt8) (k : Nat) (x : Int) : Prop :=
  (k ≤ 9 → ∃ m : Nat, x = m ∧ m < 2 ^ (7 * k) ∧ unp l = unpF (10 - k) k m (l.drop k)) ∧ (k = 10 → unp l = (0, 0, 2))
theorem UnpRel.start (l : List UInt8) : UnpRel l 0 0 := ⟨fun _ => ⟨0, rfl, by decide, rfl⟩, fun h => by omega⟩
theorem and127 (c : Nat) (h : c < 256) : bits BinOp.and IntKind.u8 (c : Int) 127 = ((c % 128 : Nat) : Int) := by
  have := u8_and_nat c 127 h (by decide)
  rw [nat_mask7] at this
  exact this
theorem orStep (m k c : Nat) (hm : m < 2 ^ (7 * k)) (hk : k ≤ 9) (hc : c < 256) (h9 : k = 9 → c % 128 < 2) :
    bits BinOp.or IntKind.u64 (m : Int) (IntKind.u64.wrap (IntKind.u64.wrap (bits BinOp.and IntKind.u8 (c : Int) 127) * 2 ^ (7 * k))) = ((m + c % 128 * 2 ^ (7 * k) : Nat) : Int) := by
  rw [and127 c hc]
  have hp : 0 < 2 ^ (7 * k) := Nat.pow_pos (by decide)
  have hlt : c % 128 * 2 ^ (7 * k) + 2 ^ (7 * k) ≤ 18446744073709551616 := by
    by_cases h : k = 9
    · subst h; have := h9 rfl; omega
    · calc c % 128 * 2 ^ (7 * k) + 2 ^ (7 * k) = (c % 128 + 1) * 2 ^ (7 * k) := by rw [Nat.add_mul]; omega
        _ ≤ 2 ^ 7 * 2 ^ (7 * k) := Nat.mul_le_mul_right _ (by omega)
        _ = 2 ^ (7 + 7 * k) := by rw [Nat.pow_add]
        _ ≤ 2 ^ 64 := Nat.pow_le_pow_right (by decide) (by omega)
  have e1 : IntKind.u64.wrap ((c % 128 : Nat) : Int) = ((c % 128 : Nat) : Int) := by rw [IntKind.wrap_u64]; omega
  rw [e1]
  have e2 : IntKind.u64.wrap (((c % 128 : Nat) : Int) * 2 ^ (7 * k)) = ((c % 128 * 2 ^ (7 * k) : Nat) : Int) := by
    rw [IntKind.wrap_u64]
    have : (((c % 128 : Nat) : Int) * 2 ^ (7 * k)) = ((c % 128 * 2 ^ (7 * k) : Nat) : Int) := by simp
    rw [this]
    exact Int.emod_eq_of_lt (by omega) (by omega)
  rw [e2, bits_or_u64_nat _ _ (by omega) (by omega), Nat.or_comm, nat_join (7 * k) _ _ (Nat.mul_mod_left _ _) hm, Nat.add_comm]
theorem UnpRel.step {l : List UInt8} {k : Nat} {x : Int} (h : UnpRel l k x) (hk : k ≤ 9) (hl : k < l.length) (hc : 128 ≤ l[k].toNat) :
    UnpRel l (k + 1) (bits BinOp.or IntKind.u64 x (IntKind.u64.wrap (IntKind.u64.wrap (bits BinOp.and IntKind.u8 (l[k].toNat : Int) 127) * 2 ^ (7 * k)))) := by
  obtain ⟨m, rfl, hm, hu⟩ := h.1 hk
  rw [List.drop_eq_getElem_cons hl] at hu
  obtain ⟨f, hf⟩ : ∃ f, 10 - k = f + 1 := ⟨9 - k, by omega⟩
  rw [hf] at hu
  unfold unpF at hu
  rw [if_pos hc] at hu
  have hcl := l[k].toNat_lt
  refine ⟨fun h9 => ?_, fun h10 => ?_⟩
  · rw [orStep m k _ hm hk hcl (by omega)]
    refine ⟨_, rfl, ?_, ?_⟩
    · have hpow : 2 ^ (7 * (k + 1)) = 128 * 2 ^ (7 * k) := by rw [Nat.mul_add, Nat.pow_add]; omega
      have : l[k].toNat % 128 * 2 ^ (7 * k) ≤ 127 * 2 ^ (7 * k) := Nat.mul_le_mul_right _ (by omega)
      omega
    · rw [hu]; congr 1; omega
  · have : f = 0 := by omega
    subst this
    rw [hu]; rfl
theorem UnpRel.bad {l : List UInt8} {k : Nat} {x : Int} (h : UnpRel l k x) (hk : k ≤ 9) (hl : k < l.length) (hc : l[k].toNat < 128) (hz : (l[k].toNat = 0 ∧ 0 < k) ∨ (k = 9 ∧ 1 < l[k].toNat)) : unp l = (0, 0, 2) := by
  obtain ⟨m, rfl, hm, hu⟩ := h.1 hk
  rw [List.drop_eq_getElem_cons hl] at hu
  obtain ⟨f, hf⟩ : ∃ f, 10 - k = f + 1 := ⟨9 - k, by omega⟩
  rw [hf] at hu
  unfold unpF at hu
  rw [if_neg (by omega), if_pos hz] at hu
  exact hu
theorem UnpRel.done {l : List UInt8} {k : Nat} {x : Int} (h : UnpRel l k x) (hk : k ≤ 9) (hl : k < l.length) (hc : l[k].toNat < 128) (hz : ¬ ((l[k].toNat = 0 ∧ 0 < k) ∨ (k = 9 ∧ 1 < l[k].toNat))) :
    ∃ n : Nat, bits BinOp.or IntKind.u64 x (IntKind.u64.wrap (IntKind.u64.wrap (bits BinOp.and IntKind.u8 (l[k].toNat : Int) 127) * 2 ^ (7 * k))) = n ∧ unp l = (n, k + 1, 0) := by
  obtain ⟨m, rfl, hm, hu⟩ := h.1 hk
  rw [List.drop_eq_getElem_cons hl] at hu
  obtain ⟨f, hf⟩ : ∃ f, 10 - k = f + 1 := ⟨9 - k, by omega⟩
  rw [hf] at hu
  unfold unpF at hu
  rw [if_neg (by omega), if_neg hz] at hu
  exact ⟨_, orStep m k _ hm hk (by omega) (fun _ => by omega), hu⟩
theorem UnpRel.short {l : List UInt8} {k : Nat} {x : Int} (h : UnpRel l k x) (hk : k = l.length) (h9 : k ≤ 9) : unp l = (0, 0, 3) := by
  obtain ⟨m, rfl, hm, hu⟩ := h.1 h9
  obtain ⟨f, hf⟩ : ∃ f, 10 - k = f + 1 := ⟨9 - k, by omega⟩
  rw [hk, List.drop_length, ← hk, hf] at hu
  exact hu
end Tryst
namespace Tryst
open Go
/-- Pack's loop: what was written, and what is left of the number -/
def PackRel (n : Nat) (pre : List UInt8) (m : Nat) : Prop := pre.length ≤ 9 ∧ m < 2 ^ (64 - 7 * pre.length) ∧ pack n = pre ++ packF (9 - pre.length) m
theorem PackRel.start (n : Nat) (h : n < 2 ^ 64) : PackRel n [] n := ⟨by simp, by simpa using h, rfl⟩
theorem PackRel.step {n : Nat} {pre : List UInt8} {m : Nat} (h : PackRel n pre m) (hm : 128 ≤ m) : pre.length ≤ 8 ∧ PackRel n (pre ++ [UInt8.ofNat (128 + m % 128)]) (m / 128) := by
  obtain ⟨h1, h2, h3⟩ := h
  have h9 : pre.length ≤ 8 := by
    by_cases h : pre.length = 9
    · rw [h] at h2; simp at h2; omega
    · omega
  refine ⟨h9, by simp; omega, ?_, ?_⟩
  · rw [Nat.div_lt_iff_lt_mul (by decide)]
    have : 2 ^ (64 - 7 * (pre ++ [UInt8.ofNat (128 + m % 128)]).length) * 128 = 2 ^ (64 - 7 * pre.length) := by
      rw [show (128 : Nat) = 2 ^ 7 from rfl, ← Nat.pow_add]; congr 1; simp; omega
    omega
  · obtain ⟨j, hj⟩ : ∃ j, 9 - pre.length = j + 1 := ⟨8 - pre.length, by omega⟩
    have e : 9 - (pre ++ [UInt8.ofNat (128 + m % 128)]).length = j := by simp; omega
    rw [e, h3, hj, List.append_assoc, List.singleton_append]
    congr 1
    rw [packF, if_neg (by omega)]
theorem PackRel.done {n : Nat} {pre : List UInt8} {m : Nat} (h : PackRel n pre m) (hm : m < 128) : pack n = pre ++ [UInt8.ofNat m] := by
  obtain ⟨h1, h2, h3⟩ := h
  rw [h3]
  cases 9 - pre.length with
  | zero => rfl
  | succ j => unfold packF; rw [if_pos hm]
set_option maxRecDepth 100000 in
theorem or128_fin : ∀ x : Fin 256, x.val ||| 128 = 128 + x.val % 128 := by decide
theorem or128 (m : Nat) : bits BinOp.or IntKind.u8 ((m : Int) % 256) 128 = ((UInt8.ofNat (128 + m % 128)).toNat : Int) := by
  have h1 : (m : Int) % 256 = ((m % 256 : Nat) : Int) := by omega
  have h2 := u8_or_nat (m % 256) 128 (by omega) (by decide)
  rw [or128_fin ⟨m % 256, by omega⟩] at h2
  rw [h1]
  refine h2.trans ?_
  simp; omega
theorem wrap8 (m : Nat) (h : m < 128) : ((m : Nat) : Int) = ((UInt8.ofNat m).toNat : Int) := by simp; omega
end Tryst
namespace Tryst
open Go
/-- Horner's number of octets, 7 bits each -/
def hor : List UInt8 → Nat
  | [] => 0
  | c :: l => c.toNat % 128 + 128 * hor l
theorem hor_lt : ∀ (l : List UInt8), hor l < 128 ^ l.length
  | [] => by simp [hor]
  | c :: l => by
    have := hor_lt l
    have h : c.toNat % 128 < 128 := Nat.mod_lt _ (by decide)
    simp only [hor, List.length_cons, Nat.pow_succ]
    omega
theorem unpF_hor (k : Nat) : ∀ (i m : Nat) (l : List UInt8) (hk : k < l.length), i + k ≤ 9 → (∀ j (h : j < l.length), j < k → 128 ≤ l[j].toNat) → l[k].toNat < 128 →
    unpF (10 - i) i m l = if (l[k].toNat = 0 ∧ 0 < i + k) ∨ (i + k = 9 ∧ 1 < l[k].toNat) then (0, 0, 2) else (m + hor (l.take (k + 1)) * 2 ^ (7 * i), i + k + 1, 0) := by
  induction k with
  | zero =>
    intro i m l hk hi _ hc
    cases l with
    | nil => simp at hk
    | cons c l =>
      obtain ⟨f, hf⟩ : ∃ f, 10 - i = f + 1 := ⟨9 - i, by omega⟩
      simp only [List.getElem_cons_zero] at hc
      simp only [hf, unpF, List.getElem_cons_zero, Nat.add_zero]
      rw [if_neg (by omega)]
      simp [hor]
  | succ k ih =>
    intro i m l hk hi hall hc
    cases l with
    | nil => simp at hk
    | cons c l =>
      obtain ⟨f, hf⟩ : ∃ f, 10 - i = f + 1 := ⟨9 - i, by omega⟩
      have h0 := hall 0 (by simp) (by omega)
      simp only [List.getElem_cons_zero] at h0
      simp only [List.getElem_cons_succ] at hc
      simp only [hf, unpF, List.getElem_cons_succ]
      rw [if_pos h0, show f = 10 - (i + 1) by omega, ih (i + 1) _ l (by simpa using hk) (by omega) (fun j h hj => by have h7 := hall (j + 1) (by simpa using h) (by omega); rwa [List.getElem_cons_succ] at h7) hc]
      have e1 : i + 1 + k = i + (k + 1) := by omega
      rw [e1]
      congr 1
      have e3 : 2 ^ (7 * (i + 1)) = 128 * 2 ^ (7 * i) := by rw [Nat.mul_add, Nat.pow_add]; omega
      simp only [List.take_succ_cons, hor]
      congr 1
      rw [e3, Nat.add_mul, ← Nat.mul_assoc, Nat.mul_comm 128 (hor _)]
      omega
/-- so many octets at the beginning are above 127 -/
def Lead (l : List UInt8) (k : Nat) : Prop := k ≤ 10 ∧ k ≤ l.length ∧ ∀ j (h : j < l.length), j < k → 128 ≤ l[j].toNat
theorem Lead.start (l : List UInt8) : Lead l 0 := ⟨by omega, by omega, fun j h hj => by omega⟩
theorem Lead.step {l : List UInt8} {k : Nat} (h : Lead l k) (hk : k < 10) (hl : k < l.length) (hc : 128 ≤ l[k].toNat) : Lead l (k + 1) :=
  ⟨by omega, by omega, fun j h' hj => by
    by_cases e : j = k
    · subst e; exact hc
    · exact h.2.2 j h' (by omega)⟩
theorem unpF_lead (k : Nat) : ∀ (i m : Nat) (l : List UInt8), i + k ≤ 10 → k ≤ l.length → (∀ j (h : j < l.length), j < k → 128 ≤ l[j].toNat) → ∃ m', unpF (10 - i) i m l = unpF (10 - (i + k)) (i + k) m' (l.drop k) := by
  induction k with
  | zero => intro i m l _ _ _; exact ⟨m, by simp⟩
  | succ k ih =>
    intro i m l hi hk hall
    cases l with
    | nil => simp at hk
    | cons c l =>
      obtain ⟨f, hf⟩ : ∃ f, 10 - i = f + 1 := ⟨9 - i, by omega⟩
      have h0 := hall 0 (by simp) (by omega)
      simp only [List.getElem_cons_zero] at h0
      obtain ⟨m', hm'⟩ := ih (i + 1) (m + (c.toNat % 128) * 2 ^ (7 * i)) l (by omega) (by simpa using hk) (fun j h hj => by have h7 := hall (j + 1) (by simpa using h) (by omega); rwa [List.getElem_cons_succ] at h7)
      refine ⟨m', ?_⟩
      simp only [hf, unpF, List.drop_succ_cons]
      rw [if_pos h0, show f = 10 - (i + 1) by omega, hm', show i + 1 + k = i + (k + 1) by omega]
theorem Lead.ten {l : List UInt8} {k : Nat} (h : Lead l k) (hk : 10 ≤ k) : unp l = (0, 0, 2) := by
  obtain rfl : k = 10 := by have := h.1; omega
  obtain ⟨m', hm'⟩ := unpF_lead 10 0 0 l (by omega) h.2.1 h.2.2
  exact hm'
theorem Lead.short {l : List UInt8} {k : Nat} (h : Lead l k) (hk : k < 10) (hl : k = l.length) : unp l = (0, 0, 3) := by
  obtain ⟨m', hm'⟩ := unpF_lead k 0 0 l (by omega) h.2.1 h.2.2
  have : unp l = _ := hm'
  rw [this, hl, List.drop_length, ← hl]
  obtain ⟨f, hf⟩ : ∃ f, 10 - (0 + k) = f + 1 := ⟨9 - k, by omega⟩
  rw [hf]; rfl
theorem Lead.nine {l : List UInt8} {k : Nat} (h : Lead l k) (hk : k = 9) (hl : k < l.length) (hc : l[k].toNat < 128) (h1 : 1 < l[k].toNat) : unp l = (0, 0, 2) := by
  have := unpF_hor k 0 0 l hl (by omega) h.2.2 hc
  rw [if_pos (Or.inr ⟨by omega, h1⟩)] at this
  exact this
theorem Lead.val_lt {l : List UInt8} {k : Nat} (h : Lead l k) (hk : k ≤ 9) (hl : k < l.length) (h9 : k = 9 → l[k].toNat ≤ 1) : ∀ j, hor ((l.take (k + 1)).drop j) < 2 ^ 64 := by
  intro j
  by_cases hk9 : k = 9
  · subst hk9
    show hor ((l.take 10).drop j) < 2 ^ 64
    have e : l.take 10 = l.take 9 ++ [l[9]] := List.take_succ_eq_append_getElem hl
    by_cases hj : j ≤ 9
    · have e2 : (l.take 10).drop j = (l.take 9).drop j ++ [l[9]] := by rw [e, List.drop_append_of_le_length (by simp; omega)]
      have app : ∀ (x : List UInt8) (c : UInt8), hor (x ++ [c]) = hor x + c.toNat % 128 * 128 ^ x.length := by
        intro x c
        induction x with
        | nil => simp [hor]
        | cons y x ih => simp only [List.cons_append, hor, ih, List.length_cons, Nat.pow_succ]; rw [Nat.mul_add, Nat.mul_comm (128 ^ x.length) 128, ← Nat.mul_assoc 128, ← Nat.mul_assoc (c.toNat % 128), Nat.mul_comm 128 (c.toNat % 128)]; omega
      rw [e2, app]
      have h1 := hor_lt ((l.take 9).drop j)
      have h2 : 128 ^ ((l.take 9).drop j).length ≤ 128 ^ 9 := Nat.pow_le_pow_right (by decide) (by simp; omega)
      have h3 : l[9].toNat % 128 * 128 ^ ((l.take 9).drop j).length ≤ 1 * 128 ^ 9 := Nat.mul_le_mul (by have := h9 rfl; omega) h2
      have h4 : (128 : Nat) ^ 9 = 2 ^ 63 := by decide
      omega
    · have h1 := hor_lt ((l.take 10).drop j)
      have h2 : 128 ^ ((l.take 10).drop j).length ≤ 128 ^ 1 := Nat.pow_le_pow_right (by decide) (by simp; omega)
      omega
  · have h1 := hor_lt ((l.take (k + 1)).drop j)
    have h2 : 128 ^ ((l.take (k + 1)).drop j).length ≤ 128 ^ 9 := Nat.pow_le_pow_right (by decide) (by simp; omega)
    have h4 : (128 : Nat) ^ 9 = 2 ^ 63 := by decide
    omega
theorem hor_drop {l : List UInt8} {k j : Nat} (hl : k < l.length) (hj : j ≤ k) : hor ((l.take (k + 1)).drop j) = 128 * hor ((l.take (k + 1)).drop (j + 1)) + (l[j]'(by omega)).toNat % 128 := by
  rw [List.drop_eq_getElem_cons (by simp; omega)]
  simp only [hor, List.getElem_take]
  omega
/-- the reference's last test: packed, is it what stands there? -/
theorem Lead.done {l : List UInt8} {k : Nat} (h : Lead l k) (hk : k ≤ 9) (hl : k < l.length) (hc : l[k].toNat < 128) (h9 : k = 9 → l[k].toNat ≤ 1) :
    unp l = if pack (hor (l.take (k + 1))) = l.take (k + 1) then (hor (l.take (k + 1)), k + 1, 0) else (0, 0, 2) := by
  have e := unpF_hor k 0 0 l hl (by omega) h.2.2 hc
  have hlt := h.val_lt hk hl h9 0
  rw [List.drop_zero] at hlt
  simp only [Nat.zero_add, Nat.mul_zero, Nat.pow_zero, Nat.mul_one] at e
  have e' : unp l = _ := e
  by_cases hz : (l[k].toNat = 0 ∧ 0 < k) ∨ (k = 9 ∧ 1 < l[k].toNat)
  · rw [if_pos hz] at e'
    rw [e', if_neg]
    intro hp
    have h1 := unp_pack _ hlt []
    rw [List.append_nil, hp] at h1
    have h2 := unpF_hor k 0 0 (l.take (k + 1)) (by simp; omega) (by omega) (fun j hj hjk => by simpa using h.2.2 j (by omega) hjk) (by simpa using hc)
    simp only [List.getElem_take, Nat.zero_add] at h2
    rw [if_pos hz] at h2
    have h3 : unp (l.take (k + 1)) = (0, 0, 2) := h2
    rw [h3] at h1
    simp at h1
  · rw [if_neg hz] at e'
    rw [e', if_pos]
    exact (unp_ok e').2.2.2.2.symm
end Tryst
