/- Plain facts on packed octets; nothing of the program. -/
set_option linter.unusedVariables false
set_option linter.unusedSimpArgs false
namespace Tryst
/-- a number's packed octets, at most k of them behind the first -/
def packF : Nat → Nat → List UInt8
  | 0, n => [UInt8.ofNat n]
  | k + 1, n => if n < 128 then [UInt8.ofNat n] else UInt8.ofNat (128 + n % 128) :: packF k (n / 128)
def pack (n : Nat) : List UInt8 := packF 9 n
/-- from octet i on, with what was gathered so far -/
def unpF : Nat → Nat → Nat → List UInt8 → Nat × Nat × Nat
  | 0, _, _, _ => (0, 0, 2)
  | _ + 1, _, _, [] => (0, 0, 3)
  | f + 1, i, n, c :: l =>
    if 128 ≤ c.toNat then unpF f (i + 1) (n + (c.toNat % 128) * 2 ^ (7 * i)) l
    else if (c.toNat = 0 ∧ 0 < i) ∨ (i = 9 ∧ 1 < c.toNat) then (0, 0, 2)
    else (n + (c.toNat % 128) * 2 ^ (7 * i), i + 1, 0)
def unp (l : List UInt8) : Nat × Nat × Nat := unpF 10 0 0 l
def fold (n : Int) : Nat := if 0 ≤ n then (2 * n).toNat else (-2 * n - 1).toNat
def unfold_ (n : Nat) : Int := if n % 2 = 0 then (n / 2 : Nat) else -((n / 2 : Nat) : Int) - 1

theorem packF_length (k n : Nat) : 1 ≤ (packF k n).length ∧ (packF k n).length ≤ k + 1 := by
  induction k generalizing n with
  | zero => simp [packF]
  | succ k ih =>
    unfold packF
    have := ih (n / 128)
    split <;> simp <;> omega
theorem unpF_packF (k : Nat) : ∀ (n i m : Nat) (t : List UInt8), n < 128 ^ (k + 1) → k + i ≤ 9 → (0 < i → 0 < n) → (i = 9 → n < 2) → (∀ j, i + j = 9 → n / 128 ^ j < 2) →
    unpF (10 - i) i m (packF k n ++ t) = (m + n * 2 ^ (7 * i), i + (packF k n).length, 0) := by
  induction k with
  | zero =>
    intro n i m t h0 h1 h2 h3 h4
    have hn : n < 128 := by simpa using h0
    obtain ⟨f, hf⟩ : ∃ f, 10 - i = f + 1 := ⟨9 - i, by omega⟩
    simp only [packF, hf, List.cons_append, List.nil_append, unpF]
    have hc : (UInt8.ofNat n).toNat = n := by simp; omega
    rw [hc, if_neg (by omega), if_neg (by omega), Nat.mod_eq_of_lt hn]
    simp
  | succ k ih =>
    intro n i m t h0 h1 h2 h3 h4
    obtain ⟨f, hf⟩ : ∃ f, 10 - i = f + 1 := ⟨9 - i, by omega⟩
    unfold packF
    by_cases hn : n < 128
    · rw [if_pos hn]
      simp only [hf, List.cons_append, List.nil_append, unpF]
      have hc : (UInt8.ofNat n).toNat = n := by simp; omega
      rw [hc, if_neg (by omega), if_neg (by omega), Nat.mod_eq_of_lt hn]
      simp
    · rw [if_neg hn]
      simp only [hf, List.cons_append, unpF]
      have hc : (UInt8.ofNat (128 + n % 128)).toNat = 128 + n % 128 := by simp; omega
      rw [hc, if_pos (by omega)]
      have hm : (128 + n % 128) % 128 = n % 128 := by omega
      rw [hm]
      have hf' : f = 10 - (i + 1) := by omega
      rw [hf', ih (n / 128) (i + 1) _ t ?_ (by omega) (fun _ => by omega) ?_ ?_]
      · have h2 : 2 ^ (7 * (i + 1)) = 128 * 2 ^ (7 * i) := by rw [Nat.mul_add, Nat.pow_add]; omega
        have h5 : n / 128 * (128 * 2 ^ (7 * i)) = (n / 128 * 128) * 2 ^ (7 * i) := by rw [Nat.mul_assoc]
        rw [h2, h5]
        have h6 : n % 128 * 2 ^ (7 * i) + n / 128 * 128 * 2 ^ (7 * i) = n * 2 ^ (7 * i) := by
          rw [← Nat.add_mul]; congr 1; omega
        simp only [List.length_cons, Prod.mk.injEq, and_true]
        exact ⟨by omega, by omega⟩
      · rw [Nat.div_lt_iff_lt_mul (by decide)]; rw [Nat.pow_succ] at h0; exact h0
      · intro h9; have := h4 1 (by omega); simpa using this
      · intro j hj
        have := h4 (j + 1) (by omega)
        rw [Nat.pow_succ, Nat.mul_comm, ← Nat.div_div_eq_div_mul] at this
        exact this
/-- what is packed is unpacked, whatever stands behind -/
theorem unp_pack (n : Nat) (h : n < 2 ^ 64) (t : List UInt8) : unp (pack n ++ t) = (n, (pack n).length, 0) := by
  have := unpF_packF 9 n 0 0 t (Nat.lt_of_lt_of_le h (by decide)) (by omega) (by omega) (by omega) (fun j hj => by
    obtain rfl : j = 9 := by omega
    exact (Nat.div_lt_iff_lt_mul (by decide)).2 (Nat.lt_of_lt_of_le h (by decide)))
  simpa [unp, pack] using this
/-- a beginning of packed octets is too short -/
theorem unpF_short (k : Nat) : ∀ (n i m j : Nat), k + i ≤ 9 → j < (packF k n).length → unpF (10 - i) i m ((packF k n).take j) = (0, 0, 3) := by
  induction k with
  | zero =>
    intro n i m j h1 hj
    obtain ⟨f, hf⟩ : ∃ f, 10 - i = f + 1 := ⟨9 - i, by omega⟩
    have : j = 0 := by simp [packF] at hj; omega
    subst this
    simp [hf, unpF]
  | succ k ih =>
    intro n i m j h1 hj
    obtain ⟨f, hf⟩ : ∃ f, 10 - i = f + 1 := ⟨9 - i, by omega⟩
    unfold packF at hj ⊢
    by_cases hn : n < 128
    · rw [if_pos hn] at hj ⊢
      have : j = 0 := by simp at hj; omega
      subst this
      simp [hf, unpF]
    · rw [if_neg hn] at hj ⊢
      cases j with
      | zero => simp [hf, unpF]
      | succ j =>
        simp only [hf, List.take_succ_cons, unpF]
        have hc : (UInt8.ofNat (128 + n % 128)).toNat = 128 + n % 128 := by simp; omega
        rw [hc, if_pos (by omega)]
        have hf' : f = 10 - (i + 1) := by omega
        rw [hf']
        exact ih _ _ _ _ (by omega) (by simpa using hj)
theorem unp_short (n j : Nat) (hj : j < (pack n).length) : unp ((pack n).take j) = (0, 0, 3) := by
  simpa [unp, pack] using unpF_short 9 n 0 0 j (by omega) hj
/-- what is unpacked was packed -/
theorem unpF_ok (f : Nat) : ∀ (i m n k : Nat) (l : List UInt8), f + i = 10 → m < 2 ^ (7 * i) → unpF f i m l = (n, k, 0) →
    ∃ q, n = m + q * 2 ^ (7 * i) ∧ i < k ∧ k ≤ i + l.length ∧ (0 < i → 0 < q) ∧ q * 2 ^ (7 * i) < 2 ^ 64 ∧ l.take (k - i) = packF (9 - i) q ∧ k ≤ 10 := by
  induction f with
  | zero => intro i m n k l _ _ h; simp [unpF] at h
  | succ f ih =>
    intro i m n k l hi hm h
    cases l with
    | nil => simp [unpF] at h
    | cons c l =>
      unfold unpF at h
      have hcl := c.toNat_lt
      have hp : 0 < 2 ^ (7 * i) := Nat.pow_pos (by decide)
      by_cases h1 : 128 ≤ c.toNat
      · rw [if_pos h1] at h
        have hpow : 2 ^ (7 * (i + 1)) = 128 * 2 ^ (7 * i) := by rw [Nat.mul_add, Nat.pow_add]; omega
        have hlt : c.toNat % 128 < 128 := Nat.mod_lt _ (by decide)
        have hmm : m + c.toNat % 128 * 2 ^ (7 * i) < 2 ^ (7 * (i + 1)) := by
          rw [hpow]
          calc m + c.toNat % 128 * 2 ^ (7 * i) < 2 ^ (7 * i) + c.toNat % 128 * 2 ^ (7 * i) := by omega
            _ = (c.toNat % 128 + 1) * 2 ^ (7 * i) := by rw [Nat.add_mul]; omega
            _ ≤ 128 * 2 ^ (7 * i) := Nat.mul_le_mul_right _ (by omega)
        obtain ⟨q, e1, e2, e3, e4, e5, e6, e7⟩ := ih (i + 1) _ n k l (by omega) hmm h
        have hq : 0 < q := e4 (by omega)
        refine ⟨c.toNat % 128 + 128 * q, ?_, by omega, by simp; omega, fun _ => by omega, ?_, ?_, e7⟩
        · rw [e1, hpow, Nat.add_mul]
          have : q * (128 * 2 ^ (7 * i)) = 128 * q * 2 ^ (7 * i) := by rw [← Nat.mul_assoc, Nat.mul_comm q]
          omega
        · -- below 2 ^ 64
          have h9 : i ≤ 8 := by
            by_cases h9 : i = 9
            · subst h9
              have : f = 0 := by omega
              subst this
              simp [unpF] at h
            · omega
          have hd : 2 ^ (7 * (i + 1)) * 2 ^ (64 - 7 * (i + 1)) = 2 ^ 64 := by rw [← Nat.pow_add]; congr 1; omega
          have hq2 : q < 2 ^ (64 - 7 * (i + 1)) := by
            refine Nat.lt_of_mul_lt_mul_right (a := 2 ^ (7 * (i + 1))) ?_
            rw [Nat.mul_comm (2 ^ (64 - 7 * (i + 1))), hd]; exact e5
          calc (c.toNat % 128 + 128 * q) * 2 ^ (7 * i) < (128 * (q + 1)) * 2 ^ (7 * i) := Nat.mul_lt_mul_of_pos_right (by omega) hp
            _ = (q + 1) * 2 ^ (7 * (i + 1)) := by rw [hpow, Nat.mul_comm 128, Nat.mul_assoc]
            _ ≤ 2 ^ (64 - 7 * (i + 1)) * 2 ^ (7 * (i + 1)) := Nat.mul_le_mul_right _ hq2
            _ = 2 ^ 64 := by rw [Nat.mul_comm, hd]
        · have h9 : i ≤ 8 := by omega
          obtain ⟨j, hj⟩ : ∃ j, 9 - i = j + 1 := ⟨8 - i, by omega⟩
          obtain ⟨d, hd⟩ : ∃ d, k - i = d + 1 := ⟨k - i - 1, by omega⟩
          rw [hj, hd, List.take_succ_cons]
          unfold packF
          rw [if_neg (by omega)]
          have h10 : (c.toNat % 128 + 128 * q) / 128 = q := by omega
          have h11 : 128 + (c.toNat % 128 + 128 * q) % 128 = c.toNat := by omega
          rw [h10, h11, UInt8.ofNat_toNat]
          congr 1
          rw [show d = k - (i + 1) by omega, e6]
          congr 1
          omega
      · rw [if_neg h1] at h
        have hc : c.toNat % 128 = c.toNat := Nat.mod_eq_of_lt (by omega)
        by_cases h2 : (c.toNat = 0 ∧ 0 < i) ∨ (i = 9 ∧ 1 < c.toNat)
        · rw [if_pos h2] at h; simp at h
        · rw [if_neg h2] at h
          simp only [Prod.mk.injEq, and_true] at h
          obtain ⟨rfl, rfl⟩ := h
          refine ⟨c.toNat % 128, rfl, by omega, by simp, fun _ => by omega, ?_, ?_, by omega⟩
          · rw [hc]
            by_cases h9 : i = 9
            · subst h9
              have : c.toNat ≤ 1 := by omega
              calc c.toNat * 2 ^ (7 * 9) ≤ 1 * 2 ^ (7 * 9) := Nat.mul_le_mul_right _ this
                _ < 2 ^ 64 := by decide
            · calc c.toNat * 2 ^ (7 * i) < 128 * 2 ^ (7 * i) := Nat.mul_lt_mul_of_pos_right (by omega) hp
                _ = 2 ^ (7 + 7 * i) := by rw [Nat.pow_add]
                _ ≤ 2 ^ 64 := Nat.pow_le_pow_right (by decide) (by omega)
          · rw [hc]
            have : i + 1 - i = 1 := by omega
            rw [this]
            cases h9 : 9 - i with
            | zero => simp [packF]
            | succ j => unfold packF; rw [if_pos (by omega)]; simp
theorem unp_ok {l : List UInt8} {n k : Nat} (h : unp l = (n, k, 0)) : n < 2 ^ 64 ∧ 0 < k ∧ k ≤ l.length ∧ k ≤ 10 ∧ l.take k = pack n := by
  obtain ⟨q, e1, e2, e3, _, e5, e6, e7⟩ := unpF_ok 10 0 0 n k l (by omega) (by decide) h
  simp at e1 e3 e5 e6
  subst e1
  exact ⟨by omega, by omega, e3, e7, e6⟩
/-- an error has no number -/
theorem unpF_err (f : Nat) : ∀ (i m : Nat) (l : List UInt8), (unpF f i m l).2.2 = 0 ∨ unpF f i m l = (0, 0, 2) ∨ unpF f i m l = (0, 0, 3) := by
  induction f with
  | zero => intro i m l; simp [unpF]
  | succ f ih =>
    intro i m l
    cases l with
    | nil => simp [unpF]
    | cons c l => unfold unpF; split; · exact ih _ _ _
                  · split <;> simp
theorem unp_err (l : List UInt8) : (unp l).2.2 = 0 ∨ unp l = (0, 0, 2) ∨ unp l = (0, 0, 3) := unpF_err _ _ _ _
theorem unfold_fold (n : Int) : unfold_ (fold n) = n := by
  unfold fold unfold_; split <;> split <;> omega
theorem fold_unfold (n : Nat) : fold (unfold_ n) = n := by
  unfold fold unfold_; split <;> split <;> omega
theorem fold_lt {n : Int} (h : -2 ^ 63 ≤ n) (h' : n < 2 ^ 63) : fold n < 2 ^ 64 := by
  unfold fold; split <;> omega
end Tryst
