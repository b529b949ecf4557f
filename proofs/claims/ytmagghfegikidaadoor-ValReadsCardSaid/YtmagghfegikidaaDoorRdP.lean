/- Plain facts on the document's way to read a value; nothing of the program. -/
import Derived.Lib.ItoaLen
import Derived.RowKit
import Derived.Test.YtmagghfegikidaaDoorValT
set_option linter.unusedVariables false
set_option linter.unusedSimpArgs false
namespace Tryst
open Go Go.Lib Go.RowKit
def ngStep (m : Int) (c : UInt8) : Int := if isDig c then 10 * m - ((c.toNat : Int) - 48) else m
def ngv (l : List UInt8) : Int := l.foldl ngStep 0
theorem ngv_snoc (l : List UInt8) (c : UInt8) : ngv (l ++ [c]) = ngStep (ngv l) c := by unfold ngv; rw [List.foldl_append]; rfl
theorem ng_digs (l : List UInt8) : ∀ n : Nat, (∀ c ∈ l, isDig c = true) → l.foldl ngStep (-(n : Int)) = -((dval n l : Nat) : Int) := by
  induction l with
  | nil => intro n _; rw [dval_nil]; rfl
  | cons c l ih =>
    intro n h
    have hc := h c (by simp)
    rw [List.foldl_cons, dval_cons, ← ih _ (fun x hx => h x (by simp [hx]))]
    congr 1
    unfold ngStep
    rw [if_pos hc]
    simp only [isDig, Bool.and_eq_true, decide_eq_true_eq] at hc
    omega
theorem ng_itoa (z : Int) : ngv (itoa z) = if z < 0 then z else -z := by
  unfold itoa
  split
  · unfold ngv
    rw [List.foldl_cons, show ngStep 0 45 = -((0 : Nat) : Int) from rfl, ng_digs _ _ (dec_digs _), dec_dval]; omega
  · unfold ngv
    rw [show (0 : Int) = -((0 : Nat) : Int) from rfl, ng_digs _ _ (dec_digs _), dec_dval]; omega
theorem nDigits_lt : ∀ (k u : Nat), u < 10 ^ (k + 1) → nDigits u ≤ k + 1
  | 0, u, h => by unfold nDigits; rw [dif_pos (by omega)]; omega
  | k + 1, u, h => by
    unfold nDigits
    split
    · omega
    · have := nDigits_lt k (u / 10) (by rw [Nat.pow_succ] at h; omega)
      omega
theorem itoa_le20 {z : Int} (h : In64 z) : (itoa z).length ≤ 20 := by
  obtain ⟨h0, h1⟩ := h
  unfold itoa
  split
  · rw [List.length_cons, decDigits_length]
    have := nDigits_lt 18 z.natAbs (by omega)
    omega
  · rw [decDigits_length]
    have := nDigits_lt 18 z.toNat (by omega)
    omega
/-- what is reckoned of the first i octets -/
def MRel (l : List UInt8) (i : Nat) (M : Int) : Prop := In64 M ∧ (M - ngv (l.take i)) % 18446744073709551616 = 0
theorem MRel.start (l : List UInt8) : MRel l 0 0 := ⟨⟨by omega, by omega⟩, by simp [ngv]⟩
theorem MRel.skip {l : List UInt8} {i : Nat} {M : Int} (h : MRel l i M) (hi : i < l.length) (hd : isDig l[i] = false) : MRel l (i + 1) M := by
  refine ⟨h.1, ?_⟩
  rw [List.take_succ_eq_append_getElem hi, ngv_snoc]
  unfold ngStep
  rw [hd]
  exact h.2
theorem MRel.step {l : List UInt8} {i : Nat} {M : Int} (h : MRel l i M) (hi : i < l.length) (hd : isDig l[i] = true) : MRel l (i + 1) (wrap64 (wrap64 (10 * M) - ((l[i].toNat : Int) - 48))) := by
  obtain ⟨_, h2⟩ := h
  rw [MRel, List.take_succ_eq_append_getElem hi, ngv_snoc]
  unfold ngStep
  rw [if_pos hd]
  generalize ngv (l.take i) = g at *
  generalize (l[i].toNat : Int) = c
  unfold In64 wrap64
  omega
def signed (l : List UInt8) (M : Int) : Int := if l.head? = some 45 then M else wrap64 (-M)
theorem signed_in {l : List UInt8} {i : Nat} {M : Int} (h : MRel l i M) : In64 (signed l M) := by
  obtain ⟨⟨h0, h1⟩, _⟩ := h
  unfold signed In64 wrap64
  split <;> omega
theorem NumAt.head {l : List UInt8} {k : Nat} {z : Int} (h : NumAt l k z) : (z < 0 → l.head? = some 45) ∧ (0 ≤ z → l.head? ≠ some 45) := by
  obtain ⟨h1, h2, _, h4⟩ := h
  cases l with
  | nil => simp at h2; omega
  | cons c r =>
    obtain ⟨k, rfl⟩ : ∃ i, k = i + 1 := ⟨k - 1, by omega⟩
    rw [List.take_succ_cons] at h4
    constructor
    · intro hz
      unfold itoa at h4
      rw [if_pos hz] at h4
      rw [List.head?_cons, (List.cons.inj h4).1]
    · intro hz hc
      simp at hc
      unfold itoa at h4
      rw [if_neg (by omega), hc] at h4
      have := dec_digs z.toNat 45 (by rw [← h4]; simp)
      simp [isDig] at this
theorem NumAt.signed {l : List UInt8} {k : Nat} {z M : Int} (h : NumAt l k z) (hm : MRel l k M) : z = signed l M := by
  have hh := h.head
  obtain ⟨h1, h2, ⟨h30, h31⟩, h4⟩ := h
  obtain ⟨⟨m0, m1⟩, m2⟩ := hm
  rw [h4, ng_itoa] at m2
  unfold Tryst.signed
  by_cases hz : z < 0
  · rw [if_pos (hh.1 hz)]
    rw [if_pos hz] at m2
    omega
  · rw [if_neg (hh.2 (by omega))]
    rw [if_neg hz] at m2
    unfold wrap64
    omega
/-- what was found of the beginnings ahead of the k-th -/
def Best (l : List UInt8) (k : Nat) (f : Bool) (n : Nat) (z : Int) : Prop :=
  if f then NumAt l n z ∧ ∀ j z', NumAt l j z' → j < k → j ≤ n else n = 0 ∧ z = 0 ∧ ∀ j z', NumAt l j z' → k ≤ j
theorem Best.start (l : List UInt8) : Best l 1 false 0 0 := ⟨rfl, rfl, fun _ _ h => h.1⟩
theorem Best.yes {l : List UInt8} {k n : Nat} {f : Bool} {z Z : Int} (_ : Best l k f n z) (hn : NumAt l k Z) : Best l (k + 1) true k Z := by
  unfold Best
  exact ⟨hn, fun j z' _ hj => by omega⟩
theorem Best.no {l : List UInt8} {k n : Nat} {f : Bool} {z : Int} (h : Best l k f n z) (hn : ∀ z, ¬ NumAt l k z) : Best l (k + 1) f n z := by
  cases f with
  | true =>
    obtain ⟨h1, h2⟩ := h
    refine ⟨h1, fun j z' hj hk => ?_⟩
    by_cases e : j = k
    · subst e; exact absurd hj (hn z')
    · exact h2 j z' hj (by omega)
  | false =>
    obtain ⟨h1, h2, h3⟩ := h
    refine ⟨h1, h2, fun j z' hj => ?_⟩
    by_cases e : j = k
    · subst e; exact absurd hj (hn z')
    · have := h3 j z' hj; omega
theorem NumAt.len {l : List UInt8} {k : Nat} {z : Int} (h : NumAt l k z) : k ≤ 20 ∧ k ≤ l.length ∧ 1 ≤ k := by
  have h20 := itoa_le20 h.2.2.1
  have := congrArg List.length h.2.2.2
  rw [List.length_take] at this
  have := h.2.1
  exact ⟨by omega, h.2.1, h.1⟩
theorem Best.found {l : List UInt8} {k n : Nat} {z : Int} (h : Best l k true n z) (he : l.length < k ∨ 20 < k) : readV l = (⟨true, z, []⟩, n) ∧ n ≠ 0 := by
  obtain ⟨h1, h2⟩ := h
  have hl := h1.len
  rcases number_spec l with ⟨_, e2⟩ | ⟨e1, e2⟩
  · exact absurd h1 (e2 n z)
  · have a := e2 n z h1
    have b := h2 _ _ e1 (by have := e1.len; omega)
    have hn : (numberL l).2 = n := by omega
    have hz : (numberL l).1 = z := by
      refine itoa_inj ?_
      rw [← e1.2.2.2, hn, h1.2.2.2]
    cases l with
    | nil => simp at hl; omega
    | cons c r =>
      have hc : c ≠ 34 := by
        rintro rfl
        obtain ⟨i, rfl⟩ : ∃ i, n = i + 1 := ⟨n - 1, by omega⟩
        have e := h1.2.2.2
        rw [List.take_succ_cons] at e
        obtain ⟨d, r', hd, h34⟩ := itoa_head z
        rw [hd] at e
        exact h34 (List.cons.inj e).1.symm
      unfold readV
      simp only
      rw [if_neg hc, if_neg (by omega), hn, hz]
      exact ⟨rfl, by omega⟩
theorem Best.none {l : List UInt8} {k n : Nat} {z : Int} (h : Best l k false n z) (he : l.length < k ∨ 20 < k) (hq : l.head? ≠ some 34) : readV l = (V.zero, 0) := by
  obtain ⟨_, _, h2⟩ := h
  cases l with
  | nil => rfl
  | cons c r =>
    have hc : c ≠ 34 := by simpa using hq
    unfold readV
    simp only
    rw [if_neg hc]
    rcases number_spec (c :: r) with ⟨e1, _⟩ | ⟨e1, _⟩
    · rw [e1]; rfl
    · have := h2 _ _ e1
      have := e1.len
      omega
/-- the text's scan, so far -/
def RRel (l : List UInt8) (i : Nat) (t : List UInt8) : Prop :=
  1 ≤ i ∧ i ≤ l.length + 1 ∧ t.length ≤ i ∧ (rscan (l.drop 1)).1 = t ++ (rscan (l.drop i)).1 ∧ (rscan (l.drop 1)).2.1 + 1 = i + (rscan (l.drop i)).2.1 ∧ (rscan (l.drop 1)).2.2 = (rscan (l.drop i)).2.2
theorem RRel.start (l : List UInt8) : RRel l 1 [] := ⟨by omega, by omega, by simp, by simp, by omega, rfl⟩
theorem RRel.plain {l : List UInt8} {i : Nat} {t : List UInt8} (h : RRel l i t) (hi : i < l.length) (h1 : l[i] ≠ 34) (h2 : l[i] ≠ 92) : RRel l (i + 1) (t ++ [l[i]]) := by
  obtain ⟨a, b, c, d, e, f⟩ := h
  rw [List.drop_eq_getElem_cons hi, rscan_plain h1 h2] at d e f
  refine ⟨by omega, by omega, by simp; omega, by rw [d]; simp, ?_, f⟩
  simp only at e
  omega
theorem RRel.esc {l : List UInt8} {i : Nat} {t : List UInt8} (h : RRel l i t) (hi : i + 1 < l.length) (h2 : l[i] = 92) : RRel l (i + 2) (t ++ [l[i + 1]]) := by
  obtain ⟨a, b, c, d, e, f⟩ := h
  rw [List.drop_eq_getElem_cons (i := i) (by omega), List.drop_eq_getElem_cons hi, h2, rscan_bs, show i + 1 + 1 = i + 2 from rfl] at d e f
  refine ⟨by omega, by omega, by simp; omega, by rw [d]; simp, ?_, f⟩
  simp only at e
  omega
theorem RRel.last {l : List UInt8} {i : Nat} {t : List UInt8} (h : RRel l i t) (hi : i < l.length) (hl : l.length ≤ i + 1) (h2 : l[i] = 92) : RRel l (i + 2) t := by
  obtain ⟨a, b, c, d, e, f⟩ := h
  have e0 : l.drop (i + 1) = [] := List.drop_eq_nil_of_le hl
  have e1 : l.drop (i + 2) = [] := List.drop_eq_nil_of_le (by omega)
  have e2 : rscan [92] = ([], 2, false) := by rw [rscan.eq_def]; simp
  have e3 : rscan [] = ([], 0, false) := by rw [rscan.eq_def]
  rw [List.drop_eq_getElem_cons hi, h2, e0, e2] at d e f
  refine ⟨by omega, by omega, by omega, ?_, ?_, ?_⟩
  · rw [e1, e3]; exact d
  · rw [e1, e3]; simp only at e ⊢; omega
  · rw [e1, e3]; exact f
theorem RRel.bad {l : List UInt8} {i : Nat} {t : List UInt8} (h : RRel l i t) (hi : l.length ≤ i) (hq : l.head? = some 34) : readV l = (V.zero, 0) := by
  obtain ⟨a, b, c, d, e, f⟩ := h
  have e1 : l.drop i = [] := List.drop_eq_nil_of_le hi
  have e3 : rscan [] = ([], 0, false) := by rw [rscan.eq_def]
  rw [e1, e3] at f
  cases l with
  | nil => rfl
  | cons c r =>
    have hc : c = 34 := by simpa using hq
    have := (rscan_spec _ r 0 (Nat.le_refl _) (by omega)).2 f
    unfold readV
    simp only
    rw [if_pos hc, this.2]
theorem RRel.done {l : List UInt8} {i : Nat} {t : List UInt8} (h : RRel l i t) (hi : i < l.length) (h1 : l[i] = 34) (hq : l.head? = some 34) :
    (t.length ≤ 60 ∧ wr t = l.take (i + 1) → readV l = (⟨false, 0, t⟩, i + 1)) ∧ (¬ (t.length ≤ 60 ∧ wr t = l.take (i + 1)) → readV l = (V.zero, 0)) := by
  obtain ⟨a, b, c, d, e, f⟩ := h
  rw [List.drop_eq_getElem_cons hi, h1, rscan_quote] at d e f
  simp only [List.append_nil] at d
  simp only at e f
  cases l with
  | nil => simp at hi
  | cons c r =>
    have hc : c = 34 := by simpa using hq
    rw [List.drop_succ_cons, List.drop_zero] at d e f
    have hs := (rscan_spec _ r 0 (Nat.le_refl _) (by omega)).1 f
    rw [d, show (rscan r).2.1 + 1 = i by omega] at hs
    have hw : wr t = (c :: r).take (i + 1) ↔ Tryst.esc t ++ [34] = r.take i := by
      rw [List.take_succ_cons, hc]; unfold wr; simp
    rw [hw]
    unfold readV
    simp only
    rw [if_pos hc, hs.2]
    constructor
    · rintro ⟨x, y⟩
      rw [if_pos ⟨y, by omega⟩]
    · intro hn
      rw [if_neg (fun ⟨y, x⟩ => hn ⟨by omega, y⟩)]
end Tryst
