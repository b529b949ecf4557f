/- How many topics stand ahead of a name. -/
import Derived.Test.YtcbnehplilpidaaTopP
set_option linter.unusedVariables false
set_option linter.unusedSimpArgs false
namespace Tryst
open Go Go.Lib
theorem aheadT_drop {l : List Tp} {n : ByteArray} : ∀ {k : Nat}, k ≤ l.length → (∀ (j : Nat) (h : j < l.length), j < k → lessB l[j].name n = true) → aheadT l n = k + aheadT (l.drop k) n := by
  induction l with
  | nil => intro k hk _; simp at hk; subst hk; rfl
  | cons t r ih =>
    intro k hk h
    cases k with
    | zero => simp
    | succ k =>
      have h0 : lessB t.name n = true := h 0 (by simp) (by omega)
      have := ih (k := k) (by simpa using hk) (fun j hj hjk => h (j + 1) (by simpa using hj) (by omega))
      have e : aheadT (t :: r) n = aheadT r n + 1 := by
        show (if lessB t.name n = true then aheadT r n + 1 else 0) = _
        rw [if_pos h0]
      rw [e, this, List.drop_succ_cons]
      omega
theorem aheadT_stop {l : List Tp} {n : ByteArray} {k : Nat} (hk : k < l.length) (h : ∀ (j : Nat) (h : j < l.length), j < k → lessB l[j].name n = true) (hn : lessB l[k].name n = false) : aheadT l n = k := by
  rw [aheadT_drop (by omega) h, List.drop_eq_getElem_cons hk]
  show k + (if lessB l[k].name n = true then aheadT (l.drop (k + 1)) n + 1 else 0) = k
  rw [hn]; simp
theorem aheadT_all {l : List Tp} {n : ByteArray} (h : ∀ (j : Nat) (h : j < l.length), lessB l[j].name n = true) : aheadT l n = l.length := by
  rw [aheadT_drop (Nat.le_refl _) (fun j hj _ => h j hj), List.drop_length]; rfl
end Tryst
