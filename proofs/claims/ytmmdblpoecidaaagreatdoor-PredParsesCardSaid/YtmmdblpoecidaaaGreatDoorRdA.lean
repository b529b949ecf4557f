/- The walks of reader.number and reader.text. -/
import Derived.Test.YtmmdblpoecidaaaGreatDoorProg
import Derived.WalkKit
import Derived.WalkSpells
import Derived.WalkLawsBesides
import Derived.Lib.Hide
import Derived.Deep.RegionWith
import Derived.Deep.Cut
import Derived.Test.YtmmdblpoecidaaaGreatDoorFacts
import Derived.Test.YtmmdblpoecidaaaGreatDoorFldG
import Derived.Test.YtmmdblpoecidaaaGreatDoorNumV
set_option linter.unusedVariables false
set_option linter.unusedSimpArgs false
namespace Tryst
open Go Go.RowKit
theorem rnum_le (l : List UInt8) (most a e : Nat) (ha : a ≤ l.length) : (rnum l most (a, e)).1 ≤ most ∧ (rnum l most (a, e)).2.1 ≤ l.length := by
  unfold rnum
  split
  · exact ⟨by simp, ha⟩
  · split
    · exact ⟨by simp, ha⟩
    · split
      · exact ⟨by simp, ha⟩
      · rename_i h1 h2 h3
        refine ⟨by omega, ?_⟩
        simp only at h2 h3 ⊢
        obtain ⟨n, k, e', h⟩ : ∃ n k e', unp (l.drop a) = (n, k, e') := ⟨_, _, _, rfl⟩
        rw [h] at h2 ⊢
        simp only [ne_eq, Decidable.not_not] at h2
        subst h2
        have := (unp_ok h).2.2.1
        rw [List.length_drop] at this
        show a + k ≤ _
        omega
theorem rtext_le (l : List UInt8) (most a e : Nat) (ha : a ≤ l.length) : (rtext l most (a, e)).1.length ≤ most ∧ (rtext l most (a, e)).2.1 ≤ l.length := by
  obtain ⟨h1, h2⟩ := rnum_le l most a e ha
  unfold rtext
  split
  · exact ⟨by simp, h2⟩
  · split
    · exact ⟨by simp, h2⟩
    · refine ⟨by rw [List.length_take]; omega, ?_⟩
      show _ + _ ≤ _
      omega
theorem rval_le (l : List UInt8) (a e : Nat) (ha : a ≤ l.length) : (rval l (a, e)).2.1 ≤ l.length ∧ (rval l (a, e)).1.s.length ≤ 60 ∧ (rval l (a, e)).1.Fits := by
  unfold rval
  split
  · exact ⟨ha, by simp [V.zero], by simp [V.zero, V.Fits]⟩
  · rcases take_err (l.drop a) with h | ⟨h1, h2⟩
    · obtain ⟨v, k, e', hh⟩ : ∃ v k e', takeV (l.drop a) = (v, k, e') := ⟨_, _, _, rfl⟩
      simp only at h ⊢
      rw [hh] at h ⊢
      simp only at h
      subst h
      obtain ⟨g1, g2, g3, g4, g5⟩ := take_ok hh
      rw [List.length_drop] at g4
      refine ⟨by show a + k ≤ _; omega, ?_, g2⟩
      unfold V.May at g1
      split at g1
      · rw [g1]; simp
      · exact g1.2
    · simp only
      rw [h1, h2]
      exact ⟨by omega, by simp [V.zero], by simp [V.zero, V.Fits]⟩
/-- a reader's three cells -/
structure RAt (w : World) (g : Nat) (s : ByteArray) (a e : Nat) : Prop where
  c0 : w.cell? ⟨g, 0, none⟩ = some (.string s)
  c1 : w.cell? ⟨g, 1, none⟩ = some (.int .i64 a)
  c2 : w.cell? ⟨g, 2, none⟩ = some (.int .i64 e)
  f1 : w.frozen? ⟨g, 1, none⟩ = false
  f2 : w.frozen? ⟨g, 2, none⟩ = false
  hz : g < w.heap.size
/-- nothing but this block has turned -/
structure Only (g : Nat) (w w' : World) : Prop where
  below : Below g w w'
  keep : ∀ k, k < w.heap.size → k ≠ g → w'.heap[k]? = w.heap[k]?
theorem Only.refl (g : Nat) (w : World) : Only g w w := ⟨.refl _ _, fun _ _ _ => rfl⟩
theorem Only.trans {g : Nat} {u v w : World} (h : Only g u v) (k : Only g v w) : Only g u w :=
  ⟨h.below.trans k.below, fun i hi hg => (k.keep i (Nat.lt_of_lt_of_le hi h.below.size) hg).trans (h.keep i hi hg)⟩
theorem Only.drew {g : Nat} {u v : World} (h : Only g u v) : Only g u v.drew := ⟨h.below.drew, h.keep⟩
theorem Only.set {g : Nat} {u v : World} (h : Only g u v) (o : Nat) (x : Value) : Only g u (v.setCell ⟨g, o, none⟩ x) :=
  ⟨h.below.setCell (p := ⟨g, o, none⟩) (Nat.le_refl _) x, fun k hk hg => by
    rw [Below.heap_setCell _ _ _ _ (fun e => hg e)]; exact h.keep k hk hg⟩
theorem Only.ofBelow {g : Nat} {u v : World} (hg : g < u.heap.size) (h : Below u.heap.size u v) : Only g u v := ⟨h.mono (Nat.le_of_lt hg), fun k hk _ => h.block k hk⟩
theorem RAt.grow {v w : World} {g : Nat} {s : ByteArray} {a e : Nat} (h : RAt v g s a e) (hb : Below v.heap.size v w) : RAt w g s a e := by
  obtain ⟨h0, h1, h2, h3, h4, h5⟩ := h
  exact ⟨by rw [hb.cell (p := ⟨g, 0, none⟩) h5]; exact h0, by rw [hb.cell (p := ⟨g, 1, none⟩) h5]; exact h1, by rw [hb.cell (p := ⟨g, 2, none⟩) h5]; exact h2, by rw [hb.frozen (p := ⟨g, 1, none⟩) h5]; exact h3, by rw [hb.frozen (p := ⟨g, 2, none⟩) h5]; exact h4, Nat.lt_of_lt_of_le h5 hb.size⟩
theorem RAt.set2 {w : World} {g : Nat} {s : ByteArray} {a e e' : Nat} (h : RAt w g s a e) : RAt (w.setCell ⟨g, 2, none⟩ (.int .i64 e')) g s a e' := by
  obtain ⟨h0, h1, h2, h3, h4, h5⟩ := h
  constructor <;> simp [cell_setCell, frozen_setCell, h0, h1, h2, h3, h4, h5]
theorem RAt.set1 {w : World} {g : Nat} {s : ByteArray} {a e a' : Nat} (h : RAt w g s a e) : RAt (w.setCell ⟨g, 1, none⟩ (.int .i64 a')) g s a' e := by
  obtain ⟨h0, h1, h2, h3, h4, h5⟩ := h
  constructor <;> simp [cell_setCell, frozen_setCell, h0, h1, h2, h3, h4, h5]
theorem RAt.at {v w : World} {g c : Nat} {s : ByteArray} {a e : Nat} (h : RAt v g s a e) (ho : Only c v w) (hc : g ≠ c) : RAt w g s a e := by
  obtain ⟨h0, h1, h2, h3, h4, h5⟩ := h
  have hb := ho.keep g h5 hc
  have hf : ∀ j, w.frozen? ⟨g, j, none⟩ = v.frozen? ⟨g, j, none⟩ := fun j => by simp [World.frozen?, hb]
  exact ⟨by rw [World.cell?_of_block (w := v) (a := ⟨g, 0, none⟩) hb]; exact h0, by rw [World.cell?_of_block (w := v) (a := ⟨g, 1, none⟩) hb]; exact h1, by rw [World.cell?_of_block (w := v) (a := ⟨g, 2, none⟩) hb]; exact h2, by rw [hf]; exact h3, by rw [hf]; exact h4, Nat.lt_of_lt_of_le h5 ho.below.size⟩
end Tryst
namespace Go.Proofs.YtmmdblpoecidaaaGreatDoor
open Go.RowKit Tryst
set_option maxHeartbeats 400000
set_option maxRecDepth 20000
theorem drop_str (s : ByteArray) (a : Nat) : (s.extract a s.size).data.toList = s.data.toList.drop a := by
  rw [sub_str, List.take_of_length_le (by simp)]
def NumR (w : World) (g : Nat) (s : ByteArray) (n a e : Nat) (x : Ending) (w' : World) : Prop := x = .returned (.int .u64 n) ∧ RAt w' g s a e ∧ Only g w w'
theorem rnum_cases (s : ByteArray) (most a : Nat) (ha : a ≤ s.size) :
    (∃ n k, unp (s.extract a s.size).data.toList = (n, k, 0) ∧ n ≤ most ∧ a + k ≤ s.size ∧ rnum s.data.toList most (a, 0) = (n, (a + k, 0))) ∨
    (∃ n k, unp (s.extract a s.size).data.toList = (n, k, 0) ∧ most < n ∧ n < 2 ^ 64 ∧ rnum s.data.toList most (a, 0) = (0, (a, 2))) ∨
    (unp (s.extract a s.size).data.toList = (0, 0, 2) ∧ rnum s.data.toList most (a, 0) = (0, (a, 2))) ∨
    (unp (s.extract a s.size).data.toList = (0, 0, 3) ∧ rnum s.data.toList most (a, 0) = (0, (a, 3))) := by
  rw [drop_str]
  unfold rnum
  simp only [ne_eq, not_true_eq_false, if_false]
  rcases unp_err (s.data.toList.drop a) with h | h | h
  · obtain ⟨n, k, e', hh⟩ : ∃ n k e', unp (s.data.toList.drop a) = (n, k, e') := ⟨_, _, _, rfl⟩
    rw [hh] at h ⊢
    simp only at h
    subst h
    have hk := unp_ok hh
    rw [List.length_drop, len_str] at hk
    by_cases hm : n ≤ most
    · exact .inl ⟨n, k, rfl, hm, by omega, by simp; omega⟩
    · exact .inr (.inl ⟨n, k, rfl, by omega, hk.1, by simp; omega⟩)
  · exact .inr (.inr (.inl ⟨h, by rw [h]; simp⟩))
  · exact .inr (.inr (.inr ⟨h, by rw [h]; simp⟩))
end Go.Proofs.YtmmdblpoecidaaaGreatDoor
namespace Go.Proofs.YtmmdblpoecidaaaGreatDoor
open Go.RowKit Tryst
set_option maxHeartbeats 400000
set_option maxRecDepth 20000
def TextR (w : World) (g : Nat) (s : ByteArray) (t : List UInt8) (a e : Nat) (x : Ending) (w' : World) : Prop := x = .returned (.string ⟨t.toArray⟩) ∧ RAt w' g s a e ∧ Only g w w'
theorem rnum_err3 (l : List UInt8) (most a e : Nat) (he : e ≤ 3) : (rnum l most (a, e)).2.2 ≤ 3 := by
  unfold rnum
  split
  · exact he
  · split
    · rcases unp_err (l.drop a) with h | h | h
      · rename_i h1 h2; exact absurd h h2
      · show (unp (l.drop a)).2.2 ≤ 3; rw [h]; decide
      · show (unp (l.drop a)).2.2 ≤ 3; rw [h]; decide
    · split <;> simp
theorem rtext_err3 (l : List UInt8) (most a e : Nat) (he : e ≤ 3) : (rtext l most (a, e)).2.2 ≤ 3 := by
  have h := rnum_err3 l most a e he
  unfold rtext
  split
  · exact h
  · split
    · exact Nat.le_refl 3
    · exact Nat.zero_le 3
theorem cut_str (s : ByteArray) (a n : Nat) (h : a + n ≤ s.size) : s.extract a (a + n) = ⟨((s.data.toList.drop a).take n).toArray⟩ := by
  apply str_ext
  rw [sub_str, mk_str, List.drop_take, Nat.add_sub_cancel_left]
end Go.Proofs.YtmmdblpoecidaaaGreatDoor
