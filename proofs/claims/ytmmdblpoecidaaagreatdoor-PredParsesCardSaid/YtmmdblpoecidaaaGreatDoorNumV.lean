/- The walks of num and of val.May, val.Order. -/
import Derived.Test.YtmmdblpoecidaaaGreatDoorProg
import Derived.WalkKit
import Derived.WalkSpells
import Derived.WalkLawsBesides
import Derived.Lib.Hide
import Derived.Deep.RegionWith
import Derived.Test.YtmmdblpoecidaaaGreatDoorFacts
import Derived.Test.YtmmdblpoecidaaaGreatDoorDraws
import Derived.Test.YtmmdblpoecidaaaGreatDoorShelf
set_option linter.unusedVariables false
set_option linter.unusedSimpArgs false
namespace Go.Proofs.YtmmdblpoecidaaaGreatDoor
open Go.RowKit Tryst
set_option maxHeartbeats 400000
set_option maxRecDepth 20000
theorem unp_cases (c k : Nat) : (128 ≤ c) ∨ (c < 128 ∧ ((c : Int) == 0) = true ∧ 0 < k ∧ Hid ((c = 0 ∧ 0 < k) ∨ (k = 9 ∧ 1 < c))) ∨
    (c < 128 ∧ ((c : Int) == 0) = false ∧ ((k : Int) == 9) = true ∧ 1 < c ∧ Hid ((c = 0 ∧ 0 < k) ∨ (k = 9 ∧ 1 < c))) ∨
    (c < 128 ∧ ((c : Int) == 0) = true ∧ k ≤ 0 ∧ ((k : Int) == 9) = false ∧ Hid (¬ ((c = 0 ∧ 0 < k) ∨ (k = 9 ∧ 1 < c)))) ∨
    (c < 128 ∧ ((c : Int) == 0) = false ∧ ((k : Int) == 9) = false ∧ Hid (¬ ((c = 0 ∧ 0 < k) ∨ (k = 9 ∧ 1 < c)))) ∨
    (c < 128 ∧ ((c : Int) == 0) = false ∧ ((k : Int) == 9) = true ∧ c ≤ 1 ∧ Hid (¬ ((c = 0 ∧ 0 < k) ∨ (k = 9 ∧ 1 < c)))) := by
  simp only [beq_iff_eq, beq_eq_false_iff_ne, ne_eq, Hid]
  omega
theorem u8T : SliceOf Tryz.prog 43 5 1 1 := .mk' Tryz.underlying43 (z := .int .u8 0) (by kernel_rfl) rfl (by decide) (by decide)
theorem make10 (w : World) : (Instr.makeSlice 43 (.int .i64 0) (.int .i64 10)).run Tryz.prog w = .ok (.slice (some ⟨w.heap.size, 0, none⟩) 0 10) (w.alloc (.cells (Array.replicate 10 (.int .u8 0)) 5)) := by kernel_rfl
theorem cv1 : ∀ (w : World) (g c : Nat), (cellNum (w.cell? ⟨g, 0, none⟩)).isSome = true → (convert 43 9 (.slice (some ⟨g, 0, none⟩) 1 c)).run Tryz.prog w = .ok (.string ⟨[UInt8.ofNat ((cellNum (w.cell? ⟨g, 0, none⟩)).getD 0).toNat].toArray⟩) w := conv1 Tryz.prog 43 5 9 Tryz.underlying43 Tryz.underlying5 Tryz.underlying9
theorem and1 (n : Int) (h0 : 0 ≤ n) (h1 : n ≤ 18446744073709551615) : bits BinOp.and IntKind.u64 n 1 = n % 2 := by
  have := u64_and n 1 h0 (by omega) (by decide) (by decide)
  rw [this, show (1 : Int).toNat = 1 from rfl, nat_mask1]
  omega
end Go.Proofs.YtmmdblpoecidaaaGreatDoor
namespace Go.Proofs.YtmmdblpoecidaaaGreatDoor
open Go.RowKit Tryst
set_option maxHeartbeats 400000
set_option maxRecDepth 20000
def V.mayB (v : V) : Bool := decide v.May
theorem mayB_num (n : Int) (l : List UInt8) : V.mayB ⟨true, n, l⟩ = l.isEmpty := by
  unfold V.mayB V.May; cases l <;> simp
theorem mayB_text (n : Int) (l : List UInt8) : V.mayB ⟨false, n, l⟩ = (decide (n = 0) && decide (l.length ≤ 60)) := by
  unfold V.mayB V.May; simp
theorem may_c (num : Bool) (n : Int) (s : ByteArray) (hs : s.size ≤ 1000000000) (w : World) :
    Calls Tryz.prog 42 #[.agg #[.bool num, .int .i64 n, .string s]] w fun e w' => e = .returned (.bool (V.mayB ⟨num, n, s.data.toList⟩)) ∧ Below w.heap.size w w' := by
  cases num with
  | true =>
    go_enter Tryz.func42, Tryz.ntmps42
    go_wp2
    go_ret
    exact ⟨ret_bool (by rw [mayB_num, ← str_toList]), balloc _ (.refl _ _)⟩
  | false =>
    by_cases h : n = 0
    · subst h
      go_enter Tryz.func42, Tryz.ntmps42
      go_wp2
      go_ret
      exact ⟨ret_bool (by rw [mayB_text, len_str]; simp; omega), balloc _ (.refl _ _)⟩
    · have hb : (n == 0) = false := by simpa using h
      have H := Lib.hid h
      clear h
      go_enter Tryz.func42, Tryz.ntmps42
      go_wp2
      go_ret
      exact ⟨ret_bool (by rw [mayB_text]; have := H.out; simp [this]), balloc _ (.refl _ _)⟩
theorem rmay_c (num : Bool) (n : Int) (s : ByteArray) (hs : s.size ≤ 1000000000) (w : World) :
    Calls Tryz.prog 30 #[.agg #[.bool num, .int .i64 n, .string s]] w fun e w' => e = .returned (.bool (V.mayB ⟨num, n, s.data.toList⟩)) ∧ Below w.heap.size w w' := by
  cases num with
  | true =>
    by_cases h : s.data.toList = []
    · have hb : s.toList.isEmpty = true := by rw [str_toList]; simpa using h
      have H := Lib.hid h
      clear h
      go_enter Tryz.func30, Tryz.ntmps30
      go_wp2
      go_ret
      exact ⟨ret_bool (by rw [mayB_num]; have := H.out; cases h : s.data.toList <;> simp_all), balloc _ (.refl _ _)⟩
    · have hb : s.toList.isEmpty = false := by rw [str_toList]; simpa using h
      have H := Lib.hid h
      clear h
      go_enter Tryz.func30, Tryz.ntmps30
      go_wp2
      go_ret
      exact ⟨ret_bool (by rw [mayB_num]; have := H.out; cases h : s.data.toList <;> simp_all), balloc _ (.refl _ _)⟩
  | false =>
    by_cases h : n = 0
    · subst h
      go_enter Tryz.func30, Tryz.ntmps30
      go_wp2
      go_ret
      exact ⟨ret_bool (by rw [mayB_text, len_str]; simp; omega), balloc _ (.refl _ _)⟩
    · have hb : (n == 0) = false := by simpa using h
      have H := Lib.hid h
      clear h
      go_enter Tryz.func30, Tryz.ntmps30
      go_wp2
      go_ret
      exact ⟨ret_bool (by rw [mayB_text]; have := H.out; simp [this]), balloc _ (.refl _ _)⟩

theorem order_c (x y : Bool) (n m : Int) (s t : ByteArray) (w : World) :
    Calls Tryz.prog 67 #[.agg #[.bool x, .int .i64 n, .string s], .agg #[.bool y, .int .i64 m, .string t]] w fun e w' =>
      e = .returned (.int .i64 (V.order ⟨x, n, s.data.toList⟩ ⟨y, m, t.data.toList⟩)) ∧ Below w.heap.size w w' := by
  cases x <;> cases y
  all_goals
    go_enter Tryz.func67, Tryz.ntmps67
    go_wp2_with (first | (go_at_call 85; refine (Tryz.strings_Compare _ _ _).mono ?_; rintro e w1 ⟨rfl, rfl⟩) | go_in)
  all_goals go_ret
  all_goals refine ⟨ret_int ?_, by repeat (first | exact Below.refl _ _ | refine bdrew ?_ | refine balloc _ ?_)⟩
  all_goals simp [V.order, *]
  all_goals omega
theorem str_cases (s t : ByteArray) : (Op.bytesLess s.toList t.toList = true ∧ (s.toList == t.toList) = false ∧ Hid (Lib.compareBytes s.data.toList t.data.toList = -1)) ∨
    (Op.bytesLess s.toList t.toList = false ∧ (s.toList == t.toList) = true ∧ Hid (Lib.compareBytes s.data.toList t.data.toList = 0)) ∨
    (Op.bytesLess s.toList t.toList = false ∧ (s.toList == t.toList) = false ∧ Hid (Lib.compareBytes s.data.toList t.data.toList = 1)) := by
  have hl : Op.bytesLess s.toList t.toList = decide (Lib.compareBytes s.data.toList t.data.toList < 0) := by rw [str_toList, str_toList, cmp_less]
  have he : (s.toList == t.toList) = decide (Lib.compareBytes s.data.toList t.data.toList = 0) := by
    rw [str_toList, str_toList, Bool.eq_iff_iff]; simp [cmp_zero]
  rcases cmp_cases s.data.toList t.data.toList with h | h | h
  · exact .inl ⟨by rw [hl, h]; rfl, by rw [he, h]; rfl, h⟩
  · exact .inr (.inl ⟨by rw [hl, h]; rfl, by rw [he, h]; rfl, h⟩)
  · exact .inr (.inr ⟨by rw [hl, h]; rfl, by rw [he, h]; rfl, h⟩)
end Go.Proofs.YtmmdblpoecidaaaGreatDoor
namespace Go.Proofs.YtmmdblpoecidaaaGreatDoor
open Go.RowKit Tryst
set_option maxHeartbeats 400000
set_option maxRecDepth 20000
theorem bne_f {x y : Int} (h : (x == y) = false) : (x != y) = true := by rw [bne, h]; rfl
theorem bne_t {x y : Int} (h : (x == y) = true) : (x != y) = false := by rw [bne, h]; rfl
/-- the ways of Take -/
theorem takeV_cases (s : ByteArray) (h1 : 1 ≤ s.size) : ∃ c : Nat, c < 256 ∧ s[0].toNat = c ∧
    (((((c : Int) == 1) = false ∧ ((c : Int) == 2) = false) ∧ Hid (takeV s.data.toList = (V.zero, 0, 2))) ∨
    ((((c : Int) == 1) = true ∨ (((c : Int) == 1) = false ∧ ((c : Int) == 2) = true)) ∧ Hid (unp (s.extract 1 s.size).data.toList = (0, 0, 2)) ∧ Hid (takeV s.data.toList = (V.zero, 0, 2))) ∨
    ((((c : Int) == 1) = true ∨ (((c : Int) == 1) = false ∧ ((c : Int) == 2) = true)) ∧ Hid (unp (s.extract 1 s.size).data.toList = (0, 0, 3)) ∧ Hid (takeV s.data.toList = (V.zero, 0, 3))) ∨
    (∃ n k : Nat, n ≤ 18446744073709551615 ∧ k ≤ 10 ∧ k + 1 ≤ s.size ∧ ((c : Int) == 1) = true ∧ Hid (unp (s.extract 1 s.size).data.toList = (n, k, 0)) ∧ Hid (takeV s.data.toList = (⟨true, unfold_ n, []⟩, k + 1, 0))) ∨
    (∃ n k : Nat, n ≤ 18446744073709551615 ∧ k ≤ 10 ∧ k + 1 ≤ s.size ∧ ((c : Int) == 1) = false ∧ ((c : Int) == 2) = true ∧ 60 < n ∧ Hid (unp (s.extract 1 s.size).data.toList = (n, k, 0)) ∧ Hid (takeV s.data.toList = (V.zero, 0, 2))) ∨
    (∃ n k : Nat, n ≤ 60 ∧ k ≤ 10 ∧ k + 1 ≤ s.size ∧ ((c : Int) == 1) = false ∧ ((c : Int) == 2) = true ∧ s.size < k + 1 + n ∧ Hid (unp (s.extract 1 s.size).data.toList = (n, k, 0)) ∧ Hid (takeV s.data.toList = (V.zero, 0, 3))) ∨
    (∃ n k : Nat, n ≤ 60 ∧ k ≤ 10 ∧ k + 1 ≤ s.size ∧ ((c : Int) == 1) = false ∧ ((c : Int) == 2) = true ∧ k + 1 + n ≤ s.size ∧ Hid (unp (s.extract 1 s.size).data.toList = (n, k, 0)) ∧ Hid (takeV s.data.toList = (⟨false, 0, (s.extract (k + 1) (k + 1 + n)).data.toList⟩, k + 1 + n, 0)))) := by
  have hlen : 0 < s.data.toList.length := by simp; omega
  obtain ⟨r, hr⟩ : ∃ r, s.data.toList = s[0] :: r := ⟨_, by rw [← List.drop_zero (l := s.data.toList), List.drop_eq_getElem_cons hlen]; rfl⟩
  have hx : (s.extract 1 s.size).data.toList = r := by
    rw [sub_str, ← len_str, List.take_length, hr]; rfl
  have hsz : s.size = r.length + 1 := by rw [← len_str, hr]; rfl
  have c1 : ∀ d : Nat, d < 256 → ((s[0].toNat = d) ↔ s[0] = UInt8.ofNat d) := fun d hd => by
    constructor
    · intro h; apply UInt8.toNat.inj; rw [h]; simp; omega
    · intro h; rw [h]; simp; omega
  refine ⟨s[0].toNat, s[0].toNat_lt, rfl, ?_⟩
  rw [hx]
  have T : takeV (s[0] :: r) = if s[0] ≠ 1 ∧ s[0] ≠ 2 then (V.zero, 0, 2)
      else if (unp r).2.2 ≠ 0 then (V.zero, 0, (unp r).2.2)
      else if s[0] = 1 then (⟨true, unfold_ (unp r).1, []⟩, (unp r).2.1 + 1, 0)
      else if 60 < (unp r).1 then (V.zero, 0, 2)
      else if (s[0] :: r).length < (unp r).2.1 + 1 + (unp r).1 then (V.zero, 0, 3)
      else (⟨false, 0, ((s[0] :: r).take ((unp r).2.1 + 1 + (unp r).1)).drop ((unp r).2.1 + 1)⟩, (unp r).2.1 + 1 + (unp r).1, 0) := rfl
  rw [← hr] at T
  have b11 : ((s[0].toNat : Int) == 1) = decide (s[0].toNat = 1) := by rw [Bool.eq_iff_iff]; simp; omega
  have b12 : ((s[0].toNat : Int) == 2) = decide (s[0].toNat = 2) := by rw [Bool.eq_iff_iff]; simp; omega
  rw [b11, b12]
  by_cases h1' : s[0] = 1
  · have e1 : s[0].toNat = 1 := by rw [h1']; rfl
    rw [e1]
    rw [if_neg (by simp [h1'])] at T
    rcases unp_err r with hu | hu | hu
    · have hu' : unp r = ((unp r).1, (unp r).2.1, 0) := by rw [← hu]
      rw [if_neg (by omega), if_pos h1'] at T
      obtain ⟨g1, g2, g3, g4, g5⟩ := unp_ok hu'
      exact .inr (.inr (.inr (.inl ⟨_, _, by omega, g4, by omega, by decide, hu', T⟩)))
    · rw [hu, if_pos (by simp)] at T
      exact .inr (.inl ⟨.inl (by decide), hu, T⟩)
    · rw [hu, if_pos (by simp)] at T
      exact .inr (.inr (.inl ⟨.inl (by decide), hu, T⟩))
  · by_cases h2' : s[0] = 2
    · have e2 : s[0].toNat = 2 := by rw [h2']; rfl
      rw [e2]
      rw [if_neg (by simp [h2'])] at T
      rcases unp_err r with hu | hu | hu
      · have hu' : unp r = ((unp r).1, (unp r).2.1, 0) := by rw [← hu]
        rw [if_neg (by omega), if_neg h1'] at T
        obtain ⟨g1, g2, g3, g4, g5⟩ := unp_ok hu'
        by_cases h60 : 60 < (unp r).1
        · rw [if_pos h60] at T
          exact .inr (.inr (.inr (.inr (.inl ⟨_, _, by omega, g4, by omega, by decide, by decide, h60, hu', T⟩))))
        · rw [if_neg h60, len_str] at T
          by_cases hl : s.size < (unp r).2.1 + 1 + (unp r).1
          · rw [if_pos hl] at T
            exact .inr (.inr (.inr (.inr (.inr (.inl ⟨_, _, by omega, g4, by omega, by decide, by decide, hl, hu', T⟩)))))
          · rw [if_neg hl, ← sub_str] at T
            exact .inr (.inr (.inr (.inr (.inr (.inr ⟨_, _, by omega, g4, by omega, by decide, by decide, by omega, hu', T⟩)))))
      · rw [hu, if_pos (by simp)] at T
        exact .inr (.inl ⟨.inr ⟨by decide, by decide⟩, hu, T⟩)
      · rw [hu, if_pos (by simp)] at T
        exact .inr (.inr (.inl ⟨.inr ⟨by decide, by decide⟩, hu, T⟩))
    · rw [if_pos ⟨h1', h2'⟩] at T
      refine .inl ⟨⟨?_, ?_⟩, T⟩
      · rw [decide_eq_false_iff_not, c1 1 (by decide)]; exact h1'
      · rw [decide_eq_false_iff_not, c1 2 (by decide)]; exact h2'
end Go.Proofs.YtmmdblpoecidaaaGreatDoor
namespace Go.Proofs.YtmmdblpoecidaaaGreatDoor
open Go.RowKit Tryst
set_option maxHeartbeats 400000
set_option maxRecDepth 20000
end Go.Proofs.YtmmdblpoecidaaaGreatDoor
