/- The walks of val.Take. -/
import Derived.Test.YtfohdjgalmodbaaProg
import Derived.WalkKit
import Derived.WalkSpells
import Derived.WalkLawsBesides
import Derived.Lib.Hide
import Derived.Deep.RegionWith
import Derived.Test.YtfohdjgalmodbaaFacts
import Derived.Test.YtfohdjgalmodbaaVal1
import Derived.Test.YtfohdjgalmodbaaNum
import Derived.Test.YtfohdjgalmodbaaShelf
set_option linter.unusedVariables false
set_option linter.unusedSimpArgs false
namespace Go.Proofs.Ytfohdjgalmodbaa
open Go.RowKit Tryst
set_option maxHeartbeats 400000
set_option maxRecDepth 20000
theorem unpack_ok {s : ByteArray} (hs : s.size ≤ 1000000000) {n k : Nat} (h : unp s.data.toList = (n, k, 0)) (w : World) :
    Calls Try.prog 54 #[.string s] w fun e w' => e = .returned (.tuple #[.int .u64 n, .int .i64 k, .int .i64 0]) ∧ w = w' := by
  have := unpack_c s hs w
  rw [h] at this
  exact this
theorem unpack_form {s : ByteArray} (hs : s.size ≤ 1000000000) (h : unp s.data.toList = (0, 0, 2)) (w : World) :
    Calls Try.prog 54 #[.string s] w fun e w' => e = .returned (.tuple #[.int .u64 0, .int .i64 0, .int .i64 2]) ∧ w = w' := by
  have := unpack_c s hs w
  rw [h] at this
  exact this
theorem unpack_short {s : ByteArray} (hs : s.size ≤ 1000000000) (h : unp s.data.toList = (0, 0, 3)) (w : World) :
    Calls Try.prog 54 #[.string s] w fun e w' => e = .returned (.tuple #[.int .u64 0, .int .i64 0, .int .i64 3]) ∧ w = w' := by
  have := unpack_c s hs w
  rw [h] at this
  exact this
theorem bne_f {x y : Int} (h : (x == y) = false) : (x != y) = true := by rw [bne, h]; rfl
theorem bne_t {x y : Int} (h : (x == y) = true) : (x != y) = false := by rw [bne, h]; rfl
/-- the ways of Take -/
theorem takeV_cases (s : ByteArray) (h1 : 1 ≤ s.size) : ∃ c : Nat, c < 256 ∧ s[0].toNat = c ∧
    (((((c : Int) == 1) = false ∧ ((c : Int) == 2) = false) ∧ Hid (takeV s.data.toList = (V.zero, 0, 2))) ∨
    ((((c : Int) == 1) = true ∨ (((c : Int) == 1) = false ∧ ((c : Int) == 2) = true)) ∧ Hid (unp (s.extract 1 s.size).data.toList = (0, 0, 2)) ∧ Hid (takeV s.data.toList = (V.zero, 0, 2))) ∨
    ((((c : Int) == 1) = true ∨ (((c : Int) == 1) = false ∧ ((c : Int) == 2) = true)) ∧ Hid (unp (s.extract 1 s.size).data.toList = (0, 0, 3)) ∧ Hid (takeV s.data.toList = (V.zero, 0, 3))) ∨
    (∃ n k : Nat, n ≤ 18446744073709551615 ∧ k ≤ 10 ∧ k + 1 ≤ s.size ∧ ((c : Int) == 1) = true ∧ Hid (unp (s.extract 1 s.size).data.toList = (n, k, 0)) ∧ Hid (takeV s.data.toList = (⟨true, unfold_ n, []⟩, k + 1, 0))) ∨
    (∃ n k : Nat, n ≤ 18446744073709551615 ∧ k ≤ 10 ∧ k + 1 ≤ s.size ∧ ((c : Int) == 1) = false ∧ ((c : Int) == 2) = true ∧ 60 < n ∧ Hid (unp (s.extract 1 s.size).data.toList = (n, k, 0)) ∧ Hid (takeV s.data.toList = (V.zero, 0, 2))) ∨
    (∃ n k : Nat, n ≤ 60 ∧ k ≤ 10 ∧ k + 1 ≤ s.size ∧ ((c : Int) == 1) = false ∧ ((c : Int) == 2) = true ∧ s.size < k + 1 + n ∧ Hid (unp (s.extract 1 s.size).data.toList = (n, k, 0)) ∧ Hid (takeV s.data.toList = (V.zero, 0, 3))) ∨
    (∃ n k : Nat, n ≤ 60 ∧ k ≤ 10 ∧ k + 1 ≤ s.size ∧ ((c : Int) == 1) = false ∧ ((c : Int) == 2) = true ∧ k + 1 + n ≤ s.size ∧ Hid (unp (s.extract 1 s.size).data.toList = (n, k, 0)) ∧ Hid (takeV s.data.toList = (⟨false, 0, (s.extract (k + 1) (k + 1 + n)).data.toList⟩, k + 1 + n, 0)))) := by
  have hlen : 0 < s.data.toList.length := by simp; omega
  obtain ⟨r, hr⟩ : ∃ r, s.data.toList = s[0] :: r := ⟨_, by rw [← List.drop_zero (l := s.data.toList), List.drop_eq_getElem_cons hlen]; rfl⟩
  have hx : (s.extract 1 s.size).data.toList = r := by
    rw [sub_str, ← len_str, List.take_length, hr]; rfl
  have hsz : s.size = r.length + 1 := by rw [← len_str, hr]; rfl
  have c1 : ∀ d : Nat, d < 256 → ((s[0].toNat = d) ↔ s[0] = UInt8.ofNat d) := fun d hd => by
    constructor
    · intro h; apply UInt8.toNat.inj; rw [h]; simp; omega
    · intro h; rw [h]; simp; omega
  refine ⟨s[0].toNat, s[0].toNat_lt, rfl, ?_⟩
  rw [hx]
  have T : takeV (s[0] :: r) = if s[0] ≠ 1 ∧ s[0] ≠ 2 then (V.zero, 0, 2)
      else if (unp r).2.2 ≠ 0 then (V.zero, 0, (unp r).2.2)
      else if s[0] = 1 then (⟨true, unfold_ (unp r).1, []⟩, (unp r).2.1 + 1, 0)
      else if 60 < (unp r).1 then (V.zero, 0, 2)
      else if (s[0] :: r).length < (unp r).2.1 + 1 + (unp r).1 then (V.zero, 0, 3)
      else (⟨false, 0, ((s[0] :: r).take ((unp r).2.1 + 1 + (unp r).1)).drop ((unp r).2.1 + 1)⟩, (unp r).2.1 + 1 + (unp r).1, 0) := rfl
  rw [← hr] at T
  have b11 : ((s[0].toNat : Int) == 1) = decide (s[0].toNat = 1) := by rw [Bool.eq_iff_iff]; simp; omega
  have b12 : ((s[0].toNat : Int) == 2) = decide (s[0].toNat = 2) := by rw [Bool.eq_iff_iff]; simp; omega
  rw [b11, b12]
  by_cases h1' : s[0] = 1
  · have e1 : s[0].toNat = 1 := by rw [h1']; rfl
    rw [e1]
    rw [if_neg (by simp [h1'])] at T
    rcases unp_err r with hu | hu | hu
    · have hu' : unp r = ((unp r).1, (unp r).2.1, 0) := by rw [← hu]
      rw [if_neg (by omega), if_pos h1'] at T
      obtain ⟨g1, g2, g3, g4, g5⟩ := unp_ok hu'
      exact .inr (.inr (.inr (.inl ⟨_, _, by omega, g4, by omega, by decide, hu', T⟩)))
    · rw [hu, if_pos (by simp)] at T
      exact .inr (.inl ⟨.inl (by decide), hu, T⟩)
    · rw [hu, if_pos (by simp)] at T
      exact .inr (.inr (.inl ⟨.inl (by decide), hu, T⟩))
  · by_cases h2' : s[0] = 2
    · have e2 : s[0].toNat = 2 := by rw [h2']; rfl
      rw [e2]
      rw [if_neg (by simp [h2'])] at T
      rcases unp_err r with hu | hu | hu
      · have hu' : unp r = ((unp r).1, (unp r).2.1, 0) := by rw [← hu]
        rw [if_neg (by omega), if_neg h1'] at T
        obtain ⟨g1, g2, g3, g4, g5⟩ := unp_ok hu'
        by_cases h60 : 60 < (unp r).1
        · rw [if_pos h60] at T
          exact .inr (.inr (.inr (.inr (.inl ⟨_, _, by omega, g4, by omega, by decide, by decide, h60, hu', T⟩))))
        · rw [if_neg h60, len_str] at T
          by_cases hl : s.size < (unp r).2.1 + 1 + (unp r).1
          · rw [if_pos hl] at T
            exact .inr (.inr (.inr (.inr (.inr (.inl ⟨_, _, by omega, g4, by omega, by decide, by decide, hl, hu', T⟩)))))
          · rw [if_neg hl, ← sub_str] at T
            exact .inr (.inr (.inr (.inr (.inr (.inr ⟨_, _, by omega, g4, by omega, by decide, by decide, by omega, hu', T⟩)))))
      · rw [hu, if_pos (by simp)] at T
        exact .inr (.inl ⟨.inr ⟨by decide, by decide⟩, hu, T⟩)
      · rw [hu, if_pos (by simp)] at T
        exact .inr (.inr (.inl ⟨.inr ⟨by decide, by decide⟩, hu, T⟩))
    · rw [if_pos ⟨h1', h2'⟩] at T
      refine .inl ⟨⟨?_, ?_⟩, T⟩
      · rw [decide_eq_false_iff_not, c1 1 (by decide)]; exact h1'
      · rw [decide_eq_false_iff_not, c1 2 (by decide)]; exact h2'
theorem take_c (s : ByteArray) (hs : s.size ≤ 1000000000) (w : World) :
    Calls Try.prog 55 #[.string s] w fun e w' => e = .returned (.tuple #[.agg #[.bool (takeV s.data.toList).1.num, .int .i64 (takeV s.data.toList).1.n, .string ⟨(takeV s.data.toList).1.s.toArray⟩], .int .i64 (takeV s.data.toList).2.1, .int .i64 (takeV s.data.toList).2.2]) ∧ Below w.heap.size w w' := by
  by_cases h0 : s.size = 0
  · have hz : s.toList.isEmpty = true := by rw [str_toList, List.isEmpty_iff, str_nil_iff]; exact h0
    have hl : s.data.toList = [] := (str_nil_iff s).2 h0
    rw [hl]
    clear h0 hl
    go_enter Try.func55, Try.ntmps55
    go_wp2_with fail
    exact bodyPost_ret (v := .tuple #[.agg #[.bool false, .int .i64 0, .string ⟨#[]⟩], .int .i64 0, .int .i64 3]) (by simp [results, Try.results55, go_sem]) rfl ⟨rfl, balloc _ (.refl _ _)⟩
  · have hz : s.toList.isEmpty = false := by
      rw [str_toList, Bool.eq_false_iff, ne_eq, List.isEmpty_iff, str_nil_iff]; exact h0
    have h1 : 1 ≤ s.size := by omega
    have hx : (s.extract 1 s.size).size ≤ 1000000000 := by simp; omega
    clear h0
    obtain ⟨c, hc8, hc, hways⟩ := takeV_cases s h1
    rcases hways with ⟨⟨b1, b2⟩, T⟩ | ⟨b1 | ⟨b1, b2⟩, U, T⟩ | ⟨b1 | ⟨b1, b2⟩, U, T⟩ | ⟨n, k, g1, g2, g3, b1, U, T⟩ | ⟨n, k, g1, g2, g3, b1, b2, g4, U, T⟩ | ⟨n, k, g1, g2, g3, b1, b2, g4, U, T⟩ | ⟨n, k, g1, g2, g3, b1, b2, g4, U, T⟩
    · have n1 := bne_f b1
      have n2 := bne_f b2
      go_enter Try.func55, Try.ntmps55
      go_wp2_with fail
      rw [T.out]
      exact bodyPost_ret (v := .tuple #[.agg #[.bool false, .int .i64 0, .string ⟨#[]⟩], .int .i64 0, .int .i64 2]) (by simp [results, Try.results55, go_sem]) rfl ⟨rfl, balloc _ (.refl _ _)⟩
    · have n1 := bne_t b1
      go_enter Try.func55, Try.ntmps55
      go_wp2_with (go_at_call 54; refine (unpack_form hx U.out _).mono ?_; rintro e w1 ⟨rfl, rfl⟩)
      rw [T.out]
      exact bodyPost_ret (v := .tuple #[.agg #[.bool false, .int .i64 0, .string ⟨#[]⟩], .int .i64 0, .int .i64 2]) (by simp [results, Try.results55, go_sem]) rfl ⟨rfl, balloc _ (.refl _ _)⟩
    · have n1 := bne_f b1
      have n2 := bne_t b2
      go_enter Try.func55, Try.ntmps55
      go_wp2_with (go_at_call 54; refine (unpack_form hx U.out _).mono ?_; rintro e w1 ⟨rfl, rfl⟩)
      rw [T.out]
      exact bodyPost_ret (v := .tuple #[.agg #[.bool false, .int .i64 0, .string ⟨#[]⟩], .int .i64 0, .int .i64 2]) (by simp [results, Try.results55, go_sem]) rfl ⟨rfl, balloc _ (.refl _ _)⟩
    · have n1 := bne_t b1
      go_enter Try.func55, Try.ntmps55
      go_wp2_with (go_at_call 54; refine (unpack_short hx U.out _).mono ?_; rintro e w1 ⟨rfl, rfl⟩)
      rw [T.out]
      exact bodyPost_ret (v := .tuple #[.agg #[.bool false, .int .i64 0, .string ⟨#[]⟩], .int .i64 0, .int .i64 3]) (by simp [results, Try.results55, go_sem]) rfl ⟨rfl, balloc _ (.refl _ _)⟩
    · have n1 := bne_f b1
      have n2 := bne_t b2
      go_enter Try.func55, Try.ntmps55
      go_wp2_with (go_at_call 54; refine (unpack_short hx U.out _).mono ?_; rintro e w1 ⟨rfl, rfl⟩)
      rw [T.out]
      exact bodyPost_ret (v := .tuple #[.agg #[.bool false, .int .i64 0, .string ⟨#[]⟩], .int .i64 0, .int .i64 3]) (by simp [results, Try.results55, go_sem]) rfl ⟨rfl, balloc _ (.refl _ _)⟩
    · have n1 := bne_t b1
      go_enter Try.func55, Try.ntmps55
      go_wp2_with (first | (go_at_call 54; refine (unpack_ok hx U.out _).mono ?_; rintro e w1 ⟨rfl, rfl⟩) | (go_at_call 63; refine (unfold_c _ (by omega) (by omega) _).mono ?_; rintro e w1 ⟨rfl, rfl⟩))
      rw [T.out]
      exact bodyPost_ret (v := .tuple #[.agg #[.bool true, .int .i64 (unfold_ n), .string ⟨#[]⟩], .int .i64 ((k : Int) + 1), .int .i64 0]) (by simp [results, Try.results55, go_sem]) rfl ⟨rfl, balloc _ (.refl _ _)⟩
    · have n1 := bne_f b1
      have n2 := bne_t b2
      go_enter Try.func55, Try.ntmps55
      go_wp2_with (go_at_call 54; refine (unpack_ok hx U.out _).mono ?_; rintro e w1 ⟨rfl, rfl⟩)
      rw [T.out]
      exact bodyPost_ret (v := .tuple #[.agg #[.bool false, .int .i64 0, .string ⟨#[]⟩], .int .i64 0, .int .i64 2]) (by simp [results, Try.results55, go_sem]) rfl ⟨rfl, balloc _ (.refl _ _)⟩
    · have n1 := bne_f b1
      have n2 := bne_t b2
      go_enter Try.func55, Try.ntmps55
      go_wp2_with (go_at_call 54; refine (unpack_ok hx U.out _).mono ?_; rintro e w1 ⟨rfl, rfl⟩)
      rw [T.out]
      exact bodyPost_ret (v := .tuple #[.agg #[.bool false, .int .i64 0, .string ⟨#[]⟩], .int .i64 0, .int .i64 3]) (by simp [results, Try.results55, go_sem]) rfl ⟨rfl, balloc _ (.refl _ _)⟩
    · have n1 := bne_f b1
      have n2 := bne_t b2
      go_enter Try.func55, Try.ntmps55
      go_wp2_with (go_at_call 54; refine (unpack_ok hx U.out _).mono ?_; rintro e w1 ⟨rfl, rfl⟩)
      rw [T.out]

      exact bodyPost_ret (v := .tuple #[.agg #[.bool false, .int .i64 0, .string (s.extract (k + 1) (k + 1 + n))], .int .i64 ((k : Int) + 1 + n), .int .i64 0]) (by simp [results, Try.results55, go_sem]) rfl ⟨rfl, balloc _ (.refl _ _)⟩
end Go.Proofs.Ytfohdjgalmodbaa
