/- The walks of package num, and of its reference. -/
import Derived.Test.YtmagghfegikidaaDoorProg
import Derived.WalkKit
import Derived.WalkSpells
import Derived.WalkLawsBesides
import Derived.Lib.Hide
import Derived.Deep.RegionWith
import Derived.Test.YtmagghfegikidaaDoorPlain
import Derived.Test.YtmagghfegikidaaDoorBase
import Derived.Test.YtmagghfegikidaaDoorNumP
set_option linter.unusedVariables false
set_option linter.unusedSimpArgs false
namespace Go.Proofs.YtmagghfegikidaaDoor
open Go.RowKit Tryst
set_option maxHeartbeats 400000
set_option maxRecDepth 20000
theorem unp_cases (c k : Nat) : (128 ≤ c) ∨ (c < 128 ∧ ((c : Int) == 0) = true ∧ 0 < k ∧ Hid ((c = 0 ∧ 0 < k) ∨ (k = 9 ∧ 1 < c))) ∨
    (c < 128 ∧ ((c : Int) == 0) = false ∧ ((k : Int) == 9) = true ∧ 1 < c ∧ Hid ((c = 0 ∧ 0 < k) ∨ (k = 9 ∧ 1 < c))) ∨
    (c < 128 ∧ ((c : Int) == 0) = true ∧ k ≤ 0 ∧ ((k : Int) == 9) = false ∧ Hid (¬ ((c = 0 ∧ 0 < k) ∨ (k = 9 ∧ 1 < c)))) ∨
    (c < 128 ∧ ((c : Int) == 0) = false ∧ ((k : Int) == 9) = false ∧ Hid (¬ ((c = 0 ∧ 0 < k) ∨ (k = 9 ∧ 1 < c)))) ∨
    (c < 128 ∧ ((c : Int) == 0) = false ∧ ((k : Int) == 9) = true ∧ c ≤ 1 ∧ Hid (¬ ((c = 0 ∧ 0 < k) ∨ (k = 9 ∧ 1 < c)))) := by
  simp only [beq_iff_eq, beq_eq_false_iff_ne, ne_eq, Hid]
  omega
theorem unpack_c (s : ByteArray) (hs : s.size ≤ 1000000000) (w : World) :
    Calls Tryd.prog 33 #[.string s] w fun e w' => e = .returned (.tuple #[.int .u64 (unp s.data.toList).1, .int .i64 (unp s.data.toList).2.1, .int .i64 (unp s.data.toList).2.2]) ∧ w = w' := by
  go_enter Tryd.func33, Tryd.ntmps33
  by_cases hm : s.size ≤ 10
  all_goals
    go_wp2
    go_loop [5, 11] (fun n i => ∃ (k : Nat) (x : Int), k ≤ s.size ∧ k ≤ 10 ∧ i = .int .i64 k ∧ n = .int .u64 x ∧ UnpRel s.data.toList k x) (fun _ i => s.size - (intOf i).toNat)
    case atStart => exact ⟨0, 0, by omega, by omega, rfl, rfl, .start _⟩
    case round =>
      obtain ⟨k, x, hk, hk10, rfl, rfl, hu⟩ := hrel
      by_cases hlt : k < s.size ∧ k < 10
      · obtain ⟨hlt, hlt10⟩ := hlt
        obtain ⟨c, hc⟩ : ∃ c, s[k].toNat = c := ⟨_, rfl⟩
        have hcl : c < 256 := hc ▸ s[k].toNat_lt
        have A1 := Lib.hid (hu.step (by omega) (by simpa using hlt))
        have A2 := Lib.hid (hu.bad (by omega) (by simpa using hlt))
        have A3 := Lib.hid (hu.done (by omega) (by simpa using hlt))
        have e : s.data.toList[k]'(by simpa using hlt) = s[k] := rfl
        rw [e, hc] at A1 A2 A3
        clear e hu
        rcases unp_cases c k with h | ⟨h, h0, h1, H⟩ | ⟨h, h0, h1, h2, H⟩ | ⟨h, h0, h1, h2, H⟩ | ⟨h, h0, h1, H⟩ | ⟨h, h0, h1, h2, H⟩
        · go_wp2
          go_round
          case rel => exact ⟨k + 1, _, by omega, by omega, by go_num, rfl, A1.out h⟩
          case measure => simp [intOf]; omega
        · go_wp2; go_ret3; exact ⟨ret_eq (by rw [A2.out h H.out]; rfl), rfl⟩
        · go_wp2; go_ret3; exact ⟨ret_eq (by rw [A2.out h H.out]; rfl), rfl⟩
        all_goals
          obtain ⟨n, hn, hr⟩ := A3.out h H.out
          have hn' := Lib.hid hn; have hr' := Lib.hid hr
          clear hn hr A3 A1 A2
          go_wp2; go_ret3
          refine ⟨ret_eq ?_, rfl⟩
          rw [hr'.out]
          have := hn'.out
          first | (rw [this]; rfl) | (simp at this ⊢; simp [this])
      · by_cases h10 : k < 10
        · have hz : unp s.data.toList = (0, 0, 3) := hu.short (by simp; omega) (by omega)
          have HZ := Lib.hid hz
          clear hz
          go_wp2
          all_goals (go_ret3; exact ⟨ret_eq (by rw [HZ.out]; rfl), rfl⟩)
        · have hz : unp s.data.toList = (0, 0, 2) := hu.2 (by omega)
          have HZ := Lib.hid hz
          clear hz
          go_wp2
          all_goals (go_ret3; exact ⟨ret_eq (by rw [HZ.out]; rfl), rfl⟩)
theorem u8T : SliceOf Tryd.prog 48 5 1 1 := .mk' Tryd.underlying48 (z := .int .u8 0) (by kernel_rfl) rfl (by decide) (by decide)
theorem make10 (w : World) : (Instr.makeSlice 48 (.int .i64 0) (.int .i64 10)).run Tryd.prog w = .ok (.slice (some ⟨w.heap.size, 0, none⟩) 0 10) (w.alloc (.cells (Array.replicate 10 (.int .u8 0)) 5)) := by kernel_rfl
theorem pack_c (n : Nat) (hn : n ≤ 18446744073709551615) (w : World) :
    Calls Tryd.prog 28 #[.int .u64 n] w fun e w' => e = .returned (.string ⟨(pack n).toArray⟩) ∧ Below w.heap.size w w' := by
  have hmk := make10
  go_enter Tryd.func28, Tryd.ntmps28
  go_wp2
  clear hmk
  have hst := PackRel.start n (by omega)
  go_loopw [0, 3] (fun m v wr => ∃ (q : Nat) (pre : List UInt8), m = .int .u64 q ∧ q ≤ 18446744073709551615 ∧ PackRel n pre q ∧ wr.ownsRow w.heap.size 5 1 v pre.length (pre.map byteV) ∧ Below w.heap.size w wr) (fun m _ _ => (intOf m).toNat)
  case atStart => exact ⟨n, [], rfl, hn, hst, World.ownsRow_made _ _ _ (Nat.le_refl _) (by decide) rfl, (Below.refl _ _).alloc (Nat.le_refl _) _⟩
  case round =>
    obtain ⟨q, pre, rfl, hq, hr, hown, hb⟩ := hrel
    have hB := hb.size
    have HR := Lib.hid hr
    have hlen : pre.length ≤ 9 := hr.1
    clear hr hst
    by_cases h : 128 ≤ q
    · have hs := HR.out.step h
      have HS := Lib.hid hs
      have e := or128 q
      have E := Lib.hid e
      clear hs e
      go_wp2_with (at_builtin; refine wpList_app1 u8T rfl _ _ rfl w.heap.size _ _ _ rfl hown _ _ rfl rfl (by omega) hB ?_; intro v1 w1 hown1 hb1)
      go_roundw
      case rel =>
        rw [E.out] at hown1
        exact ⟨q / 128, _, by go_num, by omega, HS.out.2, by simpa [byteV] using hown1, hb.trans hb1⟩
      case measure => simp [intOf]; omega
    · have hd := Lib.hid (HR.out.done (by omega))
      have hw8 := Lib.hid (wrap8 q (by omega))
      go_wp2_with (at_builtin; refine wpList_app1 u8T rfl _ _ rfl w.heap.size _ _ _ rfl hown _ _ rfl rfl (by omega) hB ?_; intro v1 w1 hown1 hb1; have hcv := own_string (P := Tryd.prog) (l := pre ++ [UInt8.ofNat q]) 48 9 Tryd.underlying48 Tryd.underlying5 Tryd.underlying9 (by rw [hw8.out] at hown1; simpa [byteV] using hown1))
      go_ret
      exact ⟨ret_str hd.out.symm, hb.trans hb1⟩
theorem cv1 : ∀ (w : World) (g c : Nat), (cellNum (w.cell? ⟨g, 0, none⟩)).isSome = true → (convert 48 9 (.slice (some ⟨g, 0, none⟩) 1 c)).run Tryd.prog w = .ok (.string ⟨[UInt8.ofNat ((cellNum (w.cell? ⟨g, 0, none⟩)).getD 0).toNat].toArray⟩) w := conv1 Tryd.prog 48 5 9 Tryd.underlying48 Tryd.underlying5 Tryd.underlying9
theorem rpack_c (k : Nat) (hk : k ≤ 9) : ∀ (n : Int) (w : World), 0 ≤ n → n ≤ 18446744073709551615 → n.toNat < 128 ^ (k + 1) →
    Calls Tryd.prog 37 #[.int .u64 n] w fun e w' => e = .returned (.string ⟨(packF k n.toNat).toArray⟩) ∧ Below w.heap.size w w' := by
  induction k with
  | zero =>
    intro n w h0 h1 h2
    have h : n < 128 := by have : n.toNat < 128 := by simpa using h2
                           omega
    clear h2
    have hv := cv1
    have hn := cellNum_some
    go_enter Tryd.func37, Tryd.ntmps37
    go_wp2_with fail
    go_ret
    exact ⟨rfl, (Below.refl _ _).alloc (Nat.le_refl _) _⟩
  | succ k ih =>
    intro n w h0 h1 h2
    by_cases h : n < 128
    · have hv := cv1
      have hn := cellNum_some
      have e : packF (k + 1) n.toNat = [UInt8.ofNat n.toNat] := by rw [packF, if_pos (by omega)]
      have E := Lib.hid e
      clear ih h2 e
      go_enter Tryd.func37, Tryd.ntmps37
      go_wp2_with fail
      go_ret
      exact ⟨by rw [E.out]; rfl, (Below.refl _ _).alloc (Nat.le_refl _) _⟩
    · have hi : (n / 128).toNat < 128 ^ (k + 1) := by
        have : n.toNat / 128 < 128 ^ (k + 1) := (Nat.div_lt_iff_lt_mul (by decide)).2 (by rw [Nat.pow_succ] at h2; exact h2)
        have e : (n / 128).toNat = n.toNat / 128 := by omega
        omega
      have IH0 : (∀ (x : Int) (w : World), x = n / 128 → Calls Tryd.prog 37 #[.int .u64 x] w fun e w' => e = .returned (.string ⟨(packF k (n / 128).toNat).toArray⟩) ∧ Below w.heap.size w w') := by
        intro x w hx
        subst hx
        exact ih (by omega) (n / 128) w (by omega) (by omega) hi
      have IH := Lib.hid IH0
      clear IH0
      clear ih h2 hi
      have hv := cv1
      have hn := cellNum_some
      go_enter Tryd.func37, Tryd.ntmps37
      go_wp2_with fail
      have e : packF (k + 1) n.toNat = UInt8.ofNat (128 + n.toNat % 128) :: packF k (n / 128).toNat := by
        rw [packF, if_neg (by omega)]; congr 2; omega
      have E := Lib.hid e
      clear e
      go_region_with (go_at_call 37; refine (IH.out _ _ ?hx).mono ?_; (case hx => rw [IntKind.wrap_u64, Int.tdiv_eq_ediv_of_nonneg h0]; omega); rintro e w1 ⟨rfl, hb1⟩; have hc1 := bcell hb1; have hl : (packF k (n / 128).toNat).length ≤ 1000000 := by have := packF_length k (n / 128).toNat; omega)
      all_goals
        go_wp2
        go_ret
        refine ⟨?_, ?_⟩
        · rw [E.out]
          refine ret_eq ?_
          show Value.string _ = _
          rw [show (128 + n % 128).toNat = 128 + n.toNat % 128 by omega]
          exact congrArg Value.string (ByteArray.mk_append_mk [_] _)
        · repeat (first | exact Below.refl _ _ | assumption | refine bdrew ?_ | refine balloc _ ?_ | refine bstep (by assumption) ?_)

theorem rpackAll_c (n : Int) (w : World) (h0 : 0 ≤ n) (h1 : n ≤ 18446744073709551615) :
    Calls Tryd.prog 37 #[.int .u64 n] w fun e w' => e = .returned (.string ⟨(pack n.toNat).toArray⟩) ∧ Below w.heap.size w w' :=
  rpack_c 9 (by omega) n w h0 h1 (Nat.lt_of_lt_of_le (show n.toNat < 2 ^ 64 by omega) (by decide))
theorem packAll_c (n : Int) (w : World) (h0 : 0 ≤ n) (h1 : n ≤ 18446744073709551615) :
    Calls Tryd.prog 28 #[.int .u64 n] w fun e w' => e = .returned (.string ⟨(pack n.toNat).toArray⟩) ∧ Below w.heap.size w w' := by
  obtain ⟨m, rfl⟩ := Int.eq_ofNat_of_zero_le h0
  exact pack_c m (by omega) w

theorem fold_c (n : Int) (h0 : -9223372036854775808 ≤ n) (h1 : n ≤ 9223372036854775807) (w : World) :
    Calls Tryd.prog 29 #[.int .i64 n] w fun e w' => e = .returned (.int .u64 (fold n : Nat)) ∧ w = w' := by
  go_enter Tryd.func29, Tryd.ntmps29
  by_cases h : 0 ≤ n
  all_goals
    go_wp2
    go_ret
    exact ⟨ret_eq (congrArg (Value.int .u64) (by unfold fold; first | (rw [if_pos (by omega)]; omega) | (rw [if_neg (by omega)]; omega))), rfl⟩
theorem rfold_c (n : Int) (h0 : -9223372036854775808 ≤ n) (h1 : n ≤ 9223372036854775807) (w : World) :
    Calls Tryd.prog 38 #[.int .i64 n] w fun e w' => e = .returned (.int .u64 (fold n : Nat)) ∧ w = w' := by
  go_enter Tryd.func38, Tryd.ntmps38
  by_cases h : 0 ≤ n
  all_goals
    go_wp2
    go_ret
    exact ⟨ret_eq (congrArg (Value.int .u64) (by unfold fold; first | (rw [if_pos (by omega)]; omega) | (rw [if_neg (by omega)]; omega))), rfl⟩
theorem and1 (n : Int) (h0 : 0 ≤ n) (h1 : n ≤ 18446744073709551615) : bits BinOp.and IntKind.u64 n 1 = n % 2 := by
  have := u64_and n 1 h0 (by omega) (by decide) (by decide)
  rw [this, show (1 : Int).toNat = 1 from rfl, nat_mask1]
  omega
theorem unfold_c (n : Int) (h0 : 0 ≤ n) (h1 : n ≤ 18446744073709551615) (w : World) :
    Calls Tryd.prog 34 #[.int .u64 n] w fun e w' => e = .returned (.int .i64 (unfold_ n.toNat)) ∧ w = w' := by
  have ha := and1 n h0 h1
  go_enter Tryd.func34, Tryd.ntmps34
  by_cases h : n % 2 = 0
  · have hb : (n % 2 == 0) = true := by simpa using h
    have H := Lib.hid h
    clear h
    go_wp2
    go_ret
    have := H.out
    exact ⟨ret_eq (congrArg (Value.int .i64) (by unfold unfold_; rw [if_pos (by omega)]; omega)), rfl⟩
  · have hb : (n % 2 == 0) = false := by simpa using h
    have H := Lib.hid h
    clear h
    go_wp2
    go_ret
    have := H.out
    exact ⟨ret_eq (congrArg (Value.int .i64) (by unfold unfold_; rw [if_neg (by omega)]; omega)), rfl⟩
theorem runfold_c (n : Int) (h0 : 0 ≤ n) (h1 : n ≤ 18446744073709551615) (w : World) :
    Calls Tryd.prog 36 #[.int .u64 n] w fun e w' => e = .returned (.int .i64 (unfold_ n.toNat)) ∧ w = w' := by
  go_enter Tryd.func36, Tryd.ntmps36
  by_cases h : n % 2 = 0
  · have hb : (n % 2 == 0) = true := by simpa using h
    have H := Lib.hid h
    clear h
    go_wp2
    go_ret
    have := H.out
    exact ⟨ret_eq (congrArg (Value.int .i64) (by unfold unfold_; rw [if_pos (by omega)]; omega)), rfl⟩
  · have hb : (n % 2 == 0) = false := by simpa using h
    have H := Lib.hid h
    clear h
    go_wp2
    go_ret
    have := H.out
    exact ⟨ret_eq (congrArg (Value.int .i64) (by unfold unfold_; rw [if_neg (by omega)]; omega)), rfl⟩
set_option maxHeartbeats 4000000 in
theorem runpack_c (s : ByteArray) (hs : s.size ≤ 1000000000) (w : World) :
    Calls Tryd.prog 35 #[.string s] w fun e w' => e = .returned (.tuple #[.int .u64 (unp s.data.toList).1, .int .i64 (unp s.data.toList).2.1, .int .i64 (unp s.data.toList).2.2]) ∧ Below w.heap.size w w' := by
  go_enter Tryd.func35, Tryd.ntmps35
  go_wp2
  go_loop [5] (fun i => ∃ (k : Nat), k ≤ s.size ∧ k ≤ 10 ∧ i = .int .i64 k ∧ Lead s.data.toList k) (fun i => s.size - (intOf i).toNat)
  case atStart => exact ⟨0, by omega, by omega, rfl, .start _⟩
  case round =>
    obtain ⟨k, hk, hk10, rfl, hu⟩ := hrel
    by_cases hlt : k < s.size
    · obtain ⟨c, hc⟩ : ∃ c, s[k].toNat = c := ⟨_, rfl⟩
      have hcl : c < 256 := hc ▸ s[k].toNat_lt
      have hlt' : k < s.data.toList.length := by simpa using hlt
      have A1 := Lib.hid (fun h => hu.step h hlt')
      have A2 := Lib.hid (fun h => hu.nine h hlt')
      have A3 := Lib.hid (fun h => hu.done h hlt')
      have A4 := Lib.hid (fun h => hu.ten h)
      have A5 := Lib.hid (fun h => hu.val_lt h hlt')
      have A6 := Lib.hid (fun (j : Nat) (hj : j ≤ k) => hor_drop (j := j) hlt' hj)
      have e : s.data.toList[k] = s[k] := rfl
      rw [e, hc] at A1 A2 A3 A5
      clear e hu
      by_cases h10 : 10 ≤ k
      · have e10 : ((k : Int) == 9) = false := by simp; omega
        have Z := Lib.hid (A4.out h10)
        go_wp2
        all_goals (go_ret3; exact ⟨ret_eq (by rw [Z.out]; rfl), .refl _ _⟩)
      · by_cases hc8 : 128 ≤ c
        · go_wp2
          go_round
          case rel => exact ⟨k + 1, by omega, by omega, by go_num, A1.out (by omega) hc8⟩
          case measure => simp [intOf] <;> omega
        · have D : (((k : Int) == 9) = true ∧ 1 < c ∧ Hid (k = 9)) ∨ (((k : Int) == 9) = true ∧ c ≤ 1) ∨ (((k : Int) == 9) = false ∧ Hid (k ≠ 9)) := by simp [Hid]; omega
          rcases D with ⟨b9, h1, H9⟩ | D
          · have Z := Lib.hid (A2.out H9.out (by omega) h1)
            have h9 := H9.out
            have hx : ∃ h : 9 < s.size, s[9].toNat = c := by subst h9; exact ⟨hlt, hc⟩
            clear h9
            obtain ⟨h9', hx⟩ := hx
            go_wp2
            all_goals (go_ret3; exact ⟨ret_eq (by rw [Z.out]; rfl), .refl _ _⟩)
          · have F9 : Hid (k = 9 → c ≤ 1) := by
              rcases D with ⟨_, h1⟩ | ⟨_, h1⟩
              · exact fun _ => h1
              · exact fun h => absurd h h1.out
            have h9 := Lib.hid (show k ≤ 9 by omega)
            have D2 : (((k : Int) == 9) = true ∧ c ≤ 1 ∧ ∃ h : 9 < s.size, s[9].toNat = c) ∨ (((k : Int) == 9) = false ∧ True ∧ True) := by
              rcases D with ⟨b9, h1⟩ | ⟨b9, h1⟩
              · have e9 : k = 9 := by simp at b9; omega
                subst e9
                exact .inl ⟨b9, h1, hlt, hc⟩
              · exact .inr ⟨b9, trivial, trivial⟩
            clear D
            rcases D2 with ⟨b9, h1, hx⟩ | ⟨b9, h1, hx⟩
            all_goals
              have HX := Lib.hid hx
              clear hx
              first | (obtain ⟨h9', hx⟩ := HX.out) | skip
              go_wp2
              go_loop [6, 7] (fun n i => ∃ (j N : Nat), j ≤ k + 1 ∧ i = .int .i64 ((j : Int) - 1) ∧ n = .int .u64 N ∧ Hid (N = hor ((s.data.toList.take (k + 1)).drop j))) (fun _ i => (intOf i + 1).toNat)
              case atStart => exact ⟨k + 1, 0, by omega, by go_num, rfl, by unfold Hid; simp [hor]⟩
              case round =>
                obtain ⟨j, N, hj, rfl, rfl, hN⟩ := hrel
                cases j with
                | zero =>
                  have hN' := hN.out
                  rw [List.drop_zero] at hN'
                  have hlt9 := A5.out h9.out F9.out 0
                  rw [List.drop_zero, ← hN'] at hlt9
                  have hlt8 : (N : Int) ≤ 18446744073709551615 := by omega
                  have Z := A3.out h9.out (by omega) F9.out
                  rw [← hN'] at Z
                  have Z' := Lib.hid Z
                  have w1 : IntKind.i64.wrap ((k : Int) + 1) = (k : Int) + 1 := IntWalk.i64_in _ (by omega)
                  have w2 : ((k : Int) + 1).toNat = k + 1 := by omega
                  have w3 : (0 : Int) ≤ k + 1 := by omega
                  clear Z hN' hN hlt9 A1 A2 A3 A4 A5 A6
                  by_cases hp : pack N = s.data.toList.take (k + 1)
                  · have e : (pack N == (s.extract 0 (k + 1)).toList) = true := by
                      rw [str_toList, sub_str]; simpa using hp
                    have HP := Lib.hid hp
                    clear hp
                    go_wp2_with fail
                    go_region_with (go_at_call 37; refine (rpackAll_c _ _ (by omega) (by omega)).mono ?_; rintro e w1 ⟨rfl, hb1⟩)
                    all_goals
                      go_wp2
                      go_ret3
                      have ZZ := Z'.out
                      rw [if_pos HP.out] at ZZ
                      refine ⟨ret_eq (by rw [ZZ]; rfl), ?_⟩
                      repeat (first | exact Below.refl _ _ | assumption | refine bdrew ?_ | refine balloc _ ?_ | refine bstep (by assumption) ?_)
                  · have e : (pack N == (s.extract 0 (k + 1)).toList) = false := by
                      rw [str_toList, sub_str]; simpa using hp
                    have HP := Lib.hid hp
                    clear hp
                    go_wp2_with fail
                    go_region_with (go_at_call 37; refine (rpackAll_c _ _ (by omega) (by omega)).mono ?_; rintro e w1 ⟨rfl, hb1⟩)
                    all_goals
                      go_wp2
                      go_ret3
                      have ZZ := Z'.out
                      rw [if_neg HP.out] at ZZ
                      refine ⟨ret_eq (by rw [ZZ]; rfl), ?_⟩
                      repeat (first | exact Below.refl _ _ | assumption | refine bdrew ?_ | refine balloc _ ?_ | refine bstep (by assumption) ?_)
                | succ j =>
                  have hs1 := A6.out j (by omega)
                  have hb1 := A5.out h9.out F9.out j
                  have e : ∀ h, s.data.toList[j]'h = s[j]'(by simpa using h) := fun h => rfl
                  rw [e] at hs1
                  rw [← hN.out] at hs1
                  obtain ⟨M, hM⟩ : ∃ M, hor ((s.data.toList.take (k + 1)).drop j) = M := ⟨_, rfl⟩
                  rw [hM] at hs1 hb1
                  have HM := Lib.hid hM.symm
                  have HS := Lib.hid hs1
                  have hj1 : j < s.size := by omega
                  have hb2 : 128 * N ≤ 18446744073709551615 := by omega
                  have hb3 : 128 * N + (s[j]'hj1).toNat % 128 ≤ 18446744073709551615 := by omega
                  have e0 : ((j + 1 : Nat) : Int) - 1 = j := by omega
                  clear hM hs1 e hb1 hN A1 A2 A3 A4 A5 A6
                  go_wp2
                  go_round
                  case rel => exact ⟨j, M, by omega, rfl, congrArg (Value.int .u64) (by have := HS.out; omega), HM⟩
                  case measure => simp [intOf] <;> omega
    · have hke : k = s.data.toList.length := by simp; omega
      by_cases h10 : 10 ≤ k
      · have Z := Lib.hid (hu.ten h10)
        clear hke
        go_wp2
        all_goals (go_ret3; exact ⟨ret_eq (by rw [Z.out]; rfl), .refl _ _⟩)
      · have Z := Lib.hid (hu.short (by omega) hke)
        have hke' : k = s.size := by omega
        clear hke hu
        subst hke'
        go_wp2
        all_goals (go_ret3; exact ⟨ret_eq (by rw [Z.out]; rfl), .refl _ _⟩)
end Go.Proofs.YtmagghfegikidaaDoor
