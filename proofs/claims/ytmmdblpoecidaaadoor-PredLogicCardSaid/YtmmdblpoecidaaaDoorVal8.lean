/- The walk of val.number. -/
import Derived.Test.YtmmdblpoecidaaaDoorProg
import Derived.WalkKit
import Derived.WalkSpells
import Derived.WalkLawsBesides
import Derived.Lib.Hide
import Derived.Deep.RegionWith
import Derived.Test.YtmmdblpoecidaaaDoorFacts
import Derived.Test.YtmmdblpoecidaaaDoorNumV
import Derived.Test.YtmmdblpoecidaaaDoorVal4
import Derived.Test.YtmmdblpoecidaaaDoorVal5
import Derived.Test.YtmmdblpoecidaaaDoorVal6
import Derived.Test.YtmmdblpoecidaaaDoorVal7
import Derived.Test.YtmmdblpoecidaaaDoorShelf
import Derived.Test.YtmmdblpoecidaaaDoorDraws
set_option linter.unusedVariables false
set_option linter.unusedSimpArgs false
namespace Go.Proofs.YtmmdblpoecidaaaDoor
open Go.RowKit Tryst
set_option maxHeartbeats 400000
set_option maxRecDepth 20000
theorem digAt_ge (s : ByteArray) (i : Nat) (h : s.size ≤ i) : digAt s.data.toList i = false := by
  unfold digAt; rw [List.getElem?_eq_none (by simp; omega)]
theorem digAt_at (s : ByteArray) (i : Nat) (h : i < s.size) : digAt s.data.toList i = (decide (48 ≤ s[i].toNat) && decide (s[i].toNat ≤ 57)) := by
  unfold digAt
  rw [List.getElem?_eq_getElem (by simpa using h)]
  rfl
theorem digit_c (s : ByteArray) (hs : s.size ≤ 1000000) (i : Int) (h0 : 0 ≤ i) (h1 : i ≤ 2000000) (a : Addr) (w : World) (hc : w.cell? a = some (.string s)) :
    Calls Tryd.prog 114 #[.int .i64 i, .pointer (some a)] w fun e w' => e = .returned (.bool (digAt s.data.toList i.toNat)) ∧ w = w' := by
  obtain ⟨k, rfl⟩ := Int.eq_ofNat_of_zero_le h0
  rw [Int.toNat_natCast]
  by_cases hlt : k < s.size
  · have hd := digAt_at s k hlt
    have HD := Lib.hid hd
    clear hd
    obtain ⟨c, hcc⟩ : ∃ c, s[k].toNat = c := ⟨_, rfl⟩
    have hcl : c < 256 := hcc ▸ s[k].toNat_lt
    by_cases h48 : 48 ≤ c
    all_goals
      go_enter Tryd.func114, Tryd.ntmps114
      go_wp2
      go_ret
      refine ⟨ret_bool ?_, rfl⟩
      rw [HD.out, hcc]
      first | (simp; done) | (simp; omega) | (rw [Bool.eq_iff_iff]; simp; omega)
  · have hd := digAt_ge s k (by omega)
    have HD := Lib.hid hd
    clear hd
    go_enter Tryd.func114, Tryd.ntmps114
    go_wp2
    go_ret
    exact ⟨ret_bool HD.out.symm, rfl⟩
theorem wrapneg (q : Nat) (h : q ≤ 9223372036854775808) : wrap64 (-wrap64 (q : Int)) = -(q : Int) := by
  unfold wrap64; omega
/-- the ways of number, but for its loop -/
theorem number_ways (s : ByteArray) (h : 1 ≤ s.size) : ∃ c : Nat, c < 256 ∧ s[0].toNat = c ∧
    ((Hid (Lib.hasPrefix s.data.toList [45] = true) ∧ Hid (digAt s.data.toList 1 = false) ∧ Hid (numberL s.data.toList = (0, 0))) ∨
    (Hid (Lib.hasPrefix s.data.toList [45] = true) ∧ Hid (digAt s.data.toList 1 = true) ∧ ∃ (h' : 1 < s.size) (d : Nat), d < 256 ∧ s[1].toNat = d ∧ ((d : Int) == 48) = true ∧ Hid (numberL s.data.toList = (0, 0))) ∨
    (Hid (Lib.hasPrefix s.data.toList [45] = true) ∧ Hid (digAt s.data.toList 1 = true) ∧ ∃ (h' : 1 < s.size) (d : Nat), d < 256 ∧ s[1].toNat = d ∧ ((d : Int) == 48) = false ∧ Hid (∀ v k, scan 9223372036854775808 0 (s.data.toList.drop 1) = (v, k) → numberL s.data.toList = (-(v : Int), k + 1))) ∨
    (Hid (Lib.hasPrefix s.data.toList [45] = false) ∧ Hid (digAt s.data.toList 0 = false) ∧ Hid (numberL s.data.toList = (0, 0))) ∨
    (Hid (Lib.hasPrefix s.data.toList [45] = false) ∧ Hid (digAt s.data.toList 0 = true) ∧ ((c : Int) == 48) = true ∧ Hid (numberL s.data.toList = (0, 1))) ∨
    (Hid (Lib.hasPrefix s.data.toList [45] = false) ∧ Hid (digAt s.data.toList 0 = true) ∧ ((c : Int) == 48) = false ∧ Hid (∀ v k, scan 9223372036854775807 0 (s.data.toList.drop 0) = (v, k) → numberL s.data.toList = ((v : Int), k + 0)))) := by
  have hlen : 0 < s.data.toList.length := by simp; omega
  obtain ⟨r, hr⟩ : ∃ r, s.data.toList = s[0] :: r := ⟨_, by rw [← List.drop_zero (l := s.data.toList), List.drop_eq_getElem_cons hlen]; rfl⟩
  have hg1 : ∀ h' : 1 < s.size, ∃ t, r = s[1] :: t := fun h' => by
    have hlen1 : 1 < s.data.toList.length := by simpa using h'
    have : r = s.data.toList.drop 1 := by rw [hr]; rfl
    rw [this, List.drop_eq_getElem_cons hlen1]
    exact ⟨_, rfl⟩
  have hsz : s.size = r.length + 1 := by rw [← len_str, hr]; rfl
  refine ⟨s[0].toNat, s[0].toNat_lt, rfl, ?_⟩
  generalize hx : s[0] = x at *
  rw [hr]
  by_cases h45 : x.toNat = 45
  · have e45 : x = 45 := UInt8.toNat.inj (by rw [h45]; rfl)
    have hp : Lib.hasPrefix (x :: r) [45] = true := by rw [e45]; rfl
    cases r with
    | nil => exact .inl ⟨hp, rfl, by unfold Hid numberL; simp [h45]⟩
    | cons d r' =>
      have h1 : 1 < s.size := by rw [hsz]; simp
      obtain ⟨t, ht⟩ := hg1 h1
      have hd1 : s[1] = d := (List.cons.inj ht).1.symm
      by_cases hd : isDig d = true
      · have hdg : digAt (x :: d :: r') 1 = true := hd
        by_cases h48 : d.toNat = 48
        · exact .inr (.inl ⟨hp, hdg, h1, d.toNat, d.toNat_lt, by rw [hd1], by rw [h48]; rfl, by unfold Hid numberL; simp [h45, h48]⟩)
        · refine .inr (.inr (.inl ⟨hp, hdg, h1, d.toNat, d.toNat_lt, by rw [hd1], by simp; omega, fun v k hv => ?_⟩))
          unfold numberL
          simp only [h45, if_true]
          rw [if_neg (by simp [hd, h48])]
          have : (x :: d :: r').drop 1 = d :: r' := rfl
          rw [this] at hv
          rw [hv]
      · refine .inl ⟨hp, by unfold Hid digAt; simpa using hd, ?_⟩
        unfold Hid numberL
        simp only [h45, if_true]
        rw [if_pos (.inl hd)]
  · have hp : Lib.hasPrefix (x :: r) [45] = false := by
      have : (45 : UInt8) ≠ x := fun e => h45 (by rw [← e]; rfl)
      simp [Lib.hasPrefix, List.isPrefixOf, this]
    by_cases hd : isDig x = true
    · have hdg : digAt (x :: r) 0 = true := hd
      by_cases h48 : x.toNat = 48
      · refine .inr (.inr (.inr (.inr (.inl ⟨hp, hdg, by rw [h48]; rfl, ?_⟩))))
        unfold Hid numberL
        simp [h48, hd]
      · refine .inr (.inr (.inr (.inr (.inr ⟨hp, hdg, by simp; omega, fun v k hv => ?_⟩))))
        rw [List.drop_zero] at hv
        unfold numberL
        simp [h48, h45, hd, hv]
    · refine .inr (.inr (.inr (.inl ⟨hp, by unfold Hid digAt; simpa using hd, ?_⟩)))
      unfold Hid numberL
      simp [h45, hd]
set_option maxHeartbeats 4000000 in
theorem number_c (s : ByteArray) (hs : s.size ≤ 1000000) (w : World) :
    Calls Tryd.prog 101 #[.string s] w fun e w' => e = .returned (.tuple #[.int .i64 (numberL s.data.toList).1, .int .i64 (numberL s.data.toList).2]) ∧ Below w.heap.size w w' := by
  by_cases h0 : s.size = 0
  · have hl : s.data.toList = [] := (str_nil_iff s).2 h0
    have hz : numberL s.data.toList = (0, 0) := by rw [hl]; rfl
    have HZ := Lib.hid hz
    have hp : Lib.hasPrefix s.data.toList [45] = false := by rw [hl]; rfl
    have hd : digAt s.data.toList 0 = false := by rw [hl]; rfl
    have HP := Lib.hid hp
    have HD := Lib.hid hd
    clear hz hl hp hd
    go_enter Tryd.func101, Tryd.ntmps101
    go_wp2_with (first | (go_at_call 77; refine (Tryd.strings_HasPrefix _ _ _).mono ?_; rintro e w1 ⟨rfl, rfl⟩; rw [mk_str, HP.out]) | (go_at_call 114; refine (digit_c s hs _ (by omega) (by omega) _ _ ?hc).mono ?_; (case hc => simp); rintro e w1 ⟨rfl, rfl⟩; rw [show (0 : Int).toNat = 0 from rfl, HD.out]))
    go_ret2
    refine ⟨ret_eq (by rw [HZ.out]; rfl), ?_⟩
    (repeat (first | exact Below.refl _ _ | assumption | refine bdrew ?_ | refine balloc _ ?_ | refine bset _ (by simp) ?_ | refine bstep (by assumption) ?_ | refine Grow.below (by assumption) ?_ | refine Tryst2.Grow.below (by assumption) ?_))
  · have hpos : 1 ≤ s.size := by omega
    clear h0
    obtain ⟨c, hc8, hc, hw⟩ := number_ways s hpos
    rcases hw with ⟨HP, HD, Z⟩ | ⟨HP, HD, h1, d, hd8, hd, b1, Z⟩ | ⟨HP, HD, h1, d, hd8, hd, b1, HF⟩ | ⟨HP, HD, Z⟩ | ⟨HP, HD, b1, Z⟩ | ⟨HP, HD, b1, HF⟩
    · go_enter Tryd.func101, Tryd.ntmps101
      go_wp2_with (first | (go_at_call 77; refine (Tryd.strings_HasPrefix _ _ _).mono ?_; rintro e w1 ⟨rfl, rfl⟩; rw [mk_str, HP.out]) | (go_at_call 114; refine (digit_c s hs _ (by omega) (by omega) _ _ ?hc).mono ?_; (case hc => simp); rintro e w1 ⟨rfl, rfl⟩; rw [show (1 : Int).toNat = 1 from rfl, HD.out]))
      go_ret2
      refine ⟨ret_eq (by rw [Z.out]; rfl), ?_⟩
      (repeat (first | exact Below.refl _ _ | assumption | refine bdrew ?_ | refine balloc _ ?_ | refine bset _ (by simp) ?_ | refine bstep (by assumption) ?_ | refine Grow.below (by assumption) ?_ | refine Tryst2.Grow.below (by assumption) ?_))
    · go_enter Tryd.func101, Tryd.ntmps101
      go_wp2_with (first | (go_at_call 77; refine (Tryd.strings_HasPrefix _ _ _).mono ?_; rintro e w1 ⟨rfl, rfl⟩; rw [mk_str, HP.out]) | (go_at_call 114; refine (digit_c s hs _ (by omega) (by omega) _ _ ?hc).mono ?_; (case hc => simp); rintro e w1 ⟨rfl, rfl⟩; rw [show (1 : Int).toNat = 1 from rfl, HD.out]))
      go_ret2
      refine ⟨ret_eq (by rw [Z.out]; rfl), ?_⟩
      (repeat (first | exact Below.refl _ _ | assumption | refine bdrew ?_ | refine balloc _ ?_ | refine bset _ (by simp) ?_ | refine bstep (by assumption) ?_ | refine Grow.below (by assumption) ?_ | refine Tryst2.Grow.below (by assumption) ?_))
    · go_enter Tryd.func101, Tryd.ntmps101
      go_wp2_with (first | (go_at_call 77; refine (Tryd.strings_HasPrefix _ _ _).mono ?_; rintro e w1 ⟨rfl, rfl⟩; rw [mk_str, HP.out]) | (go_at_call 114; refine (digit_c s hs _ (by omega) (by omega) _ _ ?hc).mono ?_; (case hc => simp); rintro e w1 ⟨rfl, rfl⟩; rw [show (1 : Int).toNat = 1 from rfl, HD.out]))
      go_loop [6, 8] (fun i n => ∃ (k q : Nat), k ≤ s.size ∧ q ≤ 9223372036854775808 ∧ i = .int .i64 k ∧ n = .int .u64 q ∧ Hid (ScanRel 9223372036854775808 s.data.toList 1 k q)) (fun i _ => s.size - (intOf i).toNat)
      case atStart => exact ⟨1, 0, by omega, by omega, rfl, rfl, .start _ _ _ (by simp <;> omega)⟩
      case round =>
        obtain ⟨k, q, hk, hq, rfl, rfl, hr⟩ := hrel
        have hik : 1 ≤ k := hr.out.1
        by_cases hdg : digAt s.data.toList k = true
        · obtain ⟨hlt', hdd⟩ := digAt_lt hdg
          have hlt : k < s.size := by simpa using hlt'
          have hdd2 : isDig s[k] = true := hdd
          obtain ⟨c, hcc⟩ : ∃ c, s[k].toNat = c := ⟨_, rfl⟩
          have hcb : 48 ≤ c ∧ c ≤ 57 := by
            unfold isDig at hdd2
            rw [hcc] at hdd2
            simpa using hdd2
          obtain ⟨hc48, hc57⟩ := hcb
          have A1 := Lib.hid (hr.out.over hlt')
          have A2 := Lib.hid (hr.out.step (by decide) hlt' hdd)
          have e : s.data.toList[k] = s[k] := rfl
          rw [e, hcc] at A1 A2
          have HG := Lib.hid hdg
          clear e hdd hdd2 hdg hr
          by_cases ho : (9223372036854775808 - (c - 48)) / 10 < q
          · have Z := Lib.hid (A1.out ho)
            have hfin := Lib.hid (HF.out _ _ Z.out)
            clear A1 A2
            have ho' : ((9223372036854775808 : Int) - ((c : Int) - 48)) / 10 < q := by omega
            go_wp2_with (go_at_call 114; refine (digit_c s hs _ (by omega) (by omega) _ _ ?hc).mono ?_; (case hc => simp); rintro e w1 ⟨rfl, rfl⟩; rw [Int.toNat_natCast, HG.out])
            go_ret2
            refine ⟨ret_eq ?_, balloc _ (.refl _ _)⟩
            rw [hfin.out, show k - 1 + 1 = k by omega]
            show Value.tuple #[.int .i64 _, .int .i64 k] = _
            rw [wrapneg q (by omega)]
          · have Z := Lib.hid (A2.out ho)
            clear A1 A2
            have ho' : ¬ ((9223372036854775808 : Int) - ((c : Int) - 48)) / 10 < q := by omega
            have hq2 : (q : Int) * 10 + ((c : Int) - 48) ≤ 9223372036854775808 := by omega
            go_wp2_with (go_at_call 114; refine (digit_c s hs _ (by omega) (by omega) _ _ ?hc).mono ?_; (case hc => simp); rintro e w1 ⟨rfl, rfl⟩; rw [Int.toNat_natCast, HG.out])
            go_round
            case rel => exact ⟨k + 1, q * 10 + (c - 48), by omega, by omega, by go_num, congrArg (Value.int .u64) (by omega), Z.out⟩
            case measure => simp [intOf] <;> omega
        · have hdf : digAt s.data.toList k = false := by simpa using hdg
          have Z := Lib.hid (hr.out.done hdf)
          have hfin := Lib.hid (HF.out _ _ Z.out)
          have HG := Lib.hid hdf
          clear hdf hdg hr
          go_wp2_with (go_at_call 114; refine (digit_c s hs _ (by omega) (by omega) _ _ ?hc).mono ?_; (case hc => simp); rintro e w1 ⟨rfl, rfl⟩; rw [Int.toNat_natCast, HG.out])
          go_ret2
          refine ⟨ret_eq ?_, balloc _ (.refl _ _)⟩
          rw [hfin.out, show k - 1 + 1 = k by omega]
          show Value.tuple #[.int .i64 _, .int .i64 k] = _
          rw [wrapneg q (by omega)]
    · go_enter Tryd.func101, Tryd.ntmps101
      go_wp2_with (first | (go_at_call 77; refine (Tryd.strings_HasPrefix _ _ _).mono ?_; rintro e w1 ⟨rfl, rfl⟩; rw [mk_str, HP.out]) | (go_at_call 114; refine (digit_c s hs _ (by omega) (by omega) _ _ ?hc).mono ?_; (case hc => simp); rintro e w1 ⟨rfl, rfl⟩; rw [show (0 : Int).toNat = 0 from rfl, HD.out]))
      go_ret2
      refine ⟨ret_eq (by rw [Z.out]; rfl), ?_⟩
      (repeat (first | exact Below.refl _ _ | assumption | refine bdrew ?_ | refine balloc _ ?_ | refine bset _ (by simp) ?_ | refine bstep (by assumption) ?_ | refine Grow.below (by assumption) ?_ | refine Tryst2.Grow.below (by assumption) ?_))
    · go_enter Tryd.func101, Tryd.ntmps101
      go_wp2_with (first | (go_at_call 77; refine (Tryd.strings_HasPrefix _ _ _).mono ?_; rintro e w1 ⟨rfl, rfl⟩; rw [mk_str, HP.out]) | (go_at_call 114; refine (digit_c s hs _ (by omega) (by omega) _ _ ?hc).mono ?_; (case hc => simp); rintro e w1 ⟨rfl, rfl⟩; rw [show (0 : Int).toNat = 0 from rfl, HD.out]))
      go_ret2
      refine ⟨ret_eq (by rw [Z.out]; rfl), ?_⟩
      (repeat (first | exact Below.refl _ _ | assumption | refine bdrew ?_ | refine balloc _ ?_ | refine bset _ (by simp) ?_ | refine bstep (by assumption) ?_ | refine Grow.below (by assumption) ?_ | refine Tryst2.Grow.below (by assumption) ?_))
    · go_enter Tryd.func101, Tryd.ntmps101
      go_wp2_with (first | (go_at_call 77; refine (Tryd.strings_HasPrefix _ _ _).mono ?_; rintro e w1 ⟨rfl, rfl⟩; rw [mk_str, HP.out]) | (go_at_call 114; refine (digit_c s hs _ (by omega) (by omega) _ _ ?hc).mono ?_; (case hc => simp); rintro e w1 ⟨rfl, rfl⟩; rw [show (0 : Int).toNat = 0 from rfl, HD.out]))
      go_loop [6, 8] (fun i n => ∃ (k q : Nat), k ≤ s.size ∧ q ≤ 9223372036854775807 ∧ i = .int .i64 k ∧ n = .int .u64 q ∧ Hid (ScanRel 9223372036854775807 s.data.toList 0 k q)) (fun i _ => s.size - (intOf i).toNat)
      case atStart => exact ⟨0, 0, by omega, by omega, rfl, rfl, .start _ _ _ (by simp <;> omega)⟩
      case round =>
        obtain ⟨k, q, hk, hq, rfl, rfl, hr⟩ := hrel
        have hik : 0 ≤ k := hr.out.1
        by_cases hdg : digAt s.data.toList k = true
        · obtain ⟨hlt', hdd⟩ := digAt_lt hdg
          have hlt : k < s.size := by simpa using hlt'
          have hdd2 : isDig s[k] = true := hdd
          obtain ⟨c, hcc⟩ : ∃ c, s[k].toNat = c := ⟨_, rfl⟩
          have hcb : 48 ≤ c ∧ c ≤ 57 := by
            unfold isDig at hdd2
            rw [hcc] at hdd2
            simpa using hdd2
          obtain ⟨hc48, hc57⟩ := hcb
          have A1 := Lib.hid (hr.out.over hlt')
          have A2 := Lib.hid (hr.out.step (by decide) hlt' hdd)
          have e : s.data.toList[k] = s[k] := rfl
          rw [e, hcc] at A1 A2
          have HG := Lib.hid hdg
          clear e hdd hdd2 hdg hr
          by_cases ho : (9223372036854775807 - (c - 48)) / 10 < q
          · have Z := Lib.hid (A1.out ho)
            have hfin := Lib.hid (HF.out _ _ Z.out)
            clear A1 A2
            have ho' : ((9223372036854775807 : Int) - ((c : Int) - 48)) / 10 < q := by omega
            go_wp2_with (go_at_call 114; refine (digit_c s hs _ (by omega) (by omega) _ _ ?hc).mono ?_; (case hc => simp); rintro e w1 ⟨rfl, rfl⟩; rw [Int.toNat_natCast, HG.out])
            go_ret2
            refine ⟨ret_eq ?_, balloc _ (.refl _ _)⟩
            rw [hfin.out, show k - 0 + 0 = k by omega]
            show Value.tuple #[.int .i64 _, .int .i64 k] = _
            rfl
          · have Z := Lib.hid (A2.out ho)
            clear A1 A2
            have ho' : ¬ ((9223372036854775807 : Int) - ((c : Int) - 48)) / 10 < q := by omega
            have hq2 : (q : Int) * 10 + ((c : Int) - 48) ≤ 9223372036854775807 := by omega
            go_wp2_with (go_at_call 114; refine (digit_c s hs _ (by omega) (by omega) _ _ ?hc).mono ?_; (case hc => simp); rintro e w1 ⟨rfl, rfl⟩; rw [Int.toNat_natCast, HG.out])
            go_round
            case rel => exact ⟨k + 1, q * 10 + (c - 48), by omega, by omega, by go_num, congrArg (Value.int .u64) (by omega), Z.out⟩
            case measure => simp [intOf] <;> omega
        · have hdf : digAt s.data.toList k = false := by simpa using hdg
          have Z := Lib.hid (hr.out.done hdf)
          have hfin := Lib.hid (HF.out _ _ Z.out)
          have HG := Lib.hid hdf
          clear hdf hdg hr
          go_wp2_with (go_at_call 114; refine (digit_c s hs _ (by omega) (by omega) _ _ ?hc).mono ?_; (case hc => simp); rintro e w1 ⟨rfl, rfl⟩; rw [Int.toNat_natCast, HG.out])
          go_ret2
          refine ⟨ret_eq ?_, balloc _ (.refl _ _)⟩
          rw [hfin.out, show k - 0 + 0 = k by omega]
          show Value.tuple #[.int .i64 _, .int .i64 k] = _
          rfl
end Go.Proofs.YtmmdblpoecidaaaDoor
