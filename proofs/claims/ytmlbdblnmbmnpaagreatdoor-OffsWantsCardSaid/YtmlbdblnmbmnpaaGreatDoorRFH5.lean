/- ref05.form, May, Holds. -/
import Derived.Test.YtmlbdblnmbmnpaaGreatDoorProg
import Derived.WalkKit
import Derived.WalkSpells
import Derived.WalkLawsBesides
import Derived.Lib.Hide
import Derived.Deep.RegionWith
import Derived.Deep.Cut
import Derived.IntWalk
import Derived.Test.YtmlbdblnmbmnpaaGreatDoorRNS5
import Derived.Test.YtmlbdblnmbmnpaaGreatDoorRMeet5
import Derived.Test.YtmlbdblnmbmnpaaGreatDoorSamT
import Derived.Test.YtmlbdblnmbmnpaaGreatDoorHold5
import Derived.Test.YtmlbdblnmbmnpaaGreatDoorPuts4
set_option linter.unusedVariables false
set_option linter.unusedSimpArgs false
namespace Go.Proofs.YtmlbdblnmbmnpaaGreatDoor
open Go.RowKit Tryst
set_option maxHeartbeats 4000000
set_option maxRecDepth 20000
theorem nil_size {s : ByteArray} : s.toList = [] ↔ s.size = 0 := by
 rw [str_toList]
 constructor
 ·
  intro h
  rw [← len_str, h]
  rfl
 ·
  intro h
  exact List.eq_nil_of_length_eq_zero (by rw [len_str]; exact h)
theorem rform_c : ∀ (d : Nat) (x : PB), d ≤ 8 → ∀ w, PO w x → Calls Tryz.prog 88 #[x.agg, .int .i64 d] w fun e w' => e = .returned (.bool (formP x.pr d)) ∧ Below w.heap.size w w' := by
  intro d
  induction d with
  | zero =>
    intro x _ w hx
    obtain ⟨op, s, num, n, vs, a, c, l⟩ := x
    have HH := Lib.hid (show formP (PB.mk op s num n vs a c l).pr 0 = false by rw [PB.pr, formP]; simp)
    rw [HH.out]
    unfold PB.agg
    simp only [PB.op, PB.s, PB.num, PB.n, PB.vs, PB.a, PB.c, PB.l]
    go_enter Tryz.func88, Tryz.ntmps88
    go_wp2_with fail
    all_goals
      go_ret
      exact ⟨rfl, by repeat (first | exact Below.refl _ _ | refine bdrew ?_ | refine balloc _ ?_)⟩
  | succ d ih =>
    intro x hd w hx
    obtain ⟨op, s, num, n, vs, a, c, l⟩ := x
    obtain ⟨⟨-, hs, hvs, hl⟩, -, hrow, hel⟩ := PO.parts hx
    have HRW := Lib.hid hrow
    have HEL := Lib.hid hel
    have HIH := Lib.hid ih
    have HH := Lib.hid (show formP (PB.mk op s num n vs a c l).pr (d + 1) = (aloneB op s num n vs l.length && formL (PB.prs l) d) by rw [PB.pr, formP, PB.prs_len]; simp)
    obtain ⟨R, hR⟩ : ∃ R, formP (PB.mk op s num n vs a c l).pr (d + 1) = R := ⟨_, rfl⟩
    rw [hR] at HH ⊢
    clear hR hx hrow hel ih
    unfold PB.agg
    simp only [PB.op, PB.s, PB.num, PB.n, PB.vs, PB.a, PB.c, PB.l]
    go_enter Tryz.func88, Tryz.ntmps88
    go_upto_region 1 with fail
    refine wp_genC (fun v => Hid (BX v w.heap.size op s num n vs (.slice a l.length c)) ∧ Hid (Below w.heap.size w v)) ⟨BX.new w op s num n vs (.slice a l.length c), balloc _ (.refl _ _)⟩ ?_
    rintro Y ⟨HX, HB⟩
    obtain ⟨B, hB⟩ : ∃ B, w.heap.size = B := ⟨_, rfl⟩
    rw [hB] at HX ⊢
    obtain ⟨x0, x1, x2, x3, x4, x5, x6⟩ := HX.out.box
    obtain ⟨nb, hnb⟩ : ∃ nb, noV num n vs = nb := ⟨_, rfl⟩
    have HNB := Lib.hid hnb
    rw [show ((d + 1 : Nat) : Int) = (d : Int) + 1 by omega]
    generalize (Value.agg #[.string op, .string s, .bool num, .int .i64 n, .string vs, .slice a l.length c]) = A0
    go_cut [5] from 6 to 9 (fun u wx => u = .bool nb ∧ wx = Y)
    case first =>
      go_wp2_with fail
      all_goals
        go_meet
      all_goals
        refine And.intro ?_ rfl
        rw [HNB.out.symm]
        first
          | (have e : vs.size = 0 := nil_size.1 (by assumption)
             simp only [noV, e]
             simp [*])
          | (have e : ¬ vs.size = 0 := fun e => (by assumption : ¬ vs.toList = []) (nil_size.2 e)
             simp only [noV, e]
             simp [*])
          | (simp only [noV]
             simp [*])
    case rest =>
    obtain ⟨rfl, rfl⟩ := hcut
    clear hnb
    have yd : ¬ ((d : Int) + 1 = 0) := by omega
    rcases op_cases op with ⟨k, rfl⟩ | ⟨hop, q1, q2, q3, q4, q5, q6, q7, q8⟩
    rotate_left
    · have HR : Hid (R = false) := by
        show _ = _
        rw [HH.out]
        unfold aloneB
        rw [hop]
        rfl
      clear hop
      go_wp2_with fail
      go_ret
      exact ⟨ret_bool HR.out.symm, by first | exact HB.out | (rw [← hB]; exact HB.out)⟩
    have HA := Lib.hid (aloneB_at k s num n vs l.length)
    have hzs : (s.toList == []) = decide (s.size = 0) := by
      rw [Bool.eq_iff_iff]
      simp [nil_size]
    obtain ⟨sz, hsz⟩ : ∃ b, decide (s.size = 0) = b := ⟨_, rfl⟩
    rw [hsz] at hzs
    have HSZ := Lib.hid hsz
    clear hsz
    cases k with
    | all =>
      unfold Opk.text at x0 HX
      by_cases hl0 : l.length = 0
      all_goals
        have HL0 := Lib.hid hl0
        first | (have y2 : ((l.length : Int) == 0) = true := by rw [beq_iff_eq]; omega) | (have y2 : ((l.length : Int) == 0) = false := by rw [beq_eq_false_iff_ne]; omega)
        clear hl0
        cases sz <;> cases nb
        all_goals
          go_wp2_with fail
          go_ret
          refine ⟨ret_bool ?_, by first | exact HB.out | (rw [← hB]; exact HB.out)⟩
          rw [HH.out, HA.out]
          dsimp only [aloneK]
          rw [HSZ.out, HNB.out]
          have hl0 := HL0.out
          first | (rw [List.eq_nil_of_length_eq_zero hl0, PB.prs, formL]; rfl) | simp [hl0]
    | topic =>
      have HC := Lib.hid (fun W => rglob_c s (by omega) W)
      obtain ⟨gb, hgb⟩ : ∃ b, globB s.data.toList = b := ⟨_, rfl⟩
      rw [hgb] at HC
      have HG := Lib.hid hgb
      clear hgb hzs
      unfold Opk.text at x0 HX
      by_cases hl0 : l.length = 0
      all_goals
        have HL0 := Lib.hid hl0
        first | (have y2 : ((l.length : Int) == 0) = true := by rw [beq_iff_eq]; omega) | (have y2 : ((l.length : Int) == 0) = false := by rw [beq_eq_false_iff_ne]; omega)
        clear hl0
        go_wp2_with fail
        refine (HC.out _).mono ?_
        rintro e w1 ⟨rfl, hb1⟩
        have HB1 := Lib.hid (bstep hb1 HB.out)
        have HX1 := Lib.hid (HX.out.grow hb1)
        clear hb1 x0 x1 x2 x3 x4 x5 x6
        obtain ⟨x0, x1, x2, x3, x4, x5, x6⟩ := HX1.out.box
        cases gb <;> cases nb
        all_goals
          go_wp2_with fail
          go_ret
          refine ⟨ret_bool ?_, by first | exact HB1.out | (rw [← hB]; exact HB1.out)⟩
          rw [HH.out, HA.out]
          dsimp only [aloneK]
          rw [HG.out, HNB.out]
          have hl0 := HL0.out
          first | (rw [List.eq_nil_of_length_eq_zero hl0, PB.prs, formL]; rfl) | simp [hl0]
    | has =>
      have HC := Lib.hid (fun W => rfield_c s (by omega) W)
      obtain ⟨gb, hgb⟩ : ∃ b, fieldB s.data.toList = b := ⟨_, rfl⟩
      rw [hgb] at HC
      have HG := Lib.hid hgb
      clear hgb hzs
      unfold Opk.text at x0 HX
      by_cases hl0 : l.length = 0
      all_goals
        have HL0 := Lib.hid hl0
        first | (have y2 : ((l.length : Int) == 0) = true := by rw [beq_iff_eq]; omega) | (have y2 : ((l.length : Int) == 0) = false := by rw [beq_eq_false_iff_ne]; omega)
        clear hl0
        go_wp2_with fail
        refine (HC.out _).mono ?_
        rintro e w1 ⟨rfl, hb1⟩
        have HB1 := Lib.hid (bstep hb1 HB.out)
        have HX1 := Lib.hid (HX.out.grow hb1)
        clear hb1 x0 x1 x2 x3 x4 x5 x6
        obtain ⟨x0, x1, x2, x3, x4, x5, x6⟩ := HX1.out.box
        cases gb <;> cases nb
        all_goals
          go_wp2_with fail
          go_ret
          refine ⟨ret_bool ?_, by first | exact HB1.out | (rw [← hB]; exact HB1.out)⟩
          rw [HH.out, HA.out]
          dsimp only [aloneK]
          rw [HG.out, HNB.out]
          have hl0 := HL0.out
          first | (rw [List.eq_nil_of_length_eq_zero hl0, PB.prs, formL]; rfl) | simp [hl0]
    | eq =>
      have HC := Lib.hid (fun W => rfield_c s (by omega) W)
      obtain ⟨gb, hgb⟩ : ∃ b, fieldB s.data.toList = b := ⟨_, rfl⟩
      rw [hgb] at HC
      have HG := Lib.hid hgb
      have HV := Lib.hid (fun W => rmay_c num n vs (by omega) W)
      obtain ⟨mv, hmv⟩ : ∃ b, V.mayB ⟨num, n, vs.data.toList⟩ = b := ⟨_, rfl⟩
      rw [hmv] at HV
      have HGM := Lib.hid hmv
      clear hgb hmv hzs
      unfold Opk.text at x0 HX
      by_cases hl0 : l.length = 0
      all_goals
        have HL0 := Lib.hid hl0
        first | (have y2 : ((l.length : Int) == 0) = true := by rw [beq_iff_eq]; omega) | (have y2 : ((l.length : Int) == 0) = false := by rw [beq_eq_false_iff_ne]; omega)
        clear hl0
        go_wp2_with fail
        refine (HC.out _).mono ?_
        rintro e w1 ⟨rfl, hb1⟩
        have HB1 := Lib.hid (bstep hb1 HB.out)
        have HX1 := Lib.hid (HX.out.grow hb1)
        clear hb1 x0 x1 x2 x3 x4 x5 x6
        obtain ⟨x0, x1, x2, x3, x4, x5, x6⟩ := HX1.out.box
        cases gb
        · go_wp2_with fail
          go_ret
          refine ⟨ret_bool ?_, by first | exact HB1.out | (rw [← hB]; exact HB1.out)⟩
          rw [HH.out, HA.out]
          dsimp only [aloneK]
          rw [HG.out]
          simp
        · go_wp2_with fail
          refine (HV.out _).mono ?_
          rintro e w2 ⟨rfl, hb2⟩
          have HB2 := Lib.hid (bstep hb2 HB1.out)
          have HX2 := Lib.hid (HX1.out.grow hb2)
          clear hb2 x0 x1 x2 x3 x4 x5 x6
          obtain ⟨x0, x1, x2, x3, x4, x5, x6⟩ := HX2.out.box
          cases mv
          all_goals
            go_wp2_with fail
            go_ret
            refine ⟨ret_bool ?_, by first | exact HB2.out | (rw [← hB]; exact HB2.out)⟩
            rw [HH.out, HA.out]
            dsimp only [aloneK]
            rw [HG.out, HGM.out]
            have hl0 := HL0.out
            first | (rw [List.eq_nil_of_length_eq_zero hl0, PB.prs, formL]; rfl) | simp [hl0]
    | lt =>
      have HC := Lib.hid (fun W => rfield_c s (by omega) W)
      obtain ⟨gb, hgb⟩ : ∃ b, fieldB s.data.toList = b := ⟨_, rfl⟩
      rw [hgb] at HC
      have HG := Lib.hid hgb
      have HV := Lib.hid (fun W => rmay_c num n vs (by omega) W)
      obtain ⟨mv, hmv⟩ : ∃ b, V.mayB ⟨num, n, vs.data.toList⟩ = b := ⟨_, rfl⟩
      rw [hmv] at HV
      have HGM := Lib.hid hmv
      clear hgb hmv hzs
      unfold Opk.text at x0 HX
      by_cases hl0 : l.length = 0
      all_goals
        have HL0 := Lib.hid hl0
        first | (have y2 : ((l.length : Int) == 0) = true := by rw [beq_iff_eq]; omega) | (have y2 : ((l.length : Int) == 0) = false := by rw [beq_eq_false_iff_ne]; omega)
        clear hl0
        go_wp2_with fail
        refine (HC.out _).mono ?_
        rintro e w1 ⟨rfl, hb1⟩
        have HB1 := Lib.hid (bstep hb1 HB.out)
        have HX1 := Lib.hid (HX.out.grow hb1)
        clear hb1 x0 x1 x2 x3 x4 x5 x6
        obtain ⟨x0, x1, x2, x3, x4, x5, x6⟩ := HX1.out.box
        cases gb
        · go_wp2_with fail
          go_ret
          refine ⟨ret_bool ?_, by first | exact HB1.out | (rw [← hB]; exact HB1.out)⟩
          rw [HH.out, HA.out]
          dsimp only [aloneK]
          rw [HG.out]
          simp
        · go_wp2_with fail
          refine (HV.out _).mono ?_
          rintro e w2 ⟨rfl, hb2⟩
          have HB2 := Lib.hid (bstep hb2 HB1.out)
          have HX2 := Lib.hid (HX1.out.grow hb2)
          clear hb2 x0 x1 x2 x3 x4 x5 x6
          obtain ⟨x0, x1, x2, x3, x4, x5, x6⟩ := HX2.out.box
          cases mv
          all_goals
            go_wp2_with fail
            go_ret
            refine ⟨ret_bool ?_, by first | exact HB2.out | (rw [← hB]; exact HB2.out)⟩
            rw [HH.out, HA.out]
            dsimp only [aloneK]
            rw [HG.out, HGM.out]
            have hl0 := HL0.out
            first | (rw [List.eq_nil_of_length_eq_zero hl0, PB.prs, formL]; rfl) | simp [hl0]
    | not =>
      unfold Opk.text at x0 HX
      by_cases hl0 : l.length = 1
      · cases sz
        · have HL0 := Lib.hid hl0
          first | (have y2 : ((l.length : Int) == 1) = true := by rw [beq_iff_eq]; omega) | (have y2 : ((l.length : Int) == 1) = false := by rw [beq_eq_false_iff_ne]; omega)
          clear hl0
          go_wp2_with fail
          go_ret
          refine ⟨ret_bool ?_, by first | exact HB.out | (rw [← hB]; exact HB.out)⟩
          rw [HH.out, HA.out]
          dsimp only [aloneK]
          rw [HSZ.out, HNB.out]
          have hl0 := HL0.out
          simp [hl0]
        cases nb
        · have HL0 := Lib.hid hl0
          first | (have y2 : ((l.length : Int) == 1) = true := by rw [beq_iff_eq]; omega) | (have y2 : ((l.length : Int) == 1) = false := by rw [beq_eq_false_iff_ne]; omega)
          clear hl0
          go_wp2_with fail
          go_ret
          refine ⟨ret_bool ?_, by first | exact HB.out | (rw [← hB]; exact HB.out)⟩
          rw [HH.out, HA.out]
          dsimp only [aloneK]
          rw [HSZ.out, HNB.out]
          have hl0 := HL0.out
          simp [hl0]
        obtain ⟨y, rfl⟩ := List.length_eq_one_iff.1 hl0
        have HRR := Lib.hid (show R = formP y.pr d by
          rw [HH.out, HA.out]
          dsimp only [aloneK]
          rw [HSZ.out, HNB.out, PB.prs, PB.prs, formL, formL]
          simp)
        have RR := HRW.out.grow HB.out
        obtain ⟨rb, ro, rfl, -⟩ := RR.head (i := 0) (by simp)
        obtain ⟨_, rc⟩ := RR.at (i := 0) (by simp)
        have r0 := rc 0 (by omega)
        have r1 := rc 1 (by omega)
        have r2 := rc 2 (by omega)
        have r3 := rc 3 (by omega)
        have r4 := rc 4 (by omega)
        have r5 := rc 5 (by omega)
        simp [PB.cells] at r0 r1 r2 r3 r4 r5
        clear rc
        have HC := Lib.hid (HIH.out y (by omega) _ ((HEL.out y (by simp)).grow HB.out))
        obtain ⟨fy, hfy⟩ : ∃ b, formP y.pr d = b := ⟨_, rfl⟩
        rw [hfy] at HC HRR
        unfold PB.agg at HC
        clear RR hfy hl0
        go_wp2_with fail
        refine HC.out.mono ?_
        rintro e w1 ⟨rfl, hb1⟩
        have HB1 := Lib.hid (bstep hb1 HB.out)
        clear hb1 r0 r1 r2 r3 r4 r5 x0 x1 x2 x3 x4 x5 x6 HC
        go_wp2_with fail
        go_ret
        exact ⟨ret_bool HRR.out.symm, by first | exact HB1.out | (rw [← hB]; exact HB1.out)⟩
      · cases sz <;> cases nb
        all_goals
          have HL0 := Lib.hid hl0
          first | (have y2 : ((l.length : Int) == 1) = true := by rw [beq_iff_eq]; omega) | (have y2 : ((l.length : Int) == 1) = false := by rw [beq_eq_false_iff_ne]; omega)
          clear hl0
          go_wp2_with fail
          go_ret
          refine ⟨ret_bool ?_, by first | exact HB.out | (rw [← hB]; exact HB.out)⟩
          rw [HH.out, HA.out]
          dsimp only [aloneK]
          rw [HSZ.out, HNB.out]
          have hl0 := HL0.out
          simp [hl0]
    | and =>
      unfold Opk.text at x0 HX
      by_cases hl0 : l.length = 2
      · cases sz
        · have HL0 := Lib.hid hl0
          first | (have y2 : ((l.length : Int) == 2) = true := by rw [beq_iff_eq]; omega) | (have y2 : ((l.length : Int) == 2) = false := by rw [beq_eq_false_iff_ne]; omega)
          clear hl0
          go_wp2_with fail
          go_ret
          refine ⟨ret_bool ?_, by first | exact HB.out | (rw [← hB]; exact HB.out)⟩
          rw [HH.out, HA.out]
          dsimp only [aloneK]
          rw [HSZ.out, HNB.out]
          have hl0 := HL0.out
          simp [hl0]
        cases nb
        · have HL0 := Lib.hid hl0
          first | (have y2 : ((l.length : Int) == 2) = true := by rw [beq_iff_eq]; omega) | (have y2 : ((l.length : Int) == 2) = false := by rw [beq_eq_false_iff_ne]; omega)
          clear hl0
          go_wp2_with fail
          go_ret
          refine ⟨ret_bool ?_, by first | exact HB.out | (rw [← hB]; exact HB.out)⟩
          rw [HH.out, HA.out]
          dsimp only [aloneK]
          rw [HSZ.out, HNB.out]
          have hl0 := HL0.out
          simp [hl0]
        obtain ⟨y, z, rfl⟩ : ∃ y z, l = [y, z] := by
          match l, hl0 with
          | [y, z], _ => exact ⟨y, z, rfl⟩
        have HRR := Lib.hid (show R = (formP y.pr d && formP z.pr d) by
          rw [HH.out, HA.out]
          dsimp only [aloneK]
          rw [HSZ.out, HNB.out, PB.prs, PB.prs, PB.prs, formL, formL, formL]
          simp)
        have RR := HRW.out.grow HB.out
        obtain ⟨rb, ro, rfl, -⟩ := RR.head (i := 0) (by simp)
        obtain ⟨_, rc⟩ := RR.at (i := 0) (by simp)
        have r0 := rc 0 (by omega)
        have r1 := rc 1 (by omega)
        have r2 := rc 2 (by omega)
        have r3 := rc 3 (by omega)
        have r4 := rc 4 (by omega)
        have r5 := rc 5 (by omega)
        simp [PB.cells] at r0 r1 r2 r3 r4 r5
        clear rc
        have HC := Lib.hid (HIH.out y (by omega) _ ((HEL.out y (by simp)).grow HB.out))
        have HC2 := Lib.hid (fun W (hb : Below w.heap.size w W) => HIH.out z (by omega) W ((HEL.out z (by simp)).grow hb))
        obtain ⟨fy, hfy⟩ : ∃ b, formP y.pr d = b := ⟨_, rfl⟩
        obtain ⟨fz, hfz⟩ : ∃ b, formP z.pr d = b := ⟨_, rfl⟩
        rw [hfy] at HC HRR
        rw [hfz] at HC2 HRR
        unfold PB.agg at HC HC2
        clear RR hfy hfz hl0
        go_wp2_with fail
        refine HC.out.mono ?_
        rintro e w1 ⟨rfl, hb1⟩
        have HB1 := Lib.hid (bstep hb1 HB.out)
        have HX1 := Lib.hid (HX.out.grow hb1)
        clear hb1 r0 r1 r2 r3 r4 r5 x0 x1 x2 x3 x4 x5 x6 HC
        obtain ⟨x0, x1, x2, x3, x4, x5, x6⟩ := HX1.out.box
        cases fy
        · go_wp2_with fail
          go_ret
          exact ⟨ret_bool HRR.out.symm, by first | exact HB1.out | (rw [← hB]; exact HB1.out)⟩
        · have RR := HRW.out.grow HB1.out
          obtain ⟨_, rc⟩ := RR.at (i := 1) (by simp)
          have r0 := rc 0 (by omega)
          have r1 := rc 1 (by omega)
          have r2 := rc 2 (by omega)
          have r3 := rc 3 (by omega)
          have r4 := rc 4 (by omega)
          have r5 := rc 5 (by omega)
          simp [PB.cells] at r0 r1 r2 r3 r4 r5
          clear rc
          clear RR
          go_wp2_with fail
          refine (HC2.out _ HB1.out).mono ?_
          rintro e w2 ⟨rfl, hb2⟩
          have HB2 := Lib.hid (bstep hb2 HB1.out)
          clear hb2 r0 r1 r2 r3 r4 r5 x0 x1 x2 x3 x4 x5 x6 HC2
          go_wp2_with fail
          go_ret
          exact ⟨ret_bool HRR.out.symm, by first | exact HB2.out | (rw [← hB]; exact HB2.out)⟩
      · cases sz <;> cases nb
        all_goals
          have HL0 := Lib.hid hl0
          first | (have y2 : ((l.length : Int) == 2) = true := by rw [beq_iff_eq]; omega) | (have y2 : ((l.length : Int) == 2) = false := by rw [beq_eq_false_iff_ne]; omega)
          clear hl0
          go_wp2_with fail
          go_ret
          refine ⟨ret_bool ?_, by first | exact HB.out | (rw [← hB]; exact HB.out)⟩
          rw [HH.out, HA.out]
          dsimp only [aloneK]
          rw [HSZ.out, HNB.out]
          have hl0 := HL0.out
          simp [hl0]
    | or =>
      unfold Opk.text at x0 HX
      by_cases hl0 : l.length = 2
      · cases sz
        · have HL0 := Lib.hid hl0
          first | (have y2 : ((l.length : Int) == 2) = true := by rw [beq_iff_eq]; omega) | (have y2 : ((l.length : Int) == 2) = false := by rw [beq_eq_false_iff_ne]; omega)
          clear hl0
          go_wp2_with fail
          go_ret
          refine ⟨ret_bool ?_, by first | exact HB.out | (rw [← hB]; exact HB.out)⟩
          rw [HH.out, HA.out]
          dsimp only [aloneK]
          rw [HSZ.out, HNB.out]
          have hl0 := HL0.out
          simp [hl0]
        cases nb
        · have HL0 := Lib.hid hl0
          first | (have y2 : ((l.length : Int) == 2) = true := by rw [beq_iff_eq]; omega) | (have y2 : ((l.length : Int) == 2) = false := by rw [beq_eq_false_iff_ne]; omega)
          clear hl0
          go_wp2_with fail
          go_ret
          refine ⟨ret_bool ?_, by first | exact HB.out | (rw [← hB]; exact HB.out)⟩
          rw [HH.out, HA.out]
          dsimp only [aloneK]
          rw [HSZ.out, HNB.out]
          have hl0 := HL0.out
          simp [hl0]
        obtain ⟨y, z, rfl⟩ : ∃ y z, l = [y, z] := by
          match l, hl0 with
          | [y, z], _ => exact ⟨y, z, rfl⟩
        have HRR := Lib.hid (show R = (formP y.pr d && formP z.pr d) by
          rw [HH.out, HA.out]
          dsimp only [aloneK]
          rw [HSZ.out, HNB.out, PB.prs, PB.prs, PB.prs, formL, formL, formL]
          simp)
        have RR := HRW.out.grow HB.out
        obtain ⟨rb, ro, rfl, -⟩ := RR.head (i := 0) (by simp)
        obtain ⟨_, rc⟩ := RR.at (i := 0) (by simp)
        have r0 := rc 0 (by omega)
        have r1 := rc 1 (by omega)
        have r2 := rc 2 (by omega)
        have r3 := rc 3 (by omega)
        have r4 := rc 4 (by omega)
        have r5 := rc 5 (by omega)
        simp [PB.cells] at r0 r1 r2 r3 r4 r5
        clear rc
        have HC := Lib.hid (HIH.out y (by omega) _ ((HEL.out y (by simp)).grow HB.out))
        have HC2 := Lib.hid (fun W (hb : Below w.heap.size w W) => HIH.out z (by omega) W ((HEL.out z (by simp)).grow hb))
        obtain ⟨fy, hfy⟩ : ∃ b, formP y.pr d = b := ⟨_, rfl⟩
        obtain ⟨fz, hfz⟩ : ∃ b, formP z.pr d = b := ⟨_, rfl⟩
        rw [hfy] at HC HRR
        rw [hfz] at HC2 HRR
        unfold PB.agg at HC HC2
        clear RR hfy hfz hl0
        go_wp2_with fail
        refine HC.out.mono ?_
        rintro e w1 ⟨rfl, hb1⟩
        have HB1 := Lib.hid (bstep hb1 HB.out)
        have HX1 := Lib.hid (HX.out.grow hb1)
        clear hb1 r0 r1 r2 r3 r4 r5 x0 x1 x2 x3 x4 x5 x6 HC
        obtain ⟨x0, x1, x2, x3, x4, x5, x6⟩ := HX1.out.box
        cases fy
        · go_wp2_with fail
          go_ret
          exact ⟨ret_bool HRR.out.symm, by first | exact HB1.out | (rw [← hB]; exact HB1.out)⟩
        · have RR := HRW.out.grow HB1.out
          obtain ⟨_, rc⟩ := RR.at (i := 1) (by simp)
          have r0 := rc 0 (by omega)
          have r1 := rc 1 (by omega)
          have r2 := rc 2 (by omega)
          have r3 := rc 3 (by omega)
          have r4 := rc 4 (by omega)
          have r5 := rc 5 (by omega)
          simp [PB.cells] at r0 r1 r2 r3 r4 r5
          clear rc
          clear RR
          go_wp2_with fail
          refine (HC2.out _ HB1.out).mono ?_
          rintro e w2 ⟨rfl, hb2⟩
          have HB2 := Lib.hid (bstep hb2 HB1.out)
          clear hb2 r0 r1 r2 r3 r4 r5 x0 x1 x2 x3 x4 x5 x6 HC2
          go_wp2_with fail
          go_ret
          exact ⟨ret_bool HRR.out.symm, by first | exact HB2.out | (rw [← hB]; exact HB2.out)⟩
      · cases sz <;> cases nb
        all_goals
          have HL0 := Lib.hid hl0
          first | (have y2 : ((l.length : Int) == 2) = true := by rw [beq_iff_eq]; omega) | (have y2 : ((l.length : Int) == 2) = false := by rw [beq_eq_false_iff_ne]; omega)
          clear hl0
          go_wp2_with fail
          go_ret
          refine ⟨ret_bool ?_, by first | exact HB.out | (rw [← hB]; exact HB.out)⟩
          rw [HH.out, HA.out]
          dsimp only [aloneK]
          rw [HSZ.out, HNB.out]
          have hl0 := HL0.out
          simp [hl0]
end Go.Proofs.YtmlbdblnmbmnpaaGreatDoor
namespace Tryst
open Go
mutual
theorem nodesB_pr : ∀ x : PB, nodesB x = nodesP x.pr
 | .mk op s num n vs a c l => by rw [nodesB, PB.pr, nodesP, nodesBL_pr l]
theorem nodesBL_pr : ∀ l : List PB, nodesBL l = nodesL (PB.prs l)
 | [] => by rw [nodesBL, PB.prs, nodesL]
 | x :: r => by rw [nodesBL, PB.prs, nodesL, nodesB_pr x, nodesBL_pr r]
end
theorem form_nodes : ∀ (d : Nat) (p : Pr), formP p d = true → nodesP p + 1 ≤ 2 ^ d := by
 intro d
 induction d with
 | zero =>
  intro p h
  obtain ⟨op, s, num, n, vs, l⟩ := p
  rw [formP] at h
  simp at h
 | succ d ih =>
  intro p h
  obtain ⟨op, s, num, n, vs, l⟩ := p
  obtain ⟨k, rfl, h1, h2⟩ := form_at h
  have hl : l.length ≤ 2 := by
   cases k <;> simp only [aloneK, Bool.and_eq_true, decide_eq_true_eq] at h1 <;> omega
  rw [nodesP, Nat.pow_succ]
  have h0 : 1 ≤ 2 ^ d := Nat.one_le_two_pow
  match l, hl with
  | [], _ => rw [nodesL]; omega
  | [y], _ =>
   rw [formL, Bool.and_eq_true] at h2
   have := ih y h2.1
   rw [nodesL, nodesL]
   omega
  | [y, z], _ =>
   rw [formL, formL, Bool.and_eq_true, Bool.and_eq_true] at h2
   have := ih y h2.1
   have := ih z h2.2.1
   rw [nodesL, nodesL, nodesL]
   omega
end Tryst
namespace Go.Proofs.YtmlbdblnmbmnpaaGreatDoor
open Go.RowKit Tryst
set_option maxHeartbeats 2000000
set_option maxRecDepth 20000
theorem rmay5_c (x : PB) (w : World) (hx : PO w x) : Calls Tryz.prog 51 #[x.agg] w fun e w' => e = .returned (.bool (mayP x.pr)) ∧ Below w.heap.size w w' := by
 have HC := Lib.hid (fun W (hb : Below w.heap.size w W) => rform_c 8 x (by omega) W (hx.grow hb))
 have hN : formP x.pr 8 = true → nodesB x ≤ 255 := fun h => by
  have := form_nodes 8 _ h
  rw [nodesB_pr]
  omega
 have HC2 := Lib.hid (fun (h : nodesB x ≤ 255) W (hb : Below w.heap.size w W) => rnodes_c 255 x h (by omega) W (hx.grow hb))
 have HR := Lib.hid (mayP_eq x.pr)
 rw [← nodesB_pr] at HR
 obtain ⟨R, hR⟩ : ∃ R, mayP x.pr = R := ⟨_, rfl⟩
 obtain ⟨f, hf⟩ : ∃ f, formP x.pr 8 = f := ⟨_, rfl⟩
 obtain ⟨m, hm⟩ : ∃ m, nodesB x = m := ⟨_, rfl⟩
 rw [hR] at HR ⊢
 rw [hf] at HC HR hN
 rw [hm] at HC2 HR hN
 rw [show ((8 : Nat) : Int) = 8 from rfl] at HC
 have HN := Lib.hid hN
 clear hR hf hm hx hN
 obtain ⟨op, s, num, n, vs, a, c, l⟩ := x
 unfold PB.agg at HC HC2 ⊢
 simp only [PB.op, PB.s, PB.num, PB.n, PB.vs, PB.a, PB.c, PB.l] at HC HC2 ⊢
 go_enter Tryz.func51, Tryz.ntmps51
 go_upto_region 1 with fail
 refine wp_genC (fun v => Hid (BX v w.heap.size op s num n vs (.slice a l.length c)) ∧ Hid (Below w.heap.size w v)) ⟨BX.new w op s num n vs (.slice a l.length c), balloc _ (.refl _ _)⟩ ?_
 rintro Y ⟨HX, HB⟩
 obtain ⟨B, hB⟩ : ∃ B, w.heap.size = B := ⟨_, rfl⟩
 rw [hB] at HX ⊢
 obtain ⟨x0, x1, x2, x3, x4, x5, x6⟩ := HX.out.box
 go_wp2_with fail
 refine (HC.out _ HB.out).mono ?_
 rintro e w1 ⟨rfl, hb1⟩
 have HB1 := Lib.hid (bstep hb1 HB.out)
 have HX1 := Lib.hid (HX.out.grow hb1)
 clear hb1 x0 x1 x2 x3 x4 x5 x6 HX HB HC
 obtain ⟨x0, x1, x2, x3, x4, x5, x6⟩ := HX1.out.box
 cases f
 ·
  go_wp2_with fail
  go_ret
  exact ⟨ret_bool HR.out.symm, HB1.out⟩
 ·
  have h255 := HN.out rfl
  go_wp2_with fail
  refine (HC2.out h255 _ HB1.out).mono ?_
  rintro e w2 ⟨rfl, hb2⟩
  have HB2 := Lib.hid (bstep hb2 HB1.out)
  clear hb2 x0 x1 x2 x3 x4 x5 x6 HX1 HC2 HN
  by_cases h40 : m ≤ 40
  ·
   have q1 : (m : Int) ≤ 40 := by omega
   have HR2 := Lib.hid (show R = true by rw [HR.out]; simp [h40])
   clear HR h40
   go_wp2_with fail
   go_ret
   exact ⟨ret_bool (by simp [HR2.out, q1]), HB2.out⟩
  ·
   have q1 : ¬ (m : Int) ≤ 40 := by omega
   have HR2 := Lib.hid (show R = false by rw [HR.out]; simp [h40])
   clear HR h40
   go_wp2_with fail
   go_ret
   exact ⟨ret_bool (by simp [HR2.out, q1]), HB2.out⟩
end Go.Proofs.YtmlbdblnmbmnpaaGreatDoor
namespace Go.Proofs.YtmlbdblnmbmnpaaGreatDoor
open Go.RowKit Tryst
set_option maxHeartbeats 4000000
set_option maxRecDepth 20000
theorem rholds5_c (t p : ByteArray) (q : Int) (ea : Option Addr) (l : List FB) (ec : Nat) (ht : t.size ≤ 100000) (hl : l.length ≤ 1000000000) : ∀ (r : Nat) (x : PB), formP x.pr r = true → ∀ w, PO w x → Flds w ea l →
  Calls Tryz.prog 33 #[x.agg, .agg #[.string t, .string p, .int .u64 q, .slice ea l.length ec]] w fun e w' => e = .returned (.bool (holdsP t l x.pr)) ∧ Below w.heap.size w w' := by
 intro r
 induction r with
 | zero =>
  intro x hx
  obtain ⟨op, s, num, n, vs, a, c, ps⟩ := x
  rw [PB.pr, formP] at hx
  simp at hx
 | succ r ih =>
  intro x hx w hP hF
  obtain ⟨op, s, num, n, vs, a, c, ps⟩ := x
  rw [PB.pr] at hx
  obtain ⟨k, rfl, h1, h2⟩ := form_at hx
  rw [PB.prs_len] at h1
  obtain ⟨⟨-, hs, hvs, hps⟩, -, hrow, hel⟩ := PO.parts hP
  have HRW := Lib.hid hrow
  have HEL := Lib.hid hel
  have HIH := Lib.hid ih
  have HF := Lib.hid hF
  have HG := Lib.hid (fun W h => rget_c t p q ea ec l hl s W h)
  unfold vV at HG
  have HH := Lib.hid (show holdsP t l (PB.mk k.text s num n vs a c ps).pr = holdsP t l (.mk k.text s num n vs (PB.prs ps)) by rw [PB.pr])
  obtain ⟨R, hR⟩ : ∃ R, holdsP t l (PB.mk k.text s num n vs a c ps).pr = R := ⟨_, rfl⟩
  rw [hR] at HH ⊢
  obtain ⟨G, hG⟩ : ∃ G, (findB l s).getD FB.zero = G := ⟨_, rfl⟩
  obtain ⟨d, hd⟩ : ∃ d, (findB l s).isSome = d := ⟨_, rfl⟩
  have HGG := Lib.hid hG
  have HDD := Lib.hid hd
  rw [hG, hd] at HG
  clear hR hG hd hx hP hrow hel ih hF
  unfold PB.agg
  simp only [PB.op, PB.s, PB.num, PB.n, PB.vs, PB.a, PB.c, PB.l]
  go_enter Tryz.func33, Tryz.ntmps33
  go_upto_region 1 with fail
  refine wp_genC (fun v => Hid (BX v w.heap.size k.text s num n vs (.slice a ps.length c)) ∧ Hid (EAt v (w.heap.size + 1) t p q (.slice ea l.length ec)) ∧ Hid (Below w.heap.size w v)) ⟨(BX.new w k.text s num n vs (.slice a ps.length c)).grow (balloc _ (.refl _ _)), ?_, balloc _ (balloc _ (.refl _ _))⟩ ?_
  ·
   show EAt _ _ _ _ _ _
   constructor <;> simp [go_sem]
  rintro Y ⟨HX, HE, HB⟩
  obtain ⟨B, hB⟩ : ∃ B, w.heap.size = B := ⟨_, rfl⟩
  rw [hB] at HX HE ⊢
  obtain ⟨C, hCC⟩ : ∃ C, B + 1 = C := ⟨_, rfl⟩
  rw [hCC] at HE ⊢
  have hCY : C < Y.heap.size := (cell_lt HE.out.c0).1
  obtain ⟨x0, x1, x2, x3, x4, x5, x6⟩ := HX.out.box
  obtain ⟨e0, e1, e2, e3, e4, e5, e6, e7⟩ := HE.out
  go_wp2_with fail
  refine (HG.out _ (HF.out.grow HB.out)).mono ?_
  rintro e w1 ⟨rfl, hb1⟩
  have HX1 := Lib.hid (HX.out.grow hb1)
  have HE1 := Lib.hid (HE.out.grow hCY hb1)
  have HB1 := Lib.hid (bstep hb1 HB.out)
  clear hb1 x0 x1 x2 x3 x4 x5 x6 e0 e1 e2 e3 e4 e5 e6 e7 HX HE HB
  go_upto_region 2 with fail
  refine wp_genC (fun v => Hid (BX v B k.text s num n vs (.slice a ps.length c)) ∧ Hid (EAt v C t p q (.slice ea l.length ec)) ∧ Hid (VB3 v w1.heap.size G.num G.n G.s) ∧ Hid (Below w.heap.size w v)) ⟨HX1.out.grow (balloc _ (.refl _ _)), HE1.out.grow (cell_lt HE1.out.c0).1 (balloc _ (.refl _ _)), VB3.new w1 G.num G.n G.s 67, balloc _ HB1.out⟩ ?_
  clear HX1 HE1 HB1
  rintro Y ⟨HX, HE, HV, HB⟩
  generalize w1.heap.size = D at HV ⊢
  have hCY : C < Y.heap.size := (cell_lt HE.out.c0).1
  obtain ⟨x0, x1, x2, x3, x4, x5, x6⟩ := HX.out.box
  obtain ⟨e0, e1, e2, e3, e4, e5, e6, e7⟩ := HE.out
  obtain ⟨v0, v1, v2, v3⟩ := HV.out
  rw [holdsP, opk_text] at HH
  cases k with
  | all =>
   unfold Opk.text at x0 HX
   go_wp2_with fail
   go_ret
   exact ⟨ret_bool HH.out.symm, by first | exact HB.out | (rw [← hB]; exact HB.out)⟩
  | topic =>
   unfold Opk.text at x0 HX
   have HC := Lib.hid (fun W => rMeets_c s t (by omega) ht W)
   go_wp2_with fail
   refine (HC.out _).mono ?_
   rintro e w2 ⟨rfl, hb2⟩
   have HB2 := Lib.hid (bstep hb2 HB.out)
   clear hb2 HC
   go_wp2_with fail
   go_ret
   exact ⟨ret_bool HH.out.symm, by first | exact HB2.out | (rw [← hB]; exact HB2.out)⟩
  | has =>
   unfold Opk.text at x0 HX
   go_wp2_with fail
   go_ret
   exact ⟨ret_bool (by rw [HH.out, HDD.out]), by first | exact HB.out | (rw [← hB]; exact HB.out)⟩
  | eq =>
   unfold Opk.text at x0 HX
   have HE : Hid (R = (d && decide ((G.num = num ∧ G.n = n) ∧ G.s.toList = vs.toList))) := by
    show _ = _
    rw [HH.out]
    show eqB l s num n vs = _
    unfold eqB
    rw [HGG.out, HDD.out]
   cases d
   ·
    go_wp2_with fail
    go_ret
    exact ⟨ret_bool HE.out.symm, by first | exact HB.out | (rw [← hB]; exact HB.out)⟩
   ·
    go_wp2_with fail
    all_goals
     go_ret
     refine ⟨ret_bool ?_, by first | exact HB.out | (rw [← hB]; exact HB.out)⟩
     rw [HE.out]
     simp [*]
  | lt =>
   unfold Opk.text at x0 HX
   have HE : Hid (R = (d && (decide (G.num = num) && decide (V.order ⟨G.num, G.n, G.s.data.toList⟩ ⟨num, n, vs.data.toList⟩ < 0)))) := by
    show _ = _
    rw [HH.out]
    show ltB l s num n vs = _
    unfold ltB
    rw [HGG.out, HDD.out]
   cases d
   ·
    go_wp2_with fail
    go_ret
    exact ⟨ret_bool HE.out.symm, by first | exact HB.out | (rw [← hB]; exact HB.out)⟩
   ·
    obtain ⟨gn, hgn⟩ : ∃ v, G.num = v := ⟨_, rfl⟩
    rw [hgn] at HE v0 HV
    rw [hgn]
    rcases str_cases G.s vs with ⟨hl1, he1, HC1⟩ | ⟨hl1, he1, HC1⟩ | ⟨hl1, he1, HC1⟩
    all_goals
     cases gn <;> cases num
    all_goals
     have HL1 := Lib.hid hl1
     clear he1 hgn
     go_wp2_with fail
     go_ret
     refine ⟨ret_bool ?_, by first | exact HB.out | (rw [← hB]; exact HB.out)⟩
     rw [HE.out]
     have hc := HC1.out
     simp [V.order, hc]
     try ((repeat' split) <;> omega)
  | not =>
   unfold Opk.text at x0 HX
   simp only [aloneK, Bool.and_eq_true, decide_eq_true_eq] at h1
   obtain ⟨y, rfl⟩ := List.length_eq_one_iff.1 h1.2.2
   have hy : formP y.pr r = true := by simpa [formL, PB.prs] using h2
   have HRR := Lib.hid (show R = !(holdsP t l y.pr) by
    rw [HH.out, PB.prs, PB.prs]
    rfl)
   have HC := Lib.hid (fun W (hb : Below Y.heap.size Y W) => HIH.out y hy W ((HEL.out y (by simp)).grow (bstep hb HB.out)) (HF.out.grow (bstep hb HB.out)))
   have RR := HRW.out.grow HB.out
   obtain ⟨rb, ro, rfl, -⟩ := RR.head (i := 0) (by simp)
   obtain ⟨_, rc⟩ := RR.at (i := 0) (by simp)
   have r0 := rc 0 (by omega)
   have r1 := rc 1 (by omega)
   have r2 := rc 2 (by omega)
   have r3 := rc 3 (by omega)
   have r4 := rc 4 (by omega)
   have r5 := rc 5 (by omega)
   simp [PB.cells] at r0 r1 r2 r3 r4 r5
   clear rc
   clear RR
   have z5 : Y.cell? ⟨B, 5, none⟩ = some (.slice (some ⟨rb, ro, none⟩) 1 c) := x5
   clear x5 HX
   obtain ⟨fy, hfy⟩ : ∃ b, holdsP t l y.pr = b := ⟨_, rfl⟩
   rw [hfy] at HC HRR
   unfold PB.agg at HC
   clear hfy h1 h2
   go_upto_region 18 with fail
   refine Tryst2.wp_region_grows [.is (.pointer (some ⟨B, 5, none⟩)), .is (.slice (some ⟨rb, ro, none⟩) 1 c), .is (.pointer (some ⟨rb, ro, none⟩)), .is (.agg #[.string y.op, .string y.s, .bool y.num, .int .i64 y.n, .string y.vs, .slice y.a y.l.length y.c]), .is (.agg #[.string t, .string p, .int .u64 q, .slice ea l.length ec]), .is (.bool fy), .is (.bool !fy), .is (.bool !fy)] (by kernel_rfl) (by kernel_rfl) ?obl ?fin
   case obl =>
    simp only [YA, YL, YO, YR, Op.operands, Call.operands]
    repeat' apply And.intro
    any_goals trivial
    all_goals (intro tv w' hg hold hd; (try simp at hold); obtain ⟨hcg, hfg, hsg⟩ := YG hg)
    all_goals first | (go_simp; done) | (go_simp; rw [if_neg (by omega)]; exact ⟨.refl _, rfl⟩) | (obtain ⟨⟨g, hvg, hgg, hcell⟩, _⟩ := hd; have hcell0 := hcell 0 (by decide); simp at hcell0; go_simp; done) | (go_simp; go_at_call 33; (with_reducible refine (HC.out _ ?_).mono ?_); (exact Tryst2.Grow.below hg (.refl _ _)); rintro e w2 ⟨rfl, hb2⟩; exact ⟨hb2, rfl⟩)
   case fin =>
    intro tv w' hg hR
    simp only [YF, YL, YR] at hR
    obtain ⟨hcg, hfg, hsg⟩ := YG hg
    simp only [YP, YL, Act.put, hR]
    have HBG := Lib.hid (bstep (Tryst2.Grow.below hg (.refl Y.heap.size Y)) HB.out)
    clear hg hR hcg hfg hsg
    go_wp2_with fail
    go_ret
    exact ⟨ret_bool HRR.out.symm, by first | exact HBG.out | (rw [← hB]; exact HBG.out)⟩
  | and =>
   unfold Opk.text at x0 HX
   simp only [aloneK, Bool.and_eq_true, decide_eq_true_eq] at h1
   obtain ⟨y, z, rfl⟩ : ∃ y z, ps = [y, z] := by
    match ps, h1.2.2 with
    | [y, z], _ => exact ⟨y, z, rfl⟩
   have hy : formP y.pr r = true := by
    simp only [PB.prs, formL, Bool.and_eq_true] at h2
    exact h2.1
   have hz : formP z.pr r = true := by
    simp only [PB.prs, formL, Bool.and_eq_true] at h2
    exact h2.2.1
   have HRR := Lib.hid (show R = (holdsP t l y.pr && holdsP t l z.pr) by
    rw [HH.out, PB.prs, PB.prs, PB.prs]
    rfl)
   have HC := Lib.hid (fun W (hb : Below Y.heap.size Y W) => HIH.out y hy W ((HEL.out y (by simp)).grow (bstep hb HB.out)) (HF.out.grow (bstep hb HB.out)))
   have HC2 := Lib.hid (fun W (hb : Below Y.heap.size Y W) => HIH.out z hz W ((HEL.out z (by simp)).grow (bstep hb HB.out)) (HF.out.grow (bstep hb HB.out)))
   have RR := HRW.out.grow HB.out
   obtain ⟨rb, ro, rfl, -⟩ := RR.head (i := 0) (by simp)
   obtain ⟨_, rc⟩ := RR.at (i := 0) (by simp)
   have r0 := rc 0 (by omega)
   have r1 := rc 1 (by omega)
   have r2 := rc 2 (by omega)
   have r3 := rc 3 (by omega)
   have r4 := rc 4 (by omega)
   have r5 := rc 5 (by omega)
   simp [PB.cells] at r0 r1 r2 r3 r4 r5
   clear rc
   obtain ⟨_, rc⟩ := RR.at (i := 1) (by simp)
   have s0 := rc 0 (by omega)
   have s1 := rc 1 (by omega)
   have s2 := rc 2 (by omega)
   have s3 := rc 3 (by omega)
   have s4 := rc 4 (by omega)
   have s5 := rc 5 (by omega)
   simp [PB.cells] at s0 s1 s2 s3 s4 s5
   clear rc RR
   have z5 : Y.cell? ⟨B, 5, none⟩ = some (.slice (some ⟨rb, ro, none⟩) 2 c) := x5
   clear x5 HX
   obtain ⟨fy, hfy⟩ : ∃ b, holdsP t l y.pr = b := ⟨_, rfl⟩
   obtain ⟨fz, hfz⟩ : ∃ b, holdsP t l z.pr = b := ⟨_, rfl⟩
   rw [hfy] at HC HRR
   rw [hfz] at HC2 HRR
   unfold PB.agg at HC HC2
   clear hfy hfz h1 h2
   cases fy
   ·
    go_upto_region 20 with fail
    refine Tryst2.wp_region_grows [.is (.pointer (some ⟨B, 5, none⟩)), .is (.slice (some ⟨rb, ro, none⟩) 2 c), .is (.pointer (some ⟨rb, ro, none⟩)), .is (.agg #[.string y.op, .string y.s, .bool y.num, .int .i64 y.n, .string y.vs, .slice y.a y.l.length y.c]), .is (.agg #[.string t, .string p, .int .u64 q, .slice ea l.length ec]), .is (.bool false), .is (.bool false), .is undef, .is undef, .is undef, .is undef, .is undef, .is undef, .is (.bool false), .is (.bool false)] (by kernel_rfl) (by kernel_rfl) ?obl ?fin
    case obl =>
     simp only [YA, YL, YO, YR, Op.operands, Call.operands]
     repeat' apply And.intro
     any_goals trivial
     all_goals (intro tv w' hg hold hd; (try simp at hold); obtain ⟨hcg, hfg, hsg⟩ := YG hg)
     all_goals first | (go_simp; done) | (go_simp; rw [if_neg (by omega)]; exact ⟨.refl _, rfl⟩) | (obtain ⟨⟨g, hvg, hgg, hcell⟩, _⟩ := hd; have hcell0 := hcell 0 (by decide); simp at hcell0; go_simp; done) | (go_simp; go_at_call 33; (with_reducible refine (HC.out _ ?_).mono ?_); (exact Tryst2.Grow.below hg (.refl _ _)); rintro e w2 ⟨rfl, hb2⟩; exact ⟨hb2, rfl⟩)
    case fin =>
     intro tv w' hg hR
     simp only [YF, YL, YR] at hR
     obtain ⟨hcg, hfg, hsg⟩ := YG hg
     simp only [YP, YL, Act.put, hR]
     have HBG := Lib.hid (bstep (Tryst2.Grow.below hg (.refl Y.heap.size Y)) HB.out)
     clear hg hR hcg hfg hsg
     go_wp2_with fail
     go_ret
     exact ⟨ret_bool HRR.out.symm, by first | exact HBG.out | (rw [← hB]; exact HBG.out)⟩
   ·
    go_upto_region 20 with fail
    refine Tryst2.wp_region_grows [.is (.pointer (some ⟨B, 5, none⟩)), .is (.slice (some ⟨rb, ro, none⟩) 2 c), .is (.pointer (some ⟨rb, ro, none⟩)), .is (.agg #[.string y.op, .string y.s, .bool y.num, .int .i64 y.n, .string y.vs, .slice y.a y.l.length y.c]), .is (.agg #[.string t, .string p, .int .u64 q, .slice ea l.length ec]), .is (.bool true), .is (.bool true), .is (.pointer (some ⟨B, 5, none⟩)), .is (.slice (some ⟨rb, ro, none⟩) 2 c), .is (.pointer (some ⟨rb, ro + 6, none⟩)), .is (.agg #[.string z.op, .string z.s, .bool z.num, .int .i64 z.n, .string z.vs, .slice z.a z.l.length z.c]), .is (.agg #[.string t, .string p, .int .u64 q, .slice ea l.length ec]), .is (.bool fz), .is (.bool fz), .is (.bool fz)] (by kernel_rfl) (by kernel_rfl) ?obl ?fin
    case obl =>
     simp only [YA, YL, YO, YR, Op.operands, Call.operands]
     repeat' apply And.intro
     any_goals trivial
     all_goals (intro tv w' hg hold hd; (try simp at hold); obtain ⟨hcg, hfg, hsg⟩ := YG hg)
     all_goals first | (go_simp; done) | (go_simp; rw [if_neg (by omega)]; exact ⟨.refl _, rfl⟩) | (obtain ⟨⟨g, hvg, hgg, hcell⟩, _⟩ := hd; have hcell0 := hcell 0 (by decide); simp at hcell0; go_simp; done) | (go_simp; go_at_call 33; (with_reducible refine (HC.out _ ?_).mono ?_); (exact Tryst2.Grow.below hg (.refl _ _)); rintro e w2 ⟨rfl, hb2⟩; exact ⟨hb2, rfl⟩) | (go_simp; go_at_call 33; (with_reducible refine (HC2.out _ ?_).mono ?_); (exact Tryst2.Grow.below hg (.refl _ _)); rintro e w2 ⟨rfl, hb2⟩; exact ⟨hb2, rfl⟩)
    case fin =>
     intro tv w' hg hR
     simp only [YF, YL, YR] at hR
     obtain ⟨hcg, hfg, hsg⟩ := YG hg
     simp only [YP, YL, Act.put, hR]
     have HBG := Lib.hid (bstep (Tryst2.Grow.below hg (.refl Y.heap.size Y)) HB.out)
     clear hg hR hcg hfg hsg
     go_wp2_with fail
     go_ret
     exact ⟨ret_bool HRR.out.symm, by first | exact HBG.out | (rw [← hB]; exact HBG.out)⟩
  | or =>
   unfold Opk.text at x0 HX
   simp only [aloneK, Bool.and_eq_true, decide_eq_true_eq] at h1
   obtain ⟨y, z, rfl⟩ : ∃ y z, ps = [y, z] := by
    match ps, h1.2.2 with
    | [y, z], _ => exact ⟨y, z, rfl⟩
   have hy : formP y.pr r = true := by
    simp only [PB.prs, formL, Bool.and_eq_true] at h2
    exact h2.1
   have hz : formP z.pr r = true := by
    simp only [PB.prs, formL, Bool.and_eq_true] at h2
    exact h2.2.1
   have HRR := Lib.hid (show R = (holdsP t l y.pr || holdsP t l z.pr) by
    rw [HH.out, PB.prs, PB.prs, PB.prs]
    rfl)
   have HC := Lib.hid (fun W (hb : Below Y.heap.size Y W) => HIH.out y hy W ((HEL.out y (by simp)).grow (bstep hb HB.out)) (HF.out.grow (bstep hb HB.out)))
   have HC2 := Lib.hid (fun W (hb : Below Y.heap.size Y W) => HIH.out z hz W ((HEL.out z (by simp)).grow (bstep hb HB.out)) (HF.out.grow (bstep hb HB.out)))
   have RR := HRW.out.grow HB.out
   obtain ⟨rb, ro, rfl, -⟩ := RR.head (i := 0) (by simp)
   obtain ⟨_, rc⟩ := RR.at (i := 0) (by simp)
   have r0 := rc 0 (by omega)
   have r1 := rc 1 (by omega)
   have r2 := rc 2 (by omega)
   have r3 := rc 3 (by omega)
   have r4 := rc 4 (by omega)
   have r5 := rc 5 (by omega)
   simp [PB.cells] at r0 r1 r2 r3 r4 r5
   clear rc
   obtain ⟨_, rc⟩ := RR.at (i := 1) (by simp)
   have s0 := rc 0 (by omega)
   have s1 := rc 1 (by omega)
   have s2 := rc 2 (by omega)
   have s3 := rc 3 (by omega)
   have s4 := rc 4 (by omega)
   have s5 := rc 5 (by omega)
   simp [PB.cells] at s0 s1 s2 s3 s4 s5
   clear rc RR
   have z5 : Y.cell? ⟨B, 5, none⟩ = some (.slice (some ⟨rb, ro, none⟩) 2 c) := x5
   clear x5 HX
   obtain ⟨fy, hfy⟩ : ∃ b, holdsP t l y.pr = b := ⟨_, rfl⟩
   obtain ⟨fz, hfz⟩ : ∃ b, holdsP t l z.pr = b := ⟨_, rfl⟩
   rw [hfy] at HC HRR
   rw [hfz] at HC2 HRR
   unfold PB.agg at HC HC2
   clear hfy hfz h1 h2
   cases fy
   ·
    go_upto_region 21 with fail
    refine Tryst2.wp_region_grows [.is (.pointer (some ⟨B, 5, none⟩)), .is (.slice (some ⟨rb, ro, none⟩) 2 c), .is (.pointer (some ⟨rb, ro, none⟩)), .is (.agg #[.string y.op, .string y.s, .bool y.num, .int .i64 y.n, .string y.vs, .slice y.a y.l.length y.c]), .is (.agg #[.string t, .string p, .int .u64 q, .slice ea l.length ec]), .is (.bool false), .is (.bool false), .is (.pointer (some ⟨B, 5, none⟩)), .is (.slice (some ⟨rb, ro, none⟩) 2 c), .is (.pointer (some ⟨rb, ro + 6, none⟩)), .is (.agg #[.string z.op, .string z.s, .bool z.num, .int .i64 z.n, .string z.vs, .slice z.a z.l.length z.c]), .is (.agg #[.string t, .string p, .int .u64 q, .slice ea l.length ec]), .is (.bool fz), .is (.bool fz), .is (.bool fz)] (by kernel_rfl) (by kernel_rfl) ?obl ?fin
    case obl =>
     simp only [YA, YL, YO, YR, Op.operands, Call.operands]
     repeat' apply And.intro
     any_goals trivial
     all_goals (intro tv w' hg hold hd; (try simp at hold); obtain ⟨hcg, hfg, hsg⟩ := YG hg)
     all_goals first | (go_simp; done) | (go_simp; rw [if_neg (by omega)]; exact ⟨.refl _, rfl⟩) | (obtain ⟨⟨g, hvg, hgg, hcell⟩, _⟩ := hd; have hcell0 := hcell 0 (by decide); simp at hcell0; go_simp; done) | (go_simp; go_at_call 33; (with_reducible refine (HC.out _ ?_).mono ?_); (exact Tryst2.Grow.below hg (.refl _ _)); rintro e w2 ⟨rfl, hb2⟩; exact ⟨hb2, rfl⟩) | (go_simp; go_at_call 33; (with_reducible refine (HC2.out _ ?_).mono ?_); (exact Tryst2.Grow.below hg (.refl _ _)); rintro e w2 ⟨rfl, hb2⟩; exact ⟨hb2, rfl⟩)
    case fin =>
     intro tv w' hg hR
     simp only [YF, YL, YR] at hR
     obtain ⟨hcg, hfg, hsg⟩ := YG hg
     simp only [YP, YL, Act.put, hR]
     have HBG := Lib.hid (bstep (Tryst2.Grow.below hg (.refl Y.heap.size Y)) HB.out)
     clear hg hR hcg hfg hsg
     go_wp2_with fail
     go_ret
     exact ⟨ret_bool HRR.out.symm, by first | exact HBG.out | (rw [← hB]; exact HBG.out)⟩
   ·
    go_upto_region 21 with fail
    refine Tryst2.wp_region_grows [.is (.pointer (some ⟨B, 5, none⟩)), .is (.slice (some ⟨rb, ro, none⟩) 2 c), .is (.pointer (some ⟨rb, ro, none⟩)), .is (.agg #[.string y.op, .string y.s, .bool y.num, .int .i64 y.n, .string y.vs, .slice y.a y.l.length y.c]), .is (.agg #[.string t, .string p, .int .u64 q, .slice ea l.length ec]), .is (.bool true), .is (.bool true), .is undef, .is undef, .is undef, .is undef, .is undef, .is undef, .is (.bool true), .is (.bool true)] (by kernel_rfl) (by kernel_rfl) ?obl ?fin
    case obl =>
     simp only [YA, YL, YO, YR, Op.operands, Call.operands]
     repeat' apply And.intro
     any_goals trivial
     all_goals (intro tv w' hg hold hd; (try simp at hold); obtain ⟨hcg, hfg, hsg⟩ := YG hg)
     all_goals first | (go_simp; done) | (go_simp; rw [if_neg (by omega)]; exact ⟨.refl _, rfl⟩) | (obtain ⟨⟨g, hvg, hgg, hcell⟩, _⟩ := hd; have hcell0 := hcell 0 (by decide); simp at hcell0; go_simp; done) | (go_simp; go_at_call 33; (with_reducible refine (HC.out _ ?_).mono ?_); (exact Tryst2.Grow.below hg (.refl _ _)); rintro e w2 ⟨rfl, hb2⟩; exact ⟨hb2, rfl⟩)
    case fin =>
     intro tv w' hg hR
     simp only [YF, YL, YR] at hR
     obtain ⟨hcg, hfg, hsg⟩ := YG hg
     simp only [YP, YL, Act.put, hR]
     have HBG := Lib.hid (bstep (Tryst2.Grow.below hg (.refl Y.heap.size Y)) HB.out)
     clear hg hR hcg hfg hsg
     go_wp2_with fail
     go_ret
     exact ⟨ret_bool HRR.out.symm, by first | exact HBG.out | (rw [← hB]; exact HBG.out)⟩
end Go.Proofs.YtmlbdblnmbmnpaaGreatDoor
