/- The method lt of an asker. -/
import Derived.Test.YtmmdblpoecidaaaDoorProg
import Derived.WalkKit
import Derived.WalkSpells
import Derived.WalkLawsBesides
import Derived.Lib.Hide
import Derived.Deep.RegionWith
import Derived.Deep.Cut
import Derived.IntWalk
import Derived.Test.YtmmdblpoecidaaaDoorAsk5
import Derived.Test.YtmmdblpoecidaaaDoorNumV
import Derived.Test.YtmmdblpoecidaaaDoorPuts4
import Derived.Test.YtmmdblpoecidaaaDoorRd3
import Derived.Test.YtmmdblpoecidaaaDoorMeth5
set_option linter.unusedVariables false
set_option linter.unusedSimpArgs false
namespace Go.Proofs.YtmmdblpoecidaaaDoor
open Go.RowKit Tryst
set_option maxHeartbeats 400000
set_option maxRecDepth 20000
set_option maxHeartbeats 4000000
def ltB (l : List FB) (s : ByteArray) (num : Bool) (n : Int) (vs : ByteArray) : Bool := (findB l s).isSome && (decide (((findB l s).getD FB.zero).num = num) && decide (V.order ⟨((findB l s).getD FB.zero).num, ((findB l s).getD FB.zero).n, ((findB l s).getD FB.zero).s.data.toList⟩ ⟨num, n, vs.data.toList⟩ < 0))
theorem lt5_c (op s : ByteArray) (num : Bool) (n : Int) (vs : ByteArray) (a : Option Addr) (len c : Nat) (g mb : Nat) (t p : ByteArray) (q : Int) (ea : Option Addr) (l : List FB) (ec : Nat) (hl : l.length ≤ 1000000000) (w : World) (hA : AskAt w g mb t p q (.slice ea l.length ec)) (hF : Flds w ea l) :
    Calls Tryd.prog 44 #[.pointer (some ⟨g, 0, none⟩), .agg #[.string op, .string s, .bool num, .int .i64 n, .string vs, .slice a len c]] w fun e w' => e = .returned (.bool (ltB l s num n vs)) ∧ Below w.heap.size w w' := by
  have HF := Lib.hid hF
  have HA := Lib.hid hA
  clear hA hF
  go_enter Tryd.func44, Tryd.ntmps44
  go_upto_region 1 with fail
  refine wp_genC (fun v => Hid (PBox v w.heap.size op s num n vs (.slice a len c)) ∧ Hid (Below w.heap.size w v) ∧ Hid (AskAt v g mb t p q (.slice ea l.length ec)) ∧ Hid (Flds v ea l)) ⟨PBox.new w op s num n vs (.slice a len c) 26, balloc _ (.refl _ _), HA.out.grow (balloc _ (.refl _ _)), HF.out.grow (balloc _ (.refl _ _))⟩ ?_
  rintro Y ⟨HX, HB, HY, HFY⟩
  obtain ⟨B, hB⟩ : ∃ B, w.heap.size = B := ⟨_, rfl⟩
  rw [hB] at HX
  simp only [hB]
  clear hB
  obtain ⟨x0, x1, x2, x3, x4, x5, x6⟩ := HX.out
  obtain ⟨y0, y1, y2, y3, y4, y5, y6, y7⟩ := HY.out.e
  have z1 := HY.out.z
  have HGET := Lib.hid (fun (W : World) (h : Flds W ea l) => get_c t p q ea ec l hl s W h)
  obtain ⟨G, hG⟩ : ∃ G, (findB l s).getD FB.zero = G := ⟨_, rfl⟩
  obtain ⟨fnd, hfnd⟩ : ∃ fnd, (findB l s).isSome = fnd := ⟨_, rfl⟩
  rw [hG, hfnd] at HGET
  have HGG := Lib.hid hG
  have HFN := Lib.hid hfnd
  unfold vV at HGET
  clear HA HF HY hG hfnd
  refine cut_then (fun (cc : Act) v => ∃ gB, cc = ⟨#[.pointer (some ⟨g, 0, none⟩), .agg #[.string op, .string s, .bool num, .int .i64 n, .string vs, .slice a len c], undef, .pointer (some ⟨B, 0, none⟩), .bool false, .pointer (some ⟨gB, 0, none⟩), .bool fnd, .tuple #[.agg #[.bool G.num, .int .i64 G.n, .string G.s], .bool fnd], .pointer (some ⟨g, 0, none⟩), .pointer (some ⟨g, 0, none⟩), .pointer (some ⟨g, 0, none⟩), .agg #[.string t, .string p, .int .u64 q, .slice ea l.length ec], .pointer (some ⟨B, 1, none⟩), .string s, .tuple #[.agg #[.bool G.num, .int .i64 G.n, .string G.s], .bool fnd], .agg #[.bool G.num, .int .i64 G.n, .string G.s], .bool fnd, undef, undef, undef, undef, undef, undef, undef, undef, undef, undef, undef, undef, undef, undef, undef, undef], []⟩ ∧ Hid (PBox v B op s num n vs (.slice a len c)) ∧ Hid (VB3 v gB G.num G.n G.s) ∧ Hid (Below w.heap.size w v)) ?_ ?_
  case refine_1 =>
    go_region_with (go_at_call 58; (with_reducible refine (HGET.out _ ?_).mono ?_); (first | exact HFY.out | exact HFY.out.grow (balloc _ (.refl _ _)) | exact HFY.out.grow (bdrew (.refl _ _)) | exact HFY.out.grow (balloc _ (bdrew (.refl _ _))) | exact HFY.out.grow (bdrew (balloc _ (.refl _ _)))); rintro x w2 ⟨rfl, hb2⟩; obtain ⟨hc2, hf2⟩ := bcell hb2; have hsz2 := hb2.size; simp at hsz2)
    all_goals
      have hbA : Below Y.heap.size Y w2 := by
        (repeat (first | exact Below.refl _ _ | assumption | refine bdrew ?_ | refine balloc _ ?_ | refine bset _ (by simp) ?_ | refine bstep (by assumption) ?_ | refine Grow.below (by assumption) ?_ | refine Tryst2.Grow.below (by assumption) ?_))
      have hzA := hbA.size
      have HX2 := Lib.hid (HX.out.grow hbA)
      have HB2 := Lib.hid (bstep hbA HB.out)
      have hwY := HB.out.size
      clear hbA hb2
      refine ⟨_, rfl, ?_, ?_, ?_⟩
      · show PBox _ _ _ _ _ _ _ _
        (repeat (first | exact HX2.out | apply PBox.alloc | apply PBox.drew | (refine PBox.awayM ?_ (by omega) _)))
      · show VB3 _ _ _ _ _
        (repeat (first | exact VB3.new _ _ _ _ _ | apply VB3.drew))
        try
          refine VB3.set (x := false) (n := 0) (s := ⟨#[]⟩) ?_
          constructor
          · rw [hc2 _ _ (by simp <;> omega)]; simp [go_sem]
          · rw [hc2 _ _ (by simp <;> omega)]; simp [go_sem]
          · rw [hc2 _ _ (by simp <;> omega)]; simp [go_sem]
          · omega
      · show Below _ _ _
        (repeat (first | exact HB2.out | refine bdrew ?_ | refine balloc _ ?_ | refine bset _ (by simp <;> omega) ?_))
  case refine_2 =>
    rintro cc Z ⟨gB, rfl, HPZ, HVZ, HKY⟩
    obtain ⟨x0, x1, x2, x3, x4, x5, x6⟩ := HPZ.out
    obtain ⟨v0, v1, v2, v3⟩ := HVZ.out
    skip
    cases fnd with
    | false =>
      go_wp2_with fail
      go_ret
      exact ⟨ret_bool (by unfold ltB; rw [HFN.out]; rfl), HKY.out⟩
    | true =>
      have HOR := Lib.hid (fun (W : World) => order_c G.num num G.n n G.s vs W)
      obtain ⟨O, hO⟩ : ∃ O, V.order ⟨G.num, G.n, G.s.data.toList⟩ ⟨num, n, vs.data.toList⟩ = O := ⟨_, rfl⟩
      rw [hO] at HOR
      have HOO := Lib.hid hO
      clear hO
      by_cases hnm : G.num = num
      · have y1 : (G.num == num) = true := by simpa using hnm
        have HNM := Lib.hid hnm
        clear hnm
        by_cases ho : O < 0
        all_goals
          go_wp2_with fail
          refine (HOR.out _).mono ?_
          rintro e w2 ⟨rfl, hb2⟩
          have HB2 := Lib.hid (bstep hb2 HKY.out)
          clear hb2
          go_wp2_with fail
          go_ret
          refine ⟨ret_bool ?_, HB2.out⟩
          unfold ltB
          rw [HFN.out, HGG.out, HOO.out]
          simp [HNM.out, ho]
      · have y1 : (G.num == num) = false := by simpa using hnm
        have HNM := Lib.hid hnm
        clear hnm
        go_wp2_with fail
        go_ret
        refine ⟨ret_bool ?_, HKY.out⟩
        unfold ltB
        rw [HFN.out, HGG.out]
        simp [HNM.out]
end Go.Proofs.YtmmdblpoecidaaaDoor
