/- The methods of an asker. -/
import Derived.Test.YtmmdblpoecidaaaDoorProg
import Derived.WalkKit
import Derived.WalkSpells
import Derived.WalkLawsBesides
import Derived.Lib.Hide
import Derived.Deep.RegionWith
import Derived.Deep.Cut
import Derived.IntWalk
import Derived.Test.YtmmdblpoecidaaaDoorAsk5
import Derived.Test.YtmmdblpoecidaaaDoorNumV
import Derived.Test.YtmmdblpoecidaaaDoorPuts4
import Derived.Test.YtmmdblpoecidaaaDoorRd3
import Derived.Test.YtmmdblpoecidaaaDoorMeets5
set_option linter.unusedVariables false
set_option linter.unusedSimpArgs false
namespace Go.Proofs.YtmmdblpoecidaaaDoor
open Go.RowKit Tryst
set_option maxHeartbeats 400000
set_option maxRecDepth 20000
set_option maxHeartbeats 4000000
theorem allocV5 (ρ : Operand → Value) (o : Oper) (w : World) (ho : o.op = .alloc 23) : (execOp ρ o).run Tryd.prog w = .ok (.value (.pointer (some ⟨w.heap.size, 0, none⟩))) (w.alloc (.cells #[.bool false, .int .i64 0, .string ⟨#[]⟩] 23)) := by
  unfold execOp
  rw [ho]
  kernel_rfl
theorem PBox.awayM {w : World} {b c j : Nat} {op s : ByteArray} {num : Bool} {n : Int} {vs : ByteArray} {u : Value} (h : PBox w b op s num n vs u) (hc : c ≠ b) (v : Value) : PBox (w.setCell ⟨c, j, none⟩ v) b op s num n vs u := by
  obtain ⟨h0, h1, h2, h3, h4, h5, h6⟩ := h
  constructor <;> simp [cell_setCell, h0, h1, h2, h3, h4, h5, h6, hc]
theorem PBox.alloc {w : World} {b : Nat} {op s : ByteArray} {num : Bool} {n : Int} {vs : ByteArray} {u : Value} (h : PBox w b op s num n vs u) (o : Obj) : PBox (w.alloc o) b op s num n vs u := h.grow (balloc _ (.refl _ _))
theorem PBox.drew {w : World} {b : Nat} {op s : ByteArray} {num : Bool} {n : Int} {vs : ByteArray} {u : Value} (h : PBox w b op s num n vs u) : PBox w.drew b op s num n vs u := ⟨h.c0, h.c1, h.c2, h.c3, h.c4, h.c5, h.hz⟩
theorem VB3.drew {w : World} {b : Nat} {x : Bool} {n : Int} {s : ByteArray} (h : VB3 w b x n s) : VB3 w.drew b x n s := ⟨h.c0, h.c1, h.c2, h.hz⟩
theorem has5_c (op s : ByteArray) (num : Bool) (n : Int) (vs : ByteArray) (a : Option Addr) (len c : Nat) (g mb : Nat) (t p : ByteArray) (q : Int) (ea : Option Addr) (l : List FB) (ec : Nat) (hl : l.length ≤ 1000000000) (w : World) (hA : AskAt w g mb t p q (.slice ea l.length ec)) (hF : Flds w ea l) :
    Calls Tryd.prog 42 #[.pointer (some ⟨g, 0, none⟩), .agg #[.string op, .string s, .bool num, .int .i64 n, .string vs, .slice a len c]] w fun e w' => e = .returned (.bool (findB l s).isSome) ∧ Below w.heap.size w w' := by
  have HF := Lib.hid hF
  have HA := Lib.hid hA
  clear hA hF
  go_enter Tryd.func42, Tryd.ntmps42
  go_upto_region 1 with fail
  refine wp_genC (fun v => Hid (PBox v w.heap.size op s num n vs (.slice a len c)) ∧ Hid (Below w.heap.size w v) ∧ Hid (AskAt v g mb t p q (.slice ea l.length ec)) ∧ Hid (Flds v ea l)) ⟨PBox.new w op s num n vs (.slice a len c) 26, balloc _ (.refl _ _), HA.out.grow (balloc _ (.refl _ _)), HF.out.grow (balloc _ (.refl _ _))⟩ ?_
  rintro Y ⟨HX, HB, HY, HFY⟩
  obtain ⟨B, hB⟩ : ∃ B, w.heap.size = B := ⟨_, rfl⟩
  rw [hB] at HX
  simp only [hB]
  clear hB
  obtain ⟨x0, x1, x2, x3, x4, x5, x6⟩ := HX.out
  obtain ⟨y0, y1, y2, y3, y4, y5, y6, y7⟩ := HY.out.e
  have z1 := HY.out.z
  have HGET := Lib.hid (fun (W : World) (h : Flds W ea l) => get_c t p q ea ec l hl s W h)
  obtain ⟨G, hG⟩ : ∃ G, (findB l s).getD FB.zero = G := ⟨_, rfl⟩
  obtain ⟨fnd, hfnd⟩ : ∃ fnd, (findB l s).isSome = fnd := ⟨_, rfl⟩
  rw [hG, hfnd] at HGET
  have HGG := Lib.hid hG
  have HFN := Lib.hid hfnd
  unfold vV at HGET
  clear HA HF HY hG hfnd
  refine cut_then (fun (cc : Act) v => ∃ gB, cc = ⟨#[.pointer (some ⟨g, 0, none⟩), .agg #[.string op, .string s, .bool num, .int .i64 n, .string vs, .slice a len c], undef, .pointer (some ⟨B, 0, none⟩), .bool false, .pointer (some ⟨gB, 0, none⟩), .bool fnd, .tuple #[.agg #[.bool G.num, .int .i64 G.n, .string G.s], .bool fnd], .pointer (some ⟨g, 0, none⟩), .pointer (some ⟨g, 0, none⟩), .pointer (some ⟨g, 0, none⟩), .agg #[.string t, .string p, .int .u64 q, .slice ea l.length ec], .pointer (some ⟨B, 1, none⟩), .string s, .tuple #[.agg #[.bool G.num, .int .i64 G.n, .string G.s], .bool fnd], .agg #[.bool G.num, .int .i64 G.n, .string G.s], .bool fnd, undef], []⟩ ∧ Hid (PBox v B op s num n vs (.slice a len c)) ∧ Hid (VB3 v gB G.num G.n G.s) ∧ Hid (Below w.heap.size w v)) ?_ ?_
  case refine_1 =>
    go_region_with (go_at_call 58; (with_reducible refine (HGET.out _ ?_).mono ?_); (first | exact HFY.out | exact HFY.out.grow (balloc _ (.refl _ _)) | exact HFY.out.grow (bdrew (.refl _ _)) | exact HFY.out.grow (balloc _ (bdrew (.refl _ _))) | exact HFY.out.grow (bdrew (balloc _ (.refl _ _)))); rintro x w2 ⟨rfl, hb2⟩; obtain ⟨hc2, hf2⟩ := bcell hb2; have hsz2 := hb2.size; simp at hsz2)
    all_goals
      have hbA : Below Y.heap.size Y w2 := by
        (repeat (first | exact Below.refl _ _ | assumption | refine bdrew ?_ | refine balloc _ ?_ | refine bset _ (by simp) ?_ | refine bstep (by assumption) ?_ | refine Grow.below (by assumption) ?_ | refine Tryst2.Grow.below (by assumption) ?_))
      have hzA := hbA.size
      have HX2 := Lib.hid (HX.out.grow hbA)
      have HB2 := Lib.hid (bstep hbA HB.out)
      have hwY := HB.out.size
      clear hbA hb2
      refine ⟨_, rfl, ?_, ?_, ?_⟩
      · show PBox _ _ _ _ _ _ _ _
        (repeat (first | exact HX2.out | apply PBox.alloc | apply PBox.drew | (refine PBox.awayM ?_ (by omega) _)))
      · show VB3 _ _ _ _ _
        (repeat (first | exact VB3.new _ _ _ _ _ | apply VB3.drew))
        try
          refine VB3.set (x := false) (n := 0) (s := ⟨#[]⟩) ?_
          constructor
          · rw [hc2 _ _ (by simp <;> omega)]; simp [go_sem]
          · rw [hc2 _ _ (by simp <;> omega)]; simp [go_sem]
          · rw [hc2 _ _ (by simp <;> omega)]; simp [go_sem]
          · omega
      · show Below _ _ _
        (repeat (first | exact HB2.out | refine bdrew ?_ | refine balloc _ ?_ | refine bset _ (by simp <;> omega) ?_))
  case refine_2 =>
    rintro cc Z ⟨gB, rfl, HPZ, HVZ, HKY⟩
    obtain ⟨x0, x1, x2, x3, x4, x5, x6⟩ := HPZ.out
    obtain ⟨v0, v1, v2, v3⟩ := HVZ.out
    (go_wp2_with fail; go_ret; exact ⟨ret_bool HFN.out.symm, HKY.out⟩)
def eqB (l : List FB) (s : ByteArray) (num : Bool) (n : Int) (vs : ByteArray) : Bool := (findB l s).isSome && decide ((((findB l s).getD FB.zero).num = num ∧ ((findB l s).getD FB.zero).n = n) ∧ ((findB l s).getD FB.zero).s.toList = vs.toList)
theorem eq5_c (op s : ByteArray) (num : Bool) (n : Int) (vs : ByteArray) (a : Option Addr) (len c : Nat) (g mb : Nat) (t p : ByteArray) (q : Int) (ea : Option Addr) (l : List FB) (ec : Nat) (hl : l.length ≤ 1000000000) (w : World) (hA : AskAt w g mb t p q (.slice ea l.length ec)) (hF : Flds w ea l) :
    Calls Tryd.prog 43 #[.pointer (some ⟨g, 0, none⟩), .agg #[.string op, .string s, .bool num, .int .i64 n, .string vs, .slice a len c]] w fun e w' => e = .returned (.bool (eqB l s num n vs)) ∧ Below w.heap.size w w' := by
  have HF := Lib.hid hF
  have HA := Lib.hid hA
  clear hA hF
  go_enter Tryd.func43, Tryd.ntmps43
  go_upto_region 1 with fail
  refine wp_genC (fun v => Hid (PBox v w.heap.size op s num n vs (.slice a len c)) ∧ Hid (Below w.heap.size w v) ∧ Hid (AskAt v g mb t p q (.slice ea l.length ec)) ∧ Hid (Flds v ea l)) ⟨PBox.new w op s num n vs (.slice a len c) 26, balloc _ (.refl _ _), HA.out.grow (balloc _ (.refl _ _)), HF.out.grow (balloc _ (.refl _ _))⟩ ?_
  rintro Y ⟨HX, HB, HY, HFY⟩
  obtain ⟨B, hB⟩ : ∃ B, w.heap.size = B := ⟨_, rfl⟩
  rw [hB] at HX
  simp only [hB]
  clear hB
  obtain ⟨x0, x1, x2, x3, x4, x5, x6⟩ := HX.out
  obtain ⟨y0, y1, y2, y3, y4, y5, y6, y7⟩ := HY.out.e
  have z1 := HY.out.z
  have HGET := Lib.hid (fun (W : World) (h : Flds W ea l) => get_c t p q ea ec l hl s W h)
  obtain ⟨G, hG⟩ : ∃ G, (findB l s).getD FB.zero = G := ⟨_, rfl⟩
  obtain ⟨fnd, hfnd⟩ : ∃ fnd, (findB l s).isSome = fnd := ⟨_, rfl⟩
  rw [hG, hfnd] at HGET
  have HGG := Lib.hid hG
  have HFN := Lib.hid hfnd
  unfold vV at HGET
  clear HA HF HY hG hfnd
  refine cut_then (fun (cc : Act) v => ∃ gB, cc = ⟨#[.pointer (some ⟨g, 0, none⟩), .agg #[.string op, .string s, .bool num, .int .i64 n, .string vs, .slice a len c], undef, .pointer (some ⟨B, 0, none⟩), .bool false, .pointer (some ⟨gB, 0, none⟩), .bool fnd, .tuple #[.agg #[.bool G.num, .int .i64 G.n, .string G.s], .bool fnd], .pointer (some ⟨g, 0, none⟩), .pointer (some ⟨g, 0, none⟩), .pointer (some ⟨g, 0, none⟩), .agg #[.string t, .string p, .int .u64 q, .slice ea l.length ec], .pointer (some ⟨B, 1, none⟩), .string s, .tuple #[.agg #[.bool G.num, .int .i64 G.n, .string G.s], .bool fnd], .agg #[.bool G.num, .int .i64 G.n, .string G.s], .bool fnd, undef, undef, undef, undef, undef, undef, undef], []⟩ ∧ Hid (PBox v B op s num n vs (.slice a len c)) ∧ Hid (VB3 v gB G.num G.n G.s) ∧ Hid (Below w.heap.size w v)) ?_ ?_
  case refine_1 =>
    go_region_with (go_at_call 58; (with_reducible refine (HGET.out _ ?_).mono ?_); (first | exact HFY.out | exact HFY.out.grow (balloc _ (.refl _ _)) | exact HFY.out.grow (bdrew (.refl _ _)) | exact HFY.out.grow (balloc _ (bdrew (.refl _ _))) | exact HFY.out.grow (bdrew (balloc _ (.refl _ _)))); rintro x w2 ⟨rfl, hb2⟩; obtain ⟨hc2, hf2⟩ := bcell hb2; have hsz2 := hb2.size; simp at hsz2)
    all_goals
      have hbA : Below Y.heap.size Y w2 := by
        (repeat (first | exact Below.refl _ _ | assumption | refine bdrew ?_ | refine balloc _ ?_ | refine bset _ (by simp) ?_ | refine bstep (by assumption) ?_ | refine Grow.below (by assumption) ?_ | refine Tryst2.Grow.below (by assumption) ?_))
      have hzA := hbA.size
      have HX2 := Lib.hid (HX.out.grow hbA)
      have HB2 := Lib.hid (bstep hbA HB.out)
      have hwY := HB.out.size
      clear hbA hb2
      refine ⟨_, rfl, ?_, ?_, ?_⟩
      · show PBox _ _ _ _ _ _ _ _
        (repeat (first | exact HX2.out | apply PBox.alloc | apply PBox.drew | (refine PBox.awayM ?_ (by omega) _)))
      · show VB3 _ _ _ _ _
        (repeat (first | exact VB3.new _ _ _ _ _ | apply VB3.drew))
        try
          refine VB3.set (x := false) (n := 0) (s := ⟨#[]⟩) ?_
          constructor
          · rw [hc2 _ _ (by simp <;> omega)]; simp [go_sem]
          · rw [hc2 _ _ (by simp <;> omega)]; simp [go_sem]
          · rw [hc2 _ _ (by simp <;> omega)]; simp [go_sem]
          · omega
      · show Below _ _ _
        (repeat (first | exact HB2.out | refine bdrew ?_ | refine balloc _ ?_ | refine bset _ (by simp <;> omega) ?_))
  case refine_2 =>
    rintro cc Z ⟨gB, rfl, HPZ, HVZ, HKY⟩
    obtain ⟨x0, x1, x2, x3, x4, x5, x6⟩ := HPZ.out
    obtain ⟨v0, v1, v2, v3⟩ := HVZ.out
    (cases fnd; all_goals (go_wp2_with fail; all_goals (go_ret; refine ⟨ret_bool ?_, HKY.out⟩; unfold eqB; rw [HFN.out, HGG.out]; first | rfl | (simp only [Bool.true_and]; exact (decide_eq_true ⟨⟨‹_›, ‹_›⟩, ‹_›⟩).symm) | (simp only [Bool.true_and]; exact (decide_eq_false (fun h => absurd h.2 ‹_›)).symm) | (simp only [Bool.true_and]; exact (decide_eq_false (fun h => absurd h.1.2 ‹_›)).symm) | (simp only [Bool.true_and]; exact (decide_eq_false (fun h => absurd h.1.1 ‹_›)).symm))))
end Go.Proofs.YtmmdblpoecidaaaDoor
namespace Go.Proofs.YtmmdblpoecidaaaDoor
open Go.RowKit Tryst
set_option maxHeartbeats 400000
set_option maxRecDepth 20000
set_option maxHeartbeats 4000000
def ltB (l : List FB) (s : ByteArray) (num : Bool) (n : Int) (vs : ByteArray) : Bool := (findB l s).isSome && (decide (((findB l s).getD FB.zero).num = num) && decide (V.order ⟨((findB l s).getD FB.zero).num, ((findB l s).getD FB.zero).n, ((findB l s).getD FB.zero).s.data.toList⟩ ⟨num, n, vs.data.toList⟩ < 0))
theorem lt5_c (op s : ByteArray) (num : Bool) (n : Int) (vs : ByteArray) (a : Option Addr) (len c : Nat) (g mb : Nat) (t p : ByteArray) (q : Int) (ea : Option Addr) (l : List FB) (ec : Nat) (hl : l.length ≤ 1000000000) (w : World) (hA : AskAt w g mb t p q (.slice ea l.length ec)) (hF : Flds w ea l) :
    Calls Tryd.prog 44 #[.pointer (some ⟨g, 0, none⟩), .agg #[.string op, .string s, .bool num, .int .i64 n, .string vs, .slice a len c]] w fun e w' => e = .returned (.bool (ltB l s num n vs)) ∧ Below w.heap.size w w' := by
  have HF := Lib.hid hF
  have HA := Lib.hid hA
  clear hA hF
  go_enter Tryd.func44, Tryd.ntmps44
  go_upto_region 1 with fail
  refine wp_genC (fun v => Hid (PBox v w.heap.size op s num n vs (.slice a len c)) ∧ Hid (Below w.heap.size w v) ∧ Hid (AskAt v g mb t p q (.slice ea l.length ec)) ∧ Hid (Flds v ea l)) ⟨PBox.new w op s num n vs (.slice a len c) 26, balloc _ (.refl _ _), HA.out.grow (balloc _ (.refl _ _)), HF.out.grow (balloc _ (.refl _ _))⟩ ?_
  rintro Y ⟨HX, HB, HY, HFY⟩
  obtain ⟨B, hB⟩ : ∃ B, w.heap.size = B := ⟨_, rfl⟩
  rw [hB] at HX
  simp only [hB]
  clear hB
  obtain ⟨x0, x1, x2, x3, x4, x5, x6⟩ := HX.out
  obtain ⟨y0, y1, y2, y3, y4, y5, y6, y7⟩ := HY.out.e
  have z1 := HY.out.z
  have HGET := Lib.hid (fun (W : World) (h : Flds W ea l) => get_c t p q ea ec l hl s W h)
  obtain ⟨G, hG⟩ : ∃ G, (findB l s).getD FB.zero = G := ⟨_, rfl⟩
  obtain ⟨fnd, hfnd⟩ : ∃ fnd, (findB l s).isSome = fnd := ⟨_, rfl⟩
  rw [hG, hfnd] at HGET
  have HGG := Lib.hid hG
  have HFN := Lib.hid hfnd
  unfold vV at HGET
  clear HA HF HY hG hfnd
  refine cut_then (fun (cc : Act) v => ∃ gB, cc = ⟨#[.pointer (some ⟨g, 0, none⟩), .agg #[.string op, .string s, .bool num, .int .i64 n, .string vs, .slice a len c], undef, .pointer (some ⟨B, 0, none⟩), .bool false, .pointer (some ⟨gB, 0, none⟩), .bool fnd, .tuple #[.agg #[.bool G.num, .int .i64 G.n, .string G.s], .bool fnd], .pointer (some ⟨g, 0, none⟩), .pointer (some ⟨g, 0, none⟩), .pointer (some ⟨g, 0, none⟩), .agg #[.string t, .string p, .int .u64 q, .slice ea l.length ec], .pointer (some ⟨B, 1, none⟩), .string s, .tuple #[.agg #[.bool G.num, .int .i64 G.n, .string G.s], .bool fnd], .agg #[.bool G.num, .int .i64 G.n, .string G.s], .bool fnd, undef, undef, undef, undef, undef, undef, undef, undef, undef, undef, undef, undef, undef, undef, undef, undef], []⟩ ∧ Hid (PBox v B op s num n vs (.slice a len c)) ∧ Hid (VB3 v gB G.num G.n G.s) ∧ Hid (Below w.heap.size w v)) ?_ ?_
  case refine_1 =>
    go_region_with (go_at_call 58; (with_reducible refine (HGET.out _ ?_).mono ?_); (first | exact HFY.out | exact HFY.out.grow (balloc _ (.refl _ _)) | exact HFY.out.grow (bdrew (.refl _ _)) | exact HFY.out.grow (balloc _ (bdrew (.refl _ _))) | exact HFY.out.grow (bdrew (balloc _ (.refl _ _)))); rintro x w2 ⟨rfl, hb2⟩; obtain ⟨hc2, hf2⟩ := bcell hb2; have hsz2 := hb2.size; simp at hsz2)
    all_goals
      have hbA : Below Y.heap.size Y w2 := by
        (repeat (first | exact Below.refl _ _ | assumption | refine bdrew ?_ | refine balloc _ ?_ | refine bset _ (by simp) ?_ | refine bstep (by assumption) ?_ | refine Grow.below (by assumption) ?_ | refine Tryst2.Grow.below (by assumption) ?_))
      have hzA := hbA.size
      have HX2 := Lib.hid (HX.out.grow hbA)
      have HB2 := Lib.hid (bstep hbA HB.out)
      have hwY := HB.out.size
      clear hbA hb2
      refine ⟨_, rfl, ?_, ?_, ?_⟩
      · show PBox _ _ _ _ _ _ _ _
        (repeat (first | exact HX2.out | apply PBox.alloc | apply PBox.drew | (refine PBox.awayM ?_ (by omega) _)))
      · show VB3 _ _ _ _ _
        (repeat (first | exact VB3.new _ _ _ _ _ | apply VB3.drew))
        try
          refine VB3.set (x := false) (n := 0) (s := ⟨#[]⟩) ?_
          constructor
          · rw [hc2 _ _ (by simp <;> omega)]; simp [go_sem]
          · rw [hc2 _ _ (by simp <;> omega)]; simp [go_sem]
          · rw [hc2 _ _ (by simp <;> omega)]; simp [go_sem]
          · omega
      · show Below _ _ _
        (repeat (first | exact HB2.out | refine bdrew ?_ | refine balloc _ ?_ | refine bset _ (by simp <;> omega) ?_))
  case refine_2 =>
    rintro cc Z ⟨gB, rfl, HPZ, HVZ, HKY⟩
    obtain ⟨x0, x1, x2, x3, x4, x5, x6⟩ := HPZ.out
    obtain ⟨v0, v1, v2, v3⟩ := HVZ.out
    skip
    cases fnd with
    | false =>
      go_wp2_with fail
      go_ret
      exact ⟨ret_bool (by unfold ltB; rw [HFN.out]; rfl), HKY.out⟩
    | true =>
      have HOR := Lib.hid (fun (W : World) => order_c G.num num G.n n G.s vs W)
      obtain ⟨O, hO⟩ : ∃ O, V.order ⟨G.num, G.n, G.s.data.toList⟩ ⟨num, n, vs.data.toList⟩ = O := ⟨_, rfl⟩
      rw [hO] at HOR
      have HOO := Lib.hid hO
      clear hO
      by_cases hnm : G.num = num
      · have y1 : (G.num == num) = true := by simpa using hnm
        have HNM := Lib.hid hnm
        clear hnm
        by_cases ho : O < 0
        all_goals
          go_wp2_with fail
          refine (HOR.out _).mono ?_
          rintro e w2 ⟨rfl, hb2⟩
          have HB2 := Lib.hid (bstep hb2 HKY.out)
          clear hb2
          go_wp2_with fail
          go_ret
          refine ⟨ret_bool ?_, HB2.out⟩
          unfold ltB
          rw [HFN.out, HGG.out, HOO.out]
          simp [HNM.out, ho]
      · have y1 : (G.num == num) = false := by simpa using hnm
        have HNM := Lib.hid hnm
        clear hnm
        go_wp2_with fail
        go_ret
        refine ⟨ret_bool ?_, HKY.out⟩
        unfold ltB
        rw [HFN.out, HGG.out]
        simp [HNM.out]
end Go.Proofs.YtmmdblpoecidaaaDoor
namespace Go.Proofs.YtmmdblpoecidaaaDoor
open Go.RowKit Tryst
set_option maxHeartbeats 2000000
set_option maxRecDepth 20000
theorem all5_c (op s : ByteArray) (num : Bool) (n : Int) (vs : ByteArray) (u : Value) (g : Nat) (w : World) :
    Calls Tryd.prog 40 #[.pointer (some ⟨g, 0, none⟩), .agg #[.string op, .string s, .bool num, .int .i64 n, .string vs, u]] w fun e w' => e = .returned (.bool true) ∧ Below w.heap.size w w' := by
  go_enter Tryd.func40, Tryd.ntmps40
  go_wp2_with fail
  go_ret
  exact ⟨rfl, balloc _ (.refl _ _)⟩
theorem topic5_c (op s : ByteArray) (num : Bool) (n : Int) (vs : ByteArray) (a : Option Addr) (len c : Nat) (g mb : Nat) (t p : ByteArray) (q : Int) (u : Value) (hs : s.size ≤ 1000000) (ht : t.size ≤ 1000000) (w : World) (hM : MaxW w) (hA : AskAt w g mb t p q u) :
    Calls Tryd.prog 41 #[.pointer (some ⟨g, 0, none⟩), .agg #[.string op, .string s, .bool num, .int .i64 n, .string vs, .slice a len c]] w fun e w' => e = .returned (.bool (meetsB s.data.toList t.data.toList)) ∧ Below w.heap.size w w' := by
  have HMT := Lib.hid (fun W (hb : Below w.heap.size w W) => meets_c s t hs ht W (hM.grow hb))
  have HA := Lib.hid hA
  generalize meetsB s.data.toList t.data.toList = X at HMT ⊢
  clear hA hM
  go_enter Tryd.func41, Tryd.ntmps41
  go_upto_region 1 with fail
  refine wp_genC (fun v => Hid (PBox v w.heap.size op s num n vs (.slice a len c)) ∧ Hid (Below w.heap.size w v) ∧ Hid (AskAt v g mb t p q u)) ⟨PBox.new w op s num n vs (.slice a len c) 26, balloc _ (.refl _ _), HA.out.grow (balloc _ (.refl _ _))⟩ ?_
  rintro Y ⟨HX, HB, HY⟩
  generalize w.heap.size = B at HX ⊢
  obtain ⟨x0, x1, x2, x3, x4, x5, x6⟩ := HX.out
  obtain ⟨z0, z1, z2, z3, z4, z5, z6, z7⟩ := HY.out.e
  have zz := HY.out.z
  refine Tryst2.wp_region_grows [.is (.pointer (some ⟨B, 1, none⟩)), .is (.string s), .is (.pointer (some ⟨g, 0, none⟩)), .is (.pointer (some ⟨g, 0, none⟩)), .is (.pointer (some ⟨g, 0, none⟩)), .is (.pointer (some ⟨g, 0, none⟩)), .is (.string t), .is (.bool X), .is (.bool X)] (by kernel_rfl) (by kernel_rfl) ?obl ?fin
  case obl =>
    simp only [Tryst2.AllObl, Tryst2.dstL, Tryst2.Obl, Tryst2.depsOf, Tryst2.binds_data, Tryst2.binds_chain, Tryst2.binds_phase, Tryst2.binds_guard, Tryst2.binds_text, Tryst2.binds_gc, Bool.false_eq_true, if_false, List.filterMap_cons_some, List.filterMap_cons_none, Tryst2.depsR, Tryst2.holdR, Tryst2.tmpsOf, Op.operands, Call.operands, Tryst2.Rsp.pred, Tryst2.wantedV_none, Tryst2.wantedV_some, if_true, List.map_cons, List.map_nil, List.length_map, List.take_succ_cons, List.take_zero, List.length_cons, List.length_nil, List.getElem?_cons_zero, List.getElem?_cons_succ, Option.bind_some, id, List.getD_cons_zero, List.getD_cons_succ, Tryst2.isDst, List.filterMap_cons, List.filterMap_nil, List.toList_toArray]
    repeat' apply And.intro
    any_goals trivial
    all_goals (intro tv w' hg hold hd; (try simp at hold); obtain ⟨hcg, hfg⟩ := Tryst2.Grow.cells hg; have hsg := Tryst2.Grow.le hg)
    all_goals first | (go_simp; done) | (go_simp; rw [if_neg (by omega)]; exact ⟨.refl _, rfl⟩) | (obtain ⟨⟨g, hvg, hgg, hcell⟩, _⟩ := hd; have hcell0 := hcell 0 (by decide); simp at hcell0; go_simp; done) | (go_simp; refine (HMT.out _ ?_).mono ?_; (exact bstep (Tryst2.Grow.below hg (.refl Y.heap.size Y)) HB.out); rintro e w2 ⟨rfl, hb2⟩; exact ⟨hb2, rfl⟩)
  case fin =>
    intro tv w' hg hR
    simp only [Tryst2.allR, Tryst2.dstL, Tryst2.Rsp.pred, List.map_cons, List.map_nil, List.take_succ_cons, List.take_zero, List.length_cons, List.length_nil, List.tail_cons, List.toList_toArray] at hR
    obtain ⟨hcg, hfg⟩ := Tryst2.Grow.cells hg
    have hsg := Tryst2.Grow.le hg
    simp only [Tryst2.putAll, Tryst2.dstL, List.map_cons, List.map_nil, List.take_succ_cons, List.take_zero, List.length_cons, List.length_nil, List.toList_toArray, List.drop_succ_cons, List.drop_zero, Act.put, List.setIfInBounds_toArray, List.set_cons_zero, List.set_cons_succ, hR]
    have HB9 := Lib.hid (bstep (Tryst2.Grow.below hg (.refl Y.heap.size Y)) HB.out)
    clear hg hR hcg hfg hsg
    go_wp2_with fail
    go_ret
    exact ⟨rfl, HB9.out⟩
theorem not5_c (op s : ByteArray) (num : Bool) (n : Int) (vs : ByteArray) (a : Option Addr) (c : Nat) (y : PB) (g : Nat) (X : Bool) (w : World) (hR : Row w a 6 ([y].map PB.cells))
    (hH : ∀ W, Below w.heap.size w W → Calls Tryd.prog 28 #[.pointer (some ⟨g, 0, none⟩), y.agg] W fun e w' => e = .returned (.bool X) ∧ Below W.heap.size W w') :
    Calls Tryd.prog 45 #[.pointer (some ⟨g, 0, none⟩), .agg #[.string op, .string s, .bool num, .int .i64 n, .string vs, .slice a 1 c]] w fun e w' => e = .returned (.bool (!X)) ∧ Below w.heap.size w w' := by
  obtain ⟨op1, s1, num1, n1, vs1, a1, c1, l1⟩ := y
  unfold PB.agg at hH
  simp only [PB.op, PB.s, PB.num, PB.n, PB.vs, PB.a, PB.c, PB.l] at hH
  have HH := Lib.hid hH
  have HR := Lib.hid hR
  obtain ⟨b, o, rfl, -⟩ := hR.head (i := 0) (by simp)
  clear hH hR
  go_enter Tryd.func45, Tryd.ntmps45
  go_upto_region 1 with fail
  refine wp_genC (fun v => Hid (PBox v w.heap.size op s num n vs (.slice (some ⟨b, o, none⟩) 1 c)) ∧ Hid (Below w.heap.size w v)) ⟨PBox.new w op s num n vs _ 26, balloc _ (.refl _ _)⟩ ?_
  rintro Y ⟨HX, HB⟩
  generalize w.heap.size = B at HX ⊢
  obtain ⟨x0, x1, x2, x3, x4, x5, x6⟩ := HX.out
  obtain ⟨hz, hc⟩ := (HR.out.grow HB.out).at (i := 0) (by simp)
  have r0 := hc 0 (by omega)
  have r1 := hc 1 (by omega)
  have r2 := hc 2 (by omega)
  have r3 := hc 3 (by omega)
  have r4 := hc 4 (by omega)
  have r5 := hc 5 (by omega)
  simp [PB.cells, PB.op, PB.s, PB.num, PB.n, PB.vs, PB.a, PB.c, PB.l] at r0 r1 r2 r3 r4 r5
  clear hc
  go_wp2_with fail
  refine (HH.out Y HB.out).mono ?_
  rintro e w2 ⟨rfl, hb2⟩
  have HB2 := Lib.hid (bstep hb2 HB.out)
  clear x0 x1 x2 x3 x4 x5 x6 r0 r1 r2 r3 r4 r5 hz hb2 HX HB
  go_wp2_with fail
  go_ret
  exact ⟨rfl, HB2.out⟩
theorem and5_c (op s : ByteArray) (num : Bool) (n : Int) (vs : ByteArray) (a : Option Addr) (c : Nat) (y z : PB) (g : Nat) (X1 X2 : Bool) (w : World) (hR : Row w a 6 ([y, z].map PB.cells))
    (hH : ∀ W, Below w.heap.size w W → Calls Tryd.prog 28 #[.pointer (some ⟨g, 0, none⟩), y.agg] W fun e w' => e = .returned (.bool X1) ∧ Below W.heap.size W w')
    (hH2 : ∀ W, Below w.heap.size w W → Calls Tryd.prog 28 #[.pointer (some ⟨g, 0, none⟩), z.agg] W fun e w' => e = .returned (.bool X2) ∧ Below W.heap.size W w') :
    Calls Tryd.prog 46 #[.pointer (some ⟨g, 0, none⟩), .agg #[.string op, .string s, .bool num, .int .i64 n, .string vs, .slice a 2 c]] w fun e w' => e = .returned (.bool (X1 && X2)) ∧ Below w.heap.size w w' := by
  obtain ⟨op1, s1, num1, n1, vs1, a1, c1, l1⟩ := y
  obtain ⟨op2, s2, num2, n2, vs2, a2, c2, l2⟩ := z
  unfold PB.agg at hH hH2
  simp only [PB.op, PB.s, PB.num, PB.n, PB.vs, PB.a, PB.c, PB.l] at hH hH2
  have HH := Lib.hid hH
  have HH2 := Lib.hid hH2
  have HR := Lib.hid hR
  obtain ⟨b, o, rfl, -⟩ := hR.head (i := 0) (by simp)
  clear hH hH2 hR
  go_enter Tryd.func46, Tryd.ntmps46
  go_upto_region 1 with fail
  refine wp_genC (fun v => Hid (PBox v w.heap.size op s num n vs (.slice (some ⟨b, o, none⟩) 2 c)) ∧ Hid (Below w.heap.size w v)) ⟨PBox.new w op s num n vs _ 26, balloc _ (.refl _ _)⟩ ?_
  rintro Y ⟨HX, HB⟩
  generalize w.heap.size = B at HX ⊢
  obtain ⟨x0, x1, x2, x3, x4, x5, x6⟩ := HX.out
  obtain ⟨hz, hc⟩ := (HR.out.grow HB.out).at (i := 0) (by simp)
  have r0 := hc 0 (by omega)
  have r1 := hc 1 (by omega)
  have r2 := hc 2 (by omega)
  have r3 := hc 3 (by omega)
  have r4 := hc 4 (by omega)
  have r5 := hc 5 (by omega)
  simp [PB.cells, PB.op, PB.s, PB.num, PB.n, PB.vs, PB.a, PB.c, PB.l] at r0 r1 r2 r3 r4 r5
  clear hc
  cases X1 with
  | true =>
    go_wp2_with fail
    refine (HH.out Y HB.out).mono ?_
    rintro e w2 ⟨rfl, hb2⟩
    have HB2 := Lib.hid (bstep hb2 HB.out)
    have HX2 := Lib.hid (HX.out.grow hb2)
    clear x0 x1 x2 x3 x4 x5 x6 r0 r1 r2 r3 r4 r5 hz hb2 HX HB
    obtain ⟨x0, x1, x2, x3, x4, x5, x6⟩ := HX2.out
    obtain ⟨hz, hc⟩ := (HR.out.grow HB2.out).at (i := 1) (by simp)
    have r0 := hc 0 (by omega)
    have r1 := hc 1 (by omega)
    have r2 := hc 2 (by omega)
    have r3 := hc 3 (by omega)
    have r4 := hc 4 (by omega)
    have r5 := hc 5 (by omega)
    simp [PB.cells, PB.op, PB.s, PB.num, PB.n, PB.vs, PB.a, PB.c, PB.l] at r0 r1 r2 r3 r4 r5
    clear hc
    go_wp2_with fail
    refine (HH2.out w2 HB2.out).mono ?_
    rintro e w3 ⟨rfl, hb3⟩
    have HB3 := Lib.hid (bstep hb3 HB2.out)
    clear x0 x1 x2 x3 x4 x5 x6 r0 r1 r2 r3 r4 r5 hz hb3
    go_wp2_with fail
    go_ret
    exact ⟨rfl, HB3.out⟩
  | false =>
    go_wp2_with fail
    refine (HH.out Y HB.out).mono ?_
    rintro e w2 ⟨rfl, hb2⟩
    have HB2 := Lib.hid (bstep hb2 HB.out)
    have HX2 := Lib.hid (HX.out.grow hb2)
    clear x0 x1 x2 x3 x4 x5 x6 r0 r1 r2 r3 r4 r5 hz hb2 HX HB
    go_wp2_with fail
    go_ret
    exact ⟨rfl, HB2.out⟩
theorem or5_c (op s : ByteArray) (num : Bool) (n : Int) (vs : ByteArray) (a : Option Addr) (c : Nat) (y z : PB) (g : Nat) (X1 X2 : Bool) (w : World) (hR : Row w a 6 ([y, z].map PB.cells))
    (hH : ∀ W, Below w.heap.size w W → Calls Tryd.prog 28 #[.pointer (some ⟨g, 0, none⟩), y.agg] W fun e w' => e = .returned (.bool X1) ∧ Below W.heap.size W w')
    (hH2 : ∀ W, Below w.heap.size w W → Calls Tryd.prog 28 #[.pointer (some ⟨g, 0, none⟩), z.agg] W fun e w' => e = .returned (.bool X2) ∧ Below W.heap.size W w') :
    Calls Tryd.prog 47 #[.pointer (some ⟨g, 0, none⟩), .agg #[.string op, .string s, .bool num, .int .i64 n, .string vs, .slice a 2 c]] w fun e w' => e = .returned (.bool (X1 || X2)) ∧ Below w.heap.size w w' := by
  obtain ⟨op1, s1, num1, n1, vs1, a1, c1, l1⟩ := y
  obtain ⟨op2, s2, num2, n2, vs2, a2, c2, l2⟩ := z
  unfold PB.agg at hH hH2
  simp only [PB.op, PB.s, PB.num, PB.n, PB.vs, PB.a, PB.c, PB.l] at hH hH2
  have HH := Lib.hid hH
  have HH2 := Lib.hid hH2
  have HR := Lib.hid hR
  obtain ⟨b, o, rfl, -⟩ := hR.head (i := 0) (by simp)
  clear hH hH2 hR
  go_enter Tryd.func47, Tryd.ntmps47
  go_upto_region 1 with fail
  refine wp_genC (fun v => Hid (PBox v w.heap.size op s num n vs (.slice (some ⟨b, o, none⟩) 2 c)) ∧ Hid (Below w.heap.size w v)) ⟨PBox.new w op s num n vs _ 26, balloc _ (.refl _ _)⟩ ?_
  rintro Y ⟨HX, HB⟩
  generalize w.heap.size = B at HX ⊢
  obtain ⟨x0, x1, x2, x3, x4, x5, x6⟩ := HX.out
  obtain ⟨hz, hc⟩ := (HR.out.grow HB.out).at (i := 0) (by simp)
  have r0 := hc 0 (by omega)
  have r1 := hc 1 (by omega)
  have r2 := hc 2 (by omega)
  have r3 := hc 3 (by omega)
  have r4 := hc 4 (by omega)
  have r5 := hc 5 (by omega)
  simp [PB.cells, PB.op, PB.s, PB.num, PB.n, PB.vs, PB.a, PB.c, PB.l] at r0 r1 r2 r3 r4 r5
  clear hc
  cases X1 with
  | true =>
    go_wp2_with fail
    refine (HH.out Y HB.out).mono ?_
    rintro e w2 ⟨rfl, hb2⟩
    have HB2 := Lib.hid (bstep hb2 HB.out)
    have HX2 := Lib.hid (HX.out.grow hb2)
    clear x0 x1 x2 x3 x4 x5 x6 r0 r1 r2 r3 r4 r5 hz hb2 HX HB
    go_wp2_with fail
    go_ret
    exact ⟨rfl, HB2.out⟩
  | false =>
    go_wp2_with fail
    refine (HH.out Y HB.out).mono ?_
    rintro e w2 ⟨rfl, hb2⟩
    have HB2 := Lib.hid (bstep hb2 HB.out)
    have HX2 := Lib.hid (HX.out.grow hb2)
    clear x0 x1 x2 x3 x4 x5 x6 r0 r1 r2 r3 r4 r5 hz hb2 HX HB
    obtain ⟨x0, x1, x2, x3, x4, x5, x6⟩ := HX2.out
    obtain ⟨hz, hc⟩ := (HR.out.grow HB2.out).at (i := 1) (by simp)
    have r0 := hc 0 (by omega)
    have r1 := hc 1 (by omega)
    have r2 := hc 2 (by omega)
    have r3 := hc 3 (by omega)
    have r4 := hc 4 (by omega)
    have r5 := hc 5 (by omega)
    simp [PB.cells, PB.op, PB.s, PB.num, PB.n, PB.vs, PB.a, PB.c, PB.l] at r0 r1 r2 r3 r4 r5
    clear hc
    go_wp2_with fail
    refine (HH2.out w2 HB2.out).mono ?_
    rintro e w3 ⟨rfl, hb3⟩
    have HB3 := Lib.hid (bstep hb3 HB2.out)
    clear x0 x1 x2 x3 x4 x5 x6 r0 r1 r2 r3 r4 r5 hz hb3
    go_wp2_with fail
    go_ret
    exact ⟨rfl, HB3.out⟩
end Go.Proofs.YtmmdblpoecidaaaDoor
