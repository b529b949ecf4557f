/- The methods has and eq of an asker. -/
import Derived.Test.YtmmdblpoecidaaaDoorProg
import Derived.WalkKit
import Derived.WalkSpells
import Derived.WalkLawsBesides
import Derived.Lib.Hide
import Derived.Deep.RegionWith
import Derived.Deep.Cut
import Derived.IntWalk
import Derived.Test.YtmmdblpoecidaaaDoorAsk5
import Derived.Test.YtmmdblpoecidaaaDoorNumV
import Derived.Test.YtmmdblpoecidaaaDoorPuts4
import Derived.Test.YtmmdblpoecidaaaDoorRd3
set_option linter.unusedVariables false
set_option linter.unusedSimpArgs false
namespace Go.Proofs.YtmmdblpoecidaaaDoor
open Go.RowKit Tryst
set_option maxHeartbeats 400000
set_option maxRecDepth 20000
set_option maxHeartbeats 4000000
theorem allocV5 (ρ : Operand → Value) (o : Oper) (w : World) (ho : o.op = .alloc 23) : (execOp ρ o).run Tryd.prog w = .ok (.value (.pointer (some ⟨w.heap.size, 0, none⟩))) (w.alloc (.cells #[.bool false, .int .i64 0, .string ⟨#[]⟩] 23)) := by
  unfold execOp
  rw [ho]
  kernel_rfl
theorem PBox.awayM {w : World} {b c j : Nat} {op s : ByteArray} {num : Bool} {n : Int} {vs : ByteArray} {u : Value} (h : PBox w b op s num n vs u) (hc : c ≠ b) (v : Value) : PBox (w.setCell ⟨c, j, none⟩ v) b op s num n vs u := by
  obtain ⟨h0, h1, h2, h3, h4, h5, h6⟩ := h
  constructor <;> simp [cell_setCell, h0, h1, h2, h3, h4, h5, h6, hc]
theorem PBox.alloc {w : World} {b : Nat} {op s : ByteArray} {num : Bool} {n : Int} {vs : ByteArray} {u : Value} (h : PBox w b op s num n vs u) (o : Obj) : PBox (w.alloc o) b op s num n vs u := h.grow (balloc _ (.refl _ _))
theorem PBox.drew {w : World} {b : Nat} {op s : ByteArray} {num : Bool} {n : Int} {vs : ByteArray} {u : Value} (h : PBox w b op s num n vs u) : PBox w.drew b op s num n vs u := ⟨h.c0, h.c1, h.c2, h.c3, h.c4, h.c5, h.hz⟩
theorem VB3.drew {w : World} {b : Nat} {x : Bool} {n : Int} {s : ByteArray} (h : VB3 w b x n s) : VB3 w.drew b x n s := ⟨h.c0, h.c1, h.c2, h.hz⟩
theorem has5_c (op s : ByteArray) (num : Bool) (n : Int) (vs : ByteArray) (a : Option Addr) (len c : Nat) (g mb : Nat) (t p : ByteArray) (q : Int) (ea : Option Addr) (l : List FB) (ec : Nat) (hl : l.length ≤ 1000000000) (w : World) (hA : AskAt w g mb t p q (.slice ea l.length ec)) (hF : Flds w ea l) :
    Calls Tryd.prog 42 #[.pointer (some ⟨g, 0, none⟩), .agg #[.string op, .string s, .bool num, .int .i64 n, .string vs, .slice a len c]] w fun e w' => e = .returned (.bool (findB l s).isSome) ∧ Below w.heap.size w w' := by
  have HF := Lib.hid hF
  have HA := Lib.hid hA
  clear hA hF
  go_enter Tryd.func42, Tryd.ntmps42
  go_upto_region 1 with fail
  refine wp_genC (fun v => Hid (PBox v w.heap.size op s num n vs (.slice a len c)) ∧ Hid (Below w.heap.size w v) ∧ Hid (AskAt v g mb t p q (.slice ea l.length ec)) ∧ Hid (Flds v ea l)) ⟨PBox.new w op s num n vs (.slice a len c) 26, balloc _ (.refl _ _), HA.out.grow (balloc _ (.refl _ _)), HF.out.grow (balloc _ (.refl _ _))⟩ ?_
  rintro Y ⟨HX, HB, HY, HFY⟩
  obtain ⟨B, hB⟩ : ∃ B, w.heap.size = B := ⟨_, rfl⟩
  rw [hB] at HX
  simp only [hB]
  clear hB
  obtain ⟨x0, x1, x2, x3, x4, x5, x6⟩ := HX.out
  obtain ⟨y0, y1, y2, y3, y4, y5, y6, y7⟩ := HY.out.e
  have z1 := HY.out.z
  have HGET := Lib.hid (fun (W : World) (h : Flds W ea l) => get_c t p q ea ec l hl s W h)
  obtain ⟨G, hG⟩ : ∃ G, (findB l s).getD FB.zero = G := ⟨_, rfl⟩
  obtain ⟨fnd, hfnd⟩ : ∃ fnd, (findB l s).isSome = fnd := ⟨_, rfl⟩
  rw [hG, hfnd] at HGET
  have HGG := Lib.hid hG
  have HFN := Lib.hid hfnd
  unfold vV at HGET
  clear HA HF HY hG hfnd
  refine cut_then (fun (cc : Act) v => ∃ gB, cc = ⟨#[.pointer (some ⟨g, 0, none⟩), .agg #[.string op, .string s, .bool num, .int .i64 n, .string vs, .slice a len c], undef, .pointer (some ⟨B, 0, none⟩), .bool false, .pointer (some ⟨gB, 0, none⟩), .bool fnd, .tuple #[.agg #[.bool G.num, .int .i64 G.n, .string G.s], .bool fnd], .pointer (some ⟨g, 0, none⟩), .pointer (some ⟨g, 0, none⟩), .pointer (some ⟨g, 0, none⟩), .agg #[.string t, .string p, .int .u64 q, .slice ea l.length ec], .pointer (some ⟨B, 1, none⟩), .string s, .tuple #[.agg #[.bool G.num, .int .i64 G.n, .string G.s], .bool fnd], .agg #[.bool G.num, .int .i64 G.n, .string G.s], .bool fnd, undef], []⟩ ∧ Hid (PBox v B op s num n vs (.slice a len c)) ∧ Hid (VB3 v gB G.num G.n G.s) ∧ Hid (Below w.heap.size w v)) ?_ ?_
  case refine_1 =>
    go_region_with (go_at_call 58; (with_reducible refine (HGET.out _ ?_).mono ?_); (first | exact HFY.out | exact HFY.out.grow (balloc _ (.refl _ _)) | exact HFY.out.grow (bdrew (.refl _ _)) | exact HFY.out.grow (balloc _ (bdrew (.refl _ _))) | exact HFY.out.grow (bdrew (balloc _ (.refl _ _)))); rintro x w2 ⟨rfl, hb2⟩; obtain ⟨hc2, hf2⟩ := bcell hb2; have hsz2 := hb2.size; simp at hsz2)
    all_goals
      have hbA : Below Y.heap.size Y w2 := by
        (repeat (first | exact Below.refl _ _ | assumption | refine bdrew ?_ | refine balloc _ ?_ | refine bset _ (by simp) ?_ | refine bstep (by assumption) ?_ | refine Grow.below (by assumption) ?_ | refine Tryst2.Grow.below (by assumption) ?_))
      have hzA := hbA.size
      have HX2 := Lib.hid (HX.out.grow hbA)
      have HB2 := Lib.hid (bstep hbA HB.out)
      have hwY := HB.out.size
      clear hbA hb2
      refine ⟨_, rfl, ?_, ?_, ?_⟩
      · show PBox _ _ _ _ _ _ _ _
        (repeat (first | exact HX2.out | apply PBox.alloc | apply PBox.drew | (refine PBox.awayM ?_ (by omega) _)))
      · show VB3 _ _ _ _ _
        (repeat (first | exact VB3.new _ _ _ _ _ | apply VB3.drew))
        try
          refine VB3.set (x := false) (n := 0) (s := ⟨#[]⟩) ?_
          constructor
          · rw [hc2 _ _ (by simp <;> omega)]; simp [go_sem]
          · rw [hc2 _ _ (by simp <;> omega)]; simp [go_sem]
          · rw [hc2 _ _ (by simp <;> omega)]; simp [go_sem]
          · omega
      · show Below _ _ _
        (repeat (first | exact HB2.out | refine bdrew ?_ | refine balloc _ ?_ | refine bset _ (by simp <;> omega) ?_))
  case refine_2 =>
    rintro cc Z ⟨gB, rfl, HPZ, HVZ, HKY⟩
    obtain ⟨x0, x1, x2, x3, x4, x5, x6⟩ := HPZ.out
    obtain ⟨v0, v1, v2, v3⟩ := HVZ.out
    (go_wp2_with fail; go_ret; exact ⟨ret_bool HFN.out.symm, HKY.out⟩)
def eqB (l : List FB) (s : ByteArray) (num : Bool) (n : Int) (vs : ByteArray) : Bool := (findB l s).isSome && decide ((((findB l s).getD FB.zero).num = num ∧ ((findB l s).getD FB.zero).n = n) ∧ ((findB l s).getD FB.zero).s.toList = vs.toList)
theorem eq5_c (op s : ByteArray) (num : Bool) (n : Int) (vs : ByteArray) (a : Option Addr) (len c : Nat) (g mb : Nat) (t p : ByteArray) (q : Int) (ea : Option Addr) (l : List FB) (ec : Nat) (hl : l.length ≤ 1000000000) (w : World) (hA : AskAt w g mb t p q (.slice ea l.length ec)) (hF : Flds w ea l) :
    Calls Tryd.prog 43 #[.pointer (some ⟨g, 0, none⟩), .agg #[.string op, .string s, .bool num, .int .i64 n, .string vs, .slice a len c]] w fun e w' => e = .returned (.bool (eqB l s num n vs)) ∧ Below w.heap.size w w' := by
  have HF := Lib.hid hF
  have HA := Lib.hid hA
  clear hA hF
  go_enter Tryd.func43, Tryd.ntmps43
  go_upto_region 1 with fail
  refine wp_genC (fun v => Hid (PBox v w.heap.size op s num n vs (.slice a len c)) ∧ Hid (Below w.heap.size w v) ∧ Hid (AskAt v g mb t p q (.slice ea l.length ec)) ∧ Hid (Flds v ea l)) ⟨PBox.new w op s num n vs (.slice a len c) 26, balloc _ (.refl _ _), HA.out.grow (balloc _ (.refl _ _)), HF.out.grow (balloc _ (.refl _ _))⟩ ?_
  rintro Y ⟨HX, HB, HY, HFY⟩
  obtain ⟨B, hB⟩ : ∃ B, w.heap.size = B := ⟨_, rfl⟩
  rw [hB] at HX
  simp only [hB]
  clear hB
  obtain ⟨x0, x1, x2, x3, x4, x5, x6⟩ := HX.out
  obtain ⟨y0, y1, y2, y3, y4, y5, y6, y7⟩ := HY.out.e
  have z1 := HY.out.z
  have HGET := Lib.hid (fun (W : World) (h : Flds W ea l) => get_c t p q ea ec l hl s W h)
  obtain ⟨G, hG⟩ : ∃ G, (findB l s).getD FB.zero = G := ⟨_, rfl⟩
  obtain ⟨fnd, hfnd⟩ : ∃ fnd, (findB l s).isSome = fnd := ⟨_, rfl⟩
  rw [hG, hfnd] at HGET
  have HGG := Lib.hid hG
  have HFN := Lib.hid hfnd
  unfold vV at HGET
  clear HA HF HY hG hfnd
  refine cut_then (fun (cc : Act) v => ∃ gB, cc = ⟨#[.pointer (some ⟨g, 0, none⟩), .agg #[.string op, .string s, .bool num, .int .i64 n, .string vs, .slice a len c], undef, .pointer (some ⟨B, 0, none⟩), .bool false, .pointer (some ⟨gB, 0, none⟩), .bool fnd, .tuple #[.agg #[.bool G.num, .int .i64 G.n, .string G.s], .bool fnd], .pointer (some ⟨g, 0, none⟩), .pointer (some ⟨g, 0, none⟩), .pointer (some ⟨g, 0, none⟩), .agg #[.string t, .string p, .int .u64 q, .slice ea l.length ec], .pointer (some ⟨B, 1, none⟩), .string s, .tuple #[.agg #[.bool G.num, .int .i64 G.n, .string G.s], .bool fnd], .agg #[.bool G.num, .int .i64 G.n, .string G.s], .bool fnd, undef, undef, undef, undef, undef, undef, undef], []⟩ ∧ Hid (PBox v B op s num n vs (.slice a len c)) ∧ Hid (VB3 v gB G.num G.n G.s) ∧ Hid (Below w.heap.size w v)) ?_ ?_
  case refine_1 =>
    go_region_with (go_at_call 58; (with_reducible refine (HGET.out _ ?_).mono ?_); (first | exact HFY.out | exact HFY.out.grow (balloc _ (.refl _ _)) | exact HFY.out.grow (bdrew (.refl _ _)) | exact HFY.out.grow (balloc _ (bdrew (.refl _ _))) | exact HFY.out.grow (bdrew (balloc _ (.refl _ _)))); rintro x w2 ⟨rfl, hb2⟩; obtain ⟨hc2, hf2⟩ := bcell hb2; have hsz2 := hb2.size; simp at hsz2)
    all_goals
      have hbA : Below Y.heap.size Y w2 := by
        (repeat (first | exact Below.refl _ _ | assumption | refine bdrew ?_ | refine balloc _ ?_ | refine bset _ (by simp) ?_ | refine bstep (by assumption) ?_ | refine Grow.below (by assumption) ?_ | refine Tryst2.Grow.below (by assumption) ?_))
      have hzA := hbA.size
      have HX2 := Lib.hid (HX.out.grow hbA)
      have HB2 := Lib.hid (bstep hbA HB.out)
      have hwY := HB.out.size
      clear hbA hb2
      refine ⟨_, rfl, ?_, ?_, ?_⟩
      · show PBox _ _ _ _ _ _ _ _
        (repeat (first | exact HX2.out | apply PBox.alloc | apply PBox.drew | (refine PBox.awayM ?_ (by omega) _)))
      · show VB3 _ _ _ _ _
        (repeat (first | exact VB3.new _ _ _ _ _ | apply VB3.drew))
        try
          refine VB3.set (x := false) (n := 0) (s := ⟨#[]⟩) ?_
          constructor
          · rw [hc2 _ _ (by simp <;> omega)]; simp [go_sem]
          · rw [hc2 _ _ (by simp <;> omega)]; simp [go_sem]
          · rw [hc2 _ _ (by simp <;> omega)]; simp [go_sem]
          · omega
      · show Below _ _ _
        (repeat (first | exact HB2.out | refine bdrew ?_ | refine balloc _ ?_ | refine bset _ (by simp <;> omega) ?_))
  case refine_2 =>
    rintro cc Z ⟨gB, rfl, HPZ, HVZ, HKY⟩
    obtain ⟨x0, x1, x2, x3, x4, x5, x6⟩ := HPZ.out
    obtain ⟨v0, v1, v2, v3⟩ := HVZ.out
    (cases fnd; all_goals (go_wp2_with fail; all_goals (go_ret; refine ⟨ret_bool ?_, HKY.out⟩; unfold eqB; rw [HFN.out, HGG.out]; first | rfl | (simp only [Bool.true_and]; exact (decide_eq_true ⟨⟨‹_›, ‹_›⟩, ‹_›⟩).symm) | (simp only [Bool.true_and]; exact (decide_eq_false (fun h => absurd h.2 ‹_›)).symm) | (simp only [Bool.true_and]; exact (decide_eq_false (fun h => absurd h.1.2 ‹_›)).symm) | (simp only [Bool.true_and]; exact (decide_eq_false (fun h => absurd h.1.1 ‹_›)).symm))))
end Go.Proofs.YtmmdblpoecidaaaDoor
