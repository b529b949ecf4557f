/- The walk of the law PredApart. -/
import Derived.Test.YtmmdblpoecidaaaDoorProg
import Derived.WalkKit
import Derived.WalkSpells
import Derived.WalkLawsBesides
import Derived.Lib.Hide
import Derived.Deep.RegionWith
import Derived.Deep.Cut
import Derived.IntWalk
import Derived.Test.YtmmdblpoecidaaaDoorTwo5
import Derived.Test.YtmmdblpoecidaaaDoorAwake5
import Derived.Test.YtmmdblpoecidaaaDoorRNS5
import Derived.Test.YtmmdblpoecidaaaDoorWrT5
set_option linter.unusedVariables false
set_option linter.unusedSimpArgs false
namespace Tryst
open Go Go.RowKit
mutual
theorem po_fits {w : World} : ∀ x : PB, PO w x → fitsP x.pr
  | .mk op s num n vs a c l, h => by
    obtain ⟨-, hn, -, hl⟩ := PO.parts h
    rw [PB.pr, fitsP]
    exact ⟨hn, po_fitsL l hl⟩
theorem po_fitsL {w : World} : ∀ l : List PB, (∀ x, x ∈ l → PO w x) → fitsL (PB.prs l)
  | [], _ => by rw [PB.prs, fitsL]; trivial
  | x :: r, h => by
    rw [PB.prs, fitsL]
    exact ⟨po_fits x (h x List.mem_cons_self), po_fitsL r (fun y hy => h y (List.mem_cons_of_mem _ hy))⟩
end
end Tryst
namespace Go.Proofs.YtmmdblpoecidaaaDoor
open Go.RowKit Tryst
set_option maxHeartbeats 4000000
set_option maxRecDepth 20000
/-- the stores into two boxes -/
def duo (w : World) (B : Nat) (a0 a1 : ByteArray) (a2 : Bool) (a3 : Int) (a4 : ByteArray) (a5 : Value) (b0 b1 : ByteArray) (b2 : Bool) (b3 : Int) (b4 : ByteArray) (b5 : Value) : World :=
  (((((((((((w.setCell ⟨B, 0, none⟩ (.string a0)).setCell ⟨B, 1, none⟩ (.string a1)).setCell ⟨B, 2, none⟩ (.bool a2)).setCell ⟨B, 3, none⟩ (.int .i64 a3)).setCell ⟨B, 4, none⟩ (.string a4)).setCell ⟨B, 5, none⟩ a5).setCell ⟨B + 1, 0, none⟩ (.string b0)).setCell ⟨B + 1, 1, none⟩ (.string b1)).setCell ⟨B + 1, 2, none⟩ (.bool b2)).setCell ⟨B + 1, 3, none⟩ (.int .i64 b3)).setCell ⟨B + 1, 4, none⟩ (.string b4)).setCell ⟨B + 1, 5, none⟩ b5
section
variable {w : World} {B : Nat} {a0 a1 : ByteArray} {a2 : Bool} {a3 : Int} {a4 : ByteArray} {a5 : Value} {b0 b1 : ByteArray} {b2 : Bool} {b3 : Int} {b4 : ByteArray} {b5 : Value}
theorem duo_away {k : Nat} (h : B + 2 ≤ k) : (duo w B a0 a1 a2 a3 a4 a5 b0 b1 b2 b3 b4 b5).heap[k]? = w.heap[k]? := by
  unfold duo
  repeat rw [Below.heap_setCell _ _ _ _ (show k ≠ _ by simp; omega)]
theorem duo_size : (duo w B a0 a1 a2 a3 a4 a5 b0 b1 b2 b3 b4 b5).heap.size = w.heap.size := by
  unfold duo
  simp
theorem duo_p {c0 c1 : ByteArray} {c2 : Bool} {c3 : Int} {c4 : ByteArray} {c5 : Value} (h : BX w B c0 c1 c2 c3 c4 c5) : BX (duo w B a0 a1 a2 a3 a4 a5 b0 b1 b2 b3 b4 b5) B a0 a1 a2 a3 a4 a5 := by
  have h1 := h.all a0 a1 a2 a3 a4 a5
  unfold duo
  repeat (refine BX.away ?_ (by omega) _)
  exact h1
theorem duo_q {c0 c1 : ByteArray} {c2 : Bool} {c3 : Int} {c4 : ByteArray} {c5 : Value} (h : BX w (B + 1) c0 c1 c2 c3 c4 c5) : BX (duo w B a0 a1 a2 a3 a4 a5 b0 b1 b2 b3 b4 b5) (B + 1) b0 b1 b2 b3 b4 b5 := by
  unfold duo
  refine BX.all (op := c0) (s := c1) (num := c2) (n := c3) (vs := c4) (u := c5) ?_ _ _ _ _ _ _
  repeat (refine BX.away ?_ (by omega) _)
  exact h
theorem duo_o {y : PB} (h : POwn w (fun b => B + 2 ≤ b) y) : PO (duo w B a0 a1 a2 a3 a4 a5 b0 b1 b2 b3 b4 b5) y :=
  h.keep (fun b hb _ => ⟨duo_away hb, trivial⟩) (by rw [duo_size]; exact Nat.le_refl _)
theorem duo_b {v : World} (h : Below B v w) : Below B v (duo w B a0 a1 a2 a3 a4 a5 b0 b1 b2 b3 b4 b5) :=
  Below.setCell (Below.setCell (Below.setCell (Below.setCell (Below.setCell (Below.setCell (Below.setCell (Below.setCell (Below.setCell (Below.setCell (Below.setCell (Below.setCell h (p := ⟨B, 0, none⟩) (Nat.le_refl _) _) (p := ⟨B, 1, none⟩) (Nat.le_refl _) _) (p := ⟨B, 2, none⟩) (Nat.le_refl _) _) (p := ⟨B, 3, none⟩) (Nat.le_refl _) _) (p := ⟨B, 4, none⟩) (Nat.le_refl _) _) (p := ⟨B, 5, none⟩) (Nat.le_refl _) _) (p := ⟨B + 1, 0, none⟩) (Nat.le_succ _) _) (p := ⟨B + 1, 1, none⟩) (Nat.le_succ _) _) (p := ⟨B + 1, 2, none⟩) (Nat.le_succ _) _) (p := ⟨B + 1, 3, none⟩) (Nat.le_succ _) _) (p := ⟨B + 1, 4, none⟩) (Nat.le_succ _) _) (p := ⟨B + 1, 5, none⟩) (Nat.le_succ _) _
end
theorem predApart_c (x y : PB) (w : World) (hM : MaxW w) (hT : Tab w) (hX : PArg w x) (hY : PArg w y) :
    Calls Tryd.prog 7 #[x.agg, y.agg] w fun e w' => e = .returned (.bool true) ∧ Below w.heap.size w w' := by
  have HM := Lib.hid hM
  have HT := Lib.hid hT
  have CX := Lib.hid (fun W (hb : Below w.heap.size w W) => fewpr_c x W (PArg.grow hX hb))
  have CY := Lib.hid (fun W (hb : Below w.heap.size w W) => fewpr_c y W (PArg.grow hY hb))
  clear hM hT hX hY
  obtain ⟨m0, m1, m2, m3, m4, m5, m6, m7⟩ := x
  obtain ⟨n0, n1, n2, n3, n4, n5, n6, n7⟩ := y
  unfold PB.agg at CX CY ⊢
  simp only [PB.op, PB.s, PB.num, PB.n, PB.vs, PB.a, PB.c, PB.l] at CX CY ⊢
  go_enter Tryd.func7, Tryd.ntmps7
  go_upto_region 1 with fail
  have bx0 := BX.new w m0 m1 m2 m3 m4 (.slice m5 m7.length m6)
  have bx1 := BX.new (w.alloc (.cells #[.string m0, .string m1, .bool m2, .int .i64 m3, .string m4, .slice m5 m7.length m6] 26)) n0 n1 n2 n3 n4 (.slice n5 n7.length n6)
  rw [show (w.alloc (.cells #[.string m0, .string m1, .bool m2, .int .i64 m3, .string m4, .slice m5 m7.length m6] 26)).heap.size = w.heap.size + 1 by simp] at bx1
  refine wp_genC (fun v => Hid (BX v w.heap.size m0 m1 m2 m3 m4 (.slice m5 m7.length m6)) ∧ Hid (BX v (w.heap.size + 1) n0 n1 n2 n3 n4 (.slice n5 n7.length n6)) ∧ Hid (Below w.heap.size w v) ∧ v.heap.size = w.heap.size + 2) ⟨bx0.grow (balloc _ (.refl _ _)), bx1, balloc _ (balloc _ (.refl _ _)), by simp⟩ ?_
  rintro Y ⟨HP, HQ, HY, hYz⟩
  clear bx0 bx1
  obtain ⟨x0, x1, x2, x3, x4, x5, x6⟩ := HP.out.box
  obtain ⟨y0, y1, y2, y3, y4, y5, y6⟩ := HQ.out.box
  refine Tryst2.wp_region_grows [.is (.agg #[.string m0, .string m1, .bool m2, .int .i64 m3, .string m4, .slice m5 m7.length m6]), .any (PrO (w.heap.size + 2)), .is (.agg #[.string n0, .string n1, .bool n2, .int .i64 n3, .string n4, .slice n5 n7.length n6]), .any (PrO (w.heap.size + 2))] (by kernel_rfl) (by kernel_rfl) ?obl ?fin
  case obl =>
    simp only [Tryst2.AllObl, Tryst2.dstL, Tryst2.Obl, Tryst2.depsOf, Tryst2.binds_data, Tryst2.binds_chain, Tryst2.binds_phase, Tryst2.binds_guard, Tryst2.binds_text, Tryst2.binds_gc, Bool.false_eq_true, if_false, List.filterMap_cons_some, List.filterMap_cons_none, Tryst2.depsR, Tryst2.holdR, Tryst2.tmpsOf, Op.operands, Call.operands, Tryst2.Rsp.pred, Tryst2.wantedV_none, Tryst2.wantedV_some, if_true, List.map_cons, List.map_nil, List.length_map, List.take_succ_cons, List.take_zero, List.length_cons, List.length_nil, List.getElem?_cons_zero, List.getElem?_cons_succ, Option.bind_some, id, List.getD_cons_zero, List.getD_cons_succ, Tryst2.isDst, List.filterMap_cons, List.filterMap_nil, List.toList_toArray]
    repeat' apply And.intro
    any_goals trivial
    all_goals (intro tv w' hg hold hd; (try simp at hold); obtain ⟨hcg, hfg⟩ := Tryst2.Grow.cells hg; have hsg := Tryst2.Grow.le hg)
    all_goals first | (go_simp; done) | (go_simp; rw [if_neg (by omega)]; exact ⟨.refl _, rfl⟩) | (obtain ⟨⟨g, hvg, hgg, hcell⟩, _⟩ := hd; have hcell0 := hcell 0 (by decide); simp at hcell0; go_simp; done) | (go_simp; go_at_call 9; (with_reducible refine (CX.out _ ?_).mono ?_); (exact bstep (Tryst2.Grow.below hg (.refl Y.heap.size Y)) HY.out); rintro e w2 ⟨y, rfl, ho, hb2⟩; exact PrO.of ho hb2 (by have := hg.size; omega)) | (go_simp; go_at_call 9; (with_reducible refine (CY.out _ ?_).mono ?_); (exact bstep (Tryst2.Grow.below hg (.refl Y.heap.size Y)) HY.out); rintro e w2 ⟨y, rfl, ho, hb2⟩; exact PrO.of ho hb2 (by have := hg.size; omega))
  case fin =>
    intro tv w' hg hR
    simp only [Tryst2.allR, Tryst2.dstL, Tryst2.Rsp.pred, List.map_cons, List.map_nil, List.take_succ_cons, List.take_zero, List.length_cons, List.length_nil, List.tail_cons, List.toList_toArray] at hR
    obtain ⟨hcg, hfg⟩ := Tryst2.Grow.cells hg
    have hsg := Tryst2.Grow.le hg
    simp only [Tryst2.putAll, Tryst2.dstL, List.map_cons, List.map_nil, List.take_succ_cons, List.take_zero, List.length_cons, List.length_nil, List.toList_toArray, List.drop_succ_cons, List.drop_zero, Act.put, List.setIfInBounds_toArray, List.set_cons_zero, List.set_cons_succ, hR]
    obtain ⟨z1, eX, hX1⟩ := PrO.at hR.2.1
    obtain ⟨z2, eY, hY1⟩ := PrO.at hR.2.2.2.1
    simp only [eX, eY]
    have HBZ := Lib.hid (Tryst2.Grow.below hg (.refl Y.heap.size Y))
    have HP2 := Lib.hid (HP.out.grow HBZ.out)
    have HQ2 := Lib.hid (HQ.out.grow HBZ.out)
    have HY2 := Lib.hid (bstep HBZ.out HY.out)
    have hz2 : w.heap.size + 2 ≤ w'.heap.size := by
      have := HBZ.out.size
      omega
    have GX := Lib.hid hX1
    have GY := Lib.hid hY1
    clear hg hR hcg hfg hsg x0 x1 x2 x3 x4 x5 x6 y0 y1 y2 y3 y4 y5 y6 HP HQ HY CX CY HBZ eX eY hX1 hY1 hYz
    obtain ⟨r0, r1, r2, r3, r4, r5, r6, r7⟩ := z1
    obtain ⟨s0, s1, s2, s3, s4, s5, s6, s7⟩ := z2
    unfold PB.agg
    simp only [PB.op, PB.s, PB.num, PB.n, PB.vs, PB.a, PB.c, PB.l]
    obtain ⟨x0, x1, x2, x3, x4, x5, x6⟩ := HP2.out.box
    obtain ⟨y0, y1, y2, y3, y4, y5, y6⟩ := HQ2.out.box
    have z0 := HP2.out.fz 0
    have z1 := HP2.out.fz 1
    have z2 := HP2.out.fz 2
    have z3 := HP2.out.fz 3
    have z4 := HP2.out.fz 4
    have z5 := HP2.out.fz 5
    have t0 := HQ2.out.fz 0
    have t1' := HQ2.out.fz 1
    have t2 := HQ2.out.fz 2
    have t3 := HQ2.out.fz 3
    have t4 := HQ2.out.fz 4
    have t5 := HQ2.out.fz 5
    go_upto_region 2 with fail
    refine wp_genC (fun v => Hid (BX v w.heap.size r0 r1 r2 r3 r4 (.slice r5 r7.length r6)) ∧ Hid (BX v (w.heap.size + 1) s0 s1 s2 s3 s4 (.slice s5 s7.length s6)) ∧ Hid (PO v (PB.mk r0 r1 r2 r3 r4 r5 r6 r7)) ∧ Hid (PO v (PB.mk s0 s1 s2 s3 s4 s5 s6 s7)) ∧ Hid (Below w.heap.size w v)) ⟨duo_p HP2.out, duo_q HQ2.out, duo_o GX.out, duo_o GY.out, duo_b HY2.out⟩ ?_
    clear x0 x1 x2 x3 x4 x5 x6 y0 y1 y2 y3 y4 y5 y6 z0 z1 z2 z3 z4 z5 t0 t1' t2 t3 t4 t5 HP2 HQ2 HY2 GX GY hz2
    rintro Z ⟨HP, HQ, GX, GY, HZ⟩
    have HTX := Lib.hid (fun W (hb : Below Z.heap.size Z W) => text5_c (PB.mk r0 r1 r2 r3 r4 r5 r6 r7) W (HM.out.grow (bstep hb HZ.out)) (GX.out.mem.grow hb) (po_fits _ GX.out) (HT.out.grow (bstep hb HZ.out)))
    have HTY := Lib.hid (fun W (hb : Below Z.heap.size Z W) => text5_c (PB.mk s0 s1 s2 s3 s4 s5 s6 s7) W (HM.out.grow (bstep hb HZ.out)) (GY.out.mem.grow hb) (po_fits _ GY.out) (HT.out.grow (bstep hb HZ.out)))
    have HSM := Lib.hid (fun W (hb : Below Z.heap.size Z W) => rsame5_c _ (PB.mk r0 r1 r2 r3 r4 r5 r6 r7) (PB.mk s0 s1 s2 s3 s4 s5 s6 s7) (Nat.le_refl _) W (GX.out.grow hb) (GY.out.grow hb))
    have HAW := Lib.hid (fun W (hb : Below Z.heap.size Z W) => awake5_c W (HM.out.grow (bstep hb HZ.out)))
    have HEQ := Lib.hid (fun (h1 : mayP (PB.mk r0 r1 r2 r3 r4 r5 r6 r7).pr = true) (h2 : mayP (PB.mk s0 s1 s2 s3 s4 s5 s6 s7).pr = true) => show decide (pText (PB.mk r0 r1 r2 r3 r4 r5 r6 r7).pr = pText (PB.mk s0 s1 s2 s3 s4 s5 s6 s7).pr) = sameB (PB.mk r0 r1 r2 r3 r4 r5 r6 r7) (PB.mk s0 s1 s2 s3 s4 s5 s6 s7) by
      rw [Bool.eq_iff_iff, decide_eq_true_iff, sameB_pr]
      rw [mayP_eq, Bool.and_eq_true] at h1 h2
      exact ⟨fun h => text_inj h1.1 h2.1 (po_fits _ GX.out) (po_fits _ GY.out) h, fun h => by rw [h]⟩)
    obtain ⟨bx, hbx⟩ : ∃ b, mayP (PB.mk r0 r1 r2 r3 r4 r5 r6 r7).pr = b := ⟨_, rfl⟩
    obtain ⟨tx, htx⟩ : ∃ b, pText (PB.mk r0 r1 r2 r3 r4 r5 r6 r7).pr = b := ⟨_, rfl⟩
    obtain ⟨b2, hb2⟩ : ∃ b, mayP (PB.mk s0 s1 s2 s3 s4 s5 s6 s7).pr = b := ⟨_, rfl⟩
    obtain ⟨ty, hty⟩ : ∃ b, pText (PB.mk s0 s1 s2 s3 s4 s5 s6 s7).pr = b := ⟨_, rfl⟩
    obtain ⟨sm, hsm⟩ : ∃ b, sameB (PB.mk r0 r1 r2 r3 r4 r5 r6 r7) (PB.mk s0 s1 s2 s3 s4 s5 s6 s7) = b := ⟨_, rfl⟩
    rw [hbx, htx] at HTX
    rw [hb2, hty] at HTY
    rw [hsm] at HSM
    rw [hbx, hb2, htx, hty, hsm] at HEQ
    unfold PB.agg at HTX HTY HSM
    simp only [PB.op, PB.s, PB.num, PB.n, PB.vs, PB.a, PB.c, PB.l] at HTX HTY HSM
    clear hbx htx hb2 hty hsm GX GY HM HT
    obtain ⟨B, hB⟩ : ∃ B, w.heap.size = B := ⟨_, rfl⟩
    rw [hB] at HP HQ ⊢
    obtain ⟨C, hC⟩ : ∃ C, B + 1 = C := ⟨_, rfl⟩
    rw [hC] at HQ ⊢
    clear hC
    obtain ⟨x0, x1, x2, x3, x4, x5, x6⟩ := HP.out.box
    obtain ⟨y0, y1, y2, y3, y4, y5, y6⟩ := HQ.out.box
    cases bx
    · go_wp2_with fail
      refine (HTX.out _ (.refl _ _)).mono ?_
      rintro e w1 ⟨rfl, hb1⟩
      have HB1 := Lib.hid hb1
      have HP1 := Lib.hid (HP.out.grow hb1)
      have HQ1 := Lib.hid (HQ.out.grow hb1)
      clear hb1 x0 x1 x2 x3 x4 x5 x6 y0 y1 y2 y3 y4 y5 y6 HTX HP HQ
      obtain ⟨x0, x1, x2, x3, x4, x5, x6⟩ := HP1.out.box
      obtain ⟨y0, y1, y2, y3, y4, y5, y6⟩ := HQ1.out.box
      simp only [if_true, Bool.false_eq_true, if_false]
      cases b2
      · go_wp2_with fail
        refine (HTY.out _ HB1.out).mono ?_
        rintro e w2 ⟨rfl, hb2⟩
        have HB2 := Lib.hid (HB1.out.trans (hb2.mono HB1.out.size))
        have HP2 := Lib.hid (HP1.out.grow hb2)
        have HQ2 := Lib.hid (HQ1.out.grow hb2)
        clear hb2 x0 x1 x2 x3 x4 x5 x6 y0 y1 y2 y3 y4 y5 y6 HTY HP1 HQ1 HB1
        obtain ⟨x0, x1, x2, x3, x4, x5, x6⟩ := HP2.out.box
        obtain ⟨y0, y1, y2, y3, y4, y5, y6⟩ := HQ2.out.box
        simp only [if_true, Bool.false_eq_true, if_false]
        go_wp2_with fail
        refine (HAW.out _ HB2.out).mono ?_
        rintro e w3 ⟨rfl, hb3⟩
        have HB3 := Lib.hid (bstep (hb3.trans (.refl _ _)) (bstep HB2.out HZ.out))
        go_wp2_with fail
        go_ret
        exact ⟨rfl, by first | exact HB3.out | (rw [← hB]; exact HB3.out)⟩
      · go_wp2_with fail
        refine (HTY.out _ HB1.out).mono ?_
        rintro e w2 ⟨rfl, hb2⟩
        have HB2 := Lib.hid (HB1.out.trans (hb2.mono HB1.out.size))
        have HP2 := Lib.hid (HP1.out.grow hb2)
        have HQ2 := Lib.hid (HQ1.out.grow hb2)
        clear hb2 x0 x1 x2 x3 x4 x5 x6 y0 y1 y2 y3 y4 y5 y6 HTY HP1 HQ1 HB1
        obtain ⟨x0, x1, x2, x3, x4, x5, x6⟩ := HP2.out.box
        obtain ⟨y0, y1, y2, y3, y4, y5, y6⟩ := HQ2.out.box
        simp only [if_true, Bool.false_eq_true, if_false]
        go_wp2_with fail
        refine (HAW.out _ HB2.out).mono ?_
        rintro e w3 ⟨rfl, hb3⟩
        have HB3 := Lib.hid (bstep (hb3.trans (.refl _ _)) (bstep HB2.out HZ.out))
        go_wp2_with fail
        go_ret
        exact ⟨rfl, by first | exact HB3.out | (rw [← hB]; exact HB3.out)⟩
    · go_wp2_with fail
      refine (HTX.out _ (.refl _ _)).mono ?_
      rintro e w1 ⟨rfl, hb1⟩
      have HB1 := Lib.hid hb1
      have HP1 := Lib.hid (HP.out.grow hb1)
      have HQ1 := Lib.hid (HQ.out.grow hb1)
      clear hb1 x0 x1 x2 x3 x4 x5 x6 y0 y1 y2 y3 y4 y5 y6 HTX HP HQ
      obtain ⟨x0, x1, x2, x3, x4, x5, x6⟩ := HP1.out.box
      obtain ⟨y0, y1, y2, y3, y4, y5, y6⟩ := HQ1.out.box
      simp only [if_true, Bool.false_eq_true, if_false]
      cases b2
      · go_wp2_with fail
        refine (HTY.out _ HB1.out).mono ?_
        rintro e w2 ⟨rfl, hb2⟩
        have HB2 := Lib.hid (HB1.out.trans (hb2.mono HB1.out.size))
        have HP2 := Lib.hid (HP1.out.grow hb2)
        have HQ2 := Lib.hid (HQ1.out.grow hb2)
        clear hb2 x0 x1 x2 x3 x4 x5 x6 y0 y1 y2 y3 y4 y5 y6 HTY HP1 HQ1 HB1
        obtain ⟨x0, x1, x2, x3, x4, x5, x6⟩ := HP2.out.box
        obtain ⟨y0, y1, y2, y3, y4, y5, y6⟩ := HQ2.out.box
        simp only [if_true, Bool.false_eq_true, if_false]
        go_wp2_with fail
        refine (HAW.out _ HB2.out).mono ?_
        rintro e w3 ⟨rfl, hb3⟩
        have HB3 := Lib.hid (bstep (hb3.trans (.refl _ _)) (bstep HB2.out HZ.out))
        go_wp2_with fail
        go_ret
        exact ⟨rfl, by first | exact HB3.out | (rw [← hB]; exact HB3.out)⟩
      · go_wp2_with fail
        refine (HTY.out _ HB1.out).mono ?_
        rintro e w2 ⟨rfl, hb2⟩
        have HB2 := Lib.hid (HB1.out.trans (hb2.mono HB1.out.size))
        have HP2 := Lib.hid (HP1.out.grow hb2)
        have HQ2 := Lib.hid (HQ1.out.grow hb2)
        clear hb2 x0 x1 x2 x3 x4 x5 x6 y0 y1 y2 y3 y4 y5 y6 HTY HP1 HQ1 HB1
        obtain ⟨x0, x1, x2, x3, x4, x5, x6⟩ := HP2.out.box
        obtain ⟨y0, y1, y2, y3, y4, y5, y6⟩ := HQ2.out.box
        simp only [if_true, Bool.false_eq_true, if_false]
        have HE := Lib.hid (HEQ.out trivial trivial)
        clear HEQ
        cases sm
        · have q1 : ¬ (tx.toArray.toList = ty.toArray.toList) := by
            have := HE.out
            simpa using this
          have q2 : (tx == ty) = false := by
            have := HE.out
            simpa using this
          go_wp2_with fail
          refine (HSM.out _ HB2.out).mono ?_
          rintro e w3 ⟨rfl, hb3⟩
          have HB3 := Lib.hid (HB2.out.trans (hb3.mono HB2.out.size))
          clear hb3
          go_wp2_with fail
          refine (HAW.out _ HB3.out).mono ?_
          rintro e w4 ⟨rfl, hb4⟩
          have HB4 := Lib.hid (bstep hb4 (bstep HB3.out HZ.out))
          go_wp2_with fail
          go_ret
          exact ⟨rfl, by first | exact HB4.out | (rw [← hB]; exact HB4.out)⟩
        · have q1 : tx = ty := by
            have := HE.out
            simpa using this
          subst q1
          go_wp2_with fail
          refine (HSM.out _ HB2.out).mono ?_
          rintro e w3 ⟨rfl, hb3⟩
          have HB3 := Lib.hid (HB2.out.trans (hb3.mono HB2.out.size))
          clear hb3
          go_wp2_with fail
          refine (HAW.out _ HB3.out).mono ?_
          rintro e w4 ⟨rfl, hb4⟩
          have HB4 := Lib.hid (bstep hb4 (bstep HB3.out HZ.out))
          go_wp2_with fail
          go_ret
          exact ⟨rfl, by first | exact HB4.out | (rw [← hB]; exact HB4.out)⟩
end Go.Proofs.YtmmdblpoecidaaaDoor
