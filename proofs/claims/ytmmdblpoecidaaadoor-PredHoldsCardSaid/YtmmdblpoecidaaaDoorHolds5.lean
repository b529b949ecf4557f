/- The walk of the law PredHolds. -/
import Derived.Test.YtmmdblpoecidaaaDoorProg
import Derived.WalkKit
import Derived.WalkSpells
import Derived.WalkLawsBesides
import Derived.Lib.Hide
import Derived.Test.YtmmdblpoecidaaaDoorFwP5
import Derived.Test.YtmmdblpoecidaaaDoorHold5
import Derived.Test.YtmmdblpoecidaaaDoorAwake5
import Derived.Test.YtmmdblpoecidaaaDoorFormP
import Derived.Test.YtmmdblpoecidaaaDoorRNS5
import Derived.Test.YtmmdblpoecidaaaDoorRFH5
import Derived.Test.YtmmdblpoecidaaaDoorPSm5
set_option linter.unusedVariables false
set_option linter.unusedSimpArgs false
namespace Go.Proofs.YtmmdblpoecidaaaDoor
open Go.RowKit Tryst
set_option maxHeartbeats 8000000
set_option maxRecDepth 20000
theorem predHolds_c (x y : PB) (t p : ByteArray) (q : Int) (a : Option Addr) (l : List FB) (c : Nat) (ht : t.size ≤ 9223372036854775807) (hp : p.size ≤ 9223372036854775807) (h0 : 0 ≤ q) (h4 : q ≤ 18446744073709551615) (hI : FIn l) (hl : l.length ≤ 9223372036854775807) (w : World) (hM : MaxW w) (hX : PArg w x) (hY : PArg w y) (hF : Flds w a l) :
    Calls Tryd.prog 6 #[x.agg, y.agg, .agg #[.string t, .string p, .int .u64 q, .slice a l.length c]] w fun e w' => e = .returned (.bool true) ∧ Below w.heap.size w w' := by
  obtain ⟨hO, hO2, hlen⟩ := few_ok hI
  have HM := Lib.hid hM
  have CX := Lib.hid (fun W (hb : Below w.heap.size w W) => fewpr_c x W (PArg.grow hX hb))
  have CY := Lib.hid (fun W (hb : Below w.heap.size w W) => fewpr_c y W (PArg.grow hY hb))
  have CF := Lib.hid (fun W (hb : Below w.heap.size w W) => efewO_c t p q a c l hl ht hp (few_in hI) W (hF.grow hb))
  have u1 := few60_le t
  have u2 := few60_le p
  clear hF hM hI hO hO2 hl ht hp hX hY
  revert CF hlen u1 u2
  generalize few60 t = t1
  generalize few60 p = p1
  generalize fewL l = L
  intro hlen CF u1 u2
  obtain ⟨m0, m1, m2, m3, m4, m5, m6, m7⟩ := x
  obtain ⟨n0, n1, n2, n3, n4, n5, n6, n7⟩ := y
  unfold PB.agg at CX CY ⊢
  simp only [PB.op, PB.s, PB.num, PB.n, PB.vs, PB.a, PB.c, PB.l] at CX CY ⊢
  go_enter Tryd.func6, Tryd.ntmps6
  go_upto_region 1 with fail
  have bx0 := BX.new w m0 m1 m2 m3 m4 (.slice m5 m7.length m6)
  have bx1 := BX.new (w.alloc (.cells #[.string m0, .string m1, .bool m2, .int .i64 m3, .string m4, .slice m5 m7.length m6] 26)) n0 n1 n2 n3 n4 (.slice n5 n7.length n6)
  rw [show (w.alloc (.cells #[.string m0, .string m1, .bool m2, .int .i64 m3, .string m4, .slice m5 m7.length m6] 26)).heap.size = w.heap.size + 1 by simp] at bx1
  refine wp_genC (fun v => Hid (BX v w.heap.size m0 m1 m2 m3 m4 (.slice m5 m7.length m6)) ∧ Hid (BX v (w.heap.size + 1) n0 n1 n2 n3 n4 (.slice n5 n7.length n6)) ∧ Hid (EAt v (w.heap.size + 2) t p q (.slice a l.length c)) ∧ Hid (Below w.heap.size w v) ∧ v.heap.size = w.heap.size + 3) ⟨(bx0.grow (balloc _ (.refl _ _))).grow (balloc _ (.refl _ _)), bx1.grow (balloc _ (.refl _ _)), ?_, balloc _ (balloc _ (balloc _ (.refl _ _))), by simp⟩ ?_
  · show EAt _ _ _ _ _ _
    constructor <;> simp [go_sem]
  rintro Y ⟨HP, HQ, HE, HY, hYz⟩
  clear bx0 bx1
  obtain ⟨x0, x1, x2, x3, x4, x5, x6⟩ := HP.out.box
  obtain ⟨y0, y1, y2, y3, y4, y5, y6⟩ := HQ.out.box
  obtain ⟨e0, e1, e2, e3, e4, e5, e6, e7⟩ := HE.out
  refine Tryst2.wp_region_grows [.is (.agg #[.string m0, .string m1, .bool m2, .int .i64 m3, .string m4, .slice m5 m7.length m6]), .any (PrO (w.heap.size + 3)), .is (.agg #[.string n0, .string n1, .bool n2, .int .i64 n3, .string n4, .slice n5 n7.length n6]), .any (PrO (w.heap.size + 3)), .is (.agg #[.string t, .string p, .int .u64 q, .slice a l.length c]), .any (EvO (w.heap.size + 3) t1 p1 q L)] (by kernel_rfl) (by kernel_rfl) ?obl ?fin
  case obl =>
    simp only [Tryst2.AllObl, Tryst2.dstL, Tryst2.Obl, Tryst2.depsOf, Tryst2.binds_data, Tryst2.binds_chain, Tryst2.binds_phase, Tryst2.binds_guard, Tryst2.binds_text, Tryst2.binds_gc, Bool.false_eq_true, if_false, List.filterMap_cons_some, List.filterMap_cons_none, Tryst2.depsR, Tryst2.holdR, Tryst2.tmpsOf, Op.operands, Call.operands, Tryst2.Rsp.pred, Tryst2.wantedV_none, Tryst2.wantedV_some, if_true, List.map_cons, List.map_nil, List.length_map, List.take_succ_cons, List.take_zero, List.length_cons, List.length_nil, List.getElem?_cons_zero, List.getElem?_cons_succ, Option.bind_some, id, List.getD_cons_zero, List.getD_cons_succ, Tryst2.isDst, List.filterMap_cons, List.filterMap_nil, List.toList_toArray]
    repeat' apply And.intro
    any_goals trivial
    all_goals (intro tv w' hg hold hd; (try simp at hold); obtain ⟨hcg, hfg⟩ := Tryst2.Grow.cells hg; have hsg := Tryst2.Grow.le hg)
    all_goals first | (go_simp; done) | (go_simp; rw [if_neg (by omega)]; exact ⟨.refl _, rfl⟩) | (obtain ⟨⟨g, hvg, hgg, hcell⟩, _⟩ := hd; have hcell0 := hcell 0 (by decide); simp at hcell0; go_simp; done) | (go_simp; go_at_call 9; (with_reducible refine (CX.out _ ?_).mono ?_); (exact bstep (Tryst2.Grow.below hg (.refl Y.heap.size Y)) HY.out); rintro e w2 ⟨y, rfl, ho, hb2⟩; exact PrO.of ho hb2 (by have := hg.size; omega)) | (go_simp; go_at_call 9; (with_reducible refine (CY.out _ ?_).mono ?_); (exact bstep (Tryst2.Grow.below hg (.refl Y.heap.size Y)) HY.out); rintro e w2 ⟨y, rfl, ho, hb2⟩; exact PrO.of ho hb2 (by have := hg.size; omega)) | (go_simp; go_at_call 10; (with_reducible refine (CF.out _ ?_).mono ?_); (exact bstep (Tryst2.Grow.below hg (.refl Y.heap.size Y)) HY.out); rintro e w2 ⟨a', c', rfl, ho, hb2⟩; exact EvO.of ho hb2 (by have := hg.size; omega))
  case fin =>
    intro tv w' hg hR
    simp only [Tryst2.allR, Tryst2.dstL, Tryst2.Rsp.pred, List.map_cons, List.map_nil, List.take_succ_cons, List.take_zero, List.length_cons, List.length_nil, List.tail_cons, List.toList_toArray] at hR
    obtain ⟨hcg, hfg⟩ := Tryst2.Grow.cells hg
    have hsg := Tryst2.Grow.le hg
    simp only [Tryst2.putAll, Tryst2.dstL, List.map_cons, List.map_nil, List.take_succ_cons, List.take_zero, List.length_cons, List.length_nil, List.toList_toArray, List.drop_succ_cons, List.drop_zero, Act.put, List.setIfInBounds_toArray, List.set_cons_zero, List.set_cons_succ, hR]
    obtain ⟨z1, eX, hX1⟩ := PrO.at hR.2.1
    obtain ⟨z2, eY, hY1⟩ := PrO.at hR.2.2.2.1
    obtain ⟨aA, cA, eA, fA, sA, bA⟩ := EvO.at hR.2.2.2.2.2.1
    simp only [eX, eY, eA]
    have HBZ := Lib.hid (Tryst2.Grow.below hg (.refl Y.heap.size Y))
    have HP2 := Lib.hid (HP.out.grow HBZ.out)
    have HQ2 := Lib.hid (HQ.out.grow HBZ.out)
    have HE2 := Lib.hid (HE.out.grow (by omega) HBZ.out)
    have HY2 := Lib.hid (bstep HBZ.out HY.out)
    have hz2 : w.heap.size + 3 ≤ w'.heap.size := by
      have := HBZ.out.size
      omega
    have GX := Lib.hid hX1.1
    have NX := Lib.hid hX1.2
    have GY := Lib.hid hY1.1
    have NY := Lib.hid hY1.2
    have GF := Lib.hid fA
    have GB := Lib.hid bA
    have SA := Lib.hid sA
    clear hg hR hcg hfg hsg x0 x1 x2 x3 x4 x5 x6 y0 y1 y2 y3 y4 y5 y6 e0 e1 e2 e3 e4 e5 e6 e7 HP HQ HE HY CX CY CF HBZ eX eY eA hX1 hY1 fA bA sA hYz
    obtain ⟨r0, r1, r2, r3, r4, r5, r6, r7⟩ := z1
    obtain ⟨s0, s1, s2, s3, s4, s5, s6, s7⟩ := z2
    unfold PB.agg
    simp only [PB.op, PB.s, PB.num, PB.n, PB.vs, PB.a, PB.c, PB.l]
    obtain ⟨x0, x1, x2, x3, x4, x5, x6⟩ := HP2.out.box
    obtain ⟨y0, y1, y2, y3, y4, y5, y6⟩ := HQ2.out.box
    obtain ⟨e0, e1, e2, e3, e4, e5, e6, e7⟩ := HE2.out
    have z0 := HP2.out.fz 0
    have z1 := HP2.out.fz 1
    have z2 := HP2.out.fz 2
    have z3 := HP2.out.fz 3
    have z4 := HP2.out.fz 4
    have z5 := HP2.out.fz 5
    have t0 := HQ2.out.fz 0
    have t1' := HQ2.out.fz 1
    have t2 := HQ2.out.fz 2
    have t3 := HQ2.out.fz 3
    have t4 := HQ2.out.fz 4
    have t5 := HQ2.out.fz 5
    go_upto_region 2 with fail
    refine wp_genC (fun v => Hid (BX v w.heap.size r0 r1 r2 r3 r4 (.slice r5 r7.length r6)) ∧ Hid (BX v (w.heap.size + 1) s0 s1 s2 s3 s4 (.slice s5 s7.length s6)) ∧ Hid (EAt v (w.heap.size + 2) t1 p1 q (.slice aA L.length cA)) ∧ Hid (POwn v (fun b => w.heap.size + 3 ≤ b) (PB.mk r0 r1 r2 r3 r4 r5 r6 r7)) ∧ Hid (POwn v (fun b => w.heap.size + 3 ≤ b) (PB.mk s0 s1 s2 s3 s4 s5 s6 s7)) ∧ Hid (Flds v aA L) ∧ Hid (Below w.heap.size w v)) ⟨two_p HP2.out, two_q HQ2.out, two_e HE2.out, two_o GX.out, two_o GY.out, two_f GF.out GB.out, two_b HY2.out⟩ ?_
    clear x0 x1 x2 x3 x4 x5 x6 y0 y1 y2 y3 y4 y5 y6 e0 e1 e2 e3 e4 e5 e6 e7 z0 z1 z2 z3 z4 z5 t0 t1' t2 t3 t4 t5 HP2 HQ2 HE2 HY2 GX GY GF hz2 GB
    rintro Z ⟨HP, HQ, HE, GX, GY, GF, HZ⟩
    have PX := Lib.hid GX.out.po
    have PY := Lib.hid GY.out.po
    have CM := Lib.hid (fun W (hb : Below Z.heap.size Z W) => may5_c (PB.mk r0 r1 r2 r3 r4 r5 r6 r7) W (HM.out.grow (bstep hb HZ.out)) (PX.out.grow hb).mem)
    have CR := Lib.hid (fun W (hb : Below Z.heap.size Z W) => rmay5_c (PB.mk r0 r1 r2 r3 r4 r5 r6 r7) W (PX.out.grow hb))
    have CS := Lib.hid (fun W (hb : Below Z.heap.size Z W) => psame_c (PB.mk r0 r1 r2 r3 r4 r5 r6 r7) (PB.mk s0 s1 s2 s3 s4 s5 s6 s7) (by have := NX.out; omega) W (PX.out.grow hb) (PY.out.grow hb))
    have CT := Lib.hid (fun W (hb : Below Z.heap.size Z W) => rsame5_c _ (PB.mk r0 r1 r2 r3 r4 r5 r6 r7) (PB.mk s0 s1 s2 s3 s4 s5 s6 s7) (Nat.le_refl _) W (PX.out.grow hb) (PY.out.grow hb))
    have CU := Lib.hid (fun W (hb : Below Z.heap.size Z W) => psame_c (PB.mk r0 r1 r2 r3 r4 r5 r6 r7) (PB.mk r0 r1 r2 r3 r4 r5 r6 r7) (by have := NX.out; omega) W (PX.out.grow hb) (PX.out.grow hb))
    have CH := Lib.hid (fun W (hb : Below Z.heap.size Z W) => holds5_c (PB.mk r0 r1 r2 r3 r4 r5 r6 r7) t1 p1 q aA L cA (by omega) (by omega) W (HM.out.grow (bstep hb HZ.out)) (PX.out.grow hb).mem (GF.out.grow hb))
    have CK := Lib.hid (fun (hm : mayP (PB.mk r0 r1 r2 r3 r4 r5 r6 r7).pr = true) W (hb : Below Z.heap.size Z W) => rholds5_c t1 p1 q aA L cA (by omega) (by omega) 8 (PB.mk r0 r1 r2 r3 r4 r5 r6 r7) (by rw [mayP_eq, Bool.and_eq_true] at hm; exact hm.1) W (PX.out.grow hb) (GF.out.grow hb))
    have CA := Lib.hid (fun W (hb : Below Z.heap.size Z W) => awake5_c W (HM.out.grow (bstep hb HZ.out)))
    rw [sameB_self] at CU
    obtain ⟨bm, hbm⟩ : ∃ b, mayP (PB.mk r0 r1 r2 r3 r4 r5 r6 r7).pr = b := ⟨_, rfl⟩
    obtain ⟨sm, hsm⟩ : ∃ b, sameB (PB.mk r0 r1 r2 r3 r4 r5 r6 r7) (PB.mk s0 s1 s2 s3 s4 s5 s6 s7) = b := ⟨_, rfl⟩
    obtain ⟨hh, hhh⟩ : ∃ b, holdsP t1 L (PB.mk r0 r1 r2 r3 r4 r5 r6 r7).pr = b := ⟨_, rfl⟩
    rw [hbm] at CM CR CH CK
    rw [hsm] at CS CT
    rw [hhh] at CH CK
    unfold PB.agg at CM CR CS CT CU CH CK
    simp only [PB.op, PB.s, PB.num, PB.n, PB.vs, PB.a, PB.c, PB.l] at CM CR CS CT CU CH CK
    clear hbm hsm hhh GX GY GF PX PY NX NY HM
    obtain ⟨B, hB⟩ : ∃ B, w.heap.size = B := ⟨_, rfl⟩
    rw [hB] at HP HQ HE ⊢
    obtain ⟨C, hC⟩ : ∃ C, B + 1 = C := ⟨_, rfl⟩
    rw [hC] at HQ ⊢
    obtain ⟨D, hD⟩ : ∃ D, C + 1 = D := ⟨_, rfl⟩
    rw [show B + 2 = D by omega] at HE
    rw [hD]
    clear hC hD
    have dz := (cell_lt HE.out.c0).1
    obtain ⟨x0, x1, x2, x3, x4, x5, x6⟩ := HP.out.box
    obtain ⟨y0, y1, y2, y3, y4, y5, y6⟩ := HQ.out.box
    obtain ⟨e0, e1, e2, e3, e4, e5, e6, e7⟩ := HE.out
    have HZ2 := HZ
    rw [hB] at HZ2
    cases bm with
    | false =>
      refine Tryst2.wp_region_grows [.is (.agg #[.string r0, .string r1, .bool r2, .int .i64 r3, .string r4, .slice r5 r7.length r6]), .is (.bool false), .is (.agg #[.string r0, .string r1, .bool r2, .int .i64 r3, .string r4, .slice r5 r7.length r6]), .is (.bool false), .is (.bool true), .is (.bool true), .is (.agg #[.string r0, .string r1, .bool r2, .int .i64 r3, .string r4, .slice r5 r7.length r6]), .is (.agg #[.string s0, .string s1, .bool s2, .int .i64 s3, .string s4, .slice s5 s7.length s6]), .is (.bool sm), .is (.agg #[.string r0, .string r1, .bool r2, .int .i64 r3, .string r4, .slice r5 r7.length r6]), .is (.agg #[.string s0, .string s1, .bool s2, .int .i64 s3, .string s4, .slice s5 s7.length s6]), .is (.bool sm), .is (.bool true), .is (.bool true), .is (.bool true), .is (.agg #[.string r0, .string r1, .bool r2, .int .i64 r3, .string r4, .slice r5 r7.length r6]), .is (.agg #[.string r0, .string r1, .bool r2, .int .i64 r3, .string r4, .slice r5 r7.length r6]), .is (.bool true), .is (.bool true), .is (.bool true), .is (.agg #[.string r0, .string r1, .bool r2, .int .i64 r3, .string r4, .slice r5 r7.length r6]), .is (.agg #[.string t1, .string p1, .int .u64 q, .slice aA L.length cA]), .is (.bool false), .is (.agg #[.string r0, .string r1, .bool r2, .int .i64 r3, .string r4, .slice r5 r7.length r6]), .is (.bool false), .is (.bool false), .is undef, .is undef, .is undef, .is (.bool false), .is (.bool true), .is (.bool true), .is (.bool true), .is (.bool true), .is (.bool true), .is (.bool true)] (by kernel_rfl) (by kernel_rfl) ?obl ?fin
      case obl =>
        simp only [Tryst2.AllObl, Tryst2.dstL, Tryst2.Obl, Tryst2.depsOf, Tryst2.binds_data, Tryst2.binds_chain, Tryst2.binds_phase, Tryst2.binds_guard, Tryst2.binds_text, Tryst2.binds_gc, Bool.false_eq_true, if_false, List.filterMap_cons_some, List.filterMap_cons_none, Tryst2.depsR, Tryst2.holdR, Tryst2.tmpsOf, Op.operands, Call.operands, Tryst2.Rsp.pred, Tryst2.wantedV_none, Tryst2.wantedV_some, if_true, List.map_cons, List.map_nil, List.length_map, List.take_succ_cons, List.take_zero, List.length_cons, List.length_nil, List.getElem?_cons_zero, List.getElem?_cons_succ, Option.bind_some, id, List.getD_cons_zero, List.getD_cons_succ, Tryst2.isDst, List.filterMap_cons, List.filterMap_nil, List.toList_toArray]
        repeat' apply And.intro
        any_goals trivial
        all_goals (intro tv w' hg hold hd; (try simp at hold); obtain ⟨hcg, hfg⟩ := Tryst2.Grow.cells hg; have hsg := Tryst2.Grow.le hg)
        all_goals first | (go_simp; done) | (go_simp; rw [if_neg (by omega)]; exact ⟨.refl _, rfl⟩) | (obtain ⟨⟨g, hvg, hgg, hcell⟩, _⟩ := hd; have hcell0 := hcell 0 (by decide); simp at hcell0; go_simp; done) | (go_simp; go_at_call 11; (with_reducible refine (CM.out _ ?_).mono ?_); (exact Tryst2.Grow.below hg (.refl _ _)); rintro e w2 ⟨rfl, hb2⟩; exact ⟨hb2, rfl⟩) | (go_simp; go_at_call 20; (with_reducible refine (CR.out _ ?_).mono ?_); (exact Tryst2.Grow.below hg (.refl _ _)); rintro e w2 ⟨rfl, hb2⟩; exact ⟨hb2, rfl⟩) | (go_simp; go_at_call 21; (with_reducible refine (CS.out _ ?_).mono ?_); (exact Tryst2.Grow.below hg (.refl _ _)); rintro e w2 ⟨rfl, hb2⟩; exact ⟨hb2, rfl⟩) | (go_simp; go_at_call 21; (with_reducible refine (CU.out _ ?_).mono ?_); (exact Tryst2.Grow.below hg (.refl _ _)); rintro e w2 ⟨rfl, hb2⟩; exact ⟨hb2, rfl⟩) | (go_simp; go_at_call 22; (with_reducible refine (CT.out _ ?_).mono ?_); (exact Tryst2.Grow.below hg (.refl _ _)); rintro e w2 ⟨rfl, hb2⟩; exact ⟨hb2, rfl⟩) | (go_simp; go_at_call 12; (with_reducible refine (CH.out _ ?_).mono ?_); (exact Tryst2.Grow.below hg (.refl _ _)); rintro e w2 ⟨rfl, hb2⟩; exact ⟨hb2, rfl⟩) | (go_simp; go_at_call 13; (with_reducible refine (CA.out _ ?_).mono ?_); (exact Tryst2.Grow.below hg (.refl _ _)); rintro e w2 ⟨rfl, hb2⟩; exact ⟨hb2, rfl⟩)
      case fin =>
        intro tv w' hg hR
        simp only [Tryst2.allR, Tryst2.dstL, Tryst2.Rsp.pred, List.map_cons, List.map_nil, List.take_succ_cons, List.take_zero, List.length_cons, List.length_nil, List.tail_cons, List.toList_toArray] at hR
        obtain ⟨hcg, hfg⟩ := Tryst2.Grow.cells hg
        have hsg := Tryst2.Grow.le hg
        simp only [Tryst2.putAll, Tryst2.dstL, List.map_cons, List.map_nil, List.take_succ_cons, List.take_zero, List.length_cons, List.length_nil, List.toList_toArray, List.drop_succ_cons, List.drop_zero, Act.put, List.setIfInBounds_toArray, List.set_cons_zero, List.set_cons_succ, hR]
        have HBG := Lib.hid (bstep (Tryst2.Grow.below hg (.refl Z.heap.size Z)) HZ.out)
        clear hg hR hcg hfg hsg
        go_wp2_with fail
        go_ret
        exact ⟨rfl, by first | exact HBG.out | (rw [← hB]; exact HBG.out)⟩
    | true =>
      have CK2 := Lib.hid (CK.out rfl)
      clear CK
      refine Tryst2.wp_region_grows [.is (.agg #[.string r0, .string r1, .bool r2, .int .i64 r3, .string r4, .slice r5 r7.length r6]), .is (.bool true), .is (.agg #[.string r0, .string r1, .bool r2, .int .i64 r3, .string r4, .slice r5 r7.length r6]), .is (.bool true), .is (.bool true), .is (.bool true), .is (.agg #[.string r0, .string r1, .bool r2, .int .i64 r3, .string r4, .slice r5 r7.length r6]), .is (.agg #[.string s0, .string s1, .bool s2, .int .i64 s3, .string s4, .slice s5 s7.length s6]), .is (.bool sm), .is (.agg #[.string r0, .string r1, .bool r2, .int .i64 r3, .string r4, .slice r5 r7.length r6]), .is (.agg #[.string s0, .string s1, .bool s2, .int .i64 s3, .string s4, .slice s5 s7.length s6]), .is (.bool sm), .is (.bool true), .is (.bool true), .is (.bool true), .is (.agg #[.string r0, .string r1, .bool r2, .int .i64 r3, .string r4, .slice r5 r7.length r6]), .is (.agg #[.string r0, .string r1, .bool r2, .int .i64 r3, .string r4, .slice r5 r7.length r6]), .is (.bool true), .is (.bool true), .is (.bool true), .is (.agg #[.string r0, .string r1, .bool r2, .int .i64 r3, .string r4, .slice r5 r7.length r6]), .is (.agg #[.string t1, .string p1, .int .u64 q, .slice aA L.length cA]), .is (.bool hh), .is (.agg #[.string r0, .string r1, .bool r2, .int .i64 r3, .string r4, .slice r5 r7.length r6]), .is (.bool true), .is (.bool true), .is (.agg #[.string r0, .string r1, .bool r2, .int .i64 r3, .string r4, .slice r5 r7.length r6]), .is (.agg #[.string t1, .string p1, .int .u64 q, .slice aA L.length cA]), .is (.bool hh), .is (.bool hh), .is (.bool true), .is (.bool true), .is (.bool true), .is (.bool true), .is (.bool true), .is (.bool true)] (by kernel_rfl) (by kernel_rfl) ?obl ?fin
      case obl =>
        simp only [Tryst2.AllObl, Tryst2.dstL, Tryst2.Obl, Tryst2.depsOf, Tryst2.binds_data, Tryst2.binds_chain, Tryst2.binds_phase, Tryst2.binds_guard, Tryst2.binds_text, Tryst2.binds_gc, Bool.false_eq_true, if_false, List.filterMap_cons_some, List.filterMap_cons_none, Tryst2.depsR, Tryst2.holdR, Tryst2.tmpsOf, Op.operands, Call.operands, Tryst2.Rsp.pred, Tryst2.wantedV_none, Tryst2.wantedV_some, if_true, List.map_cons, List.map_nil, List.length_map, List.take_succ_cons, List.take_zero, List.length_cons, List.length_nil, List.getElem?_cons_zero, List.getElem?_cons_succ, Option.bind_some, id, List.getD_cons_zero, List.getD_cons_succ, Tryst2.isDst, List.filterMap_cons, List.filterMap_nil, List.toList_toArray]
        repeat' apply And.intro
        any_goals trivial
        all_goals (intro tv w' hg hold hd; (try simp at hold); obtain ⟨hcg, hfg⟩ := Tryst2.Grow.cells hg; have hsg := Tryst2.Grow.le hg)
        all_goals first | (go_simp; done) | (go_simp; rw [if_neg (by omega)]; exact ⟨.refl _, rfl⟩) | (obtain ⟨⟨g, hvg, hgg, hcell⟩, _⟩ := hd; have hcell0 := hcell 0 (by decide); simp at hcell0; go_simp; done) | (go_simp; go_at_call 11; (with_reducible refine (CM.out _ ?_).mono ?_); (exact Tryst2.Grow.below hg (.refl _ _)); rintro e w2 ⟨rfl, hb2⟩; exact ⟨hb2, rfl⟩) | (go_simp; go_at_call 20; (with_reducible refine (CR.out _ ?_).mono ?_); (exact Tryst2.Grow.below hg (.refl _ _)); rintro e w2 ⟨rfl, hb2⟩; exact ⟨hb2, rfl⟩) | (go_simp; go_at_call 21; (with_reducible refine (CS.out _ ?_).mono ?_); (exact Tryst2.Grow.below hg (.refl _ _)); rintro e w2 ⟨rfl, hb2⟩; exact ⟨hb2, rfl⟩) | (go_simp; go_at_call 21; (with_reducible refine (CU.out _ ?_).mono ?_); (exact Tryst2.Grow.below hg (.refl _ _)); rintro e w2 ⟨rfl, hb2⟩; exact ⟨hb2, rfl⟩) | (go_simp; go_at_call 22; (with_reducible refine (CT.out _ ?_).mono ?_); (exact Tryst2.Grow.below hg (.refl _ _)); rintro e w2 ⟨rfl, hb2⟩; exact ⟨hb2, rfl⟩) | (go_simp; go_at_call 12; (with_reducible refine (CH.out _ ?_).mono ?_); (exact Tryst2.Grow.below hg (.refl _ _)); rintro e w2 ⟨rfl, hb2⟩; exact ⟨hb2, rfl⟩) | (go_simp; go_at_call 13; (with_reducible refine (CA.out _ ?_).mono ?_); (exact Tryst2.Grow.below hg (.refl _ _)); rintro e w2 ⟨rfl, hb2⟩; exact ⟨hb2, rfl⟩) | (go_simp; go_at_call 23; (with_reducible refine (CK2.out _ ?_).mono ?_); (exact Tryst2.Grow.below hg (.refl _ _)); rintro e w2 ⟨rfl, hb2⟩; exact ⟨hb2, rfl⟩)
      case fin =>
        intro tv w' hg hR
        simp only [Tryst2.allR, Tryst2.dstL, Tryst2.Rsp.pred, List.map_cons, List.map_nil, List.take_succ_cons, List.take_zero, List.length_cons, List.length_nil, List.tail_cons, List.toList_toArray] at hR
        obtain ⟨hcg, hfg⟩ := Tryst2.Grow.cells hg
        have hsg := Tryst2.Grow.le hg
        simp only [Tryst2.putAll, Tryst2.dstL, List.map_cons, List.map_nil, List.take_succ_cons, List.take_zero, List.length_cons, List.length_nil, List.toList_toArray, List.drop_succ_cons, List.drop_zero, Act.put, List.setIfInBounds_toArray, List.set_cons_zero, List.set_cons_succ, hR]
        have HBG := Lib.hid (bstep (Tryst2.Grow.below hg (.refl Z.heap.size Z)) HZ.out)
        clear hg hR hcg hfg hsg
        go_wp2_with fail
        go_ret
        exact ⟨rfl, by first | exact HBG.out | (rw [← hB]; exact HBG.out)⟩
end Go.Proofs.YtmmdblpoecidaaaDoor
