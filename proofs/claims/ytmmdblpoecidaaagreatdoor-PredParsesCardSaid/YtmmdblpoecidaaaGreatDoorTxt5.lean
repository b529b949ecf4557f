/- ref05.Text, ref05.Parse; the walks of the laws PredTexts, PredParses. -/
import Derived.Test.YtmmdblpoecidaaaGreatDoorProg
import Derived.WalkKit
import Derived.WalkSpells
import Derived.WalkLawsBesides
import Derived.Lib.Hide
import Derived.Deep.RegionWith
import Derived.Deep.Cut
import Derived.IntWalk
import Derived.Test.YtmmdblpoecidaaaGreatDoorRNS5
import Derived.Test.YtmmdblpoecidaaaGreatDoorWrT5
import Derived.Test.YtmmdblpoecidaaaGreatDoorDraws
import Derived.Test.YtmmdblpoecidaaaGreatDoorRFi5
import Derived.Test.YtmmdblpoecidaaaGreatDoorRFH5
import Derived.Test.YtmmdblpoecidaaaGreatDoorApart5
set_option linter.unusedVariables false
set_option linter.unusedSimpArgs false
namespace Go.Proofs.YtmmdblpoecidaaaGreatDoor
open Go.RowKit Tryst
set_option maxHeartbeats 4000000
set_option maxRecDepth 20000
theorem tB_le : ∀ d : Nat, d ≤ 8 → tB d ≤ 76500
  | 0, _ => by decide
  | 1, _ => by decide
  | 2, _ => by decide
  | 3, _ => by decide
  | 4, _ => by decide
  | 5, _ => by decide
  | 6, _ => by decide
  | 7, _ => by decide
  | 8, _ => by decide
  | d + 9, h => by omega
theorem rtext_c : ∀ (d : Nat) (x : PB), d ≤ 8 → formP x.pr d = true → fitsP x.pr → ∀ w, PO w x →
    Calls Tryz.prog 10 #[x.agg] w fun e w' => e = .returned (.string ⟨(pText x.pr).toArray⟩) ∧ Below w.heap.size w w' := by
  intro d
  induction d with
  | zero =>
    intro x _ hx
    obtain ⟨op, s, num, n, vs, a, c, ps⟩ := x
    rw [PB.pr, formP] at hx
    simp at hx
  | succ d ih =>
    intro x hd hx hft w hP
    have htb := tB_le d (by omega)
    obtain ⟨op, s, num, n, vs, a, c, ps⟩ := x
    obtain ⟨⟨_, hs, hvs, hps⟩, ⟨hn0, hn1⟩, hrow, hel⟩ := PO.parts hP
    rw [PB.pr] at hx hft ⊢
    obtain ⟨k, rfl, h1, h2⟩ := form_at hx
    rw [fitsP] at hft
    rw [text_at]
    rw [PB.prs_len] at h1
    have HRW := Lib.hid hrow
    have HEL := Lib.hid hel
    have HIH := Lib.hid ih
    clear hx hrow hel hP ih
    unfold PB.agg
    simp only [PB.op, PB.s, PB.num, PB.n, PB.vs, PB.a, PB.c, PB.l]
    go_enter Tryz.func10, Tryz.ntmps10
    go_upto_region 1 with fail
    refine wp_genC (fun v => Hid (BX v w.heap.size k.text s num n vs (.slice a ps.length c)) ∧ Hid (Below w.heap.size w v)) ⟨BX.new w k.text s num n vs (.slice a ps.length c), balloc _ (.refl _ _)⟩ ?_
    rintro Y ⟨HX, HB⟩
    obtain ⟨B, hB⟩ : ∃ B, w.heap.size = B := ⟨_, rfl⟩
    rw [hB] at HX ⊢
    have hBY : Hid (∀ W, Below w.heap.size w W → Below B w W) := Lib.hid (fun W h => hB ▸ h)
    obtain ⟨x0, x1, x2, x3, x4, x5, x6⟩ := HX.out.box
    cases k with
    | all =>
      rw [show Opk.all.text = ⟨#[97, 108, 108]⟩ from rfl] at x0
      go_wp2_with fail
      go_ret
      exact ⟨rfl, hBY.out _ HB.out⟩
    | topic =>
      rw [show Opk.topic.text = ⟨#[116, 111, 112, 105, 99]⟩ from rfl] at x0
      go_wp2_with fail
      go_ret
      exact ⟨congrArg (fun z => Ending.returned (.string z)) (str_ext (by simp)), hBY.out _ HB.out⟩
    | has =>
      rw [show Opk.has.text = ⟨#[104, 97, 115]⟩ from rfl] at x0
      go_wp2_with fail
      go_ret
      exact ⟨congrArg (fun z => Ending.returned (.string z)) (str_ext (by simp)), hBY.out _ HB.out⟩
    | eq =>
      have HV := Lib.hid (fun W => rwrite_c (x := num) (n := n) (s := vs) (by omega) hn0 hn1 W)
      rw [show Opk.eq.text = ⟨#[101, 113]⟩ from rfl] at x0
      simp only [aloneK, Bool.and_eq_true, decide_eq_true_eq, V.mayB] at h1
      have hwl := write_le _ h1.2.1 hft.1
      obtain ⟨wv, hwv⟩ : ∃ wv, V.write ⟨num, n, vs.data.toList⟩ = wv := ⟨_, rfl⟩
      rw [hwv] at HV hwl
      have HWV := Lib.hid hwv
      clear hwv
      clear h1 h2 hft
      go_upto_region 9 with fail
      refine Tryst2.wp_region_grows [.is (.pointer (some ⟨B, 1, none⟩)), .is (.string s), .is (.string (⟨#[40]⟩ ++ s)), .is (.string (⟨#[40]⟩ ++ s ++ ⟨#[32, 61, 32]⟩)), .is (.pointer (some ⟨B, 2, none⟩)), .is (.agg #[.bool num, .int .i64 n, .string vs]), .is (.string ⟨wv.toArray⟩), .is (.string (⟨#[40]⟩ ++ s ++ ⟨#[32, 61, 32]⟩ ++ ⟨wv.toArray⟩)), .is (.string (⟨#[40]⟩ ++ s ++ ⟨#[32, 61, 32]⟩ ++ ⟨wv.toArray⟩ ++ ⟨#[41]⟩))] (by kernel_rfl) (by kernel_rfl) ?obl ?fin
      case obl =>
        simp only [Tryst2.AllObl, Tryst2.dstL, Tryst2.Obl, Tryst2.depsOf, Tryst2.binds_data, Tryst2.binds_chain, Tryst2.binds_phase, Tryst2.binds_guard, Tryst2.binds_text, Tryst2.binds_gc, Bool.false_eq_true, if_false, List.filterMap_cons_some, List.filterMap_cons_none, Tryst2.depsR, Tryst2.holdR, Tryst2.tmpsOf, Op.operands, Call.operands, Tryst2.Rsp.pred, Tryst2.wantedV_none, Tryst2.wantedV_some, if_true, List.map_cons, List.map_nil, List.length_map, List.take_succ_cons, List.take_zero, List.length_cons, List.length_nil, List.getElem?_cons_zero, List.getElem?_cons_succ, Option.bind_some, id, List.getD_cons_zero, List.getD_cons_succ, Tryst2.isDst, List.filterMap_cons, List.filterMap_nil, List.toList_toArray]
        repeat' apply And.intro
        any_goals trivial
        all_goals (intro tv w' hg hold hd; (try simp at hold); obtain ⟨hcg, hfg⟩ := Tryst2.Grow.cells hg; have hsg := Tryst2.Grow.le hg)
        all_goals first | (go_simp; done) | (go_simp; rw [if_neg (by omega)]; exact ⟨.refl _, rfl⟩) | (obtain ⟨⟨g, hvg, hgg, hcell⟩, _⟩ := hd; have hcell0 := hcell 0 (by decide); simp at hcell0; go_simp; done) | (go_simp; refine (HV.out _).mono ?_; rintro e w2 ⟨rfl, hb2⟩; exact ⟨hb2, rfl⟩)
      case fin =>
        intro tv w' hg hR
        simp only [Tryst2.allR, Tryst2.dstL, Tryst2.Rsp.pred, List.map_cons, List.map_nil, List.take_succ_cons, List.take_zero, List.length_cons, List.length_nil, List.tail_cons, List.toList_toArray] at hR
        obtain ⟨hcg, hfg⟩ := Tryst2.Grow.cells hg
        have hsg := Tryst2.Grow.le hg
        simp only [Tryst2.putAll, Tryst2.dstL, List.map_cons, List.map_nil, List.take_succ_cons, List.take_zero, List.length_cons, List.length_nil, List.toList_toArray, List.drop_succ_cons, List.drop_zero, Act.put, List.setIfInBounds_toArray, List.set_cons_zero, List.set_cons_succ, hR]
        have HB9 := Lib.hid (bstep (Tryst2.Grow.below hg (.refl Y.heap.size Y)) HB.out)
        clear hg hR hcg hfg hsg
        go_wp2_with fail
        go_ret
        exact ⟨congrArg (fun z => Ending.returned (.string z)) (str_ext (by simp [HWV.out])), hBY.out _ HB9.out⟩
    | lt =>
      have HV := Lib.hid (fun W => rwrite_c (x := num) (n := n) (s := vs) (by omega) hn0 hn1 W)
      rw [show Opk.lt.text = ⟨#[108, 116]⟩ from rfl] at x0
      simp only [aloneK, Bool.and_eq_true, decide_eq_true_eq, V.mayB] at h1
      have hwl := write_le _ h1.2.1 hft.1
      obtain ⟨wv, hwv⟩ : ∃ wv, V.write ⟨num, n, vs.data.toList⟩ = wv := ⟨_, rfl⟩
      rw [hwv] at HV hwl
      have HWV := Lib.hid hwv
      clear hwv
      clear h1 h2 hft
      go_upto_region 11 with fail
      refine Tryst2.wp_region_grows [.is (.pointer (some ⟨B, 1, none⟩)), .is (.string s), .is (.string (⟨#[40]⟩ ++ s)), .is (.string (⟨#[40]⟩ ++ s ++ ⟨#[32, 60, 32]⟩)), .is (.pointer (some ⟨B, 2, none⟩)), .is (.agg #[.bool num, .int .i64 n, .string vs]), .is (.string ⟨wv.toArray⟩), .is (.string (⟨#[40]⟩ ++ s ++ ⟨#[32, 60, 32]⟩ ++ ⟨wv.toArray⟩)), .is (.string (⟨#[40]⟩ ++ s ++ ⟨#[32, 60, 32]⟩ ++ ⟨wv.toArray⟩ ++ ⟨#[41]⟩))] (by kernel_rfl) (by kernel_rfl) ?obl ?fin
      case obl =>
        simp only [Tryst2.AllObl, Tryst2.dstL, Tryst2.Obl, Tryst2.depsOf, Tryst2.binds_data, Tryst2.binds_chain, Tryst2.binds_phase, Tryst2.binds_guard, Tryst2.binds_text, Tryst2.binds_gc, Bool.false_eq_true, if_false, List.filterMap_cons_some, List.filterMap_cons_none, Tryst2.depsR, Tryst2.holdR, Tryst2.tmpsOf, Op.operands, Call.operands, Tryst2.Rsp.pred, Tryst2.wantedV_none, Tryst2.wantedV_some, if_true, List.map_cons, List.map_nil, List.length_map, List.take_succ_cons, List.take_zero, List.length_cons, List.length_nil, List.getElem?_cons_zero, List.getElem?_cons_succ, Option.bind_some, id, List.getD_cons_zero, List.getD_cons_succ, Tryst2.isDst, List.filterMap_cons, List.filterMap_nil, List.toList_toArray]
        repeat' apply And.intro
        any_goals trivial
        all_goals (intro tv w' hg hold hd; (try simp at hold); obtain ⟨hcg, hfg⟩ := Tryst2.Grow.cells hg; have hsg := Tryst2.Grow.le hg)
        all_goals first | (go_simp; done) | (go_simp; rw [if_neg (by omega)]; exact ⟨.refl _, rfl⟩) | (obtain ⟨⟨g, hvg, hgg, hcell⟩, _⟩ := hd; have hcell0 := hcell 0 (by decide); simp at hcell0; go_simp; done) | (go_simp; refine (HV.out _).mono ?_; rintro e w2 ⟨rfl, hb2⟩; exact ⟨hb2, rfl⟩)
      case fin =>
        intro tv w' hg hR
        simp only [Tryst2.allR, Tryst2.dstL, Tryst2.Rsp.pred, List.map_cons, List.map_nil, List.take_succ_cons, List.take_zero, List.length_cons, List.length_nil, List.tail_cons, List.toList_toArray] at hR
        obtain ⟨hcg, hfg⟩ := Tryst2.Grow.cells hg
        have hsg := Tryst2.Grow.le hg
        simp only [Tryst2.putAll, Tryst2.dstL, List.map_cons, List.map_nil, List.take_succ_cons, List.take_zero, List.length_cons, List.length_nil, List.toList_toArray, List.drop_succ_cons, List.drop_zero, Act.put, List.setIfInBounds_toArray, List.set_cons_zero, List.set_cons_succ, hR]
        have HB9 := Lib.hid (bstep (Tryst2.Grow.below hg (.refl Y.heap.size Y)) HB.out)
        clear hg hR hcg hfg hsg
        go_wp2_with fail
        go_ret
        exact ⟨congrArg (fun z => Ending.returned (.string z)) (str_ext (by simp [HWV.out])), hBY.out _ HB9.out⟩
    | not =>
      simp only [aloneK, Bool.and_eq_true, decide_eq_true_eq] at h1
      obtain ⟨y, rfl⟩ := List.length_eq_one_iff.1 h1.2.2
      have hy : formP y.pr d = true := by simpa [formL, PB.prs] using h2
      have fy : fitsP y.pr := by
        have := hft.2
        rw [PB.prs, fitsL] at this
        exact this.1
      have HI := Lib.hid (fun W (hb : Below w.heap.size w W) => HIH.out y (by omega) hy fy W ((HEL.out y (by simp)).grow hb))
      obtain ⟨b, o, rfl, -⟩ := HRW.out.head (i := 0) (by simp)
      obtain ⟨hz, hc⟩ := (HRW.out.grow HB.out).at (i := 0) (by simp)
      have e0 := hc 0 (by omega)
      have e1 := hc 1 (by omega)
      have e2 := hc 2 (by omega)
      have e3 := hc 3 (by omega)
      have e4 := hc 4 (by omega)
      have e5 := hc 5 (by omega)
      simp [PB.cells] at e0 e1 e2 e3 e4 e5
      have hyl := ptext_le d _ hy fy
      have HTE : Hid (pTextL (PB.prs [y]) = [pText y.pr]) := Lib.hid (by rw [PB.prs, PB.prs, pTextL, pTextL])
      generalize pText y.pr = ty at HI HTE hyl
      obtain ⟨y0, y1, y2, y3, y4, y5, y6, y7⟩ := y
      unfold PB.agg at HI
      simp only [PB.op, PB.s, PB.num, PB.n, PB.vs, PB.a, PB.c, PB.l] at HI e0 e1 e2 e3 e4 e5
      rw [show Opk.not.text = ⟨#[110, 111, 116]⟩ from rfl] at x0
      clear hc hz h1 h2 hft hy fy
      simp only [List.length_cons, List.length_nil] at x5
      go_wp2_with fail
      refine (HI.out _ HB.out).mono ?_
      rintro e w2 ⟨rfl, hb2⟩
      have HB2 := Lib.hid (bstep hb2 HB.out)
      go_wp2_with fail
      go_ret
      exact ⟨congrArg (fun z => Ending.returned (.string z)) (str_ext (by simp [HTE.out])), hBY.out _ HB2.out⟩
    | and =>
      simp only [aloneK, Bool.and_eq_true, decide_eq_true_eq] at h1
      obtain ⟨y, z, rfl⟩ : ∃ y z, ps = [y, z] := by
        match ps, h1.2.2 with
        | [y, z], _ => exact ⟨y, z, rfl⟩
      simp only [formL, PB.prs, Bool.and_eq_true, and_true] at h2
      have hft := hft.2
      simp only [PB.prs, fitsL, and_true] at hft
      have HI := Lib.hid (fun W (hb : Below w.heap.size w W) => HIH.out y (by omega) h2.1 hft.1 W ((HEL.out y (by simp)).grow hb))
      have HJ := Lib.hid (fun W (hb : Below w.heap.size w W) => HIH.out z (by omega) h2.2 hft.2 W ((HEL.out z (by simp)).grow hb))
      obtain ⟨b, o, rfl, -⟩ := HRW.out.head (i := 0) (by simp)
      obtain ⟨hz, hc⟩ := (HRW.out.grow HB.out).at (i := 0) (by simp)
      have e0 := hc 0 (by omega)
      have e1 := hc 1 (by omega)
      have e2 := hc 2 (by omega)
      have e3 := hc 3 (by omega)
      have e4 := hc 4 (by omega)
      have e5 := hc 5 (by omega)
      clear hc
      obtain ⟨_, hc⟩ := (HRW.out.grow HB.out).at (i := 1) (by simp)
      have f0 := hc 0 (by omega)
      have f1 := hc 1 (by omega)
      have f2 := hc 2 (by omega)
      have f3 := hc 3 (by omega)
      have f4 := hc 4 (by omega)
      have f5 := hc 5 (by omega)
      simp [PB.cells] at e0 e1 e2 e3 e4 e5 f0 f1 f2 f3 f4 f5
      have HTE : Hid (pTextL (PB.prs [y, z]) = [pText y.pr, pText z.pr]) := Lib.hid (by rw [PB.prs, PB.prs, PB.prs, pTextL, pTextL, pTextL])
      have hyl := ptext_le d _ h2.1 hft.1
      have hzl := ptext_le d _ h2.2 hft.2
      generalize pText y.pr = ty at HI HTE hyl
      generalize pText z.pr = tz at HJ HTE hzl
      obtain ⟨y0, y1, y2, y3, y4, y5, y6, y7⟩ := y
      obtain ⟨z0, z1, z2, z3, z4, z5, z6, z7⟩ := z
      unfold PB.agg at HI HJ
      simp only [PB.op, PB.s, PB.num, PB.n, PB.vs, PB.a, PB.c, PB.l] at HI HJ e0 e1 e2 e3 e4 e5 f0 f1 f2 f3 f4 f5
      rw [show (Opk.and).text = ⟨#[97, 110, 100]⟩ from rfl] at x0
      clear hc h1 h2 hft
      simp only [List.length_cons, List.length_nil] at x5
      go_upto_region 14 with fail
      refine Tryst2.wp_region_grows [.is (.pointer (some ⟨B, 5, none⟩)), .is (.slice (some ⟨b, o, none⟩) 2 c), .is (.pointer (some ⟨b, o, none⟩)), .is (.agg #[.string y0, .string y1, .bool y2, .int .i64 y3, .string y4, .slice y5 y7.length y6]), .is (.string ⟨ty.toArray⟩), .is (.string (⟨#[40]⟩ ++ ⟨ty.toArray⟩)), .is (.string (⟨#[40]⟩ ++ ⟨ty.toArray⟩ ++ ⟨#[32]⟩)), .is (.pointer (some ⟨B, 0, none⟩)), .is (.string ⟨#[97, 110, 100]⟩), .is (.string (⟨#[40]⟩ ++ ⟨ty.toArray⟩ ++ ⟨#[32]⟩ ++ ⟨#[97, 110, 100]⟩)), .is (.string (⟨#[40]⟩ ++ ⟨ty.toArray⟩ ++ ⟨#[32]⟩ ++ ⟨#[97, 110, 100]⟩ ++ ⟨#[32]⟩)), .is (.pointer (some ⟨B, 5, none⟩)), .is (.slice (some ⟨b, o, none⟩) 2 c), .is (.pointer (some ⟨b, o + 6, none⟩)), .is (.agg #[.string z0, .string z1, .bool z2, .int .i64 z3, .string z4, .slice z5 z7.length z6]), .is (.string ⟨tz.toArray⟩), .is (.string (⟨#[40]⟩ ++ ⟨ty.toArray⟩ ++ ⟨#[32]⟩ ++ ⟨#[97, 110, 100]⟩ ++ ⟨#[32]⟩ ++ ⟨tz.toArray⟩)), .is (.string (⟨#[40]⟩ ++ ⟨ty.toArray⟩ ++ ⟨#[32]⟩ ++ ⟨#[97, 110, 100]⟩ ++ ⟨#[32]⟩ ++ ⟨tz.toArray⟩ ++ ⟨#[41]⟩))] (by kernel_rfl) (by kernel_rfl) ?obl ?fin
      case obl =>
        simp only [Tryst2.AllObl, Tryst2.dstL, Tryst2.Obl, Tryst2.depsOf, Tryst2.binds_data, Tryst2.binds_chain, Tryst2.binds_phase, Tryst2.binds_guard, Tryst2.binds_text, Tryst2.binds_gc, Bool.false_eq_true, if_false, List.filterMap_cons_some, List.filterMap_cons_none, Tryst2.depsR, Tryst2.holdR, Tryst2.tmpsOf, Op.operands, Call.operands, Tryst2.Rsp.pred, Tryst2.wantedV_none, Tryst2.wantedV_some, if_true, List.map_cons, List.map_nil, List.length_map, List.take_succ_cons, List.take_zero, List.length_cons, List.length_nil, List.getElem?_cons_zero, List.getElem?_cons_succ, Option.bind_some, id, List.getD_cons_zero, List.getD_cons_succ, Tryst2.isDst, List.filterMap_cons, List.filterMap_nil, List.toList_toArray]
        repeat' apply And.intro
        any_goals trivial
        all_goals (intro tv w' hg hold hd; (try simp at hold); obtain ⟨hcg, hfg⟩ := Tryst2.Grow.cells hg; have hsg := Tryst2.Grow.le hg)
        all_goals first | (go_simp; done) | (go_simp; rw [if_neg (by omega)]; exact ⟨.refl _, rfl⟩) | (obtain ⟨⟨g, hvg, hgg, hcell⟩, _⟩ := hd; have hcell0 := hcell 0 (by decide); simp at hcell0; go_simp; done) | (go_simp; (with_reducible refine (HI.out _ ?_).mono ?_); (exact bstep (Tryst2.Grow.below hg (.refl Y.heap.size Y)) HB.out); rintro e w2 ⟨rfl, hb2⟩; exact ⟨hb2, rfl⟩) | (go_simp; (with_reducible refine (HJ.out _ ?_).mono ?_); (exact bstep (Tryst2.Grow.below hg (.refl Y.heap.size Y)) HB.out); rintro e w2 ⟨rfl, hb2⟩; exact ⟨hb2, rfl⟩)
      case fin =>
        intro tv w' hg hR
        simp only [Tryst2.allR, Tryst2.dstL, Tryst2.Rsp.pred, List.map_cons, List.map_nil, List.take_succ_cons, List.take_zero, List.length_cons, List.length_nil, List.tail_cons, List.toList_toArray] at hR
        obtain ⟨hcg, hfg⟩ := Tryst2.Grow.cells hg
        have hsg := Tryst2.Grow.le hg
        simp only [Tryst2.putAll, Tryst2.dstL, List.map_cons, List.map_nil, List.take_succ_cons, List.take_zero, List.length_cons, List.length_nil, List.toList_toArray, List.drop_succ_cons, List.drop_zero, Act.put, List.setIfInBounds_toArray, List.set_cons_zero, List.set_cons_succ, hR]
        have HB9 := Lib.hid (bstep (Tryst2.Grow.below hg (.refl Y.heap.size Y)) HB.out)
        clear hg hR hcg hfg hsg
        go_wp2_with fail
        go_ret
        exact ⟨congrArg (fun z => Ending.returned (.string z)) (str_ext (by simp [HTE.out])), hBY.out _ HB9.out⟩
    | or =>
      simp only [aloneK, Bool.and_eq_true, decide_eq_true_eq] at h1
      obtain ⟨y, z, rfl⟩ : ∃ y z, ps = [y, z] := by
        match ps, h1.2.2 with
        | [y, z], _ => exact ⟨y, z, rfl⟩
      simp only [formL, PB.prs, Bool.and_eq_true, and_true] at h2
      have hft := hft.2
      simp only [PB.prs, fitsL, and_true] at hft
      have HI := Lib.hid (fun W (hb : Below w.heap.size w W) => HIH.out y (by omega) h2.1 hft.1 W ((HEL.out y (by simp)).grow hb))
      have HJ := Lib.hid (fun W (hb : Below w.heap.size w W) => HIH.out z (by omega) h2.2 hft.2 W ((HEL.out z (by simp)).grow hb))
      obtain ⟨b, o, rfl, -⟩ := HRW.out.head (i := 0) (by simp)
      obtain ⟨hz, hc⟩ := (HRW.out.grow HB.out).at (i := 0) (by simp)
      have e0 := hc 0 (by omega)
      have e1 := hc 1 (by omega)
      have e2 := hc 2 (by omega)
      have e3 := hc 3 (by omega)
      have e4 := hc 4 (by omega)
      have e5 := hc 5 (by omega)
      clear hc
      obtain ⟨_, hc⟩ := (HRW.out.grow HB.out).at (i := 1) (by simp)
      have f0 := hc 0 (by omega)
      have f1 := hc 1 (by omega)
      have f2 := hc 2 (by omega)
      have f3 := hc 3 (by omega)
      have f4 := hc 4 (by omega)
      have f5 := hc 5 (by omega)
      simp [PB.cells] at e0 e1 e2 e3 e4 e5 f0 f1 f2 f3 f4 f5
      have HTE : Hid (pTextL (PB.prs [y, z]) = [pText y.pr, pText z.pr]) := Lib.hid (by rw [PB.prs, PB.prs, PB.prs, pTextL, pTextL, pTextL])
      have hyl := ptext_le d _ h2.1 hft.1
      have hzl := ptext_le d _ h2.2 hft.2
      generalize pText y.pr = ty at HI HTE hyl
      generalize pText z.pr = tz at HJ HTE hzl
      obtain ⟨y0, y1, y2, y3, y4, y5, y6, y7⟩ := y
      obtain ⟨z0, z1, z2, z3, z4, z5, z6, z7⟩ := z
      unfold PB.agg at HI HJ
      simp only [PB.op, PB.s, PB.num, PB.n, PB.vs, PB.a, PB.c, PB.l] at HI HJ e0 e1 e2 e3 e4 e5 f0 f1 f2 f3 f4 f5
      rw [show (Opk.or).text = ⟨#[111, 114]⟩ from rfl] at x0
      clear hc h1 h2 hft
      simp only [List.length_cons, List.length_nil] at x5
      go_upto_region 14 with fail
      refine Tryst2.wp_region_grows [.is (.pointer (some ⟨B, 5, none⟩)), .is (.slice (some ⟨b, o, none⟩) 2 c), .is (.pointer (some ⟨b, o, none⟩)), .is (.agg #[.string y0, .string y1, .bool y2, .int .i64 y3, .string y4, .slice y5 y7.length y6]), .is (.string ⟨ty.toArray⟩), .is (.string (⟨#[40]⟩ ++ ⟨ty.toArray⟩)), .is (.string (⟨#[40]⟩ ++ ⟨ty.toArray⟩ ++ ⟨#[32]⟩)), .is (.pointer (some ⟨B, 0, none⟩)), .is (.string ⟨#[111, 114]⟩), .is (.string (⟨#[40]⟩ ++ ⟨ty.toArray⟩ ++ ⟨#[32]⟩ ++ ⟨#[111, 114]⟩)), .is (.string (⟨#[40]⟩ ++ ⟨ty.toArray⟩ ++ ⟨#[32]⟩ ++ ⟨#[111, 114]⟩ ++ ⟨#[32]⟩)), .is (.pointer (some ⟨B, 5, none⟩)), .is (.slice (some ⟨b, o, none⟩) 2 c), .is (.pointer (some ⟨b, o + 6, none⟩)), .is (.agg #[.string z0, .string z1, .bool z2, .int .i64 z3, .string z4, .slice z5 z7.length z6]), .is (.string ⟨tz.toArray⟩), .is (.string (⟨#[40]⟩ ++ ⟨ty.toArray⟩ ++ ⟨#[32]⟩ ++ ⟨#[111, 114]⟩ ++ ⟨#[32]⟩ ++ ⟨tz.toArray⟩)), .is (.string (⟨#[40]⟩ ++ ⟨ty.toArray⟩ ++ ⟨#[32]⟩ ++ ⟨#[111, 114]⟩ ++ ⟨#[32]⟩ ++ ⟨tz.toArray⟩ ++ ⟨#[41]⟩))] (by kernel_rfl) (by kernel_rfl) ?obl ?fin
      case obl =>
        simp only [Tryst2.AllObl, Tryst2.dstL, Tryst2.Obl, Tryst2.depsOf, Tryst2.binds_data, Tryst2.binds_chain, Tryst2.binds_phase, Tryst2.binds_guard, Tryst2.binds_text, Tryst2.binds_gc, Bool.false_eq_true, if_false, List.filterMap_cons_some, List.filterMap_cons_none, Tryst2.depsR, Tryst2.holdR, Tryst2.tmpsOf, Op.operands, Call.operands, Tryst2.Rsp.pred, Tryst2.wantedV_none, Tryst2.wantedV_some, if_true, List.map_cons, List.map_nil, List.length_map, List.take_succ_cons, List.take_zero, List.length_cons, List.length_nil, List.getElem?_cons_zero, List.getElem?_cons_succ, Option.bind_some, id, List.getD_cons_zero, List.getD_cons_succ, Tryst2.isDst, List.filterMap_cons, List.filterMap_nil, List.toList_toArray]
        repeat' apply And.intro
        any_goals trivial
        all_goals (intro tv w' hg hold hd; (try simp at hold); obtain ⟨hcg, hfg⟩ := Tryst2.Grow.cells hg; have hsg := Tryst2.Grow.le hg)
        all_goals first | (go_simp; done) | (go_simp; rw [if_neg (by omega)]; exact ⟨.refl _, rfl⟩) | (obtain ⟨⟨g, hvg, hgg, hcell⟩, _⟩ := hd; have hcell0 := hcell 0 (by decide); simp at hcell0; go_simp; done) | (go_simp; (with_reducible refine (HI.out _ ?_).mono ?_); (exact bstep (Tryst2.Grow.below hg (.refl Y.heap.size Y)) HB.out); rintro e w2 ⟨rfl, hb2⟩; exact ⟨hb2, rfl⟩) | (go_simp; (with_reducible refine (HJ.out _ ?_).mono ?_); (exact bstep (Tryst2.Grow.below hg (.refl Y.heap.size Y)) HB.out); rintro e w2 ⟨rfl, hb2⟩; exact ⟨hb2, rfl⟩)
      case fin =>
        intro tv w' hg hR
        simp only [Tryst2.allR, Tryst2.dstL, Tryst2.Rsp.pred, List.map_cons, List.map_nil, List.take_succ_cons, List.take_zero, List.length_cons, List.length_nil, List.tail_cons, List.toList_toArray] at hR
        obtain ⟨hcg, hfg⟩ := Tryst2.Grow.cells hg
        have hsg := Tryst2.Grow.le hg
        simp only [Tryst2.putAll, Tryst2.dstL, List.map_cons, List.map_nil, List.take_succ_cons, List.take_zero, List.length_cons, List.length_nil, List.toList_toArray, List.drop_succ_cons, List.drop_zero, Act.put, List.setIfInBounds_toArray, List.set_cons_zero, List.set_cons_succ, hR]
        have HB9 := Lib.hid (bstep (Tryst2.Grow.below hg (.refl Y.heap.size Y)) HB.out)
        clear hg hR hcg hfg hsg
        go_wp2_with fail
        go_ret
        exact ⟨congrArg (fun z => Ending.returned (.string z)) (str_ext (by simp [HTE.out])), hBY.out _ HB9.out⟩
end Go.Proofs.YtmmdblpoecidaaaGreatDoor
namespace Tryst
open Go Go.RowKit Go.Lib
theorem parse_text {p : Pr} (h : mayP p = true) (hf : fitsP p) : parseP (pText p) = some p := by
  have h2 := h
  rw [mayP_eq, Bool.and_eq_true] at h2
  have h3 := first_at 8 p h2.1 hf []
  rw [List.append_nil] at h3
  unfold parseP
  rw [h3]
  simp [h]
theorem parse_some {s : List UInt8} {p : Pr} (h : parseP s = some p) : mayP p = true ∧ s = pText p := by
  unfold parseP at h
  rcases hF : firstP 8 s with _ | ⟨q, u⟩
  · rw [hF] at h
    cases h
  · rw [hF] at h
    cases u with
    | nil =>
      simp only at h
      split at h
      · rename_i hm
        cases h
        refine ⟨hm, ?_⟩
        have := first_text 8 s _ _ hF
        rwa [List.append_nil] at this
      · cases h
    | cons c r => cases h
theorem parse_len {s : List UInt8} {p : Pr} {u : List UInt8} {n : Nat} (hF : firstP 8 s = some (p, u)) (hn : n + u.length = s.length) : parseP s = if n = s.length ∧ mayP p = true then some p else none := by
  unfold parseP
  rw [hF]
  cases u with
  | nil =>
    have : n = s.length := by simpa using hn
    simp [this]
  | cons c r =>
    have : ¬ n = s.length := by simp at hn; omega
    simp [this]
end Tryst
namespace Go.Proofs.YtmmdblpoecidaaaGreatDoor
open Go.RowKit Tryst
set_option maxHeartbeats 4000000
set_option maxRecDepth 20000
theorem rparse_c (s : ByteArray) (hs : s.size ≤ 100000) (w : World) :
    Calls Tryz.prog 12 #[.string s] w fun e w' => ∃ y : PB, e = .returned (.tuple #[y.agg, .bool (parseP s.data.toList).isSome]) ∧ POwn w' (fun b => w.heap.size ≤ b) y ∧ y.pr = (parseP s.data.toList).getD zeroP ∧ Below w.heap.size w w' := by
  obtain ⟨Q, hQ⟩ : ∃ Q, parseP s.data.toList = Q := ⟨_, rfl⟩
  have HQ := Lib.hid hQ
  rw [hQ]
  have HI := Lib.hid (fun W => rfirst_c 8 (by omega) s hs W)
  have HZ : Hid (∀ W S, POwn W S (leafB ⟨#[]⟩ ⟨#[]⟩ ⟨false, 0, []⟩)) := Lib.hid (fun W S => leaf_own _ _ _ _ _ (by decide) (by decide) (by decide) ⟨by decide, by decide⟩)
  have HZP : Hid ((leafB ⟨#[]⟩ ⟨#[]⟩ ⟨false, 0, []⟩).pr = zeroP) := Lib.hid (by unfold leafB zeroP; rw [PB.pr, PB.prs])
  have HX1 : Hid (FX w (w.alloc (.cells #[.string ⟨#[]⟩, .string ⟨#[]⟩, .bool false, .int .i64 0, .string ⟨#[]⟩, .slice none 0 0] 26))) := Lib.hid ⟨BX.new w _ _ _ _ _ _, balloc _ (.refl _ _)⟩
  clear hQ
  go_enter Tryz.func12, Tryz.ntmps12
  go_upto_region 1 with fail
  revert HX1
  generalize w.alloc (.cells #[.string ⟨#[]⟩, .string ⟨#[]⟩, .bool false, .int .i64 0, .string ⟨#[]⟩, .slice none 0 0] 26) = X1
  intro HX1
  go_wp2_with fail
  refine (HI.out X1).mono ?_
  rintro e w5 ⟨y, n, rfl, hn, hn0, hy, hb5⟩
  have HX5 := Lib.hid (HX1.out.grow hb5)
  have hz4 := HX1.out.facts.2.2
  rcases hF : firstP 8 s.data.toList with _ | ⟨p, u⟩
  · obtain rfl : n = 0 := hn0 hF
    have HN : Hid (Q = none) := Lib.hid (by rw [← HQ.out]; unfold parseP; rw [hF])
    clear hn0 hy hb5 HX1 hF hn hz4
    obtain ⟨o0, o1, o2, o3, o4, o5, o6, o7⟩ := y
    unfold PB.agg
    simp only [PB.op, PB.s, PB.num, PB.n, PB.vs, PB.a, PB.c, PB.l]
    have HX6 := Lib.hid (HX5.out.grow (balloc (.cells #[.string o0, .string o1, .bool o2, .int .i64 o3, .string o4, .slice o5 o7.length o6] 26) (.refl _ _)))
    go_upto_region 2 with fail
    revert HX6
    generalize w5.alloc (.cells #[.string o0, .string o1, .bool o2, .int .i64 o3, .string o4, .slice o5 o7.length o6] 26) = X6
    intro HX6
    obtain ⟨⟨x0, x1, x2, x3, x4, x5⟩, ⟨z0, z1, z2, z3, z4, z5⟩, zz⟩ := HX6.out.facts
    go_wp2_with fail
    refine bodyPost_ret (v := .tuple #[(leafB ⟨#[]⟩ ⟨#[]⟩ ⟨false, 0, []⟩).agg, .bool false]) (by simp [results, Tryz.results12, go_sem, leafB, PB.agg, PB.op, PB.s, PB.num, PB.n, PB.vs, PB.a, PB.c, PB.l, *]) rfl ⟨leafB ⟨#[]⟩ ⟨#[]⟩ ⟨false, 0, []⟩, by rw [HN.out]; rfl, HZ.out _ _, by rw [HN.out]; exact HZP.out, ?_⟩
    (repeat (first | with_reducible exact HX6.out.b | with_reducible apply bdrew | with_reducible apply balloc | with_reducible refine bset _ (Nat.le_refl _) ?_))
  · obtain ⟨hpr, hn1, hnu, hown⟩ := hy p u hF
    have HQ2 := Lib.hid ((parse_len hF (by rw [len_str]; exact hnu)).symm.trans HQ.out)
    rw [len_str] at HQ2
    have HPR := Lib.hid hpr
    have hn1i : ((n : Int) == 0) = false := by rw [beq_eq_false_iff_ne]; omega
    have HO6 := Lib.hid (hown.grow (S' := fun b => w.heap.size < b) (balloc (.cells #[.string y.op, .string y.s, .bool y.num, .int .i64 y.n, .string y.vs, .slice y.a y.l.length y.c] 26) (.refl _ _)) (fun b hb => by omega))
    have HMY := Lib.hid (fun W hb => rmay5_c y W (PO.grow (HO6.out.grow (.refl _ _) (fun _ _ => trivial)) hb))
    rw [hpr] at HMY
    obtain ⟨mb, hmb⟩ : ∃ mb, mayP p = mb := ⟨_, rfl⟩
    rw [hmb] at HMY HQ2
    clear hmb hpr
    obtain ⟨o0, o1, o2, o3, o4, o5, o6, o7⟩ := y
    unfold PB.agg at HMY ⊢
    simp only [PB.op, PB.s, PB.num, PB.n, PB.vs, PB.a, PB.c, PB.l] at HMY HO6 ⊢
    have HX6 := Lib.hid (HX5.out.grow (balloc (.cells #[.string o0, .string o1, .bool o2, .int .i64 o3, .string o4, .slice o5 o7.length o6] 26) (.refl _ _)))
    have HB6 := Lib.hid (BX.new w5 o0 o1 o2 o3 o4 (.slice o5 o7.length o6))
    clear hn0 hy hb5 HX1 hF hown HX5
    go_upto_region 2 with fail
    revert HX6 HO6 HB6 HMY
    generalize w5.alloc (.cells #[.string o0, .string o1, .bool o2, .int .i64 o3, .string o4, .slice o5 o7.length o6] 26) = X6
    intro HO6 HMY HX6 HB6
    by_cases hns : n = s.size
    · obtain ⟨v0, v1, v2, v3, v4, v5, v6⟩ := HB6.out.box
      have hns2 : ((n : Int) == s.size) = true := by rw [beq_iff_eq]; omega
      have hns3 : ((n : Int) != s.size) = false := by rw [bne, hns2]; rfl
      have HNS := Lib.hid hns
      clear hns
      go_wp2_with fail
      refine (HMY.out _ (.refl _ _)).mono ?_
      rintro e w7 ⟨rfl, hb7⟩
      have HX7 := Lib.hid (HX6.out.grow hb7)
      have HO7 := Lib.hid (HO6.out.grow hb7 (fun _ h => h))
      have HB7 := Lib.hid (HB6.out.grow hb7)
      clear hb7 HX6 HO6 HB6 v0 v1 v2 v3 v4 v5 v6
      cases mb with
      | false =>
        have HN : Hid (Q = none) := Lib.hid (by rw [← HQ2.out, if_neg (by simp)])
        obtain ⟨⟨x0, x1, x2, x3, x4, x5⟩, ⟨z0, z1, z2, z3, z4, z5⟩, zz⟩ := HX7.out.facts
        go_wp2_with fail
        refine bodyPost_ret (v := .tuple #[(leafB ⟨#[]⟩ ⟨#[]⟩ ⟨false, 0, []⟩).agg, .bool false]) (by simp [results, Tryz.results12, go_sem, leafB, PB.agg, PB.op, PB.s, PB.num, PB.n, PB.vs, PB.a, PB.c, PB.l, *]) rfl ⟨leafB ⟨#[]⟩ ⟨#[]⟩ ⟨false, 0, []⟩, by rw [HN.out]; rfl, HZ.out _ _, by rw [HN.out]; exact HZP.out, ?_⟩
        (repeat (first | with_reducible exact HX7.out.b | with_reducible apply bdrew | with_reducible apply balloc | with_reducible refine bset _ (Nat.le_refl _) ?_))
      | true =>
        have HN : Hid (Q = some p) := Lib.hid (by rw [← HQ2.out, if_pos ⟨HNS.out, rfl⟩])
        obtain ⟨v0, v1, v2, v3, v4, v5, v6⟩ := HB7.out.box
        obtain ⟨⟨x0, x1, x2, x3, x4, x5⟩, ⟨z0, z1, z2, z3, z4, z5⟩, zz⟩ := HX7.out.facts
        go_wp2_with fail
        refine bodyPost_ret (v := .tuple #[(PB.mk o0 o1 o2 o3 o4 o5 o6 o7).agg, .bool true]) (by simp [results, Tryz.results12, go_sem, PB.agg, PB.op, PB.s, PB.num, PB.n, PB.vs, PB.a, PB.c, PB.l, *]) rfl ⟨PB.mk o0 o1 o2 o3 o4 o5 o6 o7, by rw [HN.out]; rfl, keepD HO7.out, by rw [HN.out]; exact HPR.out, ?_⟩
        (repeat (first | with_reducible exact HX7.out.2 | with_reducible apply bdrew | with_reducible apply balloc | with_reducible refine bset _ (Nat.le_refl _) ?_))
    · have hns2 : ((n : Int) == s.size) = false := by rw [beq_eq_false_iff_ne]; omega
      have hns3 : ((n : Int) != s.size) = true := by rw [bne, hns2]; rfl
      have HN : Hid (Q = none) := Lib.hid (by rw [← HQ2.out, if_neg (fun h => hns h.1)])
      clear hns
      obtain ⟨⟨x0, x1, x2, x3, x4, x5⟩, ⟨z0, z1, z2, z3, z4, z5⟩, zz⟩ := HX6.out.facts
      go_wp2_with fail
      refine bodyPost_ret (v := .tuple #[(leafB ⟨#[]⟩ ⟨#[]⟩ ⟨false, 0, []⟩).agg, .bool false]) (by simp [results, Tryz.results12, go_sem, leafB, PB.agg, PB.op, PB.s, PB.num, PB.n, PB.vs, PB.a, PB.c, PB.l, *]) rfl ⟨leafB ⟨#[]⟩ ⟨#[]⟩ ⟨false, 0, []⟩, by rw [HN.out]; rfl, HZ.out _ _, by rw [HN.out]; exact HZP.out, ?_⟩
      (repeat (first | with_reducible exact HX6.out.b | with_reducible apply bdrew | with_reducible apply balloc | with_reducible refine bset _ (Nat.le_refl _) ?_))
end Go.Proofs.YtmmdblpoecidaaaGreatDoor
namespace Go.Proofs.YtmmdblpoecidaaaGreatDoor
open Go.RowKit Tryst
set_option maxHeartbeats 4000000
set_option maxRecDepth 20000
/-- a predicate is put into its box again -/
theorem put_box {w v : World} {B : Nat} {a0 a1 : ByteArray} {a2 : Bool} {a3 : Int} {a4 : ByteArray} {a5 : Value} (h : BX v B a0 a1 a2 a3 a4 a5) (hb : Below B w v) (r0 r1 : ByteArray) (r2 : Bool) (r3 : Int) (r4 : ByteArray) (r5 : Value) :
    BX ((((((v.setCell ⟨B, 0, none⟩ (.string r0)).setCell ⟨B, 1, none⟩ (.string r1)).setCell ⟨B, 2, none⟩ (.bool r2)).setCell ⟨B, 3, none⟩ (.int .i64 r3)).setCell ⟨B, 4, none⟩ (.string r4)).setCell ⟨B, 5, none⟩ r5) B r0 r1 r2 r3 r4 r5 ∧ Below B w ((((((v.setCell ⟨B, 0, none⟩ (.string r0)).setCell ⟨B, 1, none⟩ (.string r1)).setCell ⟨B, 2, none⟩ (.bool r2)).setCell ⟨B, 3, none⟩ (.int .i64 r3)).setCell ⟨B, 4, none⟩ (.string r4)).setCell ⟨B, 5, none⟩ r5) :=
  ⟨h.all r0 r1 r2 r3 r4 r5, Below.setCell (Below.setCell (Below.setCell (Below.setCell (Below.setCell (Below.setCell hb (p := ⟨B, 0, none⟩) (Nat.le_refl _) _) (p := ⟨B, 1, none⟩) (Nat.le_refl _) _) (p := ⟨B, 2, none⟩) (Nat.le_refl _) _) (p := ⟨B, 3, none⟩) (Nat.le_refl _) _) (p := ⟨B, 4, none⟩) (Nat.le_refl _) _) (p := ⟨B, 5, none⟩) (Nat.le_refl _) _⟩
theorem predTexts_c (x : PB) (w : World) (hM : MaxW w) (hT : Tab w) (hX : PArg w x) :
    Calls Tryz.prog 3 #[x.agg] w fun e w' => e = .returned (.bool true) ∧ Below w.heap.size w w' := by
  have HM := Lib.hid hM
  have HT := Lib.hid hT
  have CX := Lib.hid (fun W (hb : Below w.heap.size w W) => fewpr_c x W (PArg.grow hX hb))
  clear hM hT hX
  obtain ⟨m0, m1, m2, m3, m4, m5, m6, m7⟩ := x
  unfold PB.agg at CX ⊢
  simp only [PB.op, PB.s, PB.num, PB.n, PB.vs, PB.a, PB.c, PB.l] at CX ⊢
  go_enter Tryz.func3, Tryz.ntmps3
  go_upto_region 1 with fail
  refine wp_genC (fun v => Hid (BX v w.heap.size m0 m1 m2 m3 m4 (.slice m5 m7.length m6)) ∧ Hid (Below w.heap.size w v)) ⟨BX.new w m0 m1 m2 m3 m4 (.slice m5 m7.length m6), balloc _ (.refl _ _)⟩ ?_
  rintro Y ⟨HP, HY⟩
  obtain ⟨x0, x1, x2, x3, x4, x5, x6⟩ := HP.out.box
  go_wp2_with fail
  refine (CX.out _ HY.out).mono ?_
  rintro e w2 ⟨y, rfl, ⟨ho, hno⟩, hb2⟩
  have HP2 := Lib.hid (HP.out.grow hb2)
  have HY2 := Lib.hid (bstep hb2 HY.out)
  have HO2 := Lib.hid (ho.grow (S' := fun b => w.heap.size < b) (.refl _ _) (fun b hb => by omega))
  clear hb2 ho hno HP HY x0 x1 x2 x3 x4 x5 x6 CX
  obtain ⟨r0, r1, r2, r3, r4, r5, r6, r7⟩ := y
  simp only [PB.op, PB.s, PB.num, PB.n, PB.vs, PB.a, PB.c, PB.l]
  obtain ⟨x0, x1, x2, x3, x4, x5, x6⟩ := HP2.out.box
  have z0 := HP2.out.fz 0
  have z1 := HP2.out.fz 1
  have z2 := HP2.out.fz 2
  have z3 := HP2.out.fz 3
  have z4 := HP2.out.fz 4
  have z5 := HP2.out.fz 5
  go_upto_region 2 with fail
  obtain ⟨g1, g2⟩ := put_box HP2.out HY2.out r0 r1 r2 r3 r4 (.slice r5 r7.length r6)
  refine wp_genC (fun v => Hid (BX v w.heap.size r0 r1 r2 r3 r4 (.slice r5 r7.length r6)) ∧ Hid (Below w.heap.size w v) ∧ Hid (POwn v (fun b => w.heap.size ≤ b) (PB.mk r0 r1 r2 r3 r4 r5 r6 r7))) ⟨g1, g2, keepD HO2.out⟩ ?_
  rintro Z ⟨HP, HZ, HO⟩
  clear g1 g2 HP2 HY2 HO2 x0 x1 x2 x3 x4 x5 x6 z0 z1 z2 z3 z4 z5
  have GX := Lib.hid (HO.out.grow (S' := fun _ => True) (.refl _ _) (fun _ _ => trivial))
  have HTX := Lib.hid (text5_c (PB.mk r0 r1 r2 r3 r4 r5 r6 r7) Z (HM.out.grow HZ.out) GX.out.mem (po_fits _ GX.out) (HT.out.grow HZ.out))
  have HMY := Lib.hid (fun W (hb : Below Z.heap.size Z W) => rmay5_c (PB.mk r0 r1 r2 r3 r4 r5 r6 r7) W (PO.grow GX.out hb))
  have HAW := Lib.hid (fun W (hb : Below Z.heap.size Z W) => awake5_c W (HM.out.grow (bstep hb HZ.out)))
  obtain ⟨mb, hmb⟩ : ∃ mb, mayP (PB.mk r0 r1 r2 r3 r4 r5 r6 r7).pr = mb := ⟨_, rfl⟩
  obtain ⟨tx, htx⟩ : ∃ tx, pText (PB.mk r0 r1 r2 r3 r4 r5 r6 r7).pr = tx := ⟨_, rfl⟩
  have HTL := Lib.hid (fun (h : mb = true) => show tx.length ≤ 76500 ∧ parseP tx = some (PB.mk r0 r1 r2 r3 r4 r5 r6 r7).pr by
    have h1 := hmb.trans h
    have h2 := h1
    rw [mayP_eq, Bool.and_eq_true] at h2
    rw [← htx]
    exact ⟨ptext_le 8 _ h2.1 (po_fits _ GX.out), parse_text h1 (po_fits _ GX.out)⟩)
  have HRT := Lib.hid (fun (h : mb = true) W (hb : Below Z.heap.size Z W) => rtext_c 8 (PB.mk r0 r1 r2 r3 r4 r5 r6 r7) (by omega) (by
    have h1 := hmb.trans h
    rw [mayP_eq, Bool.and_eq_true] at h1
    exact h1.1) (po_fits _ GX.out) W (PO.grow GX.out hb))
  rw [hmb, htx] at HTX
  rw [hmb] at HMY
  rw [htx] at HRT
  unfold PB.agg at HTX HMY HRT
  simp only [PB.op, PB.s, PB.num, PB.n, PB.vs, PB.a, PB.c, PB.l] at HTX HMY HRT
  clear hmb htx HO HT
  obtain ⟨x0, x1, x2, x3, x4, x5, x6⟩ := HP.out.box
  cases mb with
  | false =>
    rw [if_neg (by decide), if_neg (by decide)] at HTX
    go_wp2_with fail
    refine HTX.out.mono ?_
    rintro e w3 ⟨rfl, hb3⟩
    have HP3 := Lib.hid (HP.out.grow hb3)
    have HB3 := Lib.hid hb3
    clear hb3 x0 x1 x2 x3 x4 x5 x6 HTX
    obtain ⟨x0, x1, x2, x3, x4, x5, x6⟩ := HP3.out.box
    go_wp2_with fail
    refine (HMY.out _ HB3.out).mono ?_
    rintro e w4 ⟨rfl, hb4⟩
    have HB4 := Lib.hid (bstep hb4 HB3.out)
    clear hb4 x0 x1 x2 x3 x4 x5 x6 HMY
    go_wp2_with fail
    refine (HAW.out _ HB4.out).mono ?_
    rintro e w5 ⟨rfl, hb5⟩
    have HB5 := Lib.hid (bstep hb5 HB4.out)
    clear hb5
    go_wp2_with fail
    go_ret
    exact ⟨rfl, bstep HB5.out HZ.out⟩
  | true =>
    obtain ⟨htl, hpt⟩ := HTL.out rfl
    have HRT2 := Lib.hid (HRT.out rfl)
    rw [if_pos rfl, if_pos rfl] at HTX
    have HPC := Lib.hid (fun W (hb : Below Z.heap.size Z W) => parse_c ⟨tx.toArray⟩ (by show tx.toArray.size ≤ _; simp; omega) W (HM.out.grow (bstep hb HZ.out)))
    rw [show (⟨tx.toArray⟩ : ByteArray).data.toList = tx by simp, hpt] at HPC
    clear htl hpt HTL HRT
    go_wp2_with fail
    refine HTX.out.mono ?_
    rintro e w3 ⟨rfl, hb3⟩
    have HP3 := Lib.hid (HP.out.grow hb3)
    have HB3 := Lib.hid hb3
    clear hb3 x0 x1 x2 x3 x4 x5 x6 HTX
    obtain ⟨x0, x1, x2, x3, x4, x5, x6⟩ := HP3.out.box
    go_wp2_with fail
    refine (HMY.out _ HB3.out).mono ?_
    rintro e w4 ⟨rfl, hb4⟩
    have HB4 := Lib.hid (bstep hb4 HB3.out)
    have HP4 := Lib.hid (HP3.out.grow hb4)
    clear hb4 x0 x1 x2 x3 x4 x5 x6 HMY HP3 HB3
    go_wp2_with fail
    refine (HPC.out _ HB4.out).mono ?_
    rintro e w5 ⟨z, rfl, hzo, hzp, hb5⟩
    rw [show perr (some (PB.mk r0 r1 r2 r3 r4 r5 r6 r7).pr) = 0 from rfl]
    have HB5 := Lib.hid (bstep hb5 HB4.out)
    have HP5 := Lib.hid (HP4.out.grow hb5)
    have HSM : Hid (sameB z (PB.mk r0 r1 r2 r3 r4 r5 r6 r7) = true) := Lib.hid ((sameB_pr _ _).2 hzp)
    have HZO := Lib.hid hzo.po
    clear hb5 HP4 HB4 hzo hzp HPC
    have HSC := Lib.hid (fun W (hb : Below w5.heap.size w5 W) => rsame5_c _ z (PB.mk r0 r1 r2 r3 r4 r5 r6 r7) (Nat.le_refl _) W (HZO.out.grow hb) (PO.grow GX.out (bstep hb HB5.out)))
    rw [HSM.out] at HSC
    obtain ⟨s0, s1, s2, s3, s4, s5, s6, s7⟩ := z
    unfold PB.agg at HSC ⊢
    simp only [PB.op, PB.s, PB.num, PB.n, PB.vs, PB.a, PB.c, PB.l] at HSC ⊢
    have HP6 := Lib.hid (HP5.out.grow (balloc (.cells #[.string s0, .string s1, .bool s2, .int .i64 s3, .string s4, .slice s5 s7.length s6] 26) (.refl _ _)))
    have HQ6 := Lib.hid (BX.new w5 s0 s1 s2 s3 s4 (.slice s5 s7.length s6))
    have HB6 := Lib.hid (balloc (.cells #[.string s0, .string s1, .bool s2, .int .i64 s3, .string s4, .slice s5 s7.length s6] 26) (Below.refl w5.heap.size w5))
    clear HP5 HSM HZO
    go_upto_region 6 with fail
    revert HP6 HQ6 HB6
    generalize w5.alloc (.cells #[.string s0, .string s1, .bool s2, .int .i64 s3, .string s4, .slice s5 s7.length s6] 26) = X6
    intro HP6 HQ6 HB6
    obtain ⟨x0, x1, x2, x3, x4, x5, x6⟩ := HP6.out.box
    go_wp2_with fail
    refine (HRT2.out _ (bstep HB6.out HB5.out)).mono ?_
    rintro e w7 ⟨rfl, hb7⟩
    have HP7 := Lib.hid (HP6.out.grow hb7)
    have HQ7 := Lib.hid (HQ6.out.grow hb7)
    have HB7 := Lib.hid (bstep hb7 HB6.out)
    clear hb7 HP6 HQ6 HB6 x0 x1 x2 x3 x4 x5 x6
    obtain ⟨x0, x1, x2, x3, x4, x5, x6⟩ := HP7.out.box
    obtain ⟨y0, y1, y2, y3, y4, y5, y6⟩ := HQ7.out.box
    go_wp2_with fail
    refine (HSC.out _ HB7.out).mono ?_
    rintro e w8 ⟨rfl, hb8⟩
    have HB8 := Lib.hid (bstep (bstep hb8 HB7.out) HB5.out)
    clear hb8 HP7 HQ7 HB7 x0 x1 x2 x3 x4 x5 x6 y0 y1 y2 y3 y4 y5 y6
    go_wp2_with fail
    refine (HAW.out _ HB8.out).mono ?_
    rintro e w9 ⟨rfl, hb9⟩
    have HB9 := Lib.hid (bstep hb9 HB8.out)
    clear hb9
    go_wp2_with fail
    go_ret
    exact ⟨rfl, bstep HB9.out HZ.out⟩
theorem predParses_c (s : ByteArray) (hs : s.size ≤ 9223372036854775807) (w : World) (hM : MaxW w) (hT : Tab w) :
    Calls Tryz.prog 4 #[.string s] w fun e w' => e = .returned (.bool true) ∧ Below w.heap.size w w' := by
  have HM := Lib.hid hM
  have HT := Lib.hid hT
  clear hM hT
  go_enter Tryz.func4, Tryz.ntmps4
  go_upto_if 11 with fail
  go_cut [0] from 9 to 13 (fun v wx => ∃ s' : ByteArray, v = .string s' ∧ s'.size ≤ 900 ∧ wx = w)
  case first =>
    by_cases h9 : 900 < s.size
    · have h9i : (900 : Int) < s.size := by omega
      go_wp2_with fail
      go_meet
      exact ⟨_, rfl, by simp; omega, rfl⟩
    · have h9i : ¬ (900 : Int) < s.size := by omega
      go_wp2_with fail
      go_meet
      exact ⟨_, rfl, by omega, rfl⟩
  case rest =>
  obtain ⟨s', rfl, hs9, rfl⟩ := hcut
  have HP := Lib.hid (parse_c s' (by omega) wc HM.out)
  have HR := Lib.hid (fun W => rparse_c s' (by omega) W)
  obtain ⟨Q, hQ⟩ : ∃ Q, parseP s'.data.toList = Q := ⟨_, rfl⟩
  have HQ := Lib.hid hQ
  rw [hQ] at HP HR
  clear hQ
  go_wp2_with fail
  refine HP.out.mono ?_
  rintro e w2 ⟨y, rfl, hyo, hyp, hb2⟩
  have HB2 := Lib.hid hb2
  have HYO := Lib.hid hyo.po
  clear hb2 hyo HP
  have HTX := Lib.hid (fun W (hb : Below w2.heap.size w2 W) => text5_c y W (HM.out.grow (bstep hb HB2.out)) (PO.grow HYO.out hb).mem (po_fits _ HYO.out) (HT.out.grow (bstep hb HB2.out)))
  have HAW := Lib.hid (fun W (hb : Below w2.heap.size w2 W) => awake5_c W (HM.out.grow (bstep hb HB2.out)))
  rw [hyp] at HTX
  obtain ⟨r0, r1, r2, r3, r4, r5, r6, r7⟩ := y
  unfold PB.agg at HTX ⊢
  simp only [PB.op, PB.s, PB.num, PB.n, PB.vs, PB.a, PB.c, PB.l] at HTX ⊢
  have HP3 := Lib.hid (BX.new w2 r0 r1 r2 r3 r4 (.slice r5 r7.length r6))
  have HB3 := Lib.hid (balloc (.cells #[.string r0, .string r1, .bool r2, .int .i64 r3, .string r4, .slice r5 r7.length r6] 26) (Below.refl w2.heap.size w2))
  go_upto_region 4 with fail
  revert HP3 HB3
  generalize w2.alloc (.cells #[.string r0, .string r1, .bool r2, .int .i64 r3, .string r4, .slice r5 r7.length r6] 26) = X3
  intro HP3 HB3
  generalize w2.heap.size = A at HP3 ⊢
  go_wp2_with fail
  refine (HR.out X3).mono ?_
  rintro e w4 ⟨z, rfl, hzo, hzp, hb4⟩
  have HB4 := Lib.hid (Below.trans HB3.out (hb4.mono HB3.out.size))
  have HP4 := Lib.hid (HP3.out.grow hb4)
  have HZO := Lib.hid hzo.po
  have HSM : Hid (sameB (PB.mk r0 r1 r2 r3 r4 r5 r6 r7) z = true) := Lib.hid ((sameB_pr _ _).2 (hyp.trans hzp.symm))
  have HSC := Lib.hid (fun W (hb : Below w4.heap.size w4 W) => rsame5_c _ (PB.mk r0 r1 r2 r3 r4 r5 r6 r7) z (Nat.le_refl _) W (PO.grow HYO.out (Below.trans HB4.out (hb.mono HB4.out.size))) (HZO.out.grow hb))
  rw [HSM.out] at HSC
  clear hb4 hzo HB3 HP3 HR HSM
  obtain ⟨s0, s1, s2, s3, s4, s5, s6, s7⟩ := z
  unfold PB.agg at HSC ⊢
  simp only [PB.op, PB.s, PB.num, PB.n, PB.vs, PB.a, PB.c, PB.l] at HSC ⊢
  have HP6 := Lib.hid (HP4.out.grow (balloc (.cells #[.string s0, .string s1, .bool s2, .int .i64 s3, .string s4, .slice s5 s7.length s6] 26) (.refl _ _)))
  have HQ6 := Lib.hid (BX.new w4 s0 s1 s2 s3 s4 (.slice s5 s7.length s6))
  have HB6 := Lib.hid (balloc (.cells #[.string s0, .string s1, .bool s2, .int .i64 s3, .string s4, .slice s5 s7.length s6] 26) (Below.refl w4.heap.size w4))
  go_upto_region 5 with fail
  revert HP6 HQ6 HB6
  generalize w4.alloc (.cells #[.string s0, .string s1, .bool s2, .int .i64 s3, .string s4, .slice s5 s7.length s6] 26) = X6
  intro HP6 HQ6 HB6
  clear HP4
  obtain ⟨x0, x1, x2, x3, x4, x5, x6⟩ := HP6.out.box
  obtain ⟨y0, y1, y2, y3, y4, y5, y6⟩ := HQ6.out.box
  cases Q with
  | none =>
    rw [show perr none = 2 from rfl, show (none : Option Pr).isSome = false from rfl]
    go_wp2_with fail
    refine (HSC.out _ HB6.out).mono ?_
    rintro e w7 ⟨rfl, hb7⟩
    have HP7 := Lib.hid (HP6.out.grow hb7)
    have HB7 := Lib.hid (Below.trans HB4.out ((bstep hb7 HB6.out).mono HB4.out.size))
    clear hb7 HP6 HQ6 HB6 x0 x1 x2 x3 x4 x5 x6 y0 y1 y2 y3 y4 y5 y6
    obtain ⟨x0, x1, x2, x3, x4, x5, x6⟩ := HP7.out.box
    go_wp2_with fail
    refine (HTX.out _ HB7.out).mono ?_
    rintro e w8 ⟨rfl, hb8⟩
    have HB8 := Lib.hid (Below.trans HB7.out (hb8.mono HB7.out.size))
    clear hb8 HP7 x0 x1 x2 x3 x4 x5 x6
    go_wp2_with fail
    refine (HAW.out _ HB8.out).mono ?_
    rintro e w9 ⟨rfl, hb9⟩
    have HB9 := Lib.hid (Below.trans HB8.out (hb9.mono HB8.out.size))
    clear hb9
    go_wp2_with fail
    go_ret
    exact ⟨rfl, bstep HB9.out HB2.out⟩
  | some p =>
    rw [show perr (some p) = 0 from rfl, show (some p : Option Pr).isSome = true from rfl]
    obtain ⟨hm, ht⟩ := parse_some HQ.out
    have hts : (⟨(pText p).toArray⟩ : ByteArray) = s' := str_ext (by rw [ht])
    rw [show (some p : Option Pr).getD zeroP = p from rfl, if_pos hm, if_pos hm, hts] at HTX
    clear hm ht hts
    go_wp2_with fail
    refine (HSC.out _ HB6.out).mono ?_
    rintro e w7 ⟨rfl, hb7⟩
    have HP7 := Lib.hid (HP6.out.grow hb7)
    have HB7 := Lib.hid (Below.trans HB4.out ((bstep hb7 HB6.out).mono HB4.out.size))
    clear hb7 HP6 HQ6 HB6 x0 x1 x2 x3 x4 x5 x6 y0 y1 y2 y3 y4 y5 y6
    obtain ⟨x0, x1, x2, x3, x4, x5, x6⟩ := HP7.out.box
    go_wp2_with fail
    refine (HTX.out _ HB7.out).mono ?_
    rintro e w8 ⟨rfl, hb8⟩
    have HB8 := Lib.hid (Below.trans HB7.out (hb8.mono HB7.out.size))
    clear hb8 HP7 x0 x1 x2 x3 x4 x5 x6
    go_wp2_with fail
    refine (HAW.out _ HB8.out).mono ?_
    rintro e w9 ⟨rfl, hb9⟩
    have HB9 := Lib.hid (Below.trans HB8.out (hb9.mono HB8.out.size))
    clear hb9
    go_wp2_with fail
    go_ret
    exact ⟨rfl, bstep HB9.out HB2.out⟩
end Go.Proofs.YtmmdblpoecidaaaGreatDoor
