/- The walk of EventLays. -/
import Derived.Test.YtcbnehplilpidaaProg
import Derived.WalkKit
import Derived.WalkSpells
import Derived.WalkLawsBesides
import Derived.Lib.Hide
import Derived.Deep.RegionWith
import Derived.Deep.Cut
import Derived.Test.YtcbnehplilpidaaApart4
import Derived.Test.YtcbnehplilpidaaEv17
import Derived.Test.YtcbnehplilpidaaEvC
import Derived.Test.YtcbnehplilpidaaEv19
set_option linter.unusedVariables false
set_option linter.unusedSimpArgs false
namespace Go.Proofs.Ytcbnehplilpidaa
open Go.RowKit Tryst
set_option maxHeartbeats 400000
set_option maxRecDepth 20000
theorem fbOf_fld (f : FB) : fbOf f.fld = f := rfl
theorem map_of_fld (l : List FB) : (l.map FB.fld).map fbOf = l := by
  rw [List.map_map]
  exact List.map_id _
def TkB (w : World) (t p : ByteArray) (q : Int) (l : List FB) (k : Nat) (e : Ending) (w' : World) : Prop := ∃ a c, e = .returned (.tuple #[.agg #[.string t, .string p, .int .u64 q, .slice a l.length c], .int .i64 k, .int .i64 0]) ∧ Flds w' a l ∧ Below w.heap.size w w'
theorem take_back (t p : ByteArray) (q : Int) (l : List FB) (hO : FOk l) (h0 : 0 ≤ q) (h4 : q ≤ 18446744073709551615) (hm : (evE t p q l).may = true) (S : ByteArray) (hS : S.data.toList = (evE t p q l).lay) (u : ByteArray) (hu : u.size ≤ 60) (w : World) (hM : MaxW w) :
    Calls Try.prog 22 #[.string (S ++ u)] w fun e w' => TkB w t p q l S.size e w' := by
  have hle := elay_le hm
  have hz : S.size = (evE t p q l).lay.length := by rw [← hS, len_str]
  have c := etake_c (S ++ u) (by rw [ByteArray.size_append]; omega) w hM
  rw [app_str, hS, etake_lay _ hm (evFits h0 h4 hO) _] at c
  refine c.mono ?_
  rintro e w' ⟨a, c, rfl, hF, _, hb⟩
  refine ⟨a, c, ?_, ?_, hb⟩
  · rw [hz]
    show Ending.returned (.tuple #[.agg #[.string t, .string p, .int .u64 (q.toNat : Int), .slice a (l.map FB.fld).length c], _, _]) = _
    rw [List.length_map, Int.toNat_of_nonneg h0]
    rfl
  · have h5 : Flds w' a ((l.map FB.fld).map fbOf) := hF
    rw [map_of_fld] at h5
    exact h5
/-- what is had of both -/
structure L2 (w W : World) (t p : ByteArray) (q : Int) (aA : Option Addr) (cA : Nat) (L : List FB) (u v : ByteArray) (r : Int) (aB : Option Addr) (cB : Nat) (M : List FB) : Prop where
  e : EAt W w.heap.size t p q (.slice aA L.length cA)
  g : EAt W (w.heap.size + 1) u v r (.slice aB M.length cB)
  f : Flds W aA L
  h : Flds W aB M
  k : Below w.heap.size w W
theorem L2.grow {w W W' : World} {t p : ByteArray} {q : Int} {aA : Option Addr} {cA : Nat} {L : List FB} {u v : ByteArray} {r : Int} {aB : Option Addr} {cB : Nat} {M : List FB} (h : L2 w W t p q aA cA L u v r aB cB M) (hb : Below W.heap.size W W') : L2 w W' t p q aA cA L u v r aB cB M :=
  ⟨h.e.grow (cell_lt h.e.c0).1 hb, h.g.grow (cell_lt h.g.c0).1 hb, h.f.grow hb, h.h.grow hb, bstep hb h.k⟩
set_option maxHeartbeats 8000000 in
theorem eventLays_c (t p : ByteArray) (q : Int) (a : Option Addr) (l : List FB) (c : Nat) (ht : t.size ≤ 9223372036854775807) (hp : p.size ≤ 9223372036854775807) (h0 : 0 ≤ q) (h4 : q ≤ 18446744073709551615) (hI : FIn l) (hl : l.length ≤ 9223372036854775807)
    (u v : ByteArray) (r : Int) (b : Option Addr) (m : List FB) (d : Nat) (hu : u.size ≤ 9223372036854775807) (hv : v.size ≤ 9223372036854775807) (g0 : 0 ≤ r) (g4 : r ≤ 18446744073709551615) (hJ : FIn m) (hm : m.length ≤ 9223372036854775807) (z : ByteArray) (hz0 : z.size ≤ 9223372036854775807) (w : World) (hM : MaxW w) (hF : Flds w a l) (hG : Flds w b m) :
    Calls Try.prog 4 #[.agg #[.string t, .string p, .int .u64 q, .slice a l.length c], .agg #[.string u, .string v, .int .u64 r, .slice b m.length d], .string z] w fun e w' => e = .returned (.bool true) ∧ Below w.heap.size w w' := by
  obtain ⟨hO, hO2, hlen⟩ := few_ok hI
  obtain ⟨hP, hP2, hmen⟩ := few_ok hJ
  have HM := Lib.hid hM
  have CF := Lib.hid (fun W h => efew_c t p q a c l hl ht hp (few_in hI) W h)
  have CG := Lib.hid (fun W h => efew_c u v r b d m hm hu hv (few_in hJ) W h)
  have HF := Lib.hid hF
  have HG := Lib.hid hG
  have HO := Lib.hid hO
  have HO2 := Lib.hid hO2
  have HP := Lib.hid hP
  have u1 := few60_le t
  have u2 := few60_le p
  have u3 := few60_le u
  have u4 := few60_le v
  clear hF hG hM hI hJ hO hO2 hP hP2 hl hm ht hp hu hv
  revert u1 u2 u3 u4 HO HO2 HP CF CG hlen hmen
  generalize few60 t = t1
  generalize few60 p = p1
  generalize few60 u = v1
  generalize few60 v = w1
  generalize fewL l = L
  generalize fewL m = M
  intro hlen hmen CF CG HO HO2 HP u1 u2 u3 u4
  have CZ := Lib.hid (fun W => few60_c z hz0 W)
  have u5 := few60_le z
  clear hz0
  revert CZ u5
  generalize few60 z = z1
  intro CZ u5
  have HMAY := Lib.hid (fun a c W hM h => evmay_c t1 p1 q a c L (by omega) (by omega) (by omega) (fun f hf => by have := HO2.out f hf; omega) W hM h h0 h4)
  have HRMY := Lib.hid (fun a c W h => rmayE_c t1 p1 q a c L (by omega) (by omega) (by omega) (fun f hf => by have := HO2.out f hf; omega) W h h0 h4)
  rw [evMay_eq t1 p1 q L h0] at HMAY HRMY
  have HLA := Lib.hid (fun a c => @elay_bad t1 p1 q a c L (by omega) (by omega) (by omega) HO.out h0 h4)
  have HRL := Lib.hid (fun a c W h hm => rlayE_c t1 p1 q a c L (by omega) (by omega) (by omega) HO.out W h h0 h4 hm)
  have HTK := Lib.hid (fun hm S hS W hM => take_back t1 p1 q L HO.out h0 h4 hm S hS z1 u5 W hM)
  have HLE := Lib.hid (fun h => elay_le (e := evE t1 p1 q L) h)
  have HPS := Lib.hid (elay_pos (evE t1 p1 q L))
  have HSM := Lib.hid (fun a1 a2 c1 c2 w h1 h2 => same_c t1 v1 p1 w1 q r a1 a2 c1 c2 L M (by omega) (by omega) w h1 h2)
  have HRS := Lib.hid (fun a1 a2 c1 c2 w h1 h2 => rsame_c t1 v1 p1 w1 q r a1 a2 c1 c2 L M (by omega) (by omega) w h1 h2)
  have HSS := Lib.hid (fun a1 a2 c1 c2 w h1 h2 => same_c t1 t1 p1 p1 q q a1 a2 c1 c2 L L (by omega) (by omega) w h1 h2)
  have HRR := Lib.hid (fun a1 a2 c1 c2 w h1 h2 => rsame_c t1 t1 p1 p1 q q a1 a2 c1 c2 L L (by omega) (by omega) w h1 h2)
  have HFD := Lib.hid (fun W hM => field_c z1 (by omega) W hM)
  have HRF := Lib.hid (fun W => rfield_c z1 (by omega) W)
  obtain ⟨sab, hsab⟩ : ∃ b : Bool, b = true ↔ t1 = v1 ∧ p1 = w1 ∧ q = r ∧ L = M := by
    by_cases h : t1 = v1 ∧ p1 = w1 ∧ q = r ∧ L = M
    · exact ⟨true, by simp [h]⟩
    · exact ⟨false, by simp [h]⟩
  have HSAB := Lib.hid hsab
  clear hsab
  clear HO HO2 HP
  revert HMAY HRMY HLA HRL HTK HLE HPS
  generalize evE t1 p1 q L = EA
  intro HMAY HRMY HLA HRL HTK HLE HPS
  obtain ⟨S, hS⟩ : ∃ S : ByteArray, (⟨EA.lay.toArray⟩ : ByteArray) = S := ⟨_, rfl⟩
  have hSd : S.data.toList = EA.lay := by rw [← hS]
  have hSz : S.size = EA.lay.length := by rw [← hSd, len_str]
  rw [hS] at HLA HRL
  have HTS := Lib.hid (fun hm W hM => HTK.out hm S hSd W hM)
  have HLS := Lib.hid (fun h => by have h6 := HLE.out h; rw [← hSz] at h6; exact h6)
  have hps := HPS.out
  rw [← hSz] at hps
  clear hS hSd hSz HTK HLE HPS
  generalize EA.may = mm at HMAY HRMY HLA HRL HTS HLS
  clear EA
  revert HFD HRF
  generalize fieldB z1.data.toList = ff
  intro HFD HRF
  have hss : (S.toList == S.toList) = true := strEq rfl
  go_enter Try.func4, Try.ntmps4
  go_wp2_with fail
  have HBX := Lib.hid (balloc (.cells #[.string u, .string v, .int .u64 r, .slice b m.length d] 25) (balloc (.cells #[.string t, .string p, .int .u64 q, .slice a l.length c] 25) (.refl w.heap.size w)))
  refine Tryst2.wp_region_grows [.is (.agg #[.string t, .string p, .int .u64 q, .slice a l.length c]), .any (EvV t1 p1 q L), .is (.agg #[.string u, .string v, .int .u64 r, .slice b m.length d]), .any (EvV v1 w1 r M), .is (.string z), .is (.string z1)] (by kernel_rfl) (by kernel_rfl) ?obl ?fin
  case obl =>
    simp only [Tryst2.AllObl, Tryst2.dstL, Tryst2.Obl, Tryst2.depsOf, Tryst2.binds_data, Tryst2.binds_chain, Tryst2.binds_phase, Tryst2.binds_guard, Tryst2.binds_text, Tryst2.binds_gc, Bool.false_eq_true, if_false, List.filterMap_cons_some, List.filterMap_cons_none, Tryst2.depsR, Tryst2.holdR, Tryst2.tmpsOf, Op.operands, Call.operands, Tryst2.Rsp.pred, Tryst2.wantedV_none, if_true, List.map_cons, List.map_nil, List.length_map, List.take_succ_cons, List.take_zero, List.length_cons, List.length_nil, List.getElem?_cons_zero, List.getElem?_cons_succ, Option.bind_some, id, List.getD_cons_zero, List.getD_cons_succ, Tryst2.isDst, List.filterMap_cons, List.filterMap_nil, List.toList_toArray]
    repeat' apply And.intro
    any_goals trivial
    all_goals (intro tv w' hg hold hd; (try simp at hold); obtain ⟨hcg, hfg⟩ := Tryst2.Grow.cells hg; have hsg := Tryst2.Grow.le hg)
    all_goals first | (go_simp; done) | (go_simp; rw [if_neg (by omega)]; exact ⟨.refl _, rfl⟩) | (obtain ⟨⟨g, hvg, hgg, hcell⟩, _⟩ := hd; have hcell0 := hcell 0 (by decide); simp at hcell0; go_simp; done) | (go_simp; go_at_call 9; (with_reducible refine (CF.out _ ?_).mono ?_); (exact HF.out.grow (Tryst2.Grow.below hg HBX.out)); rintro e w2 ⟨a', c', rfl, hf2, _, hb2⟩; exact EvV.of hf2 hb2) | (go_simp; go_at_call 9; (with_reducible refine (CG.out _ ?_).mono ?_); (exact HG.out.grow (Tryst2.Grow.below hg HBX.out)); rintro e w2 ⟨a', c', rfl, hf2, _, hb2⟩; exact EvV.of hf2 hb2) | (go_simp; go_at_call 10; (with_reducible refine (CZ.out _).mono ?_); rintro e w2 ⟨rfl, rfl⟩; exact ⟨Tryst2.Grow.refl _, rfl⟩)
  case fin =>
    intro tv w' hg hR
    simp only [Tryst2.allR, Tryst2.dstL, Tryst2.Rsp.pred, List.map_cons, List.map_nil, List.take_succ_cons, List.take_zero, List.length_cons, List.length_nil, List.tail_cons, List.toList_toArray] at hR
    obtain ⟨hcg, hfg⟩ := Tryst2.Grow.cells hg
    have hsg := Tryst2.Grow.le hg
    simp only [Tryst2.putAll, Tryst2.dstL, List.map_cons, List.map_nil, List.take_succ_cons, List.take_zero, List.length_cons, List.length_nil, List.toList_toArray, List.drop_succ_cons, List.drop_zero, Act.put, List.setIfInBounds_toArray, List.set_cons_zero, List.set_cons_succ, hR]
    obtain ⟨aA, cA, eA, fA⟩ := EvV.at hR.2.1
    obtain ⟨aB, cB, eB, fB⟩ := EvV.at hR.2.2.2.1
    simp only [eA, eB]
    have hK := Tryst2.Grow.below hg HBX.out
    have hh0 : w'.heap[w.heap.size]? = some (.cells #[.string t, .string p, .int .u64 q, .slice a l.length c] 25 (0, 0)) := (hg.block w.heap.size (by simp; omega)).trans (by
      show ((w.heap.push _).push _)[_]? = _
      simp [Array.getElem?_push])
    have hnb := new_box (w.alloc (.cells #[.string t, .string p, .int .u64 q, .slice a l.length c] 25)) #[.string u, .string v, .int .u64 r, .slice b m.length d] 25
    rw [show (w.alloc (.cells #[.string t, .string p, .int .u64 q, .slice a l.length c] 25)).heap.size = w.heap.size + 1 by simp] at hnb
    have hh1 : w'.heap[w.heap.size + 1]? = some (.cells #[.string u, .string v, .int .u64 r, .slice b m.length d] 25 (0, 0)) := (hg.block (w.heap.size + 1) (by simp)).trans hnb
    clear hnb
    have hTB := two_boxes hh0 hh1 (by omega) fA fB t1 p1 v1 w1 q r (.slice aA L.length cA) (.slice aB M.length cB)
    have HTB := Lib.hid hTB
    have hz : w.heap.size + 1 < w'.heap.size := (Array.getElem?_eq_some_iff.1 hh1).1
    have KY := Lib.hid (bset (p := ⟨w.heap.size + 1, 3, none⟩) (.slice aB M.length cB) (by simp) (bset (p := ⟨w.heap.size + 1, 2, none⟩) (.int .u64 r) (by simp) (bset (p := ⟨w.heap.size + 1, 1, none⟩) (.string w1) (by simp) (bset (p := ⟨w.heap.size + 1, 0, none⟩) (.string v1) (by simp) (bset (p := ⟨w.heap.size, 3, none⟩) (.slice aA L.length cA) (Nat.le_refl _) (bset (p := ⟨w.heap.size, 2, none⟩) (.int .u64 q) (Nat.le_refl _) (bset (p := ⟨w.heap.size, 1, none⟩) (.string p1) (Nat.le_refl _) (bset (p := ⟨w.heap.size, 0, none⟩) (.string t1) (Nat.le_refl _) hK))))))))
    obtain ⟨x0, x1, x2, x3, x4, x5, x6, x7⟩ := EAt.of hh0
    obtain ⟨y0, y1, y2, y3, y4, y5, y6, y7⟩ := EAt.of hh1
    have hz0 : w.heap.size < w'.heap.size := by omega
    clear hg hR hcg hfg hsg eA eB fA fB hK hh0 hh1 hTB HF HG CF CG HBX
    go_upto_region 2 with fail
    have hzY : w.heap.size + 1 < ((((((((w'.setCell ⟨w.heap.size, 0, none⟩ (.string t1)).setCell ⟨w.heap.size, 1, none⟩ (.string p1)).setCell ⟨w.heap.size, 2, none⟩ (.int .u64 q)).setCell ⟨w.heap.size, 3, none⟩ (.slice aA L.length cA)).setCell ⟨w.heap.size + 1, 0, none⟩ (.string v1)).setCell ⟨w.heap.size + 1, 1, none⟩ (.string w1)).setCell ⟨w.heap.size + 1, 2, none⟩ (.int .u64 r)).setCell ⟨w.heap.size + 1, 3, none⟩ (.slice aB M.length cB)).heap.size := by simpa using hz
    clear x0 x1 x2 x3 x4 x5 x6 x7 y0 y1 y2 y3 y4 y5 y6 y7 hz hz0
    revert HTB KY hzY
    generalize (((((((w'.setCell ⟨w.heap.size, 0, none⟩ (.string t1)).setCell ⟨w.heap.size, 1, none⟩ (.string p1)).setCell ⟨w.heap.size, 2, none⟩ (.int .u64 q)).setCell ⟨w.heap.size, 3, none⟩ (.slice aA L.length cA)).setCell ⟨w.heap.size + 1, 0, none⟩ (.string v1)).setCell ⟨w.heap.size + 1, 1, none⟩ (.string w1)).setCell ⟨w.heap.size + 1, 2, none⟩ (.int .u64 r)).setCell ⟨w.heap.size + 1, 3, none⟩ (.slice aB M.length cB) = Y
    intro HTB KY hzY
    obtain ⟨hEA, hEB, hFA, hFB⟩ := HTB.out
    have HL := Lib.hid (L2.mk hEA hEB hFA hFB KY.out)
    clear HTB hEA hEB hFA hFB KY hzY
    have hzY : w.heap.size + 1 < Y.heap.size := (cell_lt HL.out.g.c0).1
    have hzY0 : w.heap.size < Y.heap.size := by omega
    obtain ⟨x0, x1, x2, x3, x4, x5, x6, x7⟩ := HL.out.e
    obtain ⟨y0, y1, y2, y3, y4, y5, y6, y7⟩ := HL.out.g
    refine Tryst2.wp_region_grows [.is (.agg #[.string t1, .string p1, .int .u64 q, .slice aA L.length cA]), .is (.bool mm), .is (.agg #[.string t1, .string p1, .int .u64 q, .slice aA L.length cA]), .is (.bool mm), .is (.bool false), .is (.bool false), .is (.agg #[.string t1, .string p1, .int .u64 q, .slice aA L.length cA]), .is (.agg #[.string v1, .string w1, .int .u64 r, .slice aB M.length cB]), .is (.bool sab), .is (.agg #[.string t1, .string p1, .int .u64 q, .slice aA L.length cA]), .is (.agg #[.string v1, .string w1, .int .u64 r, .slice aB M.length cB]), .is (.bool sab), .is (.bool false), .is (.bool false), .is (.bool false), .is (.string z1), .is (.bool ff), .is (.string z1), .is (.bool ff), .is (.bool false), .is (.bool false), .is (.bool false), .is (.agg #[.string t1, .string p1, .int .u64 q, .slice aA L.length cA]), .is (.agg #[.string t1, .string p1, .int .u64 q, .slice aA L.length cA]), .is (.bool true), .is (.bool false), .is (.bool false)] (by kernel_rfl) (by kernel_rfl) ?obl ?fin
    case obl =>
      simp only [Tryst2.AllObl, Tryst2.dstL, Tryst2.Obl, Tryst2.depsOf, Tryst2.binds_data, Tryst2.binds_chain, Tryst2.binds_phase, Tryst2.binds_guard, Tryst2.binds_text, Tryst2.binds_gc, Bool.false_eq_true, if_false, List.filterMap_cons_some, List.filterMap_cons_none, Tryst2.depsR, Tryst2.holdR, Tryst2.tmpsOf, Op.operands, Call.operands, Tryst2.Rsp.pred, Tryst2.wantedV_none, Tryst2.wantedV_some, if_true, List.map_cons, List.map_nil, List.length_map, List.take_succ_cons, List.take_zero, List.length_cons, List.length_nil, List.getElem?_cons_zero, List.getElem?_cons_succ, Option.bind_some, id, List.getD_cons_zero, List.getD_cons_succ, Tryst2.isDst, List.filterMap_cons, List.filterMap_nil, List.toList_toArray]
      repeat' apply And.intro
      any_goals trivial
      all_goals (intro tv w' hg hold hd; (try simp at hold); obtain ⟨hcg, hfg⟩ := Tryst2.Grow.cells hg; have hsg := Tryst2.Grow.le hg)
      all_goals first | (go_simp; done) | (go_simp; rw [if_neg (by omega)]; exact ⟨.refl _, rfl⟩) | (obtain ⟨⟨g, hvg, hgg, hcell⟩, _⟩ := hd; have hcell0 := hcell 0 (by decide); simp at hcell0; go_simp; done) | (go_simp; go_at_call 14; (with_reducible refine (HMAY.out aA cA _ ?_ ?_).mono ?_); (exact HM.out.grow (Tryst2.Grow.below hg HL.out.k)); (exact HL.out.f.grow (Tryst2.Grow.below hg (.refl Y.heap.size Y))); rintro e w5 ⟨rfl, hb5⟩; exact ⟨hb5, rfl⟩) | (go_simp; go_at_call 16; (with_reducible refine (HRMY.out aA cA _ ?_).mono ?_); (exact HL.out.f.grow (Tryst2.Grow.below hg (.refl Y.heap.size Y))); rintro e w5 ⟨rfl, hb5⟩; exact ⟨hb5, rfl⟩) | (go_simp; go_at_call 18; (with_reducible refine (HSM.out aA aB cA cB _ ?_ ?_).mono ?_); (exact HL.out.f.grow (Tryst2.Grow.below hg (.refl Y.heap.size Y))); (exact HL.out.h.grow (Tryst2.Grow.below hg (.refl Y.heap.size Y))); rintro e w5 ⟨r5, rfl, hr5, hb5⟩; exact ⟨hb5, congrArg Value.bool (Bool.eq_iff_iff.2 (hr5.trans HSAB.out.symm))⟩) | (go_simp; go_at_call 19; (with_reducible refine (HRS.out aA aB cA cB _ ?_ ?_).mono ?_); (exact HL.out.f.grow (Tryst2.Grow.below hg (.refl Y.heap.size Y))); (exact HL.out.h.grow (Tryst2.Grow.below hg (.refl Y.heap.size Y))); rintro e w5 ⟨r5, rfl, hr5, hb5⟩; exact ⟨hb5, congrArg Value.bool (Bool.eq_iff_iff.2 (hr5.trans HSAB.out.symm))⟩) | (go_simp; go_at_call 18; (with_reducible refine (HSS.out aA aA cA cA _ ?_ ?_).mono ?_); (exact HL.out.f.grow (Tryst2.Grow.below hg (.refl Y.heap.size Y))); (exact HL.out.f.grow (Tryst2.Grow.below hg (.refl Y.heap.size Y))); rintro e w5 ⟨r5, rfl, hr5, hb5⟩; exact ⟨hb5, by rw [hr5.2 ⟨rfl, rfl, rfl, rfl⟩]⟩) | (go_simp; go_at_call 15; (with_reducible refine (HFD.out _ ?_).mono ?_); (exact HM.out.grow (Tryst2.Grow.below hg HL.out.k)); rintro e w5 ⟨rfl, hb5⟩; exact ⟨hb5, rfl⟩) | (go_simp; go_at_call 20; (with_reducible refine (HRF.out _).mono ?_); rintro e w5 ⟨rfl, hb5⟩; exact ⟨hb5, rfl⟩)
    case fin =>
      intro tv w' hg hR
      simp only [Tryst2.allR, Tryst2.dstL, Tryst2.Rsp.pred, List.map_cons, List.map_nil, List.take_succ_cons, List.take_zero, List.length_cons, List.length_nil, List.tail_cons, List.toList_toArray] at hR
      obtain ⟨hcg, hfg⟩ := Tryst2.Grow.cells hg
      have hsg := Tryst2.Grow.le hg
      simp only [Tryst2.putAll, Tryst2.dstL, List.map_cons, List.map_nil, List.take_succ_cons, List.take_zero, List.length_cons, List.length_nil, List.toList_toArray, List.drop_succ_cons, List.drop_zero, Act.put, List.setIfInBounds_toArray, List.set_cons_zero, List.set_cons_succ, hR]
      have hbX := Tryst2.Grow.below hg (.refl Y.heap.size Y)
      have HL1 := Lib.hid (HL.out.grow hbX)
      clear hg hR hcg hfg hsg hbX x0 x1 x2 x3 x4 x5 x6 x7 y0 y1 y2 y3 y4 y5 y6 y7 hzY hzY0 HL
      obtain ⟨w1', rfl⟩ : ∃ v, v = w' := ⟨_, rfl⟩
      have hzY : w.heap.size + 1 < (w1').heap.size := (cell_lt HL1.out.g.c0).1
      have hzY0 : w.heap.size < (w1').heap.size := by omega
      obtain ⟨x0, x1, x2, x3, x4, x5, x6, x7⟩ := HL1.out.e
      obtain ⟨y0, y1, y2, y3, y4, y5, y6, y7⟩ := HL1.out.g
      have HC := Lib.hid (HLA.out aA cA w1' (HM.out.grow HL1.out.k) HL1.out.f)
      cases mm with
      | false =>
        have HC2 : Hid (Calls Try.prog 21 #[.agg #[.string t1, .string p1, .int .u64 q, .slice aA L.length cA]] w1' fun e w' => e = .returned (.tuple #[.string ⟨#[]⟩, .int .i64 1]) ∧ Below w1'.heap.size w1' w') := Lib.hid (HC.out.mono fun e w' h => by rw [if_neg (by simp)] at h; exact h)
        clear HC HRL HTS HLS
        go_wp2_with fail
        refine HC2.out.mono ?_
        rintro e w2 ⟨rfl, hb2⟩
        have HL2 := Lib.hid (HL1.out.grow hb2)
        clear hb2 HL1 x0 x1 x2 x3 x4 x5 x6 x7 y0 y1 y2 y3 y4 y5 y6 y7 hzY hzY0
        have hzY : w.heap.size + 1 < (w2).heap.size := (cell_lt HL2.out.g.c0).1
        have hzY0 : w.heap.size < (w2).heap.size := by omega
        obtain ⟨x0, x1, x2, x3, x4, x5, x6, x7⟩ := HL2.out.e
        obtain ⟨y0, y1, y2, y3, y4, y5, y6, y7⟩ := HL2.out.g
        go_wp2_with fail
        refine (HRMY.out aA cA w2 HL2.out.f).mono ?_
        rintro e w3 ⟨rfl, hb3⟩
        have HL3 := Lib.hid (HL2.out.grow hb3)
        clear hb3 HL2 x0 x1 x2 x3 x4 x5 x6 x7 y0 y1 y2 y3 y4 y5 y6 y7 hzY hzY0
        have hzY : w.heap.size + 1 < (w3).heap.size := (cell_lt HL3.out.g.c0).1
        have hzY0 : w.heap.size < (w3).heap.size := by omega
        obtain ⟨x0, x1, x2, x3, x4, x5, x6, x7⟩ := HL3.out.e
        obtain ⟨y0, y1, y2, y3, y4, y5, y6, y7⟩ := HL3.out.g
        go_wp2_with fail
        refine (awake4_c w3 (HM.out.grow HL3.out.k)).mono ?_
        rintro e w4 ⟨rfl, hb4⟩
        have K9 := Lib.hid (bstep hb4 HL3.out.k)
        clear hb4
        go_wp2_with fail
        go_ret
        exact ⟨rfl, K9.out⟩
      | true =>
        have HC2 : Hid (Calls Try.prog 21 #[.agg #[.string t1, .string p1, .int .u64 q, .slice aA L.length cA]] w1' fun e w' => e = .returned (.tuple #[.string S, .int .i64 0]) ∧ Below w1'.heap.size w1' w') := Lib.hid (HC.out.mono fun e w' h => by rw [if_pos rfl] at h; exact h)
        have hle := HLS.out (by simp)
        clear HC HLS
        go_wp2_with fail
        refine HC2.out.mono ?_
        rintro e w2 ⟨rfl, hb2⟩
        have HL2 := Lib.hid (HL1.out.grow hb2)
        clear hb2 HL1 x0 x1 x2 x3 x4 x5 x6 x7 y0 y1 y2 y3 y4 y5 y6 y7 hzY hzY0
        have hzY : w.heap.size + 1 < (w2).heap.size := (cell_lt HL2.out.g.c0).1
        have hzY0 : w.heap.size < (w2).heap.size := by omega
        obtain ⟨x0, x1, x2, x3, x4, x5, x6, x7⟩ := HL2.out.e
        obtain ⟨y0, y1, y2, y3, y4, y5, y6, y7⟩ := HL2.out.g
        go_wp2_with fail
        refine (HRMY.out aA cA w2 HL2.out.f).mono ?_
        rintro e w3 ⟨rfl, hb3⟩
        have HL3 := Lib.hid (HL2.out.grow hb3)
        clear hb3 HL2 x0 x1 x2 x3 x4 x5 x6 x7 y0 y1 y2 y3 y4 y5 y6 y7 hzY hzY0
        have hzY : w.heap.size + 1 < (w3).heap.size := (cell_lt HL3.out.g.c0).1
        have hzY0 : w.heap.size < (w3).heap.size := by omega
        obtain ⟨x0, x1, x2, x3, x4, x5, x6, x7⟩ := HL3.out.e
        obtain ⟨y0, y1, y2, y3, y4, y5, y6, y7⟩ := HL3.out.g
        go_wp2_with fail
        refine (HTS.out (by simp) w3 (HM.out.grow HL3.out.k)).mono ?_
        rintro e w4 ⟨aX, cX, rfl, fX, hb4⟩
        have HL4 := Lib.hid (HL3.out.grow hb4)
        clear hb4 HL3 x0 x1 x2 x3 x4 x5 x6 x7 y0 y1 y2 y3 y4 y5 y6 y7 hzY hzY0
        have hzY : w.heap.size + 1 < (w4).heap.size := (cell_lt HL4.out.g.c0).1
        have hzY0 : w.heap.size < (w4).heap.size := by omega
        obtain ⟨x0, x1, x2, x3, x4, x5, x6, x7⟩ := HL4.out.e
        obtain ⟨y0, y1, y2, y3, y4, y5, y6, y7⟩ := HL4.out.g
        have GX := Lib.hid fX
        clear fX
        go_wp2_with fail
        clear x0 x1 x2 x3 x4 x5 x6 x7 y0 y1 y2 y3 y4 y5 y6 y7 hzY hzY0
        have hbA := balloc (.cells #[.string t1, .string p1, .int .u64 q, .slice aX L.length cX] 25) (.refl w4.heap.size w4)
        have HL5 := Lib.hid (HL4.out.grow hbA)
        have GX5 := Lib.hid (GX.out.grow hbA)
        have EX := Lib.hid (EAt.of (new_box w4 #[.string t1, .string p1, .int .u64 q, .slice aX L.length cX] 25))
        clear hbA HL4 GX
        generalize w4.alloc (.cells #[.string t1, .string p1, .int .u64 q, .slice aX L.length cX] 25) = X5 at HL5 GX5 EX ⊢
        generalize w4.heap.size = b9 at EX ⊢
        refine (HRL.out aA cA X5 HL5.out.f (by simp)).mono ?_
        rintro e w6 ⟨rfl, hb6⟩
        have hzX : b9 < X5.heap.size := (cell_lt EX.out.c0).1
        have EX6 := Lib.hid (EX.out.grow hzX hb6)
        have GX6 := Lib.hid (GX5.out.grow hb6)
        have HL6 := Lib.hid (HL5.out.grow hb6)
        clear hb6 hzX EX GX5 HL5
        have hzY : w.heap.size + 1 < (w6).heap.size := (cell_lt HL6.out.g.c0).1
        have hzY0 : w.heap.size < (w6).heap.size := by omega
        obtain ⟨x0, x1, x2, x3, x4, x5, x6, x7⟩ := HL6.out.e
        obtain ⟨y0, y1, y2, y3, y4, y5, y6, y7⟩ := HL6.out.g
        obtain ⟨u0, u1, u2, u3, u4, u5, u6, u7⟩ := EX6.out
        have hle2 : (S.size : Int) ≤ 800 := by omega
        go_wp2_with fail
        refine (HRR.out aX aA cX cA w6 GX6.out HL6.out.f).mono ?_
        rintro e w7 ⟨r7, rfl, hr7, hb7⟩
        obtain rfl : r7 = true := hr7.2 ⟨rfl, rfl, rfl, rfl⟩
        have K7 := Lib.hid (bstep hb7 HL6.out.k)
        clear hb7 hr7 x0 x1 x2 x3 x4 x5 x6 x7 y0 y1 y2 y3 y4 y5 y6 y7 hzY hzY0 u0 u1 u2 u3 u4 u5 u6 u7 EX6 GX6 HL6
        go_wp2_with fail
        refine (awake4_c w7 (HM.out.grow K7.out)).mono ?_
        rintro e w8 ⟨rfl, hb8⟩
        have K9 := Lib.hid (bstep hb8 K7.out)
        clear hb8
        go_wp2_with fail
        go_ret
        exact ⟨rfl, K9.out⟩
end Go.Proofs.Ytcbnehplilpidaa
