/- The walk of EventApart. -/
import Derived.Test.YtfohdjgalmodbaaProg
import Derived.WalkKit
import Derived.WalkSpells
import Derived.WalkLawsBesides
import Derived.Lib.Hide
import Derived.Deep.RegionWith
import Derived.Deep.Cut
import Derived.Test.YtfohdjgalmodbaaShort4
set_option linter.unusedVariables false
set_option linter.unusedSimpArgs false
namespace Go.Proofs.Ytfohdjgalmodbaa
open Go.RowKit Tryst
set_option maxHeartbeats 400000
set_option maxRecDepth 20000
/-- a value that is an event with these fields -/
def EvV (t p : ByteArray) (q : Int) (l : List FB) (v : Value) (w : World) : Prop := ∃ a c, v = .agg #[.string t, .string p, .int .u64 q, .slice a l.length c] ∧ Flds w a l
theorem EvV.at {t p : ByteArray} {q : Int} {l : List FB} {v : Value} {w' : World} (h : ∃ w0, Tryst2.Grow w0 w' ∧ EvV t p q l v w0) : EvV t p q l v w' := by
  obtain ⟨w0, hg, a, c, h1, h2⟩ := h
  exact ⟨a, c, h1, h2.grow hg⟩
theorem EvV.of {w w' : World} {t p : ByteArray} {q : Int} {l : List FB} {a : Option Addr} {c : Nat} (h : Flds w' a l) (hb : Below w.heap.size w w') : Tryst2.Grow w w' ∧ ∃ w0, Tryst2.Grow w0 w' ∧ EvV t p q l (.agg #[.string t, .string p, .int .u64 q, .slice a l.length c]) w0 :=
  ⟨hb, w', Tryst2.Grow.refl _, a, c, rfl, h⟩
/-- both boxes written -/
theorem two_boxes {w : World} {B0 B1 : Nat} {t p t' p' : ByteArray} {q q' : Int} {a0 a1 : Option Addr} {m0 m1 c0 c1 : Nat} {T : TypeId} {x y : Option Addr} {L M : List FB}
    (h0 : w.heap[B0]? = some (.cells #[.string t, .string p, .int .u64 q, .slice a0 m0 c0] T (0, 0))) (h1 : w.heap[B1]? = some (.cells #[.string t', .string p', .int .u64 q', .slice a1 m1 c1] T (0, 0))) (hne : B0 ≠ B1)
    (F0 : Flds w x L) (F1 : Flds w y M) (u v u' v' : ByteArray) (r r' : Int) (g g' : Value) :
    EAt ((((((((w.setCell ⟨B0, 0, none⟩ (.string u)).setCell ⟨B0, 1, none⟩ (.string v)).setCell ⟨B0, 2, none⟩ (.int .u64 r)).setCell ⟨B0, 3, none⟩ g).setCell ⟨B1, 0, none⟩ (.string u')).setCell ⟨B1, 1, none⟩ (.string v')).setCell ⟨B1, 2, none⟩ (.int .u64 r')).setCell ⟨B1, 3, none⟩ g') B0 u v r g ∧
    EAt ((((((((w.setCell ⟨B0, 0, none⟩ (.string u)).setCell ⟨B0, 1, none⟩ (.string v)).setCell ⟨B0, 2, none⟩ (.int .u64 r)).setCell ⟨B0, 3, none⟩ g).setCell ⟨B1, 0, none⟩ (.string u')).setCell ⟨B1, 1, none⟩ (.string v')).setCell ⟨B1, 2, none⟩ (.int .u64 r')).setCell ⟨B1, 3, none⟩ g') B1 u' v' r' g' ∧
    Flds ((((((((w.setCell ⟨B0, 0, none⟩ (.string u)).setCell ⟨B0, 1, none⟩ (.string v)).setCell ⟨B0, 2, none⟩ (.int .u64 r)).setCell ⟨B0, 3, none⟩ g).setCell ⟨B1, 0, none⟩ (.string u')).setCell ⟨B1, 1, none⟩ (.string v')).setCell ⟨B1, 2, none⟩ (.int .u64 r')).setCell ⟨B1, 3, none⟩ g') x L ∧
    Flds ((((((((w.setCell ⟨B0, 0, none⟩ (.string u)).setCell ⟨B0, 1, none⟩ (.string v)).setCell ⟨B0, 2, none⟩ (.int .u64 r)).setCell ⟨B0, 3, none⟩ g).setCell ⟨B1, 0, none⟩ (.string u')).setCell ⟨B1, 1, none⟩ (.string v')).setCell ⟨B1, 2, none⟩ (.int .u64 r')).setCell ⟨B1, 3, none⟩ g') y M := by
  have e0 : EAt w B0 t p q (.slice a0 m0 c0) := EAt.of h0
  have e1 : EAt w B1 t' p' q' (.slice a1 m1 c1) := EAt.of h1
  have h1' : ((((w.setCell ⟨B0, 0, none⟩ (.string u)).setCell ⟨B0, 1, none⟩ (.string v)).setCell ⟨B0, 2, none⟩ (.int .u64 r)).setCell ⟨B0, 3, none⟩ g).heap[B1]? = some (.cells #[.string t', .string p', .int .u64 q', .slice a1 m1 c1] T (0, 0)) := by
    rw [Below.heap_setCell _ _ _ _ (fun e => hne e.symm), Below.heap_setCell _ _ _ _ (fun e => hne e.symm), Below.heap_setCell _ _ _ _ (fun e => hne e.symm), Below.heap_setCell _ _ _ _ (fun e => hne e.symm)]
    exact h1
  refine ⟨e0.setAll.otherAll (fun e => hne e.symm), (e1.otherAll hne).setAll, ?_, ?_⟩
  · exact flds_box h1' (flds_box h0 F0 _ _ _ _) _ _ _ _
  · exact flds_box h1' (flds_box h0 F1 _ _ _ _) _ _ _ _
theorem evE_inj {t p t' p' : ByteArray} {q q' : Int} {l l' : List FB} (h0 : 0 ≤ q) (h0' : 0 ≤ q') (h : evE t p q l = evE t' p' q' l') : t = t' ∧ p = p' ∧ q = q' ∧ l = l' := by
  unfold evE at h
  rw [Ev.mk.injEq] at h
  obtain ⟨h1, h2, h3, h4⟩ := h
  exact ⟨str_ext h1, str_ext h2, by omega, FB.map_inj h4⟩
set_option maxHeartbeats 2000000 in
theorem eventApart_c (t p : ByteArray) (q : Int) (a : Option Addr) (l : List FB) (c : Nat) (ht : t.size ≤ 9223372036854775807) (hp : p.size ≤ 9223372036854775807) (h0 : 0 ≤ q) (h4 : q ≤ 18446744073709551615) (hI : FIn l) (hl : l.length ≤ 9223372036854775807)
    (u v : ByteArray) (r : Int) (b : Option Addr) (m : List FB) (d : Nat) (hu : u.size ≤ 9223372036854775807) (hv : v.size ≤ 9223372036854775807) (g0 : 0 ≤ r) (g4 : r ≤ 18446744073709551615) (hJ : FIn m) (hm : m.length ≤ 9223372036854775807) (w : World) (hM : MaxW w) (hF : Flds w a l) (hG : Flds w b m) :
    Calls Try.prog 5 #[.agg #[.string t, .string p, .int .u64 q, .slice a l.length c], .agg #[.string u, .string v, .int .u64 r, .slice b m.length d]] w fun e w' => e = .returned (.bool true) ∧ Below w.heap.size w w' := by
  obtain ⟨hO, hO2, hlen⟩ := few_ok hI
  obtain ⟨hP, hP2, hmen⟩ := few_ok hJ
  have HM := Lib.hid hM
  have CF := Lib.hid (fun W h => efew_c t p q a c l hl ht hp (few_in hI) W h)
  have CG := Lib.hid (fun W h => efew_c u v r b d m hm hu hv (few_in hJ) W h)
  have HF := Lib.hid hF
  have HG := Lib.hid hG
  have HO := Lib.hid hO
  have HP := Lib.hid hP
  have u1 := few60_le t
  have u2 := few60_le p
  have u3 := few60_le u
  have u4 := few60_le v
  clear hF hG hM hI hJ hO hO2 hP hP2 hl hm ht hp hu hv
  revert u1 u2 u3 u4 HO HP CF CG hlen hmen
  generalize few60 t = t1
  generalize few60 p = p1
  generalize few60 u = v1
  generalize few60 v = w1
  generalize fewL l = L
  generalize fewL m = M
  intro hlen hmen CF CG HO HP u1 u2 u3 u4
  have hlA := @elay_bad t1 p1 q
  have HLA := Lib.hid (fun a c => @elay_bad t1 p1 q a c L (by omega) (by omega) (by omega) HO.out h0 h4)
  have HLB := Lib.hid (fun a c => @elay_bad v1 w1 r a c M (by omega) (by omega) (by omega) HP.out g0 g4)
  have hfA := evFits (t := t1) (p := p1) h0 h4 HO.out
  have hfB := evFits (t := v1) (p := w1) g0 g4 HP.out
  have HINJ := Lib.hid (fun h => evE_inj (t := t1) (p := p1) (q := q) (l := L) (t' := v1) (p' := w1) (q' := r) (l' := M) h0 g0 h)
  have HINJ2 : Hid (t1 = v1 ∧ p1 = w1 ∧ q = r ∧ L = M → evE t1 p1 q L = evE v1 w1 r M) := fun ⟨e1, e2, e3, e4⟩ => by rw [e1, e2, e3, e4]
  have HSM := Lib.hid (fun a1 a2 c1 c2 w h1 h2 => rsame_c t1 v1 p1 w1 q r a1 a2 c1 c2 L M (by omega) (by omega) w h1 h2)
  clear hlA
  revert HLA HLB hfA hfB HINJ HINJ2
  generalize evE t1 p1 q L = EA
  generalize evE v1 w1 r M = EB
  intro HLA HLB hfA hfB HINJ HINJ2
  have HFA := Lib.hid hfA
  have HFB := Lib.hid hfB
  clear hfA hfB HO HP
  go_enter Try.func5, Try.ntmps5
  go_wp2_with fail
  have HBX := Lib.hid (balloc (.cells #[.string u, .string v, .int .u64 r, .slice b m.length d] 25) (balloc (.cells #[.string t, .string p, .int .u64 q, .slice a l.length c] 25) (.refl w.heap.size w)))
  refine Tryst2.wp_region_grows [.is (.agg #[.string t, .string p, .int .u64 q, .slice a l.length c]), .any (EvV t1 p1 q L), .is (.agg #[.string u, .string v, .int .u64 r, .slice b m.length d]), .any (EvV v1 w1 r M)] (by kernel_rfl) (by kernel_rfl) ?obl ?fin
  case obl =>
    simp only [Tryst2.AllObl, Tryst2.dstL, Tryst2.Obl, Tryst2.depsOf, Tryst2.binds_data, Tryst2.binds_chain, Tryst2.binds_phase, Tryst2.binds_guard, Tryst2.binds_text, Tryst2.binds_gc, Bool.false_eq_true, if_false, List.filterMap_cons_some, List.filterMap_cons_none, Tryst2.depsR, Tryst2.holdR, Tryst2.tmpsOf, Op.operands, Call.operands, Tryst2.Rsp.pred, Tryst2.wantedV_none, if_true, List.map_cons, List.map_nil, List.length_map, List.take_succ_cons, List.take_zero, List.length_cons, List.length_nil, List.getElem?_cons_zero, List.getElem?_cons_succ, Option.bind_some, id, List.getD_cons_zero, List.getD_cons_succ, Tryst2.isDst, List.filterMap_cons, List.filterMap_nil, List.toList_toArray]
    repeat' apply And.intro
    any_goals trivial
    all_goals (intro tv w' hg hold hd; (try simp at hold); obtain ⟨hcg, hfg⟩ := Tryst2.Grow.cells hg; have hsg := Tryst2.Grow.le hg)
    all_goals first | (go_simp; done) | (go_simp; rw [if_neg (by omega)]; exact ⟨.refl _, rfl⟩) | (obtain ⟨⟨g, hvg, hgg, hcell⟩, _⟩ := hd; have hcell0 := hcell 0 (by decide); simp at hcell0; go_simp; done) | (go_simp; go_at_call 9; (with_reducible refine (CF.out _ ?_).mono ?_); (exact HF.out.grow (Tryst2.Grow.below hg HBX.out)); rintro e w2 ⟨a', c', rfl, hf2, _, hb2⟩; exact EvV.of hf2 hb2) | (go_simp; go_at_call 9; (with_reducible refine (CG.out _ ?_).mono ?_); (exact HG.out.grow (Tryst2.Grow.below hg HBX.out)); rintro e w2 ⟨a', c', rfl, hf2, _, hb2⟩; exact EvV.of hf2 hb2)
  case fin =>
    intro tv w' hg hR
    simp only [Tryst2.allR, Tryst2.dstL, Tryst2.Rsp.pred, List.map_cons, List.map_nil, List.take_succ_cons, List.take_zero, List.length_cons, List.length_nil, List.tail_cons, List.toList_toArray] at hR
    obtain ⟨hcg, hfg⟩ := Tryst2.Grow.cells hg
    have hsg := Tryst2.Grow.le hg
    simp only [Tryst2.putAll, Tryst2.dstL, List.map_cons, List.map_nil, List.take_succ_cons, List.take_zero, List.length_cons, List.length_nil, List.toList_toArray, List.drop_succ_cons, List.drop_zero, Act.put, List.setIfInBounds_toArray, List.set_cons_zero, List.set_cons_succ, hR]
    obtain ⟨aA, cA, eA, fA⟩ := EvV.at hR.2.1
    obtain ⟨aB, cB, eB, fB⟩ := EvV.at hR.2.2.2.1
    simp only [eA, eB]
    have hK := Tryst2.Grow.below hg HBX.out
    have hh0 : w'.heap[w.heap.size]? = some (.cells #[.string t, .string p, .int .u64 q, .slice a l.length c] 25 (0, 0)) := (hg.block w.heap.size (by simp; omega)).trans (by
      show ((w.heap.push _).push _)[_]? = _
      simp [Array.getElem?_push])
    have hnb := new_box (w.alloc (.cells #[.string t, .string p, .int .u64 q, .slice a l.length c] 25)) #[.string u, .string v, .int .u64 r, .slice b m.length d] 25
    rw [show (w.alloc (.cells #[.string t, .string p, .int .u64 q, .slice a l.length c] 25)).heap.size = w.heap.size + 1 by simp] at hnb
    have hh1 : w'.heap[w.heap.size + 1]? = some (.cells #[.string u, .string v, .int .u64 r, .slice b m.length d] 25 (0, 0)) := (hg.block (w.heap.size + 1) (by simp)).trans hnb
    clear hnb
    have hTB := two_boxes hh0 hh1 (by omega) fA fB t1 p1 v1 w1 q r (.slice aA L.length cA) (.slice aB M.length cB)
    have HTB := Lib.hid hTB
    have hz : w.heap.size + 1 < w'.heap.size := (Array.getElem?_eq_some_iff.1 hh1).1
    have KY := Lib.hid (bset (p := ⟨w.heap.size + 1, 3, none⟩) (.slice aB M.length cB) (by simp) (bset (p := ⟨w.heap.size + 1, 2, none⟩) (.int .u64 r) (by simp) (bset (p := ⟨w.heap.size + 1, 1, none⟩) (.string w1) (by simp) (bset (p := ⟨w.heap.size + 1, 0, none⟩) (.string v1) (by simp) (bset (p := ⟨w.heap.size, 3, none⟩) (.slice aA L.length cA) (Nat.le_refl _) (bset (p := ⟨w.heap.size, 2, none⟩) (.int .u64 q) (Nat.le_refl _) (bset (p := ⟨w.heap.size, 1, none⟩) (.string p1) (Nat.le_refl _) (bset (p := ⟨w.heap.size, 0, none⟩) (.string t1) (Nat.le_refl _) hK))))))))
    obtain ⟨x0, x1, x2, x3, x4, x5, x6, x7⟩ := EAt.of hh0
    obtain ⟨y0, y1, y2, y3, y4, y5, y6, y7⟩ := EAt.of hh1
    have hz0 : w.heap.size < w'.heap.size := by omega
    clear hg hR hcg hfg hsg eA eB fA fB hK hh0 hh1 hTB HF HG CF CG HBX
    go_upto_region 2 with fail
    have hzY : w.heap.size + 1 < ((((((((w'.setCell ⟨w.heap.size, 0, none⟩ (.string t1)).setCell ⟨w.heap.size, 1, none⟩ (.string p1)).setCell ⟨w.heap.size, 2, none⟩ (.int .u64 q)).setCell ⟨w.heap.size, 3, none⟩ (.slice aA L.length cA)).setCell ⟨w.heap.size + 1, 0, none⟩ (.string v1)).setCell ⟨w.heap.size + 1, 1, none⟩ (.string w1)).setCell ⟨w.heap.size + 1, 2, none⟩ (.int .u64 r)).setCell ⟨w.heap.size + 1, 3, none⟩ (.slice aB M.length cB)).heap.size := by simpa using hz
    clear x0 x1 x2 x3 x4 x5 x6 x7 y0 y1 y2 y3 y4 y5 y6 y7 hz hz0
    revert HTB KY hzY
    generalize (((((((w'.setCell ⟨w.heap.size, 0, none⟩ (.string t1)).setCell ⟨w.heap.size, 1, none⟩ (.string p1)).setCell ⟨w.heap.size, 2, none⟩ (.int .u64 q)).setCell ⟨w.heap.size, 3, none⟩ (.slice aA L.length cA)).setCell ⟨w.heap.size + 1, 0, none⟩ (.string v1)).setCell ⟨w.heap.size + 1, 1, none⟩ (.string w1)).setCell ⟨w.heap.size + 1, 2, none⟩ (.int .u64 r)).setCell ⟨w.heap.size + 1, 3, none⟩ (.slice aB M.length cB) = Y
    intro HTB KY hzY
    obtain ⟨hEA, hEB, hFA, hFB⟩ := HTB.out
    have GEA := Lib.hid hEA
    have GEB := Lib.hid hEB
    have GFA := Lib.hid hFA
    have GFB := Lib.hid hFB
    clear HTB hEA hEB hFA hFB
    have CA := Lib.hid (HLA.out aA cA)
    have CB := Lib.hid (HLB.out aB cB)
    clear HLA HLB
    obtain ⟨x0, x1, x2, x3, x4, x5, x6, x7⟩ := GEA.out
    have hz0 : w.heap.size < Y.heap.size := by omega
    go_wp2_with fail
    refine (CA.out Y (HM.out.grow KY.out) GFA.out).mono ?_
    rintro e w2 ⟨rfl, hb2⟩
    have K2 := Lib.hid (bstep hb2 KY.out)
    have EB2 := Lib.hid (GEB.out.grow hzY hb2)
    have EA2 := Lib.hid (GEA.out.grow hz0 hb2)
    have FA2 := Lib.hid (GFA.out.grow hb2)
    have FB2 := Lib.hid (GFB.out.grow hb2)
    have hz2 : w.heap.size + 1 < w2.heap.size := Nat.lt_of_lt_of_le hzY hb2.size
    have hz3 : w.heap.size < w2.heap.size := by omega
    clear hb2 x0 x1 x2 x3 x4 x5 x6 x7 GEA GEB GFA GFB KY hzY hz0 CA
    cases hma : EA.may with
    | false =>
      rw [if_neg (by simp)]
      obtain ⟨x0, x1, x2, x3, x4, x5, x6, x7⟩ := EB2.out
      clear hma
      go_wp2_with fail
      refine (CB.out w2 (HM.out.grow K2.out) FB2.out).mono ?_
      rintro e w3 ⟨rfl, hb3⟩
      have K3 := Lib.hid (bstep hb3 K2.out)
      clear hb3 x0 x1 x2 x3 x4 x5 x6 x7
      cases hmb : EB.may with
      | false =>
        rw [if_neg (by simp)]
        clear hmb
        go_wp2_with fail
        refine (awake4_c _ (HM.out.grow K3.out)).mono ?_
        rintro e w9 ⟨rfl, hb9⟩
        have K9 := Lib.hid (bstep hb9 K3.out)
        clear hb9
        go_wp2_with fail
        go_ret
        exact ⟨rfl, K9.out⟩
      | true =>
        rw [if_pos rfl]
        clear hmb
        go_wp2_with fail
        refine (awake4_c _ (HM.out.grow K3.out)).mono ?_
        rintro e w9 ⟨rfl, hb9⟩
        have K9 := Lib.hid (bstep hb9 K3.out)
        clear hb9
        go_wp2_with fail
        go_ret
        exact ⟨rfl, K9.out⟩
    | true =>
      rw [if_pos rfl]
      have HMA := Lib.hid hma
      obtain ⟨x0, x1, x2, x3, x4, x5, x6, x7⟩ := EB2.out
      clear hma
      go_wp2_with fail
      refine (CB.out w2 (HM.out.grow K2.out) FB2.out).mono ?_
      rintro e w3 ⟨rfl, hb3⟩
      have K3 := Lib.hid (bstep hb3 K2.out)
      have EB3 := Lib.hid (EB2.out.grow hz2 hb3)
      have EA3 := Lib.hid (EA2.out.grow hz3 hb3)
      have FA3 := Lib.hid (FA2.out.grow hb3)
      have FB3 := Lib.hid (FB2.out.grow hb3)
      have hz4 : w.heap.size + 1 < w3.heap.size := Nat.lt_of_lt_of_le hz2 hb3.size
      have hz5 : w.heap.size < w3.heap.size := by omega
      clear hb3 x0 x1 x2 x3 x4 x5 x6 x7 EA2 EB2 FA2 FB2 K2 hz2 hz3 CB
      cases hmb : EB.may with
      | false =>
        rw [if_neg (by simp)]
        clear hmb
        go_wp2_with fail
        refine (awake4_c _ (HM.out.grow K3.out)).mono ?_
        rintro e w9 ⟨rfl, hb9⟩
        have K9 := Lib.hid (bstep hb9 K3.out)
        clear hb9
        go_wp2_with fail
        go_ret
        exact ⟨rfl, K9.out⟩
      | true =>
        rw [if_pos rfl]
        obtain ⟨SA, hSA⟩ : ∃ S : ByteArray, (⟨EA.lay.toArray⟩ : ByteArray) = S := ⟨_, rfl⟩
        obtain ⟨SB, hSB⟩ : ∃ S : ByteArray, (⟨EB.lay.toArray⟩ : ByteArray) = S := ⟨_, rfl⟩
        have hdA : SA.data.toList = EA.lay := by rw [← hSA]
        have hdB : SB.data.toList = EB.lay := by rw [← hSB]
        rw [hSA, hSB]
        obtain ⟨x0, x1, x2, x3, x4, x5, x6, x7⟩ := EA3.out
        obtain ⟨y0, y1, y2, y3, y4, y5, y6, y7⟩ := EB3.out
        by_cases heq : EA = EB
        · have hs : (SA.toList == SB.toList) = true := strEq (by rw [hdA, hdB, heq])
          have HEQ := Lib.hid (HINJ.out heq)
          clear hmb hSA hSB hdA hdB heq HMA
          go_wp2_with fail
          refine (HSM.out aA aB cA cB w3 FA3.out FB3.out).mono ?_
          rintro e w4 ⟨r1, rfl, hr, hb4⟩
          obtain rfl : r1 = true := hr.2 HEQ.out
          have K4 := Lib.hid (bstep hb4 K3.out)
          clear hb4 hr
          go_wp2_with fail
          refine (awake4_c _ (HM.out.grow K4.out)).mono ?_
          rintro e w9 ⟨rfl, hb9⟩
          have K9 := Lib.hid (bstep hb9 K4.out)
          clear hb9
          go_wp2_with fail
          go_ret
          exact ⟨rfl, K9.out⟩
        · have hs : (SA.toList == SB.toList) = false := strNe (by
            rw [hdA, hdB]
            exact fun h => heq ((elay_inj HMA.out hmb HFA.out HFB.out).1 h))
          have HNE : Hid (¬ (t1 = v1 ∧ p1 = w1 ∧ q = r ∧ L = M)) := fun h => heq (HINJ2.out h)
          have hszA : SA.size = EA.lay.length := by rw [← hdA, len_str]
          have hszB : SB.size = EB.lay.length := by rw [← hdB, len_str]
          have hpre : SA.size ≤ SB.size → ((SB.extract 0 SA.size).toList == SA.toList) = false := fun hle => strNe (fun h => heq (by
            rw [sub_str, List.drop_zero, hdA, hdB, hszA] at h
            have e := List.take_append_drop EA.lay.length EB.lay
            rw [h] at e
            exact elay_prefix HMA.out hmb HFA.out HFB.out _ e.symm))
          have hla := elay_le HMA.out
          have hlb := elay_le hmb
          by_cases hlt : SB.size < SA.size
          · have z1 : (SB.size : Int) < SA.size := by omega
            clear hmb hSA hSB hdA hdB heq HMA hpre hszA hszB
            go_wp2_with fail
            refine (HSM.out aA aB cA cB w3 FA3.out FB3.out).mono ?_
            rintro e w4 ⟨r1, rfl, hr, hb4⟩
            have hr1 : r1 = false := by
              cases r1 with
              | false => rfl
              | true => exact absurd (hr.1 rfl) HNE.out
            subst hr1
            have K4 := Lib.hid (bstep hb4 K3.out)
            clear hb4 hr
            go_wp2_with fail
            refine (awake4_c _ (HM.out.grow K4.out)).mono ?_
            rintro e w9 ⟨rfl, hb9⟩
            have K9 := Lib.hid (bstep hb9 K4.out)
            clear hb9
            go_wp2_with fail
            go_ret
            exact ⟨rfl, K9.out⟩
          · have z1 : ¬ (SB.size : Int) < SA.size := by omega
            have z2 : (SA.size : Int) ≤ SB.size := by omega
            have z3 := hpre (by omega)
            have z4 : ((SB.extract 0 SA.size).toList != SA.toList) = true := by rw [bne, z3]; rfl
            clear hmb hSA hSB hdA hdB heq HMA hpre hszA hszB
            go_wp2_with fail
            refine (HSM.out aA aB cA cB w3 FA3.out FB3.out).mono ?_
            rintro e w4 ⟨r1, rfl, hr, hb4⟩
            have hr1 : r1 = false := by
              cases r1 with
              | false => rfl
              | true => exact absurd (hr.1 rfl) HNE.out
            subst hr1
            have K4 := Lib.hid (bstep hb4 K3.out)
            clear hb4 hr
            go_wp2_with fail
            refine (awake4_c _ (HM.out.grow K4.out)).mono ?_
            rintro e w9 ⟨rfl, hb9⟩
            have K9 := Lib.hid (bstep hb9 K4.out)
            clear hb9
            go_wp2_with fail
            go_ret
            exact ⟨rfl, K9.out⟩
end Go.Proofs.Ytfohdjgalmodbaa
