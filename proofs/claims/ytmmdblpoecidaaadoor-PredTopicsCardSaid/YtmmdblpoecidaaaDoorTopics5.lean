/- The walk of the law PredTopics. -/
import Derived.Test.YtmmdblpoecidaaaDoorProg
import Derived.WalkKit
import Derived.WalkSpells
import Derived.WalkLawsBesides
import Derived.Lib.Hide
import Derived.Deep.RegionWith
import Derived.Deep.Cut
import Derived.IntWalk
import Derived.Test.YtmmdblpoecidaaaDoorAwake5
import Derived.Test.YtmmdblpoecidaaaDoorPuts4
import Derived.Test.YtmmdblpoecidaaaDoorHold5
import Derived.Test.YtmmdblpoecidaaaDoorRMeet5
set_option linter.unusedVariables false
set_option linter.unusedSimpArgs false
namespace Go.Proofs.YtmmdblpoecidaaaDoor
open Go.RowKit Tryst
set_option maxHeartbeats 8000000
set_option maxRecDepth 20000
theorem some_meets (t : List UInt8) : meetsB [42, 42] t = topicB t := by
  have h : meetsL (dots [42, 42]) (dots t) = true := by
    show meetsL ([42, 42] :: []) (dots t) = true
    rw [meetsL_cons, if_pos rfl, anyTail_iff]
    exact ⟨(dots t).length, Nat.le_refl _, by rw [List.drop_length]; rfl⟩
  have hg : globB [42, 42] = true := by decide
  unfold meetsB
  rw [hg, h, Bool.true_and, Bool.and_true]
theorem may_topic (s : ByteArray) (a : Option Addr) (c : Nat) : mayP (PB.mk ⟨#[116, 111, 112, 105, 99]⟩ s false 0 ⟨#[]⟩ a c []).pr = globB s.data.toList := by
  rw [may_leaf, show (⟨#[116, 111, 112, 105, 99]⟩ : ByteArray) = Opk.topic.text from rfl, aloneB_at]
  simp [aloneK, noV]
  exact fun _ => rfl
theorem topic_raw (s : ByteArray) (hs : s.size ≤ 1000000000) (t p : ByteArray) (q : Int) (ea : Option Addr) (l : List FB) (ec : Nat) (ht : t.size ≤ 1000000) (hl : l.length ≤ 1000000000) (w : World) (hM : MaxW w) (hF : Flds w ea l) :
    Calls Tryd.prog 12 #[.agg #[.string ⟨#[116, 111, 112, 105, 99]⟩, .string s, .bool false, .int .i64 0, .string ⟨#[]⟩, .slice none 0 0], .agg #[.string t, .string p, .int .u64 q, .slice ea l.length ec]] w fun e w' => e = .returned (.bool (meetsB s.data.toList t.data.toList)) ∧ Below w.heap.size w w' := by
  have h := holds5_c (.mk ⟨#[116, 111, 112, 105, 99]⟩ s false 0 ⟨#[]⟩ none 0 []) t p q ea l ec ht hl w hM (.mk _ _ _ _ _ _ _ _ hs (by decide) (by simp) (Row.nil _ _ _) (by simp)) hF
  rw [may_topic] at h
  have e : (globB s.data.toList && holdsP t l (PB.mk ⟨#[116, 111, 112, 105, 99]⟩ s false 0 ⟨#[]⟩ none 0 []).pr) = meetsB s.data.toList t.data.toList := by
    rw [PB.pr, holdsP, show (⟨#[116, 111, 112, 105, 99]⟩ : ByteArray) = Opk.topic.text from rfl, opk_text]
    show (_ && meetsB _ _) = _
    unfold meetsB
    cases globB s.data.toList <;> rfl
  rw [e] at h
  exact h
theorem predTopics_c (gl : ByteArray) (hgl : gl.size ≤ 9223372036854775807) (t p : ByteArray) (q : Int) (a : Option Addr) (l : List FB) (c : Nat) (ht : t.size ≤ 9223372036854775807) (hp : p.size ≤ 9223372036854775807) (h0 : 0 ≤ q) (h4 : q ≤ 18446744073709551615) (hI : FIn l) (hl : l.length ≤ 9223372036854775807) (w : World) (hM : MaxW w) (hF : Flds w a l) :
    Calls Tryd.prog 5 #[.string gl, .agg #[.string t, .string p, .int .u64 q, .slice a l.length c]] w fun e w' => e = .returned (.bool true) ∧ Below w.heap.size w w' := by
  obtain ⟨hO, hO2, hlen⟩ := few_ok hI
  have HM := Lib.hid hM
  have CF := Lib.hid (fun W h => efew_c t p q a c l hl ht hp (few_in hI) W h)
  have CN := Lib.hid (fun W => few60_c gl hgl W)
  have HF := Lib.hid hF
  have u1 := few60_le t
  have u3 := few60_le gl
  clear hF hM hI hO hO2 hl ht hp hgl
  revert u1 u3 CF CN hlen
  generalize few60 t = t1
  generalize few60 p = p1
  generalize few60 gl = n1
  generalize fewL l = L
  intro hlen CF CN u1 u3
  go_enter Tryd.func5, Tryd.ntmps5
  go_upto_region 1 with fail
  have HBX := Lib.hid (balloc (.cells #[.string t, .string p, .int .u64 q, .slice a l.length c] 30) (.refl w.heap.size w))
  refine Tryst2.wp_region_grows [.is (.string gl), .is (.string n1), .is (.agg #[.string t, .string p, .int .u64 q, .slice a l.length c]), .any (EvS t1 p1 q L)] (by kernel_rfl) (by kernel_rfl) ?obl ?fin
  case obl =>
    simp only [Tryst2.AllObl, Tryst2.dstL, Tryst2.Obl, Tryst2.depsOf, Tryst2.binds_data, Tryst2.binds_chain, Tryst2.binds_phase, Tryst2.binds_guard, Tryst2.binds_text, Tryst2.binds_gc, Bool.false_eq_true, if_false, List.filterMap_cons_some, List.filterMap_cons_none, Tryst2.depsR, Tryst2.holdR, Tryst2.tmpsOf, Op.operands, Call.operands, Tryst2.Rsp.pred, Tryst2.wantedV_none, if_true, List.map_cons, List.map_nil, List.length_map, List.take_succ_cons, List.take_zero, List.length_cons, List.length_nil, List.getElem?_cons_zero, List.getElem?_cons_succ, Option.bind_some, id, List.getD_cons_zero, List.getD_cons_succ, Tryst2.isDst, List.filterMap_cons, List.filterMap_nil, List.toList_toArray]
    repeat' apply And.intro
    any_goals trivial
    all_goals (intro tv w' hg hold hd; (try simp at hold); obtain ⟨hcg, hfg⟩ := Tryst2.Grow.cells hg; have hsg := Tryst2.Grow.le hg)
    all_goals first | (go_simp; done) | (go_simp; rw [if_neg (by omega)]; exact ⟨.refl _, rfl⟩) | (obtain ⟨⟨g, hvg, hgg, hcell⟩, _⟩ := hd; have hcell0 := hcell 0 (by decide); simp at hcell0; go_simp; done) | (go_simp; go_at_call 10; (with_reducible refine (CF.out _ ?_).mono ?_); (exact HF.out.grow (Tryst2.Grow.below hg HBX.out)); rintro e w2 ⟨a', c', rfl, hf2, hs2, hb2⟩; exact EvS.of hf2 hs2 hb2) | (go_simp; go_at_call 14; refine (CN.out _).mono ?_; rintro e w2 ⟨rfl, rfl⟩; exact ⟨.refl _, rfl⟩)
  case fin =>
    intro tv w' hg hR
    simp only [Tryst2.allR, Tryst2.dstL, Tryst2.Rsp.pred, List.map_cons, List.map_nil, List.take_succ_cons, List.take_zero, List.length_cons, List.length_nil, List.tail_cons, List.toList_toArray] at hR
    obtain ⟨hcg, hfg⟩ := Tryst2.Grow.cells hg
    have hsg := Tryst2.Grow.le hg
    simp only [Tryst2.putAll, Tryst2.dstL, List.map_cons, List.map_nil, List.take_succ_cons, List.take_zero, List.length_cons, List.length_nil, List.toList_toArray, List.drop_succ_cons, List.drop_zero, Act.put, List.setIfInBounds_toArray, List.set_cons_zero, List.set_cons_succ, hR]
    obtain ⟨aA, cA, eA, fA, sA⟩ := EvS.at hR.2.2.2.1
    simp only [eA]
    have hK := Tryst2.Grow.below hg HBX.out
    have hh0 : w'.heap[w.heap.size]? = some (.cells #[.string t, .string p, .int .u64 q, .slice a l.length c] 30 (0, 0)) := (hg.block w.heap.size (by simp)).trans (by
      show (w.heap.push _)[_]? = _
      simp [Array.getElem?_push])
    have hz0 : w.heap.size < w'.heap.size := (Array.getElem?_eq_some_iff.1 hh0).1
    have e0 := EAt.of hh0
    have GF := Lib.hid (flds_box hh0 fA (.string t1) (.string p1) (.int .u64 q) (.slice aA L.length cA))
    have GE := Lib.hid (e0.setAll (t' := t1) (p' := p1) (q' := q) (u' := .slice aA L.length cA))
    have KY := Lib.hid (bset (p := ⟨w.heap.size, 3, none⟩) (.slice aA L.length cA) (Nat.le_refl _) (bset (p := ⟨w.heap.size, 2, none⟩) (.int .u64 q) (Nat.le_refl _) (bset (p := ⟨w.heap.size, 1, none⟩) (.string p1) (Nat.le_refl _) (bset (p := ⟨w.heap.size, 0, none⟩) (.string t1) (Nat.le_refl _) hK))))
    obtain ⟨x0, x1, x2, x3, x4, x5, x6, x7⟩ := e0
    clear hg hR hcg hfg hsg eA fA sA hK hh0 HF CF CN HBX
    go_upto_region 2 with fail
    clear x0 x1 x2 x3 x4 x5 x6 x7 hz0
    revert GF GE KY
    generalize (((w'.setCell ⟨w.heap.size, 0, none⟩ (.string t1)).setCell ⟨w.heap.size, 1, none⟩ (.string p1)).setCell ⟨w.heap.size, 2, none⟩ (.int .u64 q)).setCell ⟨w.heap.size, 3, none⟩ (.slice aA L.length cA) = Y
    intro GF GE KY
    have hzY0 : w.heap.size < Y.heap.size := (cell_lt GE.out.c0).1
    go_upto_region 3 with fail
    have b5 := PBox.new Y ⟨#[116, 111, 112, 105, 99]⟩ n1 false 0 ⟨#[]⟩ (.slice none 0 0) 26
    have b6 := PBox.new (Y.alloc (.cells #[.string ⟨#[116, 111, 112, 105, 99]⟩, .string n1, .bool false, .int .i64 0, .string ⟨#[]⟩, .slice none 0 0] 26)) ⟨#[116, 111, 112, 105, 99]⟩ ⟨#[42, 42]⟩ false 0 ⟨#[]⟩ (.slice none 0 0) 26
    rw [show (Y.alloc (.cells #[.string ⟨#[116, 111, 112, 105, 99]⟩, .string n1, .bool false, .int .i64 0, .string ⟨#[]⟩, .slice none 0 0] 26)).heap.size = Y.heap.size + 1 by simp] at b6
    refine wp_genC (fun v => Hid (PBox v Y.heap.size ⟨#[116, 111, 112, 105, 99]⟩ n1 false 0 ⟨#[]⟩ (.slice none 0 0)) ∧ Hid (PBox v (Y.heap.size + 1) ⟨#[116, 111, 112, 105, 99]⟩ ⟨#[42, 42]⟩ false 0 ⟨#[]⟩ (.slice none 0 0)) ∧ Hid (EAt v w.heap.size t1 p1 q (.slice aA L.length cA)) ∧ Hid (Flds v aA L) ∧ Hid (Below w.heap.size w v) ∧ w.heap.size < v.heap.size) ⟨b5.grow (balloc _ (.refl _ _)), b6, GE.out.grow hzY0 (balloc _ (balloc _ (.refl _ _))), GF.out.grow (balloc _ (balloc _ (.refl _ _))), balloc _ (balloc _ KY.out), by simp; omega⟩ ?_
    rintro V ⟨P5, P6, E3, F3, K3, hz3⟩
    clear b5 b6 GF GE KY hzY0
    generalize Y.heap.size + 1 = B6 at P6 ⊢
    generalize Y.heap.size = B5 at P5 ⊢
    have HM3 := Lib.hid (fun (W : World) (hb : Below w.heap.size w W) => HM.out.grow hb)
    have HF3 := Lib.hid (fun (W : World) (hb : Below V.heap.size V W) => F3.out.grow hb)
    obtain ⟨X, hX⟩ : ∃ X, meetsB n1.data.toList t1.data.toList = X := ⟨_, rfl⟩
    obtain ⟨Z, hZ⟩ : ∃ Z, topicB t1.data.toList = Z := ⟨_, rfl⟩
    have HT1 := Lib.hid (fun (W : World) (hb : Below V.heap.size V W) => topic_raw n1 (by omega) t1 p1 q aA L cA (by omega) (by omega) W (HM3.out W (bstep hb K3.out)) (HF3.out W hb))
    have HT2 := Lib.hid (fun (W : World) (hb : Below V.heap.size V W) => topic_raw ⟨#[42, 42]⟩ (by decide) t1 p1 q aA L cA (by omega) (by omega) W (HM3.out W (bstep hb K3.out)) (HF3.out W hb))
    have HR1 := Lib.hid (fun (W : World) => rMeets_c n1 t1 (by omega) (by omega) W)
    have HR2 := Lib.hid (fun (W : World) => rtopic_c t1 (by omega) W)
    have HAW := Lib.hid (fun (W : World) (hb : Below w.heap.size w W) => awake5_c W (HM3.out W hb))
    rw [hX] at HT1 HR1
    rw [show meetsB (⟨#[42, 42]⟩ : ByteArray).data.toList t1.data.toList = topicB t1.data.toList from some_meets _, hZ] at HT2
    rw [hZ] at HR2
    clear hX hZ HM3 HF3
    obtain ⟨B, hB⟩ : ∃ B, w.heap.size = B := ⟨_, rfl⟩
    rw [hB] at E3 hz3
    simp only [hB]
    obtain ⟨x0, x1, x2, x3, -, -, -, -⟩ := E3.out
    obtain ⟨a0, a1, a2, a3, a4, a5, a6⟩ := P5.out
    obtain ⟨b0, b1, b2, b3, b4, b5, b6⟩ := P6.out
    refine Tryst2.wp_region_grows [.is (.agg #[.string ⟨#[116, 111, 112, 105, 99]⟩, .string n1, .bool false, .int .i64 0, .string ⟨#[]⟩, .slice none 0 0]), .is (.agg #[.string t1, .string p1, .int .u64 q, .slice aA L.length cA]), .is (.bool X), .is (.string n1), .is (.pointer (some ⟨B, 0, none⟩)), .is (.string t1), .is (.bool X), .is (.bool true), .is (.bool true), .is (.agg #[.string ⟨#[116, 111, 112, 105, 99]⟩, .string ⟨#[42, 42]⟩, .bool false, .int .i64 0, .string ⟨#[]⟩, .slice none 0 0]), .is (.agg #[.string t1, .string p1, .int .u64 q, .slice aA L.length cA]), .is (.bool Z), .is (.pointer (some ⟨B, 0, none⟩)), .is (.string t1), .is (.bool Z), .is (.bool true), .is (.bool true), .is (.bool true), .is (.bool true), .is (.bool true), .is (.bool true)] (by kernel_rfl) (by kernel_rfl) ?obl ?fin
    case obl =>
      simp only [Tryst2.AllObl, Tryst2.dstL, Tryst2.Obl, Tryst2.depsOf, Tryst2.binds_data, Tryst2.binds_chain, Tryst2.binds_phase, Tryst2.binds_guard, Tryst2.binds_text, Tryst2.binds_gc, Bool.false_eq_true, if_false, List.filterMap_cons_some, List.filterMap_cons_none, Tryst2.depsR, Tryst2.holdR, Tryst2.tmpsOf, Op.operands, Call.operands, Tryst2.Rsp.pred, Tryst2.wantedV_none, Tryst2.wantedV_some, if_true, List.map_cons, List.map_nil, List.length_map, List.take_succ_cons, List.take_zero, List.length_cons, List.length_nil, List.getElem?_cons_zero, List.getElem?_cons_succ, Option.bind_some, id, List.getD_cons_zero, List.getD_cons_succ, Tryst2.isDst, List.filterMap_cons, List.filterMap_nil, List.toList_toArray]
      repeat' apply And.intro
      any_goals trivial
      all_goals (intro tv w' hg hold hd; (try simp at hold); obtain ⟨hcg, hfg⟩ := Tryst2.Grow.cells hg; have hsg := Tryst2.Grow.le hg)
      all_goals first | (go_simp; done) | (go_simp; rw [if_neg (by omega)]; exact ⟨.refl _, rfl⟩) | (obtain ⟨⟨g, hvg, hgg, hcell⟩, _⟩ := hd; have hcell0 := hcell 0 (by decide); simp at hcell0; go_simp; done) | (go_simp; go_at_call 18; (with_reducible refine (HR1.out _).mono ?_); rintro e w2 ⟨rfl, hb2⟩; exact ⟨hb2, rfl⟩) | (go_simp; go_at_call 19; (with_reducible refine (HR2.out _).mono ?_); rintro e w2 ⟨rfl, hb2⟩; exact ⟨hb2, rfl⟩) | (go_simp; go_at_call 13; (with_reducible refine (HAW.out _ ?_).mono ?_); (exact bstep (Tryst2.Grow.below hg (.refl V.heap.size V)) K3.out); rintro e w2 ⟨rfl, hb2⟩; exact ⟨hb2, rfl⟩) | (go_simp; (with_reducible refine (HT1.out _ ?_).mono ?_); (exact Tryst2.Grow.below hg (.refl V.heap.size V)); rintro e w2 ⟨rfl, hb2⟩; exact ⟨hb2, rfl⟩) | (go_simp; (with_reducible refine (HT2.out _ ?_).mono ?_); (exact Tryst2.Grow.below hg (.refl V.heap.size V)); rintro e w2 ⟨rfl, hb2⟩; exact ⟨hb2, rfl⟩)
    case fin =>
      intro tv w' hg hR
      simp only [Tryst2.allR, Tryst2.dstL, Tryst2.Rsp.pred, List.map_cons, List.map_nil, List.take_succ_cons, List.take_zero, List.length_cons, List.length_nil, List.tail_cons, List.toList_toArray] at hR
      obtain ⟨hcg, hfg⟩ := Tryst2.Grow.cells hg
      have hsg := Tryst2.Grow.le hg
      simp only [Tryst2.putAll, Tryst2.dstL, List.map_cons, List.map_nil, List.take_succ_cons, List.take_zero, List.length_cons, List.length_nil, List.toList_toArray, List.drop_succ_cons, List.drop_zero, Act.put, List.setIfInBounds_toArray, List.set_cons_zero, List.set_cons_succ, hR]
      have K9 := Lib.hid (bstep (Tryst2.Grow.below hg (.refl V.heap.size V)) K3.out)
      clear hg hR hcg hfg hsg
      go_wp2_with fail
      go_ret
      exact ⟨rfl, K9.out⟩
end Go.Proofs.YtmmdblpoecidaaaDoor
