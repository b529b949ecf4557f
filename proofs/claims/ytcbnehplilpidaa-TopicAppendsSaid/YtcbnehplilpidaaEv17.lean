/- The walk of ref04.Lay. -/
import Derived.Test.YtcbnehplilpidaaProg
import Derived.WalkKit
import Derived.WalkSpells
import Derived.WalkLawsBesides
import Derived.Lib.Hide
import Derived.Deep.RegionWith
import Derived.Deep.Cut
import Derived.Test.YtcbnehplilpidaaEvD
set_option linter.unusedVariables false
set_option linter.unusedSimpArgs false
namespace Go.Proofs.Ytcbnehplilpidaa
open Go.RowKit Tryst
set_option maxHeartbeats 400000
set_option maxRecDepth 20000
theorem rtext_c (s : ByteArray) (hs : s.size ≤ 1000000000) (w : World) :
    Calls Try.prog 56 #[.string s] w fun e w' => e = .returned (.string ⟨(textL s.data.toList).toArray⟩) ∧ Below w.heap.size w w' := by
  have hw8 : IntKind.u64.wrap (s.size : Int) = s.size := len_wrap _ hs
  go_enter Try.func56, Try.ntmps56
  go_wp2_with fail
  refine (rpackAll_c _ _ (by omega) (by omega)).mono ?_
  rintro e w1 ⟨rfl, hb1⟩
  rw [Int.toNat_natCast]
  have hpl : (pack s.size).length ≤ 10 := pack_le _
  have hsz : (ByteArray.mk (pack s.size).toArray).size = (pack s.size).length := rfl
  have KB := Lib.hid hb1
  clear hb1
  go_wp2_with fail
  go_ret
  refine ⟨ret_eq ?_, KB.out⟩
  show Value.string (⟨(pack s.size).toArray⟩ ++ s) = _
  rw [show textL s.data.toList = pack s.size ++ s.data.toList by unfold textL; rw [len_str], ← ByteArray.mk_append_mk]
def layBA (t p : ByteArray) (q : Int) (l : List FB) (k : Nat) : List UInt8 := headL t p q l.length ++ layF ((l.take k).map FB.fld)
def RLayRel (w W : World) (t p : ByteArray) (q : Int) (l : List FB) (s i : Value) (wr : World) : Prop := ∃ k : Nat, k ≤ l.length ∧ i = .int .i64 k ∧ s = .string ⟨(layBA t p q l k).toArray⟩ ∧ Hid (Below W.heap.size W wr) ∧ W.heap.size ≤ wr.heap.size
set_option maxHeartbeats 2000000 in
theorem rlayE_c (t p : ByteArray) (q : Int) (a : Option Addr) (c : Nat) (l : List FB) (hl : l.length ≤ 1000000000) (ht : t.size ≤ 1000000000) (hp : p.size ≤ 1000000000) (hs : FOk l) (w : World) (hF : Flds w a l)
    (h0 : 0 ≤ q) (h4 : q ≤ 18446744073709551615) (hm : (evE t p q l).may = true) :
    Calls Try.prog 23 #[.agg #[.string t, .string p, .int .u64 q, .slice a l.length c]] w fun e w' => e = .returned (.string ⟨(evE t p q l).lay.toArray⟩) ∧ Below w.heap.size w w' := by
  have HF := Lib.hid hF
  have HS := Lib.hid hs
  have HMM := Lib.hid hm
  have hw8 : IntKind.u64.wrap (l.length : Int) = l.length := len_wrap _ hl
  have g1 : (textL t.data.toList).length ≤ 41 := text_le (may_parts hm).1 (by decide)
  have g2 : (textL p.data.toList).length ≤ 17 := text_le (may_parts hm).2.1 (by decide)
  have g3 := pack_le q.toNat
  have g4 := pack_le l.length
  obtain ⟨T, hT⟩ : ∃ T, textL t.data.toList = T := ⟨_, rfl⟩
  obtain ⟨U, hU⟩ : ∃ U, textL p.data.toList = U := ⟨_, rfl⟩
  obtain ⟨Q, hQ⟩ : ∃ Q, pack q.toNat = Q := ⟨_, rfl⟩
  obtain ⟨N, hN⟩ : ∃ N, pack l.length = N := ⟨_, rfl⟩
  have hhead : headL t p q l.length = T ++ U ++ Q ++ N := by unfold headL; rw [hT, hU, hQ, hN]
  rw [hT] at g1
  rw [hU] at g2
  rw [hQ] at g3
  rw [hN] at g4
  have HT := Lib.hid hT
  have HU := Lib.hid hU
  have HQ := Lib.hid hQ
  have HN := Lib.hid hN
  have HH := Lib.hid hhead
  clear hF hs hm hT hU hQ hN hhead
  have s1 : (ByteArray.mk T.toArray).size = T.length := rfl
  have s2 : (ByteArray.mk U.toArray).size = U.length := rfl
  have s3 : (ByteArray.mk Q.toArray).size = Q.length := rfl
  have s4 : (ByteArray.mk N.toArray).size = N.length := rfl
  go_enter Try.func23, Try.ntmps23
  go_wp2_with fail
  refine Tryst2.wp_region_grows [.is (.pointer (some ⟨w.heap.size, 0, none⟩)), .is (.string t), .is (.string ⟨T.toArray⟩), .is (.pointer (some ⟨w.heap.size, 1, none⟩)), .is (.string p), .is (.string ⟨U.toArray⟩), .is (.string (⟨T.toArray⟩ ++ ⟨U.toArray⟩)), .is (.pointer (some ⟨w.heap.size, 2, none⟩)), .is (.int .u64 q), .is (.string ⟨Q.toArray⟩), .is (.string (⟨T.toArray⟩ ++ ⟨U.toArray⟩ ++ ⟨Q.toArray⟩)), .is (.pointer (some ⟨w.heap.size, 3, none⟩)), .is (.slice a l.length c), .is (.int .i64 l.length), .is (.int .u64 l.length), .is (.string ⟨N.toArray⟩), .is (.string (⟨T.toArray⟩ ++ ⟨U.toArray⟩ ++ ⟨Q.toArray⟩ ++ ⟨N.toArray⟩))] (by kernel_rfl) (by kernel_rfl) ?obl ?fin
  case obl =>
    simp only [Tryst2.AllObl, Tryst2.dstL, Tryst2.Obl, Tryst2.depsOf, Tryst2.binds_data, Tryst2.binds_chain, Tryst2.binds_phase, Tryst2.binds_guard, Tryst2.binds_text, Tryst2.binds_gc, Bool.false_eq_true, if_false, List.filterMap_cons_some, List.filterMap_cons_none, Tryst2.depsR, Tryst2.holdR, Tryst2.tmpsOf, Op.operands, Call.operands, Tryst2.Rsp.pred, Tryst2.wantedV_none, if_true, List.map_cons, List.map_nil, List.length_map, List.take_succ_cons, List.take_zero, List.length_cons, List.length_nil, List.getElem?_cons_zero, List.getElem?_cons_succ, Option.bind_some, id, List.getD_cons_zero, List.getD_cons_succ, Tryst2.isDst, List.filterMap_cons, List.filterMap_nil, List.toList_toArray]
    repeat' apply And.intro
    any_goals trivial
    all_goals (intro tv w' hg hold hd; (try simp at hold); obtain ⟨hcg, hfg⟩ := Tryst2.Grow.cells hg; have hsg := Tryst2.Grow.le hg)
    all_goals first | (go_simp; done) | (go_simp; rw [if_neg (by omega)]; exact ⟨.refl _, rfl⟩) | (obtain ⟨⟨g, hvg, hgg, hcell⟩, _⟩ := hd; have hcell0 := hcell 0 (by decide); simp at hcell0; go_simp; done) | (go_simp; go_at_call 56; (with_reducible refine (rtext_c t ht _).mono ?_); rintro e w2 ⟨rfl, hb2⟩; exact ⟨hb2, by rw [HT.out]⟩) | (go_simp; go_at_call 56; (with_reducible refine (rtext_c p hp _).mono ?_); rintro e w2 ⟨rfl, hb2⟩; exact ⟨hb2, by rw [HU.out]⟩) | (go_simp; go_at_call 57; (with_reducible refine (rpackAll_c q _ h0 h4).mono ?_); rintro e w2 ⟨rfl, hb2⟩; exact ⟨hb2, by rw [HQ.out]⟩) | (go_simp; go_at_call 57; (with_reducible refine (rpackAll_c (l.length : Int) _ (by omega) (by omega)).mono ?_); rintro e w2 ⟨rfl, hb2⟩; exact ⟨hb2, by rw [Int.toNat_natCast, HN.out]⟩)
  case fin =>
    intro tv w' hg hR
    simp only [Tryst2.allR, Tryst2.dstL, Tryst2.Rsp.pred, List.map_cons, List.map_nil, List.take_succ_cons, List.take_zero, List.length_cons, List.length_nil, List.tail_cons, List.toList_toArray] at hR
    obtain ⟨hcg, hfg⟩ := Tryst2.Grow.cells hg
    have hsg := Tryst2.Grow.le hg
    simp only [Tryst2.putAll, Tryst2.dstL, List.map_cons, List.map_nil, List.take_succ_cons, List.take_zero, List.length_cons, List.length_nil, List.toList_toArray, List.drop_succ_cons, List.drop_zero, Act.put, List.setIfInBounds_toArray, List.set_cons_zero, List.set_cons_succ, hR]
    have hbx := balloc (.cells #[.string t, .string p, .int .u64 q, .slice a l.length c] 25) (.refl w.heap.size w)
    have hbw := Tryst2.Grow.below hg (w := w) hbx
    have E1 : EAt w' w.heap.size t p q (.slice a l.length c) := by
      refine EAt.grow (v := w.alloc (.cells #[.string t, .string p, .int .u64 q, .slice a l.length c] 25)) ?_ (by simp) (Tryst2.Grow.below hg (.refl _ _))
      constructor <;> simp [go_sem]
    have EE := Lib.hid E1
    have KB := Lib.hid hbw
    have hz1 : w.heap.size < w'.heap.size := by simp at hsg; omega
    have hst : (⟨T.toArray⟩ ++ ⟨U.toArray⟩ ++ ⟨Q.toArray⟩ ++ ⟨N.toArray⟩ : ByteArray) = ⟨(layBA t p q l 0).toArray⟩ := by
      unfold layBA
      rw [List.take_zero, List.map_nil, layF, List.append_nil, HH.out, ByteArray.mk_append_mk, ByteArray.mk_append_mk, ByteArray.mk_append_mk]
    rw [hst]
    clear hg hR hcg hfg hsg E1 hbw hbx s1 s2 s3 s4 hst
    go_wp2_with fail
    obtain ⟨W, hW⟩ : ∃ W, W = w' := ⟨_, rfl⟩
    rw [← hW] at EE KB hz1
    go_loopw [3, 4] (fun s i wr => RLayRel w W t p q l s i wr) (fun _ i _ => l.length - (intOf i).toNat)
    case atStart => exact ⟨0, by omega, rfl, rfl, by rw [hW]; exact Below.refl _ _, by rw [hW]; exact Nat.le_refl _⟩
    case round =>
      clear hW
      obtain ⟨k, hk, rfl, rfl, HB, hz⟩ := hrel
      obtain ⟨wo, rfl⟩ : ∃ wo, wo = wr := ⟨_, rfl⟩
      have KBo := Lib.hid (KB.out.trans (HB.out.mono (Nat.le_of_lt (Nat.lt_of_le_of_lt (Nat.le_refl _) hz1))))
      obtain ⟨c0, c1, c2, c3, c4, c5, c6, c7⟩ := EE.out.growB (B := W.heap.size) hz1 HB.out
      have hzo : w.heap.size < wo.heap.size := by omega
      by_cases hlt : k < l.length
      · obtain ⟨hvm, hle1, hle2, hle3⟩ := may_fld HMM.out k hlt
        have hn1 : (textL l[k].name.data.toList).length ≤ 17 := text_le hle3 (by decide)
        have hv1 := lay_le _ hvm
        have HF2 := Lib.hid (HF.out.grow KBo.out)
        obtain ⟨b, o, ha, hb⟩ := HF2.out.head hlt
        subst ha
        obtain ⟨_, f0, f1, f2, f3⟩ := HF2.out.at hlt
        obtain ⟨r1, r2, r3, r4⟩ := HS.out l[k] (List.getElem_mem hlt)
        have x1 : (k : Int) < l.length := by omega
        have x2 : (0 : Int) ≤ k := by omega
        obtain ⟨M, hM⟩ : ∃ M, textL l[k].name.data.toList = M := ⟨_, rfl⟩
        obtain ⟨V1, hV1⟩ : ∃ V1, V.lay ⟨l[k].num, l[k].n, l[k].s.data.toList⟩ = V1 := ⟨_, rfl⟩
        obtain ⟨L, hL⟩ : ∃ L, layBA t p q l k = L := ⟨_, rfl⟩
        have hLl : L.length ≤ 1000 := by rw [← hL]; unfold layBA; rw [List.length_append]; omega
        have hnext : layBA t p q l (k + 1) = L ++ (M ++ V1) := by
          unfold layBA
          rw [layF_step hlt, hM, hV1, ← hL]
          unfold layBA
          rw [List.append_assoc]
        rw [hM] at hn1
        rw [hV1] at hv1
        rw [hL]
        have HNX := Lib.hid hnext
        have HMn := Lib.hid hM
        have HVn := Lib.hid hV1
        clear hvm hle1 hle2 hle3 hM hV1 hL hnext
        have s5 : (ByteArray.mk M.toArray).size = M.length := rfl
        have s6 : (ByteArray.mk V1.toArray).size = V1.length := rfl
        have s7 : (ByteArray.mk L.toArray).size = L.length := rfl
        go_wp2_with fail
        refine Tryst2.wp_region_grows [.is (.string ⟨L.toArray⟩), .is (.pointer (some ⟨w.heap.size, 3, none⟩)), .is (.slice (some ⟨b, o, none⟩) l.length c), .is (.int .i64 k), .is (.pointer (some ⟨b, o + k * 4, none⟩)), .is (.pointer (some ⟨b, o + k * 4, none⟩)), .is (.string l[k].name), .is (.string ⟨M.toArray⟩), .is (.pointer (some ⟨w.heap.size, 3, none⟩)), .is (.slice (some ⟨b, o, none⟩) l.length c), .is (.int .i64 k), .is (.pointer (some ⟨b, o + k * 4, none⟩)), .is (.pointer (some ⟨b, o + k * 4 + 1, none⟩)), .is (.agg #[.bool l[k].num, .int .i64 l[k].n, .string l[k].s]), .is (.string ⟨V1.toArray⟩), .is (.string (⟨M.toArray⟩ ++ ⟨V1.toArray⟩)), .is (.string (⟨L.toArray⟩ ++ (⟨M.toArray⟩ ++ ⟨V1.toArray⟩)))] (by kernel_rfl) (by kernel_rfl) ?obl ?fin
        case obl =>
          simp only [Tryst2.AllObl, Tryst2.dstL, Tryst2.Obl, Tryst2.depsOf, Tryst2.binds_data, Tryst2.binds_chain, Tryst2.binds_phase, Tryst2.binds_guard, Tryst2.binds_text, Tryst2.binds_gc, Bool.false_eq_true, if_false, List.filterMap_cons_some, List.filterMap_cons_none, Tryst2.depsR, Tryst2.holdR, Tryst2.tmpsOf, Op.operands, Call.operands, Tryst2.Rsp.pred, Tryst2.wantedV_none, if_true, List.map_cons, List.map_nil, List.length_map, List.take_succ_cons, List.take_zero, List.length_cons, List.length_nil, List.getElem?_cons_zero, List.getElem?_cons_succ, Option.bind_some, id, List.getD_cons_zero, List.getD_cons_succ, Tryst2.isDst, List.filterMap_cons, List.filterMap_nil, List.toList_toArray]
          repeat' apply And.intro
          any_goals trivial
          all_goals (intro tv w' hg hold hd; (try simp at hold); obtain ⟨hcg, hfg⟩ := Tryst2.Grow.cells hg; have hsg := Tryst2.Grow.le hg)
          all_goals first | (go_simp; done) | (go_simp; rw [if_neg (by omega)]; exact ⟨.refl _, rfl⟩) | (obtain ⟨⟨g, hvg, hgg, hcell⟩, _⟩ := hd; have hcell0 := hcell 0 (by decide); simp at hcell0; go_simp; done) | (go_simp; go_at_call 56; (with_reducible refine (rtext_c _ (by assumption) _).mono ?_); rintro e w2 ⟨rfl, hb2⟩; exact ⟨hb2, by rw [HMn.out]⟩) | (go_simp; go_at_call 58; refine (rlay_c (by assumption) (by assumption) (by assumption) _).mono ?_; rintro e w2 ⟨rfl, hb2⟩; exact ⟨hb2, by rw [HVn.out]⟩)
        case fin =>
          intro tv w' hg hR
          simp only [Tryst2.allR, Tryst2.dstL, Tryst2.Rsp.pred, List.map_cons, List.map_nil, List.take_succ_cons, List.take_zero, List.length_cons, List.length_nil, List.tail_cons, List.toList_toArray] at hR
          obtain ⟨hcg, hfg⟩ := Tryst2.Grow.cells hg
          have hsg := Tryst2.Grow.le hg
          simp only [Tryst2.putAll, Tryst2.dstL, List.map_cons, List.map_nil, List.take_succ_cons, List.take_zero, List.length_cons, List.length_nil, List.toList_toArray, List.drop_succ_cons, List.drop_zero, Act.put, List.setIfInBounds_toArray, List.set_cons_zero, List.set_cons_succ, hR]
          have KB2 := Lib.hid (Tryst2.Grow.below hg HB.out)
          have hz2 : W.heap.size ≤ w'.heap.size := by omega
          have hst : (⟨L.toArray⟩ ++ (⟨M.toArray⟩ ++ ⟨V1.toArray⟩) : ByteArray) = ⟨(layBA t p q l (k + 1)).toArray⟩ := by
            rw [HNX.out, ByteArray.mk_append_mk, ByteArray.mk_append_mk]
          rw [hst]
          clear hg hR hcg hfg hsg c0 c1 c2 c3 c4 c5 c6 c7 f0 f1 f2 f3 s5 s6 s7 hst
          go_wp2_with fail
          go_roundw
          case rel => exact ⟨k + 1, by omega, by go_num, rfl, KB2, hz2⟩
          case measure => simp [intOf] <;> omega
      · have HE : Hid (layBA t p q l k = (evE t p q l).lay) := by
          show _ = _
          rw [lay_parts, layBA, List.take_of_length_le (by omega)]
        go_wp2_with fail
        go_ret
        exact ⟨ret_eq (by show Value.string ⟨(layBA t p q l k).toArray⟩ = _; rw [HE.out]), KBo.out⟩
end Go.Proofs.Ytcbnehplilpidaa
