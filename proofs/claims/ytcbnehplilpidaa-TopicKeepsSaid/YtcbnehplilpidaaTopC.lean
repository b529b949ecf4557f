/- The walk of topic.Check. -/
import Derived.Test.YtcbnehplilpidaaProg
import Derived.WalkKit
import Derived.WalkSpells
import Derived.WalkLawsBesides
import Derived.Lib.Hide
import Derived.Deep.RegionWith
import Derived.Deep.Cut
import Derived.IntWalk
import Derived.Test.YtcbnehplilpidaaTopB
set_option linter.unusedVariables false
set_option linter.unusedSimpArgs false
namespace Go.Proofs.Ytcbnehplilpidaa
open Go.RowKit Tryst
set_option maxHeartbeats 400000
set_option maxRecDepth 20000
/-- topics of which each text has some length -/
def TIn (l : List TB) : Prop := ∀ t ∈ l, t.name.size ≤ 1000000000 ∧ (∀ s ∈ t.log, s.size ≤ 1000000000) ∧ t.log.length ≤ 1000000000 ∧ -9223372036854775808 ≤ t.first ∧ t.first ≤ 9223372036854775807
def prevT (L : List Tp) : Nat → Option ByteArray
  | 0 => none
  | k + 1 => (L[k]?).map Tp.name
theorem okT_step {L : List Tp} {k : Nat} (hk : k < L.length) : okT (prevT L k) (L.drop k) = (tMay L[k] && ((match prevT L k with | none => true | some q => lessB q L[k].name) && okT (prevT L (k + 1)) (L.drop (k + 1)))) := by
  rw [List.drop_eq_getElem_cons hk]
  have e : prevT L (k + 1) = some L[k].name := by show (L[k]?).map Tp.name = _; rw [List.getElem?_eq_getElem hk]; rfl
  rw [e]
  cases prevT L k <;> rfl
theorem okT_end {L : List Tp} {k : Nat} (hk : L.length ≤ k) : okT (prevT L k) (L.drop k) = true := by
  rw [List.drop_eq_nil_of_le hk]
  cases prevT L k <;> rfl
theorem prevT_succ {L : List Tp} {k : Nat} (hk : k < L.length) : prevT L (k + 1) = some L[k].name := by
  show (L[k]?).map Tp.name = _; rw [List.getElem?_eq_getElem hk]; rfl
def errV (b : Bool) : Int := if b = true then 0 else 1
def TChkRel (w : World) (l : List TB) (R : Bool) (i : Value) (wr : World) : Prop := ∃ k : Nat, k ≤ l.length ∧ i = .int .i64 k ∧ Hid (R = okT (prevT (l.map TB.tp) k) ((l.map TB.tp).drop k)) ∧ Hid (Below w.heap.size w wr) ∧ w.heap.size ≤ wr.heap.size
theorem geB (a b : ByteArray) : (!Op.bytesLess a.toList b.toList) = !lessB a b := by unfold lessB; rw [str_toList, str_toList]
set_option maxHeartbeats 2000000 in
theorem tcheck_c (a : Option Addr) (c : Nat) (l : List TB) (hl : l.length ≤ 1000000000) (hI : TIn l) (w : World) (hM : MaxW w) (hF : Tops w a l) :
    Calls Try.prog 35 #[.slice a l.length c] w fun e w' => e = .returned (.int .i64 (errV (topsMay (l.map TB.tp)))) ∧ Below w.heap.size w w' := by
  obtain ⟨R, hR⟩ : ∃ R, okT none (l.map TB.tp) = R := ⟨_, rfl⟩
  have hT : topsMay (l.map TB.tp) = (decide (l.length ≤ 20) && R) := by unfold topsMay; rw [hR, List.length_map]
  rw [hT]
  have HR := Lib.hid hR
  have HM := Lib.hid hM
  have HF := Lib.hid hF
  have HI := Lib.hid hI
  clear hM hF hR hT hI
  by_cases h20 : l.length ≤ 20
  · have HQ : Hid ((decide (l.length ≤ 20) && R) = R) := Lib.hid (by rw [decide_eq_true h20]; rfl)
    rw [HQ.out]
    have y1 : ¬ (20 : Int) < l.length := by omega
    go_enter Try.func35, Try.ntmps35
    go_wp2_with fail
    go_loopw [10] (fun i wr => TChkRel w l R i wr) (fun i _ => l.length - (intOf i).toNat)
    case atStart => exact ⟨0, by omega, rfl, HR.out.symm, .refl _ _, by omega⟩
    case round =>
      obtain ⟨k, hk, rfl, HP, HW, hz⟩ := hrel
      obtain ⟨wo, rfl⟩ : ∃ wo, wo = wr := ⟨_, rfl⟩
      by_cases hlt : k < l.length
      · have HF2 := Lib.hid (HF.out.grow HW.out)
        obtain ⟨b, o, ha, hb⟩ := HF2.out.head hlt
        subst ha
        obtain ⟨_, ⟨f0, f1, f2⟩, hS, _⟩ := HF2.out.at hlt
        have HS := Lib.hid hS
        have hin := HI.out l[k] (List.getElem_mem hlt)
        have hc := (fun (W : World) (hM : MaxW W) (hS : Strs W l[k].la l[k].log) => tmay_c l[k] hin.1 hin.2.1 hin.2.2.1 hin.2.2.2.1 hin.2.2.2.2 W hM hS)
        unfold tV at hc
        have HC := Lib.hid hc
        clear hc
        have hst := okT_step (L := l.map TB.tp) (k := k) (by simpa using hlt)
        rw [← HP.out] at hst
        simp only [List.getElem_map] at hst
        have HST := Lib.hid hst
        clear hst hin hS
        go_upto_region 6 with fail
        have HBX := Lib.hid (balloc (.cells #[.string l[k].name, .int .i64 l[k].first, .slice l[k].la l[k].log.length l[k].lc] 74) (.refl wo.heap.size wo))
        have HK := Lib.hid (bstep HBX.out HW.out)
        generalize tMay l[k].tp = mm at HC HST
        cases mm with
        | false =>
          have HQ2 : Hid (R = false) := Lib.hid (HST.out.trans (Bool.false_and _))
          clear HST
          refine Tryst2.wp_region_grows [.is (.agg #[.string l[k].name, .int .i64 l[k].first, .slice l[k].la l[k].log.length l[k].lc]), .is (.bool false), .is (.bool true), .is (.bool true), .is undef, .is undef, .is undef, .is undef, .is undef, .is undef, .is undef, .is undef, .is undef, .is undef, .is undef, .is undef, .is undef, .is (.bool true)] (by kernel_rfl) (by kernel_rfl) ?obl ?fin
          case obl =>
            simp only [Tryst2.AllObl, Tryst2.dstL, Tryst2.Obl, Tryst2.depsOf, Tryst2.binds_data, Tryst2.binds_chain, Tryst2.binds_phase, Tryst2.binds_guard, Tryst2.binds_text, Tryst2.binds_gc, Bool.false_eq_true, if_false, List.filterMap_cons_some, List.filterMap_cons_none, Tryst2.depsR, Tryst2.holdR, Tryst2.tmpsOf, Op.operands, Call.operands, Tryst2.Rsp.pred, Tryst2.wantedV_none, Tryst2.wantedV_some, if_true, List.map_cons, List.map_nil, List.length_map, List.take_succ_cons, List.take_zero, List.length_cons, List.length_nil, List.getElem?_cons_zero, List.getElem?_cons_succ, Option.bind_some, id, List.getD_cons_zero, List.getD_cons_succ, Tryst2.isDst, List.filterMap_cons, List.filterMap_nil, List.toList_toArray]
            repeat' apply And.intro
            any_goals trivial
            all_goals (intro tv w' hg hold hd; (try simp at hold); obtain ⟨hcg, hfg⟩ := Tryst2.Grow.cells hg; have hsg := Tryst2.Grow.le hg)
            all_goals first | (go_simp; done) | (go_simp; rw [if_neg (by omega)]; exact ⟨.refl _, rfl⟩) | (obtain ⟨⟨g, hvg, hgg, hcell⟩, _⟩ := hd; have hcell0 := hcell 0 (by decide); simp at hcell0; go_simp; done) | (go_simp; go_at_call 69; (with_reducible refine (HC.out _ ?_ ?_).mono ?_); (exact HM.out.grow (Tryst2.Grow.below hg HK.out)); (exact HS.out.grow (Tryst2.Grow.below hg HBX.out)); rintro e w5 ⟨rfl, hb5⟩; exact ⟨hb5, rfl⟩)
          case fin =>
            intro tv w' hg hR
            simp only [Tryst2.allR, Tryst2.dstL, Tryst2.Rsp.pred, List.map_cons, List.map_nil, List.take_succ_cons, List.take_zero, List.length_cons, List.length_nil, List.tail_cons, List.toList_toArray] at hR
            obtain ⟨hcg, hfg⟩ := Tryst2.Grow.cells hg
            have hsg := Tryst2.Grow.le hg
            simp only [Tryst2.putAll, Tryst2.dstL, List.map_cons, List.map_nil, List.take_succ_cons, List.take_zero, List.length_cons, List.length_nil, List.toList_toArray, List.drop_succ_cons, List.drop_zero, Act.put, List.setIfInBounds_toArray, List.set_cons_zero, List.set_cons_succ, hR]
            have HK9 := Lib.hid (Tryst2.Grow.below hg HK.out)
            clear hg hR hcg hfg hsg
            go_wp2_with fail
            go_ret
            exact ⟨ret_int (by rw [HQ2.out]; rfl), HK9.out⟩
        | true =>
          rw [Bool.true_and] at HST
          cases k with
          | zero =>
            have HQ2 : Hid (R = okT (prevT (l.map TB.tp) (0 + 1)) ((l.map TB.tp).drop (0 + 1))) := Lib.hid HST.out
            clear HST
            refine Tryst2.wp_region_grows [.is (.agg #[.string l[0].name, .int .i64 l[0].first, .slice l[0].la l[0].log.length l[0].lc]), .is (.bool true), .is (.bool false), .is (.bool false), .is (.int .i64 0), .is (.bool false), .is (.bool false), .is undef, .is undef, .is undef, .is undef, .is undef, .is undef, .is undef, .is undef, .is undef, .is (.bool false), .is (.bool false)] (by kernel_rfl) (by kernel_rfl) ?obl ?fin
            case obl =>
              simp only [Tryst2.AllObl, Tryst2.dstL, Tryst2.Obl, Tryst2.depsOf, Tryst2.binds_data, Tryst2.binds_chain, Tryst2.binds_phase, Tryst2.binds_guard, Tryst2.binds_text, Tryst2.binds_gc, Bool.false_eq_true, if_false, List.filterMap_cons_some, List.filterMap_cons_none, Tryst2.depsR, Tryst2.holdR, Tryst2.tmpsOf, Op.operands, Call.operands, Tryst2.Rsp.pred, Tryst2.wantedV_none, Tryst2.wantedV_some, if_true, List.map_cons, List.map_nil, List.length_map, List.take_succ_cons, List.take_zero, List.length_cons, List.length_nil, List.getElem?_cons_zero, List.getElem?_cons_succ, Option.bind_some, id, List.getD_cons_zero, List.getD_cons_succ, Tryst2.isDst, List.filterMap_cons, List.filterMap_nil, List.toList_toArray]
              repeat' apply And.intro
              any_goals trivial
              all_goals (intro tv w' hg hold hd; (try simp at hold); obtain ⟨hcg, hfg⟩ := Tryst2.Grow.cells hg; have hsg := Tryst2.Grow.le hg)
              all_goals first | (go_simp; done) | (go_simp; rw [if_neg (by omega)]; exact ⟨.refl _, rfl⟩) | (obtain ⟨⟨g, hvg, hgg, hcell⟩, _⟩ := hd; have hcell0 := hcell 0 (by decide); simp at hcell0; go_simp; done) | (go_simp; go_at_call 69; (with_reducible refine (HC.out _ ?_ ?_).mono ?_); (exact HM.out.grow (Tryst2.Grow.below hg HK.out)); (exact HS.out.grow (Tryst2.Grow.below hg HBX.out)); rintro e w5 ⟨rfl, hb5⟩; exact ⟨hb5, rfl⟩)
            case fin =>
              intro tv w' hg hR
              simp only [Tryst2.allR, Tryst2.dstL, Tryst2.Rsp.pred, List.map_cons, List.map_nil, List.take_succ_cons, List.take_zero, List.length_cons, List.length_nil, List.tail_cons, List.toList_toArray] at hR
              obtain ⟨hcg, hfg⟩ := Tryst2.Grow.cells hg
              have hsg := Tryst2.Grow.le hg
              simp only [Tryst2.putAll, Tryst2.dstL, List.map_cons, List.map_nil, List.take_succ_cons, List.take_zero, List.length_cons, List.length_nil, List.toList_toArray, List.drop_succ_cons, List.drop_zero, Act.put, List.setIfInBounds_toArray, List.set_cons_zero, List.set_cons_succ, hR]
              have HK9 := Lib.hid (Tryst2.Grow.below hg HK.out)
              clear hg hR hcg hfg hsg
              go_wp2_with fail
              go_roundw
              case rel => exact ⟨0 + 1, by omega, by go_num, HQ2, HK9, HK9.out.size⟩
              case measure => simp [intOf] <;> omega
          | succ m =>
            have hlm : m < l.length := by omega
            obtain ⟨_, ⟨g0, g1, g2⟩, _⟩ := HF2.out.at hlm
            have hpv := prevT_succ (L := l.map TB.tp) (k := m) (by simpa using hlm)
            rw [List.getElem_map] at hpv
            rw [hpv] at HST
            clear hpv
            have HGE := geB l[m].name l[m + 1].name
            have HLS : Hid (R = (lessB l[m].name l[m + 1].name && okT (prevT (l.map TB.tp) (m + 1 + 1)) ((l.map TB.tp).drop (m + 1 + 1)))) := Lib.hid HST.out
            clear HST
            generalize lessB l[m].name l[m + 1].name = lb at HLS HGE
            cases lb with
            | false =>
              have HQ2 : Hid (R = false) := Lib.hid (HLS.out.trans (Bool.false_and _))
              have hge : (!Op.bytesLess l[m].name.toList l[m + 1].name.toList) = true := HGE
              clear HGE HLS
              refine Tryst2.wp_region_grows [.is (.agg #[.string l[m + 1].name, .int .i64 l[m + 1].first, .slice l[m + 1].la l[m + 1].log.length l[m + 1].lc]), .is (.bool true), .is (.bool false), .is (.bool false), .is (.int .i64 ((m + 1 : Nat) : Int)), .is (.bool true), .is (.bool true), .is (.slice (some ⟨b, o, none⟩) l.length c), .is (.int .i64 ((m + 1 : Nat) : Int)), .is (.int .i64 (m : Int)), .is (.pointer (some ⟨b, o + m * 3, none⟩)), .is (.pointer (some ⟨b, o + m * 3, none⟩)), .is (.string l[m].name), .is (.pointer (some ⟨wo.heap.size, 0, none⟩)), .is (.string l[m + 1].name), .is (.bool true), .is (.bool true), .is (.bool true)] (by kernel_rfl) (by kernel_rfl) ?obl ?fin
              case obl =>
                simp only [Tryst2.AllObl, Tryst2.dstL, Tryst2.Obl, Tryst2.depsOf, Tryst2.binds_data, Tryst2.binds_chain, Tryst2.binds_phase, Tryst2.binds_guard, Tryst2.binds_text, Tryst2.binds_gc, Bool.false_eq_true, if_false, List.filterMap_cons_some, List.filterMap_cons_none, Tryst2.depsR, Tryst2.holdR, Tryst2.tmpsOf, Op.operands, Call.operands, Tryst2.Rsp.pred, Tryst2.wantedV_none, Tryst2.wantedV_some, if_true, List.map_cons, List.map_nil, List.length_map, List.take_succ_cons, List.take_zero, List.length_cons, List.length_nil, List.getElem?_cons_zero, List.getElem?_cons_succ, Option.bind_some, id, List.getD_cons_zero, List.getD_cons_succ, Tryst2.isDst, List.filterMap_cons, List.filterMap_nil, List.toList_toArray]
                repeat' apply And.intro
                any_goals trivial
                all_goals (intro tv w' hg hold hd; (try simp at hold); obtain ⟨hcg, hfg⟩ := Tryst2.Grow.cells hg; have hsg := Tryst2.Grow.le hg)
                all_goals first | (go_simp; done) | (go_simp; rw [if_neg (by omega)]; exact ⟨.refl _, rfl⟩) | (obtain ⟨⟨g, hvg, hgg, hcell⟩, _⟩ := hd; have hcell0 := hcell 0 (by decide); simp at hcell0; go_simp; done) | (go_simp; go_at_call 69; (with_reducible refine (HC.out _ ?_ ?_).mono ?_); (exact HM.out.grow (Tryst2.Grow.below hg HK.out)); (exact HS.out.grow (Tryst2.Grow.below hg HBX.out)); rintro e w5 ⟨rfl, hb5⟩; exact ⟨hb5, rfl⟩) | (go_simp; exact IntWalk.i64_in _ (by omega))
              case fin =>
                intro tv w' hg hR
                simp only [Tryst2.allR, Tryst2.dstL, Tryst2.Rsp.pred, List.map_cons, List.map_nil, List.take_succ_cons, List.take_zero, List.length_cons, List.length_nil, List.tail_cons, List.toList_toArray] at hR
                obtain ⟨hcg, hfg⟩ := Tryst2.Grow.cells hg
                have hsg := Tryst2.Grow.le hg
                simp only [Tryst2.putAll, Tryst2.dstL, List.map_cons, List.map_nil, List.take_succ_cons, List.take_zero, List.length_cons, List.length_nil, List.toList_toArray, List.drop_succ_cons, List.drop_zero, Act.put, List.setIfInBounds_toArray, List.set_cons_zero, List.set_cons_succ, hR]
                have HK9 := Lib.hid (Tryst2.Grow.below hg HK.out)
                clear hg hR hcg hfg hsg
                go_wp2_with fail
                go_ret
                exact ⟨ret_int (by rw [HQ2.out]; rfl), HK9.out⟩
            | true =>
              have HQ2 : Hid (R = okT (prevT (l.map TB.tp) (m + 1 + 1)) ((l.map TB.tp).drop (m + 1 + 1))) := Lib.hid (HLS.out.trans (Bool.true_and _))
              have hge : (!Op.bytesLess l[m].name.toList l[m + 1].name.toList) = false := HGE
              clear HGE HLS
              refine Tryst2.wp_region_grows [.is (.agg #[.string l[m + 1].name, .int .i64 l[m + 1].first, .slice l[m + 1].la l[m + 1].log.length l[m + 1].lc]), .is (.bool true), .is (.bool false), .is (.bool false), .is (.int .i64 ((m + 1 : Nat) : Int)), .is (.bool true), .is (.bool true), .is (.slice (some ⟨b, o, none⟩) l.length c), .is (.int .i64 ((m + 1 : Nat) : Int)), .is (.int .i64 (m : Int)), .is (.pointer (some ⟨b, o + m * 3, none⟩)), .is (.pointer (some ⟨b, o + m * 3, none⟩)), .is (.string l[m].name), .is (.pointer (some ⟨wo.heap.size, 0, none⟩)), .is (.string l[m + 1].name), .is (.bool false), .is (.bool false), .is (.bool false)] (by kernel_rfl) (by kernel_rfl) ?obl ?fin
              case obl =>
                simp only [Tryst2.AllObl, Tryst2.dstL, Tryst2.Obl, Tryst2.depsOf, Tryst2.binds_data, Tryst2.binds_chain, Tryst2.binds_phase, Tryst2.binds_guard, Tryst2.binds_text, Tryst2.binds_gc, Bool.false_eq_true, if_false, List.filterMap_cons_some, List.filterMap_cons_none, Tryst2.depsR, Tryst2.holdR, Tryst2.tmpsOf, Op.operands, Call.operands, Tryst2.Rsp.pred, Tryst2.wantedV_none, Tryst2.wantedV_some, if_true, List.map_cons, List.map_nil, List.length_map, List.take_succ_cons, List.take_zero, List.length_cons, List.length_nil, List.getElem?_cons_zero, List.getElem?_cons_succ, Option.bind_some, id, List.getD_cons_zero, List.getD_cons_succ, Tryst2.isDst, List.filterMap_cons, List.filterMap_nil, List.toList_toArray]
                repeat' apply And.intro
                any_goals trivial
                all_goals (intro tv w' hg hold hd; (try simp at hold); obtain ⟨hcg, hfg⟩ := Tryst2.Grow.cells hg; have hsg := Tryst2.Grow.le hg)
                all_goals first | (go_simp; done) | (go_simp; rw [if_neg (by omega)]; exact ⟨.refl _, rfl⟩) | (obtain ⟨⟨g, hvg, hgg, hcell⟩, _⟩ := hd; have hcell0 := hcell 0 (by decide); simp at hcell0; go_simp; done) | (go_simp; go_at_call 69; (with_reducible refine (HC.out _ ?_ ?_).mono ?_); (exact HM.out.grow (Tryst2.Grow.below hg HK.out)); (exact HS.out.grow (Tryst2.Grow.below hg HBX.out)); rintro e w5 ⟨rfl, hb5⟩; exact ⟨hb5, rfl⟩) | (go_simp; exact IntWalk.i64_in _ (by omega))
              case fin =>
                intro tv w' hg hR
                simp only [Tryst2.allR, Tryst2.dstL, Tryst2.Rsp.pred, List.map_cons, List.map_nil, List.take_succ_cons, List.take_zero, List.length_cons, List.length_nil, List.tail_cons, List.toList_toArray] at hR
                obtain ⟨hcg, hfg⟩ := Tryst2.Grow.cells hg
                have hsg := Tryst2.Grow.le hg
                simp only [Tryst2.putAll, Tryst2.dstL, List.map_cons, List.map_nil, List.take_succ_cons, List.take_zero, List.length_cons, List.length_nil, List.toList_toArray, List.drop_succ_cons, List.drop_zero, Act.put, List.setIfInBounds_toArray, List.set_cons_zero, List.set_cons_succ, hR]
                have HK9 := Lib.hid (Tryst2.Grow.below hg HK.out)
                clear hg hR hcg hfg hsg
                go_wp2_with fail
                go_roundw
                case rel => exact ⟨m + 1 + 1, by omega, by go_num, HQ2, HK9, HK9.out.size⟩
                case measure => simp [intOf] <;> omega
      · have HQ2 : Hid (R = true) := Lib.hid (HP.out.trans (okT_end (by simpa using hlt)))
        go_wp2_with fail
        go_ret
        exact ⟨ret_int (by rw [HQ2.out]; rfl), HW.out⟩
  · have HQ : Hid ((decide (l.length ≤ 20) && R) = false) := Lib.hid (by rw [decide_eq_false h20]; rfl)
    rw [HQ.out]
    have y1 : (20 : Int) < l.length := by omega
    go_enter Try.func35, Try.ntmps35
    go_wp2_with fail
    go_ret
    exact ⟨ret_int rfl, .refl _ _⟩
end Go.Proofs.Ytcbnehplilpidaa
