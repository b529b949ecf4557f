/- The walk of ref12.With. -/
import Derived.Test.YtcbnehplilpidaaProg
import Derived.WalkKit
import Derived.WalkSpells
import Derived.WalkLawsBesides
import Derived.Lib.Hide
import Derived.Deep.RegionWith
import Derived.Deep.Cut
import Derived.IntWalk
import Derived.Test.YtcbnehplilpidaaTopO
set_option linter.unusedVariables false
set_option linter.unusedSimpArgs false
namespace Go.Proofs.Ytcbnehplilpidaa
open Go.RowKit Tryst
set_option maxHeartbeats 400000
set_option maxRecDepth 20000
def wRel (w : World) (B : Nat) (nm : ByteArray) (fs : Int) (u : Value) (p : TB → Bool) (pre l : List TB) (v i : Value) (wr : World) : Prop :=
  ∃ (k : Nat) (av : Option Addr) (cv : Nat) (acc : List TB), k ≤ l.length ∧ i = .int .i64 k ∧ v = .slice av acc.length cv ∧ acc.length ≤ pre.length + k ∧ Hid (acc = pre ++ (l.take k).filter p) ∧ Hid (TOwn wr B v acc) ∧ Hid (TBox wr w.heap.size nm fs u) ∧ Hid (Below w.heap.size w wr) ∧ B ≤ wr.heap.size
def WithR (w : World) (l' : List TB) (e : Ending) (w' : World) : Prop := ∃ a c, e = .returned (.slice a l'.length c) ∧ Row w' a 3 (l'.map TB.cells) ∧ Sl a c l'.length ∧ Below w.heap.size w w'
def withB (l : List TB) (t : TB) : List TB := l.filter (fun x => lessB x.name t.name) ++ t :: l.filter (fun x => lessB t.name x.name)
theorem withB_tp (l : List TB) (t : TB) : (withB l t).map TB.tp = withT (l.map TB.tp) t.tp := by
  unfold withB withT
  rw [List.map_append, List.map_cons, List.filter_map, List.filter_map]
  rfl
theorem withB_mem {l : List TB} {t x : TB} (h : x ∈ withB l t) : x = t ∨ x ∈ l := by
  rcases List.mem_append.1 h with h | h
  · exact .inr ((List.mem_filter.1 h).1)
  · rcases List.mem_cons.1 h with h | h
    · exact .inl h
    · exact .inr ((List.mem_filter.1 h).1)
theorem lessOp (a b : ByteArray) : Op.bytesLess a.toList b.toList = lessB a b := by unfold lessB; rw [str_toList, str_toList]
theorem gtOp (a b : ByteArray) : (!(Op.bytesLess a.toList b.toList || a.toList == b.toList)) = lessB b a := by
  rw [lessOp]
  rcases lessB_total a b with h | h | h
  · rw [h, lessB_asymm h]; rfl
  · subst h
    rw [lessB_irrefl]; simp
  · rw [h, lessB_asymm h]
    have hne : a.data.toList ≠ b.data.toList := fun e => by
      rw [str_ext e, lessB_irrefl] at h; cases h
    rw [strNe hne]; rfl
set_option maxHeartbeats 2000000 in
theorem rwith12_c (a : Option Addr) (c : Nat) (l : List TB) (hl : l.length ≤ 1000000) (nm : ByteArray) (fs : Int) (la : Option Addr) (lg : List ByteArray) (lc : Nat) (w : World) (hF : TopsA w a l) :
    Calls Try.prog 63 #[.slice a l.length c, .agg #[.string nm, .int .i64 fs, .slice la lg.length lc]] w fun e w' => WithR w (withB l ⟨nm, fs, la, lg, lc⟩) e w' := by
  have HF := Lib.hid hF
  clear hF
  go_enter Try.func63, Try.ntmps63
  go_upto_region 1 with fail
  refine wp_genC (fun v => Hid (TBox v w.heap.size nm fs (.slice la lg.length lc)) ∧ Hid (Below w.heap.size w v)) ⟨TBox.new w nm fs (.slice la lg.length lc) 74, balloc _ (.refl _ _)⟩ ?_
  rintro w0 ⟨HX0, HK0⟩
  have hB0 := HX0.out.hz
  go_wp2_with fail
  go_loopw [5, 6] (fun v i wr => wRel w (w.heap.size + 1) nm fs (.slice la lg.length lc) (fun x => lessB x.name nm) [] l v i wr) (fun _ i _ => l.length - (intOf i).toNat)
  case atStart => exact ⟨0, none, 0, [], by omega, rfl, rfl, by simp, rfl, ROwn.nil _ _ _ _, HX0, HK0, hB0⟩
  case round =>
    obtain ⟨k, av, cv, acc, hk, rfl, rfl, hal, HAC, HO, HX, HW, hBr⟩ := hrel
    obtain ⟨wo, rfl⟩ : ∃ wo, wo = wr := ⟨_, rfl⟩
    clear HX0 HK0 hB0
    rw [List.length_nil, Nat.zero_add] at hal
    have PL : ([] : List TB).length = 0 := rfl
    by_cases hlt : k < l.length
    · have HFo := Lib.hid (HF.out.grow HW.out)
      obtain ⟨b, o, ha, hb⟩ := HFo.out.head hlt
      obtain rfl : a = some ⟨b, o, none⟩ := ha
      obtain ⟨_, ⟨f0, f1, f2⟩, _⟩ := HFo.out.at hlt
      obtain ⟨x0, x1, x2, x3, x4, x5, x6⟩ := HX.out
      have HLO := Lib.hid (lessOp l[k].name nm)
      have HTK := Lib.hid (List.take_succ_eq_append_getElem hlt)
      cases hls : lessB l[k].name nm with
      | true =>
        have hlo : Op.bytesLess l[k].name.toList nm.toList = true := HLO.out.trans hls
        have HLS := Lib.hid hls
        clear hls
        go_upto_region 5 with fail
        refine Tryst2.wp_region_grows [.is (.slice (some ⟨b, o, none⟩) l.length c), .is (.int .i64 (k : Int)), .is (.pointer (some ⟨b, o + k * 3, none⟩)), .is (.pointer (some ⟨b, o + k * 3, none⟩)), .is (.string l[k].name), .is (.pointer (some ⟨w.heap.size, 0, none⟩)), .is (.string nm), .is (.bool true)] (by kernel_rfl) (by kernel_rfl) ?obl ?fin
        case obl =>
          simp only [Tryst2.AllObl, Tryst2.dstL, Tryst2.Obl, Tryst2.depsOf, Tryst2.binds_data, Tryst2.binds_chain, Tryst2.binds_phase, Tryst2.binds_guard, Tryst2.binds_text, Tryst2.binds_gc, Bool.false_eq_true, if_false, List.filterMap_cons_some, List.filterMap_cons_none, Tryst2.depsR, Tryst2.holdR, Tryst2.tmpsOf, Op.operands, Call.operands, Tryst2.Rsp.pred, Tryst2.wantedV_none, Tryst2.wantedV_some, if_true, List.map_cons, List.map_nil, List.length_map, List.take_succ_cons, List.take_zero, List.length_cons, List.length_nil, List.getElem?_cons_zero, List.getElem?_cons_succ, Option.bind_some, id, List.getD_cons_zero, List.getD_cons_succ, Tryst2.isDst, List.filterMap_cons, List.filterMap_nil, List.toList_toArray]
          repeat' apply And.intro
          any_goals trivial
          all_goals (intro tv w' hg hold hd; (try simp at hold); obtain ⟨hcg, hfg⟩ := Tryst2.Grow.cells hg; have hsg := Tryst2.Grow.le hg)
          all_goals first | (go_simp; done) | (go_simp; rw [if_neg (by omega)]; exact ⟨.refl _, rfl⟩) | (obtain ⟨⟨g, hvg, hgg, hcell⟩, _⟩ := hd; have hcell0 := hcell 0 (by decide); simp at hcell0; go_simp; done) 
        case fin =>
          intro tv w' hg hR
          simp only [Tryst2.allR, Tryst2.dstL, Tryst2.Rsp.pred, List.map_cons, List.map_nil, List.take_succ_cons, List.take_zero, List.length_cons, List.length_nil, List.tail_cons, List.toList_toArray] at hR
          obtain ⟨hcg, hfg⟩ := Tryst2.Grow.cells hg
          have hsg := Tryst2.Grow.le hg
          simp only [Tryst2.putAll, Tryst2.dstL, List.map_cons, List.map_nil, List.take_succ_cons, List.take_zero, List.length_cons, List.length_nil, List.toList_toArray, List.drop_succ_cons, List.drop_zero, Act.put, List.setIfInBounds_toArray, List.set_cons_zero, List.set_cons_succ, hR]
          have hbw := Tryst2.Grow.below hg (.refl wo.heap.size wo)
          have HO6 := Lib.hid (HO.out.grow hbw)
          have HX6 := Lib.hid (HX.out.grow hbw)
          have HW6 := Lib.hid (bstep hbw HW.out)
          have HFY := Lib.hid (HFo.out.grow hbw)
          have hB6 : w.heap.size + 1 ≤ w'.heap.size := Nat.le_trans hBr hbw.size
          have hb6 : b < w'.heap.size := Nat.lt_of_lt_of_le hb hbw.size
          have HLN : Hid ((acc.map TB.cells).length = acc.length) := Lib.hid (List.length_map ..)
          obtain ⟨Y, rfl⟩ : ∃ v, v = w' := ⟨_, rfl⟩
          clear hg hR hcg hfg hsg hbw f0 f1 f2 x0 x1 x2 x3 x4 x5 x6 HFo HO HX HW
          obtain ⟨_, ⟨f0, f1, f2⟩, _⟩ := HFY.out.at hlt
          go_upto_region 6 with fail
          refine wp_region_lit ?_
          iterate 18 go_step
          refine wpList_appR topT rfl (.tmp 22) (.tmp 27) rfl (w.heap.size + 1) (.slice av acc.length cv) (acc.map TB.cells) acc.length HLN.out rfl (ROwn.alloc HO6.out _) [.string l[k].name, .int .i64 l[k].first, .slice l[k].la l[k].log.length l[k].lc] rfl (by simp [Value.oneCell']) Y.heap.size rfl (by intro j hj; match j, hj with | 0, _ => simp [go_sem] | 1, _ => simp [go_sem] | 2, _ => simp [go_sem]) (by have := PL; omega) (by simp; omega) ?_
          intro v' w3 ho3 hb3 _
          have ho4 : TOwn w3 (w.heap.size + 1) v' (acc ++ [l[k]]) := by
            show ROwn _ _ _ _ _ ((acc ++ [_]).map TB.cells)
            rw [List.map_append]
            exact ho3
          obtain ⟨a3, c3, hv3, _⟩ := ROwn.row ho4 (TB.cells_len _) (by decide)
          rw [List.length_map] at hv3
          have hbA := balloc (.cells #[.string l[k].name, .int .i64 l[k].first, .slice l[k].la l[k].log.length l[k].lc] 74) (.refl Y.heap.size Y)
          have HO4 := Lib.hid ho4
          have HX4 := Lib.hid ((HX6.out.grow hbA).growB (B := w.heap.size + 1) (by omega) (by simp; omega) hb3)
          have HW4 := Lib.hid ((bstep hbA HW6.out).trans (hb3.mono (by omega)))
          have hBr4 : w.heap.size + 1 ≤ w3.heap.size := by have := hb3.size; simp at this; omega
          have hal4 : (acc ++ [l[k]]).length ≤ (([] : List TB)).length + (k + 1) := by rw [List.length_append, List.length_singleton]; omega
          have HAC4 : Hid (acc ++ [l[k]] = (([] : List TB)) ++ (l.take (k + 1)).filter (fun x => lessB x.name nm)) := Lib.hid (by
            rw [HTK.out, List.filter_append, HAC.out, List.append_assoc]
            simp [HLS.out])
          generalize acc ++ [l[k]] = acc4 at hv3 HO4 hal4 HAC4
          rw [hv3] at HO4
          subst hv3
          clear ho3 ho4 hb3 hbA f0 f1 f2
          go_wp2_with fail
          go_roundw
          case rel => exact ⟨k + 1, a3, c3, acc4, by omega, by go_num, rfl, hal4, HAC4, HO4, HX4, HW4, hBr4⟩
          case measure => simp [intOf] <;> omega
      | false =>
        have hlo : Op.bytesLess l[k].name.toList nm.toList = false := HLO.out.trans hls
        have HLS := Lib.hid hls
        clear hls
        go_upto_region 5 with fail
        refine Tryst2.wp_region_grows [.is (.slice (some ⟨b, o, none⟩) l.length c), .is (.int .i64 (k : Int)), .is (.pointer (some ⟨b, o + k * 3, none⟩)), .is (.pointer (some ⟨b, o + k * 3, none⟩)), .is (.string l[k].name), .is (.pointer (some ⟨w.heap.size, 0, none⟩)), .is (.string nm), .is (.bool false)] (by kernel_rfl) (by kernel_rfl) ?obl ?fin
        case obl =>
          simp only [Tryst2.AllObl, Tryst2.dstL, Tryst2.Obl, Tryst2.depsOf, Tryst2.binds_data, Tryst2.binds_chain, Tryst2.binds_phase, Tryst2.binds_guard, Tryst2.binds_text, Tryst2.binds_gc, Bool.false_eq_true, if_false, List.filterMap_cons_some, List.filterMap_cons_none, Tryst2.depsR, Tryst2.holdR, Tryst2.tmpsOf, Op.operands, Call.operands, Tryst2.Rsp.pred, Tryst2.wantedV_none, Tryst2.wantedV_some, if_true, List.map_cons, List.map_nil, List.length_map, List.take_succ_cons, List.take_zero, List.length_cons, List.length_nil, List.getElem?_cons_zero, List.getElem?_cons_succ, Option.bind_some, id, List.getD_cons_zero, List.getD_cons_succ, Tryst2.isDst, List.filterMap_cons, List.filterMap_nil, List.toList_toArray]
          repeat' apply And.intro
          any_goals trivial
          all_goals (intro tv w' hg hold hd; (try simp at hold); obtain ⟨hcg, hfg⟩ := Tryst2.Grow.cells hg; have hsg := Tryst2.Grow.le hg)
          all_goals first | (go_simp; done) | (go_simp; rw [if_neg (by omega)]; exact ⟨.refl _, rfl⟩) | (obtain ⟨⟨g, hvg, hgg, hcell⟩, _⟩ := hd; have hcell0 := hcell 0 (by decide); simp at hcell0; go_simp; done) 
        case fin =>
          intro tv w' hg hR
          simp only [Tryst2.allR, Tryst2.dstL, Tryst2.Rsp.pred, List.map_cons, List.map_nil, List.take_succ_cons, List.take_zero, List.length_cons, List.length_nil, List.tail_cons, List.toList_toArray] at hR
          obtain ⟨hcg, hfg⟩ := Tryst2.Grow.cells hg
          have hsg := Tryst2.Grow.le hg
          simp only [Tryst2.putAll, Tryst2.dstL, List.map_cons, List.map_nil, List.take_succ_cons, List.take_zero, List.length_cons, List.length_nil, List.toList_toArray, List.drop_succ_cons, List.drop_zero, Act.put, List.setIfInBounds_toArray, List.set_cons_zero, List.set_cons_succ, hR]
          have hbw := Tryst2.Grow.below hg (.refl wo.heap.size wo)
          have HO6 := Lib.hid (HO.out.grow hbw)
          have HX6 := Lib.hid (HX.out.grow hbw)
          have HW6 := Lib.hid (bstep hbw HW.out)
          have hB6 : w.heap.size + 1 ≤ w'.heap.size := Nat.le_trans hBr hbw.size
          have HAC4 : Hid (acc = (([] : List TB)) ++ (l.take (k + 1)).filter (fun x => lessB x.name nm)) := Lib.hid (by
            rw [HTK.out, List.filter_append, HAC.out]
            simp [HLS.out])
          clear hg hR hcg hfg hsg hbw f0 f1 f2 x0 x1 x2 x3 x4 x5 x6 HFo HO HX HW HAC
          go_wp2_with fail
          go_roundw
          case rel => exact ⟨k + 1, av, cv, acc, by omega, by go_num, rfl, by omega, HAC4, HO6, HX6, HW6, hB6⟩
          case measure => simp [intOf] <;> omega
    · have HAC1 : Hid (acc = l.filter (fun x => lessB x.name nm)) := Lib.hid (by
        rw [HAC.out, List.take_of_length_le (by omega)]; rfl)
      obtain ⟨x0, x1, x2, x3, x4, x5, x6⟩ := HX.out
      have HLN : Hid ((acc.map TB.cells).length = acc.length) := Lib.hid (List.length_map ..)
      go_upto_region 7 with fail
      refine wp_region_lit ?_
      iterate 9 go_step
      refine wpList_appR topT rfl (.tmp 29) (.tmp 31) rfl (w.heap.size + 1) (.slice av acc.length cv) (acc.map TB.cells) acc.length HLN.out rfl (ROwn.alloc HO.out _) [.string nm, .int .i64 fs, .slice la lg.length lc] rfl (by simp [Value.oneCell']) wo.heap.size rfl (by intro j hj; match j, hj with | 0, _ => simp [go_sem] | 1, _ => simp [go_sem] | 2, _ => simp [go_sem]) (by omega) (by simp; omega) ?_
      intro v' w3 ho3 hb3 _
      have ho4 : TOwn w3 (w.heap.size + 1) v' (acc ++ [⟨nm, fs, la, lg, lc⟩]) := by
        show ROwn _ _ _ _ _ ((acc ++ [_]).map TB.cells)
        rw [List.map_append]
        exact ho3
      obtain ⟨a3, c3, hv3, _⟩ := ROwn.row ho4 (TB.cells_len _) (by decide)
      rw [List.length_map] at hv3
      have hbA := balloc (.cells #[.string nm, .int .i64 fs, .slice la lg.length lc] 74) (.refl wo.heap.size wo)
      have HO4 := Lib.hid ho4
      have HX4 := Lib.hid ((HX.out.grow hbA).growB (B := w.heap.size + 1) (by omega) (by simp; omega) hb3)
      have HW4 := Lib.hid ((bstep hbA HW.out).trans (hb3.mono (by omega)))
      have hBr4 : w.heap.size + 1 ≤ w3.heap.size := by have := hb3.size; simp at this; omega
      have hp1 : (acc ++ [(⟨nm, fs, la, lg, lc⟩ : TB)]).length ≤ l.length + 1 := by rw [List.length_append, List.length_singleton]; omega
      have HP : Hid (acc ++ [(⟨nm, fs, la, lg, lc⟩ : TB)] = l.filter (fun x => lessB x.name nm) ++ [⟨nm, fs, la, lg, lc⟩]) := Lib.hid (by rw [HAC1.out])
      generalize acc ++ [(⟨nm, fs, la, lg, lc⟩ : TB)] = pre at hv3 HO4 hp1 HP
      rw [hv3] at HO4
      subst hv3
      clear ho3 ho4 hb3 hbA x0 x1 x2 x3 x4 x5 x6 HO HX HW HAC HAC1 hBr hal hk PL HLN
      go_wp2_with fail
      go_loopw [5, 7] (fun v i wr => wRel w (w.heap.size + 1) nm fs (.slice la lg.length lc) (fun x => lessB nm x.name) pre l v i wr) (fun _ i _ => l.length - (intOf i).toNat)
      case atStart => exact ⟨0, a3, c3, pre, by omega, rfl, rfl, by omega, Lib.hid (by simp), HO4, HX4, HW4, hBr4⟩
      case round =>
        clear HO4 HX4 HW4 hBr4
        obtain ⟨k, av, cv, acc, hk, rfl, rfl, hal, HAC, HO, HX, HW, hBr⟩ := hrel
        obtain ⟨wo, rfl⟩ : ∃ wo, wo = wr := ⟨_, rfl⟩
        have PL := hp1
        by_cases hlt : k < l.length
        · have HFo := Lib.hid (HF.out.grow HW.out)
          obtain ⟨b, o, ha, hb⟩ := HFo.out.head hlt
          obtain rfl : a = some ⟨b, o, none⟩ := ha
          obtain ⟨_, ⟨f0, f1, f2⟩, _⟩ := HFo.out.at hlt
          obtain ⟨x0, x1, x2, x3, x4, x5, x6⟩ := HX.out
          have HLO := Lib.hid (gtOp l[k].name nm)
          have HTK := Lib.hid (List.take_succ_eq_append_getElem hlt)
          cases hls : lessB nm l[k].name with
          | true =>
            have hlo : (!(Op.bytesLess l[k].name.toList nm.toList || l[k].name.toList == nm.toList)) = true := HLO.out.trans hls
            have HLS := Lib.hid hls
            clear hls
            go_upto_region 11 with fail
            refine Tryst2.wp_region_grows [.is (.slice (some ⟨b, o, none⟩) l.length c), .is (.int .i64 (k : Int)), .is (.pointer (some ⟨b, o + k * 3, none⟩)), .is (.pointer (some ⟨b, o + k * 3, none⟩)), .is (.string l[k].name), .is (.pointer (some ⟨w.heap.size, 0, none⟩)), .is (.string nm), .is (.bool true)] (by kernel_rfl) (by kernel_rfl) ?obl ?fin
            case obl =>
              simp only [Tryst2.AllObl, Tryst2.dstL, Tryst2.Obl, Tryst2.depsOf, Tryst2.binds_data, Tryst2.binds_chain, Tryst2.binds_phase, Tryst2.binds_guard, Tryst2.binds_text, Tryst2.binds_gc, Bool.false_eq_true, if_false, List.filterMap_cons_some, List.filterMap_cons_none, Tryst2.depsR, Tryst2.holdR, Tryst2.tmpsOf, Op.operands, Call.operands, Tryst2.Rsp.pred, Tryst2.wantedV_none, Tryst2.wantedV_some, if_true, List.map_cons, List.map_nil, List.length_map, List.take_succ_cons, List.take_zero, List.length_cons, List.length_nil, List.getElem?_cons_zero, List.getElem?_cons_succ, Option.bind_some, id, List.getD_cons_zero, List.getD_cons_succ, Tryst2.isDst, List.filterMap_cons, List.filterMap_nil, List.toList_toArray]
              repeat' apply And.intro
              any_goals trivial
              all_goals (intro tv w' hg hold hd; (try simp at hold); obtain ⟨hcg, hfg⟩ := Tryst2.Grow.cells hg; have hsg := Tryst2.Grow.le hg)
              all_goals first | (go_simp; done) | (go_simp; rw [if_neg (by omega)]; exact ⟨.refl _, rfl⟩) | (obtain ⟨⟨g, hvg, hgg, hcell⟩, _⟩ := hd; have hcell0 := hcell 0 (by decide); simp at hcell0; go_simp; done) 
            case fin =>
              intro tv w' hg hR
              simp only [Tryst2.allR, Tryst2.dstL, Tryst2.Rsp.pred, List.map_cons, List.map_nil, List.take_succ_cons, List.take_zero, List.length_cons, List.length_nil, List.tail_cons, List.toList_toArray] at hR
              obtain ⟨hcg, hfg⟩ := Tryst2.Grow.cells hg
              have hsg := Tryst2.Grow.le hg
              simp only [Tryst2.putAll, Tryst2.dstL, List.map_cons, List.map_nil, List.take_succ_cons, List.take_zero, List.length_cons, List.length_nil, List.toList_toArray, List.drop_succ_cons, List.drop_zero, Act.put, List.setIfInBounds_toArray, List.set_cons_zero, List.set_cons_succ, hR]
              have hbw := Tryst2.Grow.below hg (.refl wo.heap.size wo)
              have HO6 := Lib.hid (HO.out.grow hbw)
              have HX6 := Lib.hid (HX.out.grow hbw)
              have HW6 := Lib.hid (bstep hbw HW.out)
              have HFY := Lib.hid (HFo.out.grow hbw)
              have hB6 : w.heap.size + 1 ≤ w'.heap.size := Nat.le_trans hBr hbw.size
              have hb6 : b < w'.heap.size := Nat.lt_of_lt_of_le hb hbw.size
              have HLN : Hid ((acc.map TB.cells).length = acc.length) := Lib.hid (List.length_map ..)
              obtain ⟨Y, rfl⟩ : ∃ v, v = w' := ⟨_, rfl⟩
              clear hg hR hcg hfg hsg hbw f0 f1 f2 x0 x1 x2 x3 x4 x5 x6 HFo HO HX HW
              obtain ⟨_, ⟨f0, f1, f2⟩, _⟩ := HFY.out.at hlt
              go_upto_region 12 with fail
              refine wp_region_lit ?_
              iterate 18 go_step
              refine wpList_appR topT rfl (.tmp 47) (.tmp 52) rfl (w.heap.size + 1) (.slice av acc.length cv) (acc.map TB.cells) acc.length HLN.out rfl (ROwn.alloc HO6.out _) [.string l[k].name, .int .i64 l[k].first, .slice l[k].la l[k].log.length l[k].lc] rfl (by simp [Value.oneCell']) Y.heap.size rfl (by intro j hj; match j, hj with | 0, _ => simp [go_sem] | 1, _ => simp [go_sem] | 2, _ => simp [go_sem]) (by have := PL; omega) (by simp; omega) ?_
              intro v' w3 ho3 hb3 _
              have ho4 : TOwn w3 (w.heap.size + 1) v' (acc ++ [l[k]]) := by
                show ROwn _ _ _ _ _ ((acc ++ [_]).map TB.cells)
                rw [List.map_append]
                exact ho3
              obtain ⟨a3, c3, hv3, _⟩ := ROwn.row ho4 (TB.cells_len _) (by decide)
              rw [List.length_map] at hv3
              have hbA := balloc (.cells #[.string l[k].name, .int .i64 l[k].first, .slice l[k].la l[k].log.length l[k].lc] 74) (.refl Y.heap.size Y)
              have HO4 := Lib.hid ho4
              have HX4 := Lib.hid ((HX6.out.grow hbA).growB (B := w.heap.size + 1) (by omega) (by simp; omega) hb3)
              have HW4 := Lib.hid ((bstep hbA HW6.out).trans (hb3.mono (by omega)))
              have hBr4 : w.heap.size + 1 ≤ w3.heap.size := by have := hb3.size; simp at this; omega
              have hal4 : (acc ++ [l[k]]).length ≤ (pre).length + (k + 1) := by rw [List.length_append, List.length_singleton]; omega
              have HAC4 : Hid (acc ++ [l[k]] = (pre) ++ (l.take (k + 1)).filter (fun x => lessB nm x.name)) := Lib.hid (by
                rw [HTK.out, List.filter_append, HAC.out, List.append_assoc]
                simp [HLS.out])
              generalize acc ++ [l[k]] = acc4 at hv3 HO4 hal4 HAC4
              rw [hv3] at HO4
              subst hv3
              clear ho3 ho4 hb3 hbA f0 f1 f2
              go_wp2_with fail
              go_roundw
              case rel => exact ⟨k + 1, a3, c3, acc4, by omega, by go_num, rfl, hal4, HAC4, HO4, HX4, HW4, hBr4⟩
              case measure => simp [intOf] <;> omega
          | false =>
            have hlo : (!(Op.bytesLess l[k].name.toList nm.toList || l[k].name.toList == nm.toList)) = false := HLO.out.trans hls
            have HLS := Lib.hid hls
            clear hls
            go_upto_region 11 with fail
            refine Tryst2.wp_region_grows [.is (.slice (some ⟨b, o, none⟩) l.length c), .is (.int .i64 (k : Int)), .is (.pointer (some ⟨b, o + k * 3, none⟩)), .is (.pointer (some ⟨b, o + k * 3, none⟩)), .is (.string l[k].name), .is (.pointer (some ⟨w.heap.size, 0, none⟩)), .is (.string nm), .is (.bool false)] (by kernel_rfl) (by kernel_rfl) ?obl ?fin
            case obl =>
              simp only [Tryst2.AllObl, Tryst2.dstL, Tryst2.Obl, Tryst2.depsOf, Tryst2.binds_data, Tryst2.binds_chain, Tryst2.binds_phase, Tryst2.binds_guard, Tryst2.binds_text, Tryst2.binds_gc, Bool.false_eq_true, if_false, List.filterMap_cons_some, List.filterMap_cons_none, Tryst2.depsR, Tryst2.holdR, Tryst2.tmpsOf, Op.operands, Call.operands, Tryst2.Rsp.pred, Tryst2.wantedV_none, Tryst2.wantedV_some, if_true, List.map_cons, List.map_nil, List.length_map, List.take_succ_cons, List.take_zero, List.length_cons, List.length_nil, List.getElem?_cons_zero, List.getElem?_cons_succ, Option.bind_some, id, List.getD_cons_zero, List.getD_cons_succ, Tryst2.isDst, List.filterMap_cons, List.filterMap_nil, List.toList_toArray]
              repeat' apply And.intro
              any_goals trivial
              all_goals (intro tv w' hg hold hd; (try simp at hold); obtain ⟨hcg, hfg⟩ := Tryst2.Grow.cells hg; have hsg := Tryst2.Grow.le hg)
              all_goals first | (go_simp; done) | (go_simp; rw [if_neg (by omega)]; exact ⟨.refl _, rfl⟩) | (obtain ⟨⟨g, hvg, hgg, hcell⟩, _⟩ := hd; have hcell0 := hcell 0 (by decide); simp at hcell0; go_simp; done) 
            case fin =>
              intro tv w' hg hR
              simp only [Tryst2.allR, Tryst2.dstL, Tryst2.Rsp.pred, List.map_cons, List.map_nil, List.take_succ_cons, List.take_zero, List.length_cons, List.length_nil, List.tail_cons, List.toList_toArray] at hR
              obtain ⟨hcg, hfg⟩ := Tryst2.Grow.cells hg
              have hsg := Tryst2.Grow.le hg
              simp only [Tryst2.putAll, Tryst2.dstL, List.map_cons, List.map_nil, List.take_succ_cons, List.take_zero, List.length_cons, List.length_nil, List.toList_toArray, List.drop_succ_cons, List.drop_zero, Act.put, List.setIfInBounds_toArray, List.set_cons_zero, List.set_cons_succ, hR]
              have hbw := Tryst2.Grow.below hg (.refl wo.heap.size wo)
              have HO6 := Lib.hid (HO.out.grow hbw)
              have HX6 := Lib.hid (HX.out.grow hbw)
              have HW6 := Lib.hid (bstep hbw HW.out)
              have hB6 : w.heap.size + 1 ≤ w'.heap.size := Nat.le_trans hBr hbw.size
              have HAC4 : Hid (acc = (pre) ++ (l.take (k + 1)).filter (fun x => lessB nm x.name)) := Lib.hid (by
                rw [HTK.out, List.filter_append, HAC.out]
                simp [HLS.out])
              clear hg hR hcg hfg hsg hbw f0 f1 f2 x0 x1 x2 x3 x4 x5 x6 HFo HO HX HW HAC
              go_wp2_with fail
              go_roundw
              case rel => exact ⟨k + 1, av, cv, acc, by omega, by go_num, rfl, by omega, HAC4, HO6, HX6, HW6, hB6⟩
              case measure => simp [intOf] <;> omega
        · have HAC2 : Hid (acc = withB l ⟨nm, fs, la, lg, lc⟩) := Lib.hid (by
            rw [HAC.out, List.take_of_length_le (by omega), HP.out, List.append_assoc]; rfl)
          clear HAC HP
          go_wp2_with fail
          go_ret
          obtain ⟨a', c', hv, h7, h8, _⟩ := ROwn.row HO.out (TB.cells_len acc) (by decide)
          rw [List.length_map] at hv h8
          simp only [Value.slice.injEq, true_and] at hv
          obtain ⟨rfl, rfl⟩ := hv
          rw [← HAC2.out]
          exact ⟨av, cv, rfl, h7, h8, HW.out⟩
end Go.Proofs.Ytcbnehplilpidaa
