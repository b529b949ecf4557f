/- joined: the document of chapter 12: May, With, Trim, Append. -/
import Derived.Test.YtmlbdblnmbmnpaaGreatDoorProg
import Derived.WalkKit
import Derived.WalkSpells
import Derived.WalkLawsBesides
import Derived.Lib.Hide
import Derived.Deep.RegionWith
import Derived.Deep.Cut
import Derived.IntWalk
import Derived.Test.YtmlbdblnmbmnpaaGreatDoorTopOC
import Derived.Test.YtmlbdblnmbmnpaaGreatDoorRTE
import Derived.Test.YtmlbdblnmbmnpaaGreatDoorAw4s
import Derived.Test.YtmlbdblnmbmnpaaGreatDoorTopFN
import Derived.Deep.Upon
import Derived.ArgAppend
set_option linter.unusedVariables false
set_option linter.unusedSimpArgs false
namespace Go.Proofs.YtmlbdblnmbmnpaaGreatDoor
open Go.RowKit Tryst
set_option maxHeartbeats 400000
set_option maxRecDepth 20000
def wRel (w : World) (B : Nat) (nm : ByteArray) (fs : Int) (u : Value) (p : TB → Bool) (pre l : List TB) (v i : Value) (wr : World) : Prop :=
 ∃ (k : Nat) (av : Option Addr) (cv : Nat) (acc : List TB), k ≤ l.length ∧ i = .int .i64 k ∧ v = .slice av acc.length cv ∧ acc.length ≤ pre.length + k ∧ Hid (acc = pre ++ (l.take k).filter p) ∧ Hid (TOwn wr B v acc) ∧ Hid (TBox wr w.heap.size nm fs u) ∧ Hid (Below w.heap.size w wr) ∧ B ≤ wr.heap.size
def WithR (w : World) (l' : List TB) (e : Ending) (w' : World) : Prop := ∃ a c, e = .returned (.slice a l'.length c) ∧ Row w' a 3 (l'.map TB.cells) ∧ Sl a c l'.length ∧ Below w.heap.size w w'
def withB (l : List TB) (t : TB) : List TB := l.filter (fun x => lessB x.name t.name) ++ t :: l.filter (fun x => lessB t.name x.name)
theorem withB_tp (l : List TB) (t : TB) : (withB l t).map TB.tp = withT (l.map TB.tp) t.tp := by
 unfold withB withT
 rw [List.map_append, List.map_cons, List.filter_map, List.filter_map]
 rfl
theorem withB_mem {l : List TB} {t x : TB} (h : x ∈ withB l t) : x = t ∨ x ∈ l := by
 rcases List.mem_append.1 h with h | h
 ·
  exact .inr ((List.mem_filter.1 h).1)
 ·
  rcases List.mem_cons.1 h with h | h
  ·
   exact .inl h
  ·
   exact .inr ((List.mem_filter.1 h).1)
theorem lessOp (a b : ByteArray) : Op.bytesLess a.toList b.toList = lessB a b := by unfold lessB; rw [str_toList, str_toList]
theorem gtOp (a b : ByteArray) : (!(Op.bytesLess a.toList b.toList || a.toList == b.toList)) = lessB b a := by
 rw [lessOp]
 rcases lessB_total a b with h | h | h
 ·
  rw [h, lessB_asymm h]; rfl
 ·
  subst h
  rw [lessB_irrefl]; simp
 ·
  rw [h, lessB_asymm h]
  have hne : a.data.toList ≠ b.data.toList := fun e => by
   rw [str_ext e, lessB_irrefl] at h; cases h
  rw [strNe hne]; rfl
set_option maxHeartbeats 2000000 in
theorem rwith12_c (a : Option Addr) (c : Nat) (l : List TB) (hl : l.length ≤ 1000000) (nm : ByteArray) (fs : Int) (la : Option Addr) (lg : List ByteArray) (lc : Nat) (w : World) (hF : TopsA w a l) :
  Calls Tryz.prog 87 #[.slice a l.length c, .agg #[.string nm, .int .i64 fs, .slice la lg.length lc]] w fun e w' => WithR w (withB l ⟨nm, fs, la, lg, lc⟩) e w' := by
 have HF := Lib.hid hF
 clear hF
 go_enter Tryz.func87, Tryz.ntmps87
 go_upto_region 1 with fail
 refine wp_genC (fun v => Hid (TBox v w.heap.size nm fs (.slice la lg.length lc)) ∧ Hid (Below w.heap.size w v)) ⟨TBox.new w nm fs (.slice la lg.length lc) 57, balloc _ (.refl _ _)⟩ ?_
 rintro w0 ⟨HX0, HK0⟩
 have hB0 := HX0.out.hz
 go_wp2_with fail
 go_loopw [5, 6] (fun v i wr => wRel w (w.heap.size + 1) nm fs (.slice la lg.length lc) (fun x => lessB x.name nm) [] l v i wr) (fun _ i _ => l.length - (intOf i).toNat)
 case atStart => exact ⟨0, none, 0, [], by omega, rfl, rfl, by simp, rfl, ROwn.nil _ _ _ _, HX0, HK0, hB0⟩
 case round =>
  obtain ⟨k, av, cv, acc, hk, rfl, rfl, hal, HAC, HO, HX, HW, hBr⟩ := hrel
  obtain ⟨wo, rfl⟩ : ∃ wo, wo = wr := ⟨_, rfl⟩
  clear HX0 HK0 hB0
  rw [List.length_nil, Nat.zero_add] at hal
  have PL : ([] : List TB).length = 0 := rfl
  by_cases hlt : k < l.length
  ·
   have HFo := Lib.hid (HF.out.grow HW.out)
   obtain ⟨b, o, ha, hb⟩ := HFo.out.head hlt
   obtain rfl : a = some ⟨b, o, none⟩ := ha
   obtain ⟨_, ⟨f0, f1, f2⟩, _⟩ := HFo.out.at hlt
   obtain ⟨x0, x1, x2, x3, x4, x5, x6⟩ := HX.out
   have HLO := Lib.hid (lessOp l[k].name nm)
   have HTK := Lib.hid (List.take_succ_eq_append_getElem hlt)
   cases hls : lessB l[k].name nm with
   | true =>
    have hlo : Op.bytesLess l[k].name.toList nm.toList = true := HLO.out.trans hls
    have HLS := Lib.hid hls
    clear hls
    go_upto_region 5 with fail
    refine Tryst2.wp_region_grows [.is (.slice (some ⟨b, o, none⟩) l.length c), .is (.int .i64 (k : Int)), .is (.pointer (some ⟨b, o + k * 3, none⟩)), .is (.pointer (some ⟨b, o + k * 3, none⟩)), .is (.string l[k].name), .is (.pointer (some ⟨w.heap.size, 0, none⟩)), .is (.string nm), .is (.bool true)] (by kernel_rfl) (by kernel_rfl) ?obl ?fin
    case obl =>
     simp only [YA, YL, YO, YR, Op.operands, Call.operands]
     repeat' apply And.intro
     any_goals trivial
     all_goals (intro tv w' hg hold hd; (try simp at hold); obtain ⟨hcg, hfg, hsg⟩ := YG hg)
     all_goals first | (go_simp; done) | (go_simp; rw [if_neg (by omega)]; exact ⟨.refl _, rfl⟩) | (obtain ⟨⟨g, hvg, hgg, hcell⟩, _⟩ := hd; have hcell0 := hcell 0 (by decide); simp at hcell0; go_simp; done) 
    case fin =>
     intro tv w' hg hR
     simp only [YF, YL, YR] at hR
     obtain ⟨hcg, hfg, hsg⟩ := YG hg
     simp only [YP, YL, Act.put, hR]
     have hbw := Tryst2.Grow.below hg (.refl wo.heap.size wo)
     have HO6 := Lib.hid (HO.out.grow hbw)
     have HX6 := Lib.hid (HX.out.grow hbw)
     have HW6 := Lib.hid (bstep hbw HW.out)
     have HFY := Lib.hid (HFo.out.grow hbw)
     have hB6 : w.heap.size + 1 ≤ w'.heap.size := Nat.le_trans hBr hbw.size
     have hb6 : b < w'.heap.size := Nat.lt_of_lt_of_le hb hbw.size
     have HLN : Hid ((acc.map TB.cells).length = acc.length) := Lib.hid (List.length_map ..)
     obtain ⟨Y, rfl⟩ : ∃ v, v = w' := ⟨_, rfl⟩
     clear hg hR hcg hfg hsg hbw f0 f1 f2 x0 x1 x2 x3 x4 x5 x6 HFo HO HX HW
     obtain ⟨_, ⟨f0, f1, f2⟩, _⟩ := HFY.out.at hlt
     go_upto_region 6 with fail
     refine wp_region_lit ?_
     iterate 18 go_step
     refine wpList_appR topT rfl (.tmp 22) (.tmp 27) rfl (w.heap.size + 1) (.slice av acc.length cv) (acc.map TB.cells) acc.length HLN.out rfl (ROwn.alloc HO6.out _) [.string l[k].name, .int .i64 l[k].first, .slice l[k].la l[k].log.length l[k].lc] rfl (by simp [Value.oneCell']) Y.heap.size rfl (by intro j hj; match j, hj with | 0, _ => simp [go_sem] | 1, _ => simp [go_sem] | 2, _ => simp [go_sem]) (by have := PL; omega) (by simp; omega) ?_
     intro v' w3 ho3 hb3 _
     have ho4 : TOwn w3 (w.heap.size + 1) v' (acc ++ [l[k]]) := by
      show ROwn _ _ _ _ _ ((acc ++ [_]).map TB.cells)
      rw [List.map_append]
      exact ho3
     obtain ⟨a3, c3, hv3, _⟩ := ROwn.row ho4 (TB.cells_len _) (by decide)
     rw [List.length_map] at hv3
     have hbA := balloc (.cells #[.string l[k].name, .int .i64 l[k].first, .slice l[k].la l[k].log.length l[k].lc] 57) (.refl Y.heap.size Y)
     have HO4 := Lib.hid ho4
     have HX4 := Lib.hid ((HX6.out.grow hbA).growB (B := w.heap.size + 1) (by omega) (by simp; omega) hb3)
     have HW4 := Lib.hid ((bstep hbA HW6.out).trans (hb3.mono (by omega)))
     have hBr4 : w.heap.size + 1 ≤ w3.heap.size := by have := hb3.size; simp at this; omega
     have hal4 : (acc ++ [l[k]]).length ≤ (([] : List TB)).length + (k + 1) := by rw [List.length_append, List.length_singleton]; omega
     have HAC4 : Hid (acc ++ [l[k]] = (([] : List TB)) ++ (l.take (k + 1)).filter (fun x => lessB x.name nm)) := Lib.hid (by
      rw [HTK.out, List.filter_append, HAC.out, List.append_assoc]
      simp [HLS.out])
     generalize acc ++ [l[k]] = acc4 at hv3 HO4 hal4 HAC4
     rw [hv3] at HO4
     subst hv3
     clear ho3 ho4 hb3 hbA f0 f1 f2
     go_wp2_with fail
     go_roundw
     case rel => exact ⟨k + 1, a3, c3, acc4, by omega, by go_num, rfl, hal4, HAC4, HO4, HX4, HW4, hBr4⟩
     case measure => simp [intOf] <;> omega
   | false =>
    have hlo : Op.bytesLess l[k].name.toList nm.toList = false := HLO.out.trans hls
    have HLS := Lib.hid hls
    clear hls
    go_upto_region 5 with fail
    refine Tryst2.wp_region_grows [.is (.slice (some ⟨b, o, none⟩) l.length c), .is (.int .i64 (k : Int)), .is (.pointer (some ⟨b, o + k * 3, none⟩)), .is (.pointer (some ⟨b, o + k * 3, none⟩)), .is (.string l[k].name), .is (.pointer (some ⟨w.heap.size, 0, none⟩)), .is (.string nm), .is (.bool false)] (by kernel_rfl) (by kernel_rfl) ?obl ?fin
    case obl =>
     simp only [YA, YL, YO, YR, Op.operands, Call.operands]
     repeat' apply And.intro
     any_goals trivial
     all_goals (intro tv w' hg hold hd; (try simp at hold); obtain ⟨hcg, hfg, hsg⟩ := YG hg)
     all_goals first | (go_simp; done) | (go_simp; rw [if_neg (by omega)]; exact ⟨.refl _, rfl⟩) | (obtain ⟨⟨g, hvg, hgg, hcell⟩, _⟩ := hd; have hcell0 := hcell 0 (by decide); simp at hcell0; go_simp; done) 
    case fin =>
     intro tv w' hg hR
     simp only [YF, YL, YR] at hR
     obtain ⟨hcg, hfg, hsg⟩ := YG hg
     simp only [YP, YL, Act.put, hR]
     have hbw := Tryst2.Grow.below hg (.refl wo.heap.size wo)
     have HO6 := Lib.hid (HO.out.grow hbw)
     have HX6 := Lib.hid (HX.out.grow hbw)
     have HW6 := Lib.hid (bstep hbw HW.out)
     have hB6 : w.heap.size + 1 ≤ w'.heap.size := Nat.le_trans hBr hbw.size
     have HAC4 : Hid (acc = (([] : List TB)) ++ (l.take (k + 1)).filter (fun x => lessB x.name nm)) := Lib.hid (by
      rw [HTK.out, List.filter_append, HAC.out]
      simp [HLS.out])
     clear hg hR hcg hfg hsg hbw f0 f1 f2 x0 x1 x2 x3 x4 x5 x6 HFo HO HX HW HAC
     go_wp2_with fail
     go_roundw
     case rel => exact ⟨k + 1, av, cv, acc, by omega, by go_num, rfl, by omega, HAC4, HO6, HX6, HW6, hB6⟩
     case measure => simp [intOf] <;> omega
  ·
   have HAC1 : Hid (acc = l.filter (fun x => lessB x.name nm)) := Lib.hid (by
    rw [HAC.out, List.take_of_length_le (by omega)]; rfl)
   obtain ⟨x0, x1, x2, x3, x4, x5, x6⟩ := HX.out
   have HLN : Hid ((acc.map TB.cells).length = acc.length) := Lib.hid (List.length_map ..)
   go_upto_region 7 with fail
   refine wp_region_lit ?_
   iterate 9 go_step
   refine wpList_appR topT rfl (.tmp 29) (.tmp 31) rfl (w.heap.size + 1) (.slice av acc.length cv) (acc.map TB.cells) acc.length HLN.out rfl (ROwn.alloc HO.out _) [.string nm, .int .i64 fs, .slice la lg.length lc] rfl (by simp [Value.oneCell']) wo.heap.size rfl (by intro j hj; match j, hj with | 0, _ => simp [go_sem] | 1, _ => simp [go_sem] | 2, _ => simp [go_sem]) (by omega) (by simp; omega) ?_
   intro v' w3 ho3 hb3 _
   have ho4 : TOwn w3 (w.heap.size + 1) v' (acc ++ [⟨nm, fs, la, lg, lc⟩]) := by
    show ROwn _ _ _ _ _ ((acc ++ [_]).map TB.cells)
    rw [List.map_append]
    exact ho3
   obtain ⟨a3, c3, hv3, _⟩ := ROwn.row ho4 (TB.cells_len _) (by decide)
   rw [List.length_map] at hv3
   have hbA := balloc (.cells #[.string nm, .int .i64 fs, .slice la lg.length lc] 57) (.refl wo.heap.size wo)
   have HO4 := Lib.hid ho4
   have HX4 := Lib.hid ((HX.out.grow hbA).growB (B := w.heap.size + 1) (by omega) (by simp; omega) hb3)
   have HW4 := Lib.hid ((bstep hbA HW.out).trans (hb3.mono (by omega)))
   have hBr4 : w.heap.size + 1 ≤ w3.heap.size := by have := hb3.size; simp at this; omega
   have hp1 : (acc ++ [(⟨nm, fs, la, lg, lc⟩ : TB)]).length ≤ l.length + 1 := by rw [List.length_append, List.length_singleton]; omega
   have HP : Hid (acc ++ [(⟨nm, fs, la, lg, lc⟩ : TB)] = l.filter (fun x => lessB x.name nm) ++ [⟨nm, fs, la, lg, lc⟩]) := Lib.hid (by rw [HAC1.out])
   generalize acc ++ [(⟨nm, fs, la, lg, lc⟩ : TB)] = pre at hv3 HO4 hp1 HP
   rw [hv3] at HO4
   subst hv3
   clear ho3 ho4 hb3 hbA x0 x1 x2 x3 x4 x5 x6 HO HX HW HAC HAC1 hBr hal hk PL HLN
   go_wp2_with fail
   go_loopw [5, 7] (fun v i wr => wRel w (w.heap.size + 1) nm fs (.slice la lg.length lc) (fun x => lessB nm x.name) pre l v i wr) (fun _ i _ => l.length - (intOf i).toNat)
   case atStart => exact ⟨0, a3, c3, pre, by omega, rfl, rfl, by omega, Lib.hid (by simp), HO4, HX4, HW4, hBr4⟩
   case round =>
    clear HO4 HX4 HW4 hBr4
    obtain ⟨k, av, cv, acc, hk, rfl, rfl, hal, HAC, HO, HX, HW, hBr⟩ := hrel
    obtain ⟨wo, rfl⟩ : ∃ wo, wo = wr := ⟨_, rfl⟩
    have PL := hp1
    by_cases hlt : k < l.length
    ·
     have HFo := Lib.hid (HF.out.grow HW.out)
     obtain ⟨b, o, ha, hb⟩ := HFo.out.head hlt
     obtain rfl : a = some ⟨b, o, none⟩ := ha
     obtain ⟨_, ⟨f0, f1, f2⟩, _⟩ := HFo.out.at hlt
     obtain ⟨x0, x1, x2, x3, x4, x5, x6⟩ := HX.out
     have HLO := Lib.hid (gtOp l[k].name nm)
     have HTK := Lib.hid (List.take_succ_eq_append_getElem hlt)
     cases hls : lessB nm l[k].name with
     | true =>
      have hlo : (!(Op.bytesLess l[k].name.toList nm.toList || l[k].name.toList == nm.toList)) = true := HLO.out.trans hls
      have HLS := Lib.hid hls
      clear hls
      go_upto_region 11 with fail
      refine Tryst2.wp_region_grows [.is (.slice (some ⟨b, o, none⟩) l.length c), .is (.int .i64 (k : Int)), .is (.pointer (some ⟨b, o + k * 3, none⟩)), .is (.pointer (some ⟨b, o + k * 3, none⟩)), .is (.string l[k].name), .is (.pointer (some ⟨w.heap.size, 0, none⟩)), .is (.string nm), .is (.bool true)] (by kernel_rfl) (by kernel_rfl) ?obl ?fin
      case obl =>
       simp only [YA, YL, YO, YR, Op.operands, Call.operands]
       repeat' apply And.intro
       any_goals trivial
       all_goals (intro tv w' hg hold hd; (try simp at hold); obtain ⟨hcg, hfg, hsg⟩ := YG hg)
       all_goals first | (go_simp; done) | (go_simp; rw [if_neg (by omega)]; exact ⟨.refl _, rfl⟩) | (obtain ⟨⟨g, hvg, hgg, hcell⟩, _⟩ := hd; have hcell0 := hcell 0 (by decide); simp at hcell0; go_simp; done) 
      case fin =>
       intro tv w' hg hR
       simp only [YF, YL, YR] at hR
       obtain ⟨hcg, hfg, hsg⟩ := YG hg
       simp only [YP, YL, Act.put, hR]
       have hbw := Tryst2.Grow.below hg (.refl wo.heap.size wo)
       have HO6 := Lib.hid (HO.out.grow hbw)
       have HX6 := Lib.hid (HX.out.grow hbw)
       have HW6 := Lib.hid (bstep hbw HW.out)
       have HFY := Lib.hid (HFo.out.grow hbw)
       have hB6 : w.heap.size + 1 ≤ w'.heap.size := Nat.le_trans hBr hbw.size
       have hb6 : b < w'.heap.size := Nat.lt_of_lt_of_le hb hbw.size
       have HLN : Hid ((acc.map TB.cells).length = acc.length) := Lib.hid (List.length_map ..)
       obtain ⟨Y, rfl⟩ : ∃ v, v = w' := ⟨_, rfl⟩
       clear hg hR hcg hfg hsg hbw f0 f1 f2 x0 x1 x2 x3 x4 x5 x6 HFo HO HX HW
       obtain ⟨_, ⟨f0, f1, f2⟩, _⟩ := HFY.out.at hlt
       go_upto_region 12 with fail
       refine wp_region_lit ?_
       iterate 18 go_step
       refine wpList_appR topT rfl (.tmp 47) (.tmp 52) rfl (w.heap.size + 1) (.slice av acc.length cv) (acc.map TB.cells) acc.length HLN.out rfl (ROwn.alloc HO6.out _) [.string l[k].name, .int .i64 l[k].first, .slice l[k].la l[k].log.length l[k].lc] rfl (by simp [Value.oneCell']) Y.heap.size rfl (by intro j hj; match j, hj with | 0, _ => simp [go_sem] | 1, _ => simp [go_sem] | 2, _ => simp [go_sem]) (by have := PL; omega) (by simp; omega) ?_
       intro v' w3 ho3 hb3 _
       have ho4 : TOwn w3 (w.heap.size + 1) v' (acc ++ [l[k]]) := by
        show ROwn _ _ _ _ _ ((acc ++ [_]).map TB.cells)
        rw [List.map_append]
        exact ho3
       obtain ⟨a3, c3, hv3, _⟩ := ROwn.row ho4 (TB.cells_len _) (by decide)
       rw [List.length_map] at hv3
       have hbA := balloc (.cells #[.string l[k].name, .int .i64 l[k].first, .slice l[k].la l[k].log.length l[k].lc] 57) (.refl Y.heap.size Y)
       have HO4 := Lib.hid ho4
       have HX4 := Lib.hid ((HX6.out.grow hbA).growB (B := w.heap.size + 1) (by omega) (by simp; omega) hb3)
       have HW4 := Lib.hid ((bstep hbA HW6.out).trans (hb3.mono (by omega)))
       have hBr4 : w.heap.size + 1 ≤ w3.heap.size := by have := hb3.size; simp at this; omega
       have hal4 : (acc ++ [l[k]]).length ≤ (pre).length + (k + 1) := by rw [List.length_append, List.length_singleton]; omega
       have HAC4 : Hid (acc ++ [l[k]] = (pre) ++ (l.take (k + 1)).filter (fun x => lessB nm x.name)) := Lib.hid (by
        rw [HTK.out, List.filter_append, HAC.out, List.append_assoc]
        simp [HLS.out])
       generalize acc ++ [l[k]] = acc4 at hv3 HO4 hal4 HAC4
       rw [hv3] at HO4
       subst hv3
       clear ho3 ho4 hb3 hbA f0 f1 f2
       go_wp2_with fail
       go_roundw
       case rel => exact ⟨k + 1, a3, c3, acc4, by omega, by go_num, rfl, hal4, HAC4, HO4, HX4, HW4, hBr4⟩
       case measure => simp [intOf] <;> omega
     | false =>
      have hlo : (!(Op.bytesLess l[k].name.toList nm.toList || l[k].name.toList == nm.toList)) = false := HLO.out.trans hls
      have HLS := Lib.hid hls
      clear hls
      go_upto_region 11 with fail
      refine Tryst2.wp_region_grows [.is (.slice (some ⟨b, o, none⟩) l.length c), .is (.int .i64 (k : Int)), .is (.pointer (some ⟨b, o + k * 3, none⟩)), .is (.pointer (some ⟨b, o + k * 3, none⟩)), .is (.string l[k].name), .is (.pointer (some ⟨w.heap.size, 0, none⟩)), .is (.string nm), .is (.bool false)] (by kernel_rfl) (by kernel_rfl) ?obl ?fin
      case obl =>
       simp only [YA, YL, YO, YR, Op.operands, Call.operands]
       repeat' apply And.intro
       any_goals trivial
       all_goals (intro tv w' hg hold hd; (try simp at hold); obtain ⟨hcg, hfg, hsg⟩ := YG hg)
       all_goals first | (go_simp; done) | (go_simp; rw [if_neg (by omega)]; exact ⟨.refl _, rfl⟩) | (obtain ⟨⟨g, hvg, hgg, hcell⟩, _⟩ := hd; have hcell0 := hcell 0 (by decide); simp at hcell0; go_simp; done) 
      case fin =>
       intro tv w' hg hR
       simp only [YF, YL, YR] at hR
       obtain ⟨hcg, hfg, hsg⟩ := YG hg
       simp only [YP, YL, Act.put, hR]
       have hbw := Tryst2.Grow.below hg (.refl wo.heap.size wo)
       have HO6 := Lib.hid (HO.out.grow hbw)
       have HX6 := Lib.hid (HX.out.grow hbw)
       have HW6 := Lib.hid (bstep hbw HW.out)
       have hB6 : w.heap.size + 1 ≤ w'.heap.size := Nat.le_trans hBr hbw.size
       have HAC4 : Hid (acc = (pre) ++ (l.take (k + 1)).filter (fun x => lessB nm x.name)) := Lib.hid (by
        rw [HTK.out, List.filter_append, HAC.out]
        simp [HLS.out])
       clear hg hR hcg hfg hsg hbw f0 f1 f2 x0 x1 x2 x3 x4 x5 x6 HFo HO HX HW HAC
       go_wp2_with fail
       go_roundw
       case rel => exact ⟨k + 1, av, cv, acc, by omega, by go_num, rfl, by omega, HAC4, HO6, HX6, HW6, hB6⟩
       case measure => simp [intOf] <;> omega
    ·
     have HAC2 : Hid (acc = withB l ⟨nm, fs, la, lg, lc⟩) := Lib.hid (by
      rw [HAC.out, List.take_of_length_le (by omega), HP.out, List.append_assoc]; rfl)
     clear HAC HP
     go_wp2_with fail
     go_ret
     obtain ⟨a', c', hv, h7, h8, _⟩ := ROwn.row HO.out (TB.cells_len acc) (by decide)
     rw [List.length_map] at hv h8
     simp only [Value.slice.injEq, true_and] at hv
     obtain ⟨rfl, rfl⟩ := hv
     rw [← HAC2.out]
     exact ⟨av, cv, rfl, h7, h8, HW.out⟩
end Go.Proofs.YtmlbdblnmbmnpaaGreatDoor
namespace Go.Proofs.YtmlbdblnmbmnpaaGreatDoor
open Go.RowKit Tryst
set_option maxHeartbeats 400000
set_option maxRecDepth 20000
def RFndRel (w : World) (L : List Tp) (n : ByteArray) (i : Value) (wr : World) : Prop := ∃ k : Nat, k ≤ L.length ∧ i = .int .i64 k ∧ Hid (∀ (j : Nat) (h : j < L.length), j < k → isT n L[j] = false) ∧ Hid (Below w.heap.size w wr)
theorem rfind12_c (n : ByteArray) (a : Option Addr) (c : Nat) (l : List TB) (hl : l.length ≤ 1000000000) (w : World) (hF : TopsA w a l) :
  Calls Tryz.prog 85 #[.slice a l.length c, .string n] w fun e w' => e = .returned (findR (findT (l.map TB.tp) n)) ∧ Below w.heap.size w w' := by
 have HF := Lib.hid hF
 clear hF
 obtain ⟨R, hR⟩ : ∃ R, findT (l.map TB.tp) n = R := ⟨_, rfl⟩
 have HR := Lib.hid hR
 rw [hR]
 clear hR
 go_enter Tryz.func85, Tryz.ntmps85
 go_wp2_with fail
 go_loopw [6] (fun i wr => RFndRel w (l.map TB.tp) n i wr) (fun i _ => l.length - (intOf i).toNat)
 case atStart => exact ⟨0, by omega, rfl, fun _ _ h => by omega, .refl _ _⟩
 case round =>
  obtain ⟨k, hk, rfl, HA, HW⟩ := hrel
  rw [List.length_map] at hk
  obtain ⟨wo, rfl⟩ : ∃ wo, wo = wr := ⟨_, rfl⟩
  by_cases hlt : k < l.length
  ·
   have HF2 := Lib.hid (HF.out.grow HW.out)
   obtain ⟨b, o, ha, hb⟩ := HF2.out.head hlt
   obtain rfl : a = some ⟨b, o, none⟩ := ha
   obtain ⟨_, ⟨f0, f1, f2⟩, _⟩ := HF2.out.at hlt
   have hlt2 : k < (l.map TB.tp).length := by simpa using hlt
   by_cases hn : l[k].name.data.toList = n.data.toList
   ·
    have h1 : (l[k].name.toList == n.toList) = true := strEq hn
    have HQ : Hid (R = some k) := Lib.hid (by
     rw [← HR.out]
     unfold findT
     rw [List.findIdx?_eq_some_iff_getElem]
     refine ⟨hlt2, by rw [List.getElem_map]; unfold isT; exact decide_eq_true hn, fun j hj => ?_⟩
     rw [HA.out j (by omega) hj]
     simp)
    clear hn HA
    go_wp2_with fail
    go_ret2
    rw [HQ.out]
    exact ⟨rfl, HW.out⟩
   ·
    have h1 : (l[k].name.toList == n.toList) = false := strNe hn
    have HA2 : Hid (∀ (j : Nat) (h : j < (l.map TB.tp).length), j < k + 1 → isT n (l.map TB.tp)[j] = false) := Lib.hid (fun j h hj => by
     by_cases e : j = k
     ·
      subst e; rw [List.getElem_map]; unfold isT; exact decide_eq_false hn
     ·
      exact HA.out j h (by omega))
    clear hn HA
    go_wp2_with fail
    go_roundw
    case rel => exact ⟨k + 1, by rw [List.length_map]; omega, by go_num, HA2, HW⟩
    case measure => simp [intOf] <;> omega
  ·
   have HQ : Hid (R = none) := Lib.hid (by
    rw [← HR.out]
    unfold findT
    rw [List.findIdx?_eq_none_iff]
    intro x hx
    obtain ⟨j, hj, rfl⟩ := List.getElem_of_mem hx
    exact HA.out j hj (by rw [List.length_map] at hj; omega))
   go_wp2_with fail
   go_ret2
   rw [HQ.out]
   exact ⟨rfl, HW.out⟩
def RM5Rel (w X : World) (g : Nat) (nm : ByteArray) (fst : Int) (la : Option Addr) (lg : List ByteArray) (lc : Nat) (i : Value) (wr : World) : Prop := ∃ k : Nat, k ≤ lg.length ∧ i = .int .i64 k ∧ Hid (∀ (j : Nat) (h : j < lg.length), j < k → ofB lg[j] nm = true) ∧ Hid (TBox wr g nm fst (.slice la lg.length lc)) ∧ Hid (Below X.heap.size X wr) ∧ Hid (Below w.heap.size w wr)
set_option maxHeartbeats 8000000 in
theorem rmay12_c (a : Option Addr) (c : Nat) (l : List TB) (hl : l.length ≤ 1000000000) (hI : TIn l) (hN : ∀ t ∈ l, t.name.size ≤ 1000000) (w : World) (hF : TopsA w a l) :
  Calls Tryz.prog 24 #[.slice a l.length c] w fun e w' => e = .returned (.bool (topsMay (l.map TB.tp))) ∧ Below w.heap.size w w' := by
 obtain ⟨R, hR⟩ : ∃ R, okT none (l.map TB.tp) = R := ⟨_, rfl⟩
 have hT : topsMay (l.map TB.tp) = (decide (l.length ≤ 20) && R) := by unfold topsMay; rw [hR, List.length_map]
 rw [hT]
 have HR := Lib.hid hR
 have HF := Lib.hid hF
 have HI := Lib.hid hI
 have HN := Lib.hid hN
 clear hF hR hT hI hN
 go_enter Tryz.func24, Tryz.ntmps24
 go_wp2_with fail
 go_loopw [3] (fun i wr => TChkRel w l R i wr) (fun i _ => l.length - (intOf i).toNat)
 case atStart => exact ⟨0, by omega, rfl, HR.out.symm, .refl _ _, by omega⟩
 case round =>
  obtain ⟨k, hk, rfl, HP, HW, hz⟩ := hrel
  obtain ⟨wo, rfl⟩ : ∃ wo, wo = wr := ⟨_, rfl⟩
  by_cases hlt : k < l.length
  ·
   have HF2 := Lib.hid (HF.out.grow HW.out)
   obtain ⟨b, o, ha, hb⟩ := HF2.out.head hlt
   obtain rfl : a = some ⟨b, o, none⟩ := ha
   obtain ⟨_, ⟨f0, f1, f2⟩, hS⟩ := HF2.out.at hlt
   have HS := Lib.hid hS
   have hin := HI.out l[k] (List.getElem_mem hlt)
   have hnm := HN.out l[k] (List.getElem_mem hlt)
   have hst := okT_step (L := l.map TB.tp) (k := k) (by simpa using hlt)
   rw [← HP.out] at hst
   simp only [List.getElem_map] at hst
   have HST := Lib.hid hst
   obtain ⟨nm, fs, la, lg, lc, hlk⟩ : ∃ nm fs la lg lc, l[k] = (⟨nm, fs, la, lg, lc⟩ : TB) := ⟨_, _, _, _, _, rfl⟩
   rw [hlk] at f0 f1 f2 HS HST hnm hin
   dsimp only at f0 f1 f2 HS hnm hin
   have HST2 : Hid (R = (tMay ⟨nm, fs, lg⟩ && ((match prevT (l.map TB.tp) k with | none => true | some q => lessB q nm) && okT (prevT (l.map TB.tp) (k + 1)) ((l.map TB.tp).drop (k + 1))))) := HST
   rw [tMay_eq] at HST2
   obtain ⟨i1, i2, i3, i4, i5⟩ := hin
   have HI2 := Lib.hid i2
   have hto := rtopic_c nm hnm
   clear hst hS i2 HST hlk
   go_upto_region 5 with fail
   refine wp_genC (fun v => Hid (TBox v wo.heap.size nm fs (.slice la lg.length lc)) ∧ Hid (Strs v la lg) ∧ Hid (TopsA v (some ⟨b, o, none⟩) l) ∧ Hid (Below w.heap.size w v)) ⟨TBox.new wo nm fs (.slice la lg.length lc) 57, HS.out.grow (balloc _ (.refl _ _)), HF2.out.grow (balloc _ (.refl _ _)), balloc _ HW.out⟩ ?_
   rintro X ⟨HX, HSX, HFX, HKX⟩
   generalize wo.heap.size = G at HX ⊢
   clear f0 f1 f2 HF2 HS HW
   obtain ⟨x0, x1, x2, x3, x4, x5, x6⟩ := HX.out
   obtain ⟨f00, ⟨f0, f1, f2⟩, _⟩ := HFX.out.at hlt
   cases htb : topicB nm.data.toList with
   | false =>
    rw [htb] at hto HST2
    have HTO := Lib.hid hto
    have HQ : Hid (R = false) := Lib.hid (by rw [HST2.out]; rfl)
    clear hto htb HST2
    refine Tryst2.wp_region_grows [.is (.pointer (some ⟨G, 0, none⟩)), .is (.string nm), .is (.bool false), .is (.bool true), .is (.bool true), .is undef, .is undef, .is undef, .is undef, .is undef, .is undef, .is undef, .is undef, .is undef, .is undef, .is undef, .is undef, .is undef, .is (.bool true), .is (.bool true), .is undef, .is undef, .is undef, .is (.bool true), .is (.bool true), .is undef, .is undef, .is undef, .is undef, .is undef, .is undef, .is undef, .is (.bool true), .is (.bool true), .is undef, .is undef, .is undef, .is undef, .is (.bool true)] (by kernel_rfl) (by kernel_rfl) ?obl ?fin
    case obl =>
     simp only [YA, YL, YO, YR, Op.operands, Call.operands]
     repeat' apply And.intro
     any_goals trivial
     all_goals (intro tv w' hg hold hd; (try simp at hold); obtain ⟨hcg, hfg, hsg⟩ := YG hg)
     all_goals first | (go_simp; done) | (go_simp; rw [if_neg (by omega)]; exact ⟨.refl _, rfl⟩) | (obtain ⟨⟨g, hvg, hgg, hcell⟩, _⟩ := hd; have hcell0 := hcell 0 (by decide); simp at hcell0; go_simp; done) | (go_simp; go_at_call 43; (with_reducible refine (HTO.out _).mono ?_); rintro e w5 ⟨rfl, hb5⟩; exact ⟨hb5, rfl⟩) | (go_simp; exact IntWalk.i64_in _ (by omega))
    case fin =>
     intro tv w' hg hR
     simp only [YF, YL, YR] at hR
     obtain ⟨hcg, hfg, hsg⟩ := YG hg
     simp only [YP, YL, Act.put, hR]
     have HK9 := Lib.hid (Tryst2.Grow.below hg HKX.out)
     clear hg hR hcg hfg hsg
     go_wp2_with fail
     go_ret
     exact ⟨ret_bool (by rw [HQ.out, Bool.and_false]), HK9.out⟩
   | true =>
    rw [htb] at hto HST2
    have HTO := Lib.hid hto
    clear hto htb
    cases k with
    | zero =>
     have HM : Hid (R = ((decide (0 ≤ fs) && (decide (lg.length ≤ 100) && (decide (fs ≤ 1099511627775 - lg.length) && lg.all (fun s => ofB s nm)))) && okT (prevT (l.map TB.tp) (0 + 1)) ((l.map TB.tp).drop (0 + 1)))) := HST2
     clear HST2
     by_cases g1 : 0 ≤ fs
     ·
      have z1 : ¬ fs < 0 := by omega
      by_cases g3 : fs ≤ 1099511627775 - (lg.length : Int)
      ·
       have z3 : ¬ 1099511627775 - (lg.length : Int) < fs := by omega
       by_cases g2 : lg.length ≤ 100
       ·
        have z2 : ¬ (100 : Int) < lg.length := by omega
        have HM2 : Hid (R = (lg.all (fun s => ofB s nm) && okT (prevT (l.map TB.tp) (0 + 1)) ((l.map TB.tp).drop (0 + 1)))) := Lib.hid (by rw [HM.out, decide_eq_true g1, decide_eq_true g2, decide_eq_true g3]; rfl)
        clear HM
        refine Tryst2.wp_region_grows [.is (.pointer (some ⟨G, 0, none⟩)), .is (.string nm), .is (.bool true), .is (.bool false), .is (.bool false), .is (.int .i64 0), .is (.bool false), .is (.bool false), .is undef, .is undef, .is undef, .is undef, .is undef, .is undef, .is undef, .is undef, .is undef, .is (.bool false), .is (.bool false), .is (.bool false), .is (.pointer (some ⟨G, 1, none⟩)), .is (.int .i64 fs), .is (.bool false), .is (.bool false), .is (.bool false), .is (.pointer (some ⟨G, 1, none⟩)), .is (.int .i64 fs), .is (.pointer (some ⟨G, 2, none⟩)), .is (.slice la lg.length lc), .is (.int .i64 (lg.length : Int)), .is (.int .i64 (1099511627775 - (lg.length : Int))), .is (.bool false), .is (.bool false), .is (.bool false), .is (.pointer (some ⟨G, 2, none⟩)), .is (.slice la lg.length lc), .is (.int .i64 (lg.length : Int)), .is (.bool false), .is (.bool false)] (by kernel_rfl) (by kernel_rfl) ?obl ?fin
        case obl =>
         simp only [YA, YL, YO, YR, Op.operands, Call.operands]
         repeat' apply And.intro
         any_goals trivial
         all_goals (intro tv w' hg hold hd; (try simp at hold); obtain ⟨hcg, hfg, hsg⟩ := YG hg)
         all_goals first | (go_simp; done) | (go_simp; rw [if_neg (by omega)]; exact ⟨.refl _, rfl⟩) | (obtain ⟨⟨g, hvg, hgg, hcell⟩, _⟩ := hd; have hcell0 := hcell 0 (by decide); simp at hcell0; go_simp; done) | (go_simp; go_at_call 43; (with_reducible refine (HTO.out _).mono ?_); rintro e w5 ⟨rfl, hb5⟩; exact ⟨hb5, rfl⟩) | (go_simp; exact IntWalk.i64_in _ (by omega))
        case fin =>
         intro tv w' hg hR
         simp only [YF, YL, YR] at hR
         obtain ⟨hcg, hfg, hsg⟩ := YG hg
         simp only [YP, YL, Act.put, hR]
         have HKY := Lib.hid (Tryst2.Grow.below hg HKX.out)
         have HXY := Lib.hid (HX.out.grow (Tryst2.Grow.below hg (.refl X.heap.size X)))
         have HSY := Lib.hid (HSX.out.grow (Tryst2.Grow.below hg (.refl X.heap.size X)))
         obtain ⟨Y, rfl⟩ : ∃ v, v = w' := ⟨_, rfl⟩
         clear hg hR hcg hfg hsg x0 x1 x2 x3 x4 x5 x6 f0 f1 f2
         obtain ⟨x0, x1, x2, x3, x4, x5, x6⟩ := HXY.out
         go_wp2_with fail
         go_loopw [5] (fun i wr => RM5Rel w Y G nm fs la lg lc i wr) (fun i _ => lg.length - (intOf i).toNat)
         case atStart => exact ⟨0, by omega, rfl, fun _ _ h => by omega, HXY, .refl _ _, HKY⟩
         case round =>
          obtain ⟨j, hj, rfl, HA, HXI, HWI, HKI⟩ := hrel
          obtain ⟨wi, rfl⟩ : ∃ v, v = wr := ⟨_, rfl⟩
          clear x0 x1 x2 x3 x4 x5 x6 HXY
          obtain ⟨x0, x1, x2, x3, x4, x5, x6⟩ := HXI.out
          by_cases hjl : j < lg.length
          ·
           have HLi := Lib.hid (HSY.out.grow HWI.out)
           obtain ⟨b2, o2, ha2, hb2⟩ := HLi.out.head hjl
           obtain rfl : la = some ⟨b2, o2, none⟩ := ha2
           obtain ⟨_, s1⟩ := HLi.out.at hjl
           have hsz := HI2.out lg[j] (List.getElem_mem hjl)
           go_wp2_with fail
           refine (rtakeE_c lg[j] hsz wi).mono ?_
           have hob : ofB lg[j] nm = (decide ((takeE lg[j].data.toList).2.2 = 0) && (decide ((takeE lg[j].data.toList).2.1 = lg[j].size) && decide ((takeE lg[j].data.toList).1.topic = nm.data.toList))) := rfl
           have HOB := Lib.hid hob
           clear hob
           generalize takeE lg[j].data.toList = q at HOB ⊢
           obtain ⟨E, kk, ee⟩ := q
           rintro e w9 ⟨a9, c9, rfl, _, _, hb9⟩
           dsimp only at HOB ⊢
           have HXJ := Lib.hid (HXI.out.grow hb9)
           have HLJ := Lib.hid (HLi.out.grow hb9)
           have HWJ := Lib.hid (bstep hb9 HWI.out)
           have HKJ := Lib.hid (bstep hb9 HKI.out)
           clear hb9 x0 x1 x2 x3 x4 x5 x6 s1
           obtain ⟨T, hT⟩ : ∃ T : ByteArray, (⟨E.topic.toArray⟩ : ByteArray) = T := ⟨_, rfl⟩
           have hTd : E.topic = T.data.toList := by rw [← hT]
           rw [hT]
           generalize (⟨E.prod.toArray⟩ : ByteArray) = P9
           generalize E.l.length = n9
           go_upto_region 11 with fail
           refine wp_genC (fun v => Hid (TBox v G nm fs (.slice (some ⟨b2, o2, none⟩) lg.length lc)) ∧ Hid (EAt v w9.heap.size T P9 E.seq (.slice a9 n9 c9)) ∧ Hid (Strs v (some ⟨b2, o2, none⟩) lg) ∧ Hid (Below Y.heap.size Y v) ∧ Hid (Below w.heap.size w v) ∧ w9.heap.size < v.heap.size) ⟨HXJ.out.grow (balloc _ (.refl _ _)), EAt.of (new_box w9 #[.string T, .string P9, .int .u64 E.seq, .slice a9 n9 c9] 63), HLJ.out.grow (balloc _ (.refl _ _)), balloc _ HWJ.out, balloc _ HKJ.out, by simp⟩ ?_
           clear HXJ HLJ HWJ HKJ HLi HXI HWI HKI hT
           rintro v ⟨HXJ, HEJ, HLJ, HWJ, HKJ, hzv⟩
           generalize w9.heap.size = B9 at HEJ hzv ⊢
           obtain ⟨x0, x1, x2, x3, x4, x5, x6⟩ := HXJ.out
           obtain ⟨e0, e1, e2, e3, e4, e5, e6, e7⟩ := HEJ.out
           obtain ⟨_, s1⟩ := HLJ.out.at hjl
           by_cases he : ee = 0
           ·
            subst he
            by_cases hkk : kk = lg[j].size
            ·
             subst hkk
             by_cases hn : T.data.toList = nm.data.toList
             ·
              have h1 : (T.toList == nm.toList) = true := strEq hn
              have h2 : (T.toList != nm.toList) = false := by unfold bne; rw [h1]; rfl
              have HA2 : Hid (∀ (i : Nat) (h : i < lg.length), i < j + 1 → ofB lg[i] nm = true) := Lib.hid (fun i h hi => by
               by_cases e : i = j
               ·
                subst e; rw [HOB.out, hTd]; simp [hn]
               ·
                exact HA.out i h (by omega))
              clear hTd hn HOB HA
              go_wp2_with fail
              go_roundw
              case rel => exact ⟨j + 1, by omega, by go_num, HA2, HXJ, HWJ, HKJ⟩
              case measure => simp [intOf] <;> omega
             ·
              have h1 : (T.toList == nm.toList) = false := strNe hn
              have h2 : (T.toList != nm.toList) = true := by unfold bne; rw [h1]; rfl
              have HQ : Hid (R = false) := Lib.hid (by rw [HM2.out, not_all_of hjl (by rw [HOB.out, hTd]; simp [hn])]; rfl)
              clear hTd hn HOB HA
              go_wp2_with fail
              go_ret
              exact ⟨ret_bool (by rw [HQ.out, Bool.and_false]), HKJ.out⟩
            ·
             have h1 : ((kk : Int) == (lg[j].size : Int)) = false := beq_false_of_ne (by omega)
             have h2 : ((kk : Int) != (lg[j].size : Int)) = true := by unfold bne; rw [h1]; rfl
             have HQ : Hid (R = false) := Lib.hid (by rw [HM2.out, not_all_of hjl (by rw [HOB.out]; simp [hkk])]; rfl)
             clear hTd HOB HA hkk
             go_wp2_with fail
             go_ret
             exact ⟨ret_bool (by rw [HQ.out, Bool.and_false]), HKJ.out⟩
           ·
            have h1 : ((ee : Int) == 0) = false := beq_false_of_ne (by omega)
            have h2 : ((ee : Int) != 0) = true := by unfold bne; rw [h1]; rfl
            have HQ : Hid (R = false) := Lib.hid (by rw [HM2.out, not_all_of hjl (by rw [HOB.out]; simp [he])]; rfl)
            clear hTd HOB HA he
            go_wp2_with fail
            go_ret
            exact ⟨ret_bool (by rw [HQ.out, Bool.and_false]), HKJ.out⟩
          ·
           have HM3 : Hid (R = okT (prevT (l.map TB.tp) (0 + 1)) ((l.map TB.tp).drop (0 + 1))) := Lib.hid (by rw [HM2.out, all_of (fun i h => HA.out i h (by omega))]; rfl)
           go_wp2_with fail
           go_roundw
           case rel => exact ⟨0 + 1, by omega, by go_num, HM3, HKI, HKI.out.size⟩
           case measure => simp [intOf] <;> omega
       ·
        have z2 : (100 : Int) < lg.length := by omega
        have HQ : Hid (R = false) := Lib.hid (by rw [HM.out, decide_eq_true g1, decide_eq_false g2]; rfl)
        refine Tryst2.wp_region_grows [.is (.pointer (some ⟨G, 0, none⟩)), .is (.string nm), .is (.bool true), .is (.bool false), .is (.bool false), .is (.int .i64 0), .is (.bool false), .is (.bool false), .is undef, .is undef, .is undef, .is undef, .is undef, .is undef, .is undef, .is undef, .is undef, .is (.bool false), .is (.bool false), .is (.bool false), .is (.pointer (some ⟨G, 1, none⟩)), .is (.int .i64 fs), .is (.bool false), .is (.bool false), .is (.bool false), .is (.pointer (some ⟨G, 1, none⟩)), .is (.int .i64 fs), .is (.pointer (some ⟨G, 2, none⟩)), .is (.slice la lg.length lc), .is (.int .i64 (lg.length : Int)), .is (.int .i64 (1099511627775 - (lg.length : Int))), .is (.bool false), .is (.bool false), .is (.bool false), .is (.pointer (some ⟨G, 2, none⟩)), .is (.slice la lg.length lc), .is (.int .i64 (lg.length : Int)), .is (.bool true), .is (.bool true)] (by kernel_rfl) (by kernel_rfl) ?obl ?fin
        case obl =>
         simp only [YA, YL, YO, YR, Op.operands, Call.operands]
         repeat' apply And.intro
         any_goals trivial
         all_goals (intro tv w' hg hold hd; (try simp at hold); obtain ⟨hcg, hfg, hsg⟩ := YG hg)
         all_goals first | (go_simp; done) | (go_simp; rw [if_neg (by omega)]; exact ⟨.refl _, rfl⟩) | (obtain ⟨⟨g, hvg, hgg, hcell⟩, _⟩ := hd; have hcell0 := hcell 0 (by decide); simp at hcell0; go_simp; done) | (go_simp; go_at_call 43; (with_reducible refine (HTO.out _).mono ?_); rintro e w5 ⟨rfl, hb5⟩; exact ⟨hb5, rfl⟩) | (go_simp; exact IntWalk.i64_in _ (by omega))
        case fin =>
         intro tv w' hg hR
         simp only [YF, YL, YR] at hR
         obtain ⟨hcg, hfg, hsg⟩ := YG hg
         simp only [YP, YL, Act.put, hR]
         have HK9 := Lib.hid (Tryst2.Grow.below hg HKX.out)
         clear hg hR hcg hfg hsg
         go_wp2_with fail
         go_ret
         exact ⟨ret_bool (by rw [HQ.out, Bool.and_false]), HK9.out⟩
      ·
       have z3 : 1099511627775 - (lg.length : Int) < fs := by omega
       have HQ : Hid (R = false) := Lib.hid (by rw [HM.out, decide_eq_true g1, decide_eq_false g3]; simp)
       refine Tryst2.wp_region_grows [.is (.pointer (some ⟨G, 0, none⟩)), .is (.string nm), .is (.bool true), .is (.bool false), .is (.bool false), .is (.int .i64 0), .is (.bool false), .is (.bool false), .is undef, .is undef, .is undef, .is undef, .is undef, .is undef, .is undef, .is undef, .is undef, .is (.bool false), .is (.bool false), .is (.bool false), .is (.pointer (some ⟨G, 1, none⟩)), .is (.int .i64 fs), .is (.bool false), .is (.bool false), .is (.bool false), .is (.pointer (some ⟨G, 1, none⟩)), .is (.int .i64 fs), .is (.pointer (some ⟨G, 2, none⟩)), .is (.slice la lg.length lc), .is (.int .i64 (lg.length : Int)), .is (.int .i64 (1099511627775 - (lg.length : Int))), .is (.bool true), .is (.bool true), .is (.bool true), .is undef, .is undef, .is undef, .is undef, .is (.bool true)] (by kernel_rfl) (by kernel_rfl) ?obl ?fin
       case obl =>
        simp only [YA, YL, YO, YR, Op.operands, Call.operands]
        repeat' apply And.intro
        any_goals trivial
        all_goals (intro tv w' hg hold hd; (try simp at hold); obtain ⟨hcg, hfg, hsg⟩ := YG hg)
        all_goals first | (go_simp; done) | (go_simp; rw [if_neg (by omega)]; exact ⟨.refl _, rfl⟩) | (obtain ⟨⟨g, hvg, hgg, hcell⟩, _⟩ := hd; have hcell0 := hcell 0 (by decide); simp at hcell0; go_simp; done) | (go_simp; go_at_call 43; (with_reducible refine (HTO.out _).mono ?_); rintro e w5 ⟨rfl, hb5⟩; exact ⟨hb5, rfl⟩) | (go_simp; exact IntWalk.i64_in _ (by omega))
       case fin =>
        intro tv w' hg hR
        simp only [YF, YL, YR] at hR
        obtain ⟨hcg, hfg, hsg⟩ := YG hg
        simp only [YP, YL, Act.put, hR]
        have HK9 := Lib.hid (Tryst2.Grow.below hg HKX.out)
        clear hg hR hcg hfg hsg
        go_wp2_with fail
        go_ret
        exact ⟨ret_bool (by rw [HQ.out, Bool.and_false]), HK9.out⟩
     ·
      have z1 : fs < 0 := by omega
      have HQ : Hid (R = false) := Lib.hid (by rw [HM.out, decide_eq_false g1]; rfl)
      refine Tryst2.wp_region_grows [.is (.pointer (some ⟨G, 0, none⟩)), .is (.string nm), .is (.bool true), .is (.bool false), .is (.bool false), .is (.int .i64 0), .is (.bool false), .is (.bool false), .is undef, .is undef, .is undef, .is undef, .is undef, .is undef, .is undef, .is undef, .is undef, .is (.bool false), .is (.bool false), .is (.bool false), .is (.pointer (some ⟨G, 1, none⟩)), .is (.int .i64 fs), .is (.bool true), .is (.bool true), .is (.bool true), .is undef, .is undef, .is undef, .is undef, .is undef, .is undef, .is undef, .is (.bool true), .is (.bool true), .is undef, .is undef, .is undef, .is undef, .is (.bool true)] (by kernel_rfl) (by kernel_rfl) ?obl ?fin
      case obl =>
       simp only [YA, YL, YO, YR, Op.operands, Call.operands]
       repeat' apply And.intro
       any_goals trivial
       all_goals (intro tv w' hg hold hd; (try simp at hold); obtain ⟨hcg, hfg, hsg⟩ := YG hg)
       all_goals first | (go_simp; done) | (go_simp; rw [if_neg (by omega)]; exact ⟨.refl _, rfl⟩) | (obtain ⟨⟨g, hvg, hgg, hcell⟩, _⟩ := hd; have hcell0 := hcell 0 (by decide); simp at hcell0; go_simp; done) | (go_simp; go_at_call 43; (with_reducible refine (HTO.out _).mono ?_); rintro e w5 ⟨rfl, hb5⟩; exact ⟨hb5, rfl⟩) | (go_simp; exact IntWalk.i64_in _ (by omega))
      case fin =>
       intro tv w' hg hR
       simp only [YF, YL, YR] at hR
       obtain ⟨hcg, hfg, hsg⟩ := YG hg
       simp only [YP, YL, Act.put, hR]
       have HK9 := Lib.hid (Tryst2.Grow.below hg HKX.out)
       clear hg hR hcg hfg hsg
       go_wp2_with fail
       go_ret
       exact ⟨ret_bool (by rw [HQ.out, Bool.and_false]), HK9.out⟩
    | succ m =>
     have hlm : m < l.length := by omega
     obtain ⟨_, ⟨g0, g1', g2'⟩, _⟩ := HFX.out.at hlm
     have hpv := prevT_succ (L := l.map TB.tp) (k := m) (by simpa using hlm)
     rw [List.getElem_map] at hpv
     rw [hpv] at HST2
     clear hpv
     have HGE := geB l[m].name nm
     have HLS : Hid (R = ((decide (0 ≤ fs) && (decide (lg.length ≤ 100) && (decide (fs ≤ 1099511627775 - lg.length) && lg.all (fun s => ofB s nm)))) && (lessB l[m].name nm && okT (prevT (l.map TB.tp) (m + 1 + 1)) ((l.map TB.tp).drop (m + 1 + 1))))) := HST2
     clear HST2
     generalize lessB l[m].name nm = lb at HLS HGE
     cases lb with
     | false =>
      have HQ : Hid (R = false) := Lib.hid (by rw [HLS.out]; simp)
      have hge : (!Op.bytesLess l[m].name.toList nm.toList) = true := HGE
      clear HGE HLS
      refine Tryst2.wp_region_grows [.is (.pointer (some ⟨G, 0, none⟩)), .is (.string nm), .is (.bool true), .is (.bool false), .is (.bool false), .is (.int .i64 ((m + 1 : Nat) : Int)), .is (.bool true), .is (.bool true), .is (.slice (some ⟨b, o, none⟩) l.length c), .is (.int .i64 ((m + 1 : Nat) : Int)), .is (.int .i64 (m : Int)), .is (.pointer (some ⟨b, o + m * 3, none⟩)), .is (.pointer (some ⟨b, o + m * 3, none⟩)), .is (.string l[m].name), .is (.pointer (some ⟨G, 0, none⟩)), .is (.string nm), .is (.bool true), .is (.bool true), .is (.bool true), .is (.bool true), .is undef, .is undef, .is undef, .is (.bool true), .is (.bool true), .is undef, .is undef, .is undef, .is undef, .is undef, .is undef, .is undef, .is (.bool true), .is (.bool true), .is undef, .is undef, .is undef, .is undef, .is (.bool true)] (by kernel_rfl) (by kernel_rfl) ?obl ?fin
      case obl =>
       simp only [YA, YL, YO, YR, Op.operands, Call.operands]
       repeat' apply And.intro
       any_goals trivial
       all_goals (intro tv w' hg hold hd; (try simp at hold); obtain ⟨hcg, hfg, hsg⟩ := YG hg)
       all_goals first | (go_simp; done) | (go_simp; rw [if_neg (by omega)]; exact ⟨.refl _, rfl⟩) | (obtain ⟨⟨g, hvg, hgg, hcell⟩, _⟩ := hd; have hcell0 := hcell 0 (by decide); simp at hcell0; go_simp; done) | (go_simp; go_at_call 43; (with_reducible refine (HTO.out _).mono ?_); rintro e w5 ⟨rfl, hb5⟩; exact ⟨hb5, rfl⟩) | (go_simp; exact IntWalk.i64_in _ (by omega))
      case fin =>
       intro tv w' hg hR
       simp only [YF, YL, YR] at hR
       obtain ⟨hcg, hfg, hsg⟩ := YG hg
       simp only [YP, YL, Act.put, hR]
       have HK9 := Lib.hid (Tryst2.Grow.below hg HKX.out)
       clear hg hR hcg hfg hsg
       go_wp2_with fail
       go_ret
       exact ⟨ret_bool (by rw [HQ.out, Bool.and_false]), HK9.out⟩
     | true =>
      have HM : Hid (R = ((decide (0 ≤ fs) && (decide (lg.length ≤ 100) && (decide (fs ≤ 1099511627775 - lg.length) && lg.all (fun s => ofB s nm)))) && okT (prevT (l.map TB.tp) (m + 1 + 1)) ((l.map TB.tp).drop (m + 1 + 1)))) := HLS
      have hge : (!Op.bytesLess l[m].name.toList nm.toList) = false := HGE
      clear HGE HLS
      by_cases g1 : 0 ≤ fs
      ·
       have z1 : ¬ fs < 0 := by omega
       by_cases g3 : fs ≤ 1099511627775 - (lg.length : Int)
       ·
        have z3 : ¬ 1099511627775 - (lg.length : Int) < fs := by omega
        by_cases g2 : lg.length ≤ 100
        ·
         have z2 : ¬ (100 : Int) < lg.length := by omega
         have HM2 : Hid (R = (lg.all (fun s => ofB s nm) && okT (prevT (l.map TB.tp) ((m + 1) + 1)) ((l.map TB.tp).drop ((m + 1) + 1)))) := Lib.hid (by rw [HM.out, decide_eq_true g1, decide_eq_true g2, decide_eq_true g3]; rfl)
         clear HM
         refine Tryst2.wp_region_grows [.is (.pointer (some ⟨G, 0, none⟩)), .is (.string nm), .is (.bool true), .is (.bool false), .is (.bool false), .is (.int .i64 ((m + 1 : Nat) : Int)), .is (.bool true), .is (.bool true), .is (.slice (some ⟨b, o, none⟩) l.length c), .is (.int .i64 ((m + 1 : Nat) : Int)), .is (.int .i64 (m : Int)), .is (.pointer (some ⟨b, o + m * 3, none⟩)), .is (.pointer (some ⟨b, o + m * 3, none⟩)), .is (.string l[m].name), .is (.pointer (some ⟨G, 0, none⟩)), .is (.string nm), .is (.bool false), .is (.bool false), .is (.bool false), .is (.bool false), .is (.pointer (some ⟨G, 1, none⟩)), .is (.int .i64 fs), .is (.bool false), .is (.bool false), .is (.bool false), .is (.pointer (some ⟨G, 1, none⟩)), .is (.int .i64 fs), .is (.pointer (some ⟨G, 2, none⟩)), .is (.slice la lg.length lc), .is (.int .i64 (lg.length : Int)), .is (.int .i64 (1099511627775 - (lg.length : Int))), .is (.bool false), .is (.bool false), .is (.bool false), .is (.pointer (some ⟨G, 2, none⟩)), .is (.slice la lg.length lc), .is (.int .i64 (lg.length : Int)), .is (.bool false), .is (.bool false)] (by kernel_rfl) (by kernel_rfl) ?obl ?fin
         case obl =>
          simp only [YA, YL, YO, YR, Op.operands, Call.operands]
          repeat' apply And.intro
          any_goals trivial
          all_goals (intro tv w' hg hold hd; (try simp at hold); obtain ⟨hcg, hfg, hsg⟩ := YG hg)
          all_goals first | (go_simp; done) | (go_simp; rw [if_neg (by omega)]; exact ⟨.refl _, rfl⟩) | (obtain ⟨⟨g, hvg, hgg, hcell⟩, _⟩ := hd; have hcell0 := hcell 0 (by decide); simp at hcell0; go_simp; done) | (go_simp; go_at_call 43; (with_reducible refine (HTO.out _).mono ?_); rintro e w5 ⟨rfl, hb5⟩; exact ⟨hb5, rfl⟩) | (go_simp; exact IntWalk.i64_in _ (by omega))
         case fin =>
          intro tv w' hg hR
          simp only [YF, YL, YR] at hR
          obtain ⟨hcg, hfg, hsg⟩ := YG hg
          simp only [YP, YL, Act.put, hR]
          have HKY := Lib.hid (Tryst2.Grow.below hg HKX.out)
          have HXY := Lib.hid (HX.out.grow (Tryst2.Grow.below hg (.refl X.heap.size X)))
          have HSY := Lib.hid (HSX.out.grow (Tryst2.Grow.below hg (.refl X.heap.size X)))
          obtain ⟨Y, rfl⟩ : ∃ v, v = w' := ⟨_, rfl⟩
          clear hg hR hcg hfg hsg x0 x1 x2 x3 x4 x5 x6 f0 f1 f2
          obtain ⟨x0, x1, x2, x3, x4, x5, x6⟩ := HXY.out
          go_wp2_with fail
          go_loopw [5] (fun i wr => RM5Rel w Y G nm fs la lg lc i wr) (fun i _ => lg.length - (intOf i).toNat)
          case atStart => exact ⟨0, by omega, rfl, fun _ _ h => by omega, HXY, .refl _ _, HKY⟩
          case round =>
           obtain ⟨j, hj, rfl, HA, HXI, HWI, HKI⟩ := hrel
           obtain ⟨wi, rfl⟩ : ∃ v, v = wr := ⟨_, rfl⟩
           clear x0 x1 x2 x3 x4 x5 x6 HXY
           obtain ⟨x0, x1, x2, x3, x4, x5, x6⟩ := HXI.out
           by_cases hjl : j < lg.length
           ·
            have HLi := Lib.hid (HSY.out.grow HWI.out)
            obtain ⟨b2, o2, ha2, hb2⟩ := HLi.out.head hjl
            obtain rfl : la = some ⟨b2, o2, none⟩ := ha2
            obtain ⟨_, s1⟩ := HLi.out.at hjl
            have hsz := HI2.out lg[j] (List.getElem_mem hjl)
            go_wp2_with fail
            refine (rtakeE_c lg[j] hsz wi).mono ?_
            have hob : ofB lg[j] nm = (decide ((takeE lg[j].data.toList).2.2 = 0) && (decide ((takeE lg[j].data.toList).2.1 = lg[j].size) && decide ((takeE lg[j].data.toList).1.topic = nm.data.toList))) := rfl
            have HOB := Lib.hid hob
            clear hob
            generalize takeE lg[j].data.toList = q at HOB ⊢
            obtain ⟨E, kk, ee⟩ := q
            rintro e w9 ⟨a9, c9, rfl, _, _, hb9⟩
            dsimp only at HOB ⊢
            have HXJ := Lib.hid (HXI.out.grow hb9)
            have HLJ := Lib.hid (HLi.out.grow hb9)
            have HWJ := Lib.hid (bstep hb9 HWI.out)
            have HKJ := Lib.hid (bstep hb9 HKI.out)
            clear hb9 x0 x1 x2 x3 x4 x5 x6 s1
            obtain ⟨T, hT⟩ : ∃ T : ByteArray, (⟨E.topic.toArray⟩ : ByteArray) = T := ⟨_, rfl⟩
            have hTd : E.topic = T.data.toList := by rw [← hT]
            rw [hT]
            generalize (⟨E.prod.toArray⟩ : ByteArray) = P9
            generalize E.l.length = n9
            go_upto_region 11 with fail
            refine wp_genC (fun v => Hid (TBox v G nm fs (.slice (some ⟨b2, o2, none⟩) lg.length lc)) ∧ Hid (EAt v w9.heap.size T P9 E.seq (.slice a9 n9 c9)) ∧ Hid (Strs v (some ⟨b2, o2, none⟩) lg) ∧ Hid (Below Y.heap.size Y v) ∧ Hid (Below w.heap.size w v) ∧ w9.heap.size < v.heap.size) ⟨HXJ.out.grow (balloc _ (.refl _ _)), EAt.of (new_box w9 #[.string T, .string P9, .int .u64 E.seq, .slice a9 n9 c9] 63), HLJ.out.grow (balloc _ (.refl _ _)), balloc _ HWJ.out, balloc _ HKJ.out, by simp⟩ ?_
            clear HXJ HLJ HWJ HKJ HLi HXI HWI HKI hT
            rintro v ⟨HXJ, HEJ, HLJ, HWJ, HKJ, hzv⟩
            generalize w9.heap.size = B9 at HEJ hzv ⊢
            obtain ⟨x0, x1, x2, x3, x4, x5, x6⟩ := HXJ.out
            obtain ⟨e0, e1, e2, e3, e4, e5, e6, e7⟩ := HEJ.out
            obtain ⟨_, s1⟩ := HLJ.out.at hjl
            by_cases he : ee = 0
            ·
             subst he
             by_cases hkk : kk = lg[j].size
             ·
              subst hkk
              by_cases hn : T.data.toList = nm.data.toList
              ·
               have h1 : (T.toList == nm.toList) = true := strEq hn
               have h2 : (T.toList != nm.toList) = false := by unfold bne; rw [h1]; rfl
               have HA2 : Hid (∀ (i : Nat) (h : i < lg.length), i < j + 1 → ofB lg[i] nm = true) := Lib.hid (fun i h hi => by
                by_cases e : i = j
                ·
                 subst e; rw [HOB.out, hTd]; simp [hn]
                ·
                 exact HA.out i h (by omega))
               clear hTd hn HOB HA
               go_wp2_with fail
               go_roundw
               case rel => exact ⟨j + 1, by omega, by go_num, HA2, HXJ, HWJ, HKJ⟩
               case measure => simp [intOf] <;> omega
              ·
               have h1 : (T.toList == nm.toList) = false := strNe hn
               have h2 : (T.toList != nm.toList) = true := by unfold bne; rw [h1]; rfl
               have HQ : Hid (R = false) := Lib.hid (by rw [HM2.out, not_all_of hjl (by rw [HOB.out, hTd]; simp [hn])]; rfl)
               clear hTd hn HOB HA
               go_wp2_with fail
               go_ret
               exact ⟨ret_bool (by rw [HQ.out, Bool.and_false]), HKJ.out⟩
             ·
              have h1 : ((kk : Int) == (lg[j].size : Int)) = false := beq_false_of_ne (by omega)
              have h2 : ((kk : Int) != (lg[j].size : Int)) = true := by unfold bne; rw [h1]; rfl
              have HQ : Hid (R = false) := Lib.hid (by rw [HM2.out, not_all_of hjl (by rw [HOB.out]; simp [hkk])]; rfl)
              clear hTd HOB HA hkk
              go_wp2_with fail
              go_ret
              exact ⟨ret_bool (by rw [HQ.out, Bool.and_false]), HKJ.out⟩
            ·
             have h1 : ((ee : Int) == 0) = false := beq_false_of_ne (by omega)
             have h2 : ((ee : Int) != 0) = true := by unfold bne; rw [h1]; rfl
             have HQ : Hid (R = false) := Lib.hid (by rw [HM2.out, not_all_of hjl (by rw [HOB.out]; simp [he])]; rfl)
             clear hTd HOB HA he
             go_wp2_with fail
             go_ret
             exact ⟨ret_bool (by rw [HQ.out, Bool.and_false]), HKJ.out⟩
           ·
            have HM3 : Hid (R = okT (prevT (l.map TB.tp) ((m + 1) + 1)) ((l.map TB.tp).drop ((m + 1) + 1))) := Lib.hid (by rw [HM2.out, all_of (fun i h => HA.out i h (by omega))]; rfl)
            go_wp2_with fail
            go_roundw
            case rel => exact ⟨(m + 1) + 1, by omega, by go_num, HM3, HKI, HKI.out.size⟩
            case measure => simp [intOf] <;> omega
        ·
         have z2 : (100 : Int) < lg.length := by omega
         have HQ : Hid (R = false) := Lib.hid (by rw [HM.out, decide_eq_true g1, decide_eq_false g2]; rfl)
         refine Tryst2.wp_region_grows [.is (.pointer (some ⟨G, 0, none⟩)), .is (.string nm), .is (.bool true), .is (.bool false), .is (.bool false), .is (.int .i64 ((m + 1 : Nat) : Int)), .is (.bool true), .is (.bool true), .is (.slice (some ⟨b, o, none⟩) l.length c), .is (.int .i64 ((m + 1 : Nat) : Int)), .is (.int .i64 (m : Int)), .is (.pointer (some ⟨b, o + m * 3, none⟩)), .is (.pointer (some ⟨b, o + m * 3, none⟩)), .is (.string l[m].name), .is (.pointer (some ⟨G, 0, none⟩)), .is (.string nm), .is (.bool false), .is (.bool false), .is (.bool false), .is (.bool false), .is (.pointer (some ⟨G, 1, none⟩)), .is (.int .i64 fs), .is (.bool false), .is (.bool false), .is (.bool false), .is (.pointer (some ⟨G, 1, none⟩)), .is (.int .i64 fs), .is (.pointer (some ⟨G, 2, none⟩)), .is (.slice la lg.length lc), .is (.int .i64 (lg.length : Int)), .is (.int .i64 (1099511627775 - (lg.length : Int))), .is (.bool false), .is (.bool false), .is (.bool false), .is (.pointer (some ⟨G, 2, none⟩)), .is (.slice la lg.length lc), .is (.int .i64 (lg.length : Int)), .is (.bool true), .is (.bool true)] (by kernel_rfl) (by kernel_rfl) ?obl ?fin
         case obl =>
          simp only [YA, YL, YO, YR, Op.operands, Call.operands]
          repeat' apply And.intro
          any_goals trivial
          all_goals (intro tv w' hg hold hd; (try simp at hold); obtain ⟨hcg, hfg, hsg⟩ := YG hg)
          all_goals first | (go_simp; done) | (go_simp; rw [if_neg (by omega)]; exact ⟨.refl _, rfl⟩) | (obtain ⟨⟨g, hvg, hgg, hcell⟩, _⟩ := hd; have hcell0 := hcell 0 (by decide); simp at hcell0; go_simp; done) | (go_simp; go_at_call 43; (with_reducible refine (HTO.out _).mono ?_); rintro e w5 ⟨rfl, hb5⟩; exact ⟨hb5, rfl⟩) | (go_simp; exact IntWalk.i64_in _ (by omega))
         case fin =>
          intro tv w' hg hR
          simp only [YF, YL, YR] at hR
          obtain ⟨hcg, hfg, hsg⟩ := YG hg
          simp only [YP, YL, Act.put, hR]
          have HK9 := Lib.hid (Tryst2.Grow.below hg HKX.out)
          clear hg hR hcg hfg hsg
          go_wp2_with fail
          go_ret
          exact ⟨ret_bool (by rw [HQ.out, Bool.and_false]), HK9.out⟩
       ·
        have z3 : 1099511627775 - (lg.length : Int) < fs := by omega
        have HQ : Hid (R = false) := Lib.hid (by rw [HM.out, decide_eq_true g1, decide_eq_false g3]; simp)
        refine Tryst2.wp_region_grows [.is (.pointer (some ⟨G, 0, none⟩)), .is (.string nm), .is (.bool true), .is (.bool false), .is (.bool false), .is (.int .i64 ((m + 1 : Nat) : Int)), .is (.bool true), .is (.bool true), .is (.slice (some ⟨b, o, none⟩) l.length c), .is (.int .i64 ((m + 1 : Nat) : Int)), .is (.int .i64 (m : Int)), .is (.pointer (some ⟨b, o + m * 3, none⟩)), .is (.pointer (some ⟨b, o + m * 3, none⟩)), .is (.string l[m].name), .is (.pointer (some ⟨G, 0, none⟩)), .is (.string nm), .is (.bool false), .is (.bool false), .is (.bool false), .is (.bool false), .is (.pointer (some ⟨G, 1, none⟩)), .is (.int .i64 fs), .is (.bool false), .is (.bool false), .is (.bool false), .is (.pointer (some ⟨G, 1, none⟩)), .is (.int .i64 fs), .is (.pointer (some ⟨G, 2, none⟩)), .is (.slice la lg.length lc), .is (.int .i64 (lg.length : Int)), .is (.int .i64 (1099511627775 - (lg.length : Int))), .is (.bool true), .is (.bool true), .is (.bool true), .is undef, .is undef, .is undef, .is undef, .is (.bool true)] (by kernel_rfl) (by kernel_rfl) ?obl ?fin
        case obl =>
         simp only [YA, YL, YO, YR, Op.operands, Call.operands]
         repeat' apply And.intro
         any_goals trivial
         all_goals (intro tv w' hg hold hd; (try simp at hold); obtain ⟨hcg, hfg, hsg⟩ := YG hg)
         all_goals first | (go_simp; done) | (go_simp; rw [if_neg (by omega)]; exact ⟨.refl _, rfl⟩) | (obtain ⟨⟨g, hvg, hgg, hcell⟩, _⟩ := hd; have hcell0 := hcell 0 (by decide); simp at hcell0; go_simp; done) | (go_simp; go_at_call 43; (with_reducible refine (HTO.out _).mono ?_); rintro e w5 ⟨rfl, hb5⟩; exact ⟨hb5, rfl⟩) | (go_simp; exact IntWalk.i64_in _ (by omega))
        case fin =>
         intro tv w' hg hR
         simp only [YF, YL, YR] at hR
         obtain ⟨hcg, hfg, hsg⟩ := YG hg
         simp only [YP, YL, Act.put, hR]
         have HK9 := Lib.hid (Tryst2.Grow.below hg HKX.out)
         clear hg hR hcg hfg hsg
         go_wp2_with fail
         go_ret
         exact ⟨ret_bool (by rw [HQ.out, Bool.and_false]), HK9.out⟩
      ·
       have z1 : fs < 0 := by omega
       have HQ : Hid (R = false) := Lib.hid (by rw [HM.out, decide_eq_false g1]; rfl)
       refine Tryst2.wp_region_grows [.is (.pointer (some ⟨G, 0, none⟩)), .is (.string nm), .is (.bool true), .is (.bool false), .is (.bool false), .is (.int .i64 ((m + 1 : Nat) : Int)), .is (.bool true), .is (.bool true), .is (.slice (some ⟨b, o, none⟩) l.length c), .is (.int .i64 ((m + 1 : Nat) : Int)), .is (.int .i64 (m : Int)), .is (.pointer (some ⟨b, o + m * 3, none⟩)), .is (.pointer (some ⟨b, o + m * 3, none⟩)), .is (.string l[m].name), .is (.pointer (some ⟨G, 0, none⟩)), .is (.string nm), .is (.bool false), .is (.bool false), .is (.bool false), .is (.bool false), .is (.pointer (some ⟨G, 1, none⟩)), .is (.int .i64 fs), .is (.bool true), .is (.bool true), .is (.bool true), .is undef, .is undef, .is undef, .is undef, .is undef, .is undef, .is undef, .is (.bool true), .is (.bool true), .is undef, .is undef, .is undef, .is undef, .is (.bool true)] (by kernel_rfl) (by kernel_rfl) ?obl ?fin
       case obl =>
        simp only [YA, YL, YO, YR, Op.operands, Call.operands]
        repeat' apply And.intro
        any_goals trivial
        all_goals (intro tv w' hg hold hd; (try simp at hold); obtain ⟨hcg, hfg, hsg⟩ := YG hg)
        all_goals first | (go_simp; done) | (go_simp; rw [if_neg (by omega)]; exact ⟨.refl _, rfl⟩) | (obtain ⟨⟨g, hvg, hgg, hcell⟩, _⟩ := hd; have hcell0 := hcell 0 (by decide); simp at hcell0; go_simp; done) | (go_simp; go_at_call 43; (with_reducible refine (HTO.out _).mono ?_); rintro e w5 ⟨rfl, hb5⟩; exact ⟨hb5, rfl⟩) | (go_simp; exact IntWalk.i64_in _ (by omega))
       case fin =>
        intro tv w' hg hR
        simp only [YF, YL, YR] at hR
        obtain ⟨hcg, hfg, hsg⟩ := YG hg
        simp only [YP, YL, Act.put, hR]
        have HK9 := Lib.hid (Tryst2.Grow.below hg HKX.out)
        clear hg hR hcg hfg hsg
        go_wp2_with fail
        go_ret
        exact ⟨ret_bool (by rw [HQ.out, Bool.and_false]), HK9.out⟩
  ·
   have HQ2 : Hid (R = true) := Lib.hid (HP.out.trans (okT_end (by simpa using hlt)))
   by_cases h20 : l.length ≤ 20
   ·
    have y1 : (l.length : Int) ≤ 20 := by omega
    go_wp2_with fail
    go_ret
    exact ⟨ret_bool (by first | rfl | (rw [HQ2.out, Bool.and_true]; simp [h20, y1])), HW.out⟩
   ·
    have y1 : ¬ (l.length : Int) ≤ 20 := by omega
    go_wp2_with fail
    go_ret
    exact ⟨ret_bool (by first | rfl | (rw [HQ2.out, Bool.and_true]; simp [h20, y1])), HW.out⟩
end Go.Proofs.YtmlbdblnmbmnpaaGreatDoor
namespace Go.Proofs.YtmlbdblnmbmnpaaGreatDoor
open Go.RowKit Tryst
set_option maxHeartbeats 400000
set_option maxRecDepth 20000
/-- topics of the document's, and the error's number -/
def TrR (w : World) (p : List Tp × Nat) (e : Ending) (w' : World) : Prop := ∃ a c l', e = .returned (.tuple #[.slice a l'.length c, .int .i64 p.2]) ∧ l'.map TB.tp = p.1 ∧ TopsA w' a l' ∧ Below w.heap.size w w'
theorem TrR.bad {w w' : World} {k : Nat} {e : Ending} (he : e = .returned (.tuple #[.slice none 0 0, .int .i64 k])) (hb : Below w.heap.size w w') : TrR w ([], k) e w' :=
 ⟨none, 0, [], he, rfl, ⟨Row.nil _ _ _, fun t h => by cases h⟩, hb⟩
def OneS (s : ByteArray) (v : Value) (w : World) : Prop := ∃ g, v = .slice (some ⟨g, 0, none⟩) 1 1 ∧ w.heap[g]? = some (.cells #[.string s] 9 (0, 0))
theorem OneS.at {s : ByteArray} {v : Value} {w' : World} (h : ∃ w0, Tryst2.Grow w0 w' ∧ OneS s v w0) : OneS s v w' := by
 obtain ⟨w0, hg, g, h1, h2⟩ := h
 exact ⟨g, h1, (hg.block g (Array.getElem?_eq_some_iff.1 h2).1).trans h2⟩
theorem OneS.of (w : World) (s : ByteArray) : ∃ w0, Tryst2.Grow w0 (w.alloc (.cells #[.string s] 9)) ∧ OneS s (.slice (some ⟨w.heap.size, 0, none⟩) 1 1) w0 :=
 ⟨_, Tryst2.Grow.refl _, w.heap.size, rfl, by show (w.heap.push _)[w.heap.size]? = _; simp⟩
structure TrI (w v : World) (G : Nat) (nm n : ByteArray) (fs f2 : Int) (la : Option Addr) (lg : List ByteArray) (lc : Nat) (u : Value) : Prop where
 x : TBox v w.heap.size nm fs (.slice la lg.length lc)
 y : TBox v G n f2 u
 k : Below w.heap.size w v
theorem TrI.grow {w v v' : World} {G : Nat} {nm n : ByteArray} {fs f2 : Int} {la : Option Addr} {lg : List ByteArray} {lc : Nat} {u : Value} (h : TrI w v G nm n fs f2 la lg lc u) (hb : Below v.heap.size v v') : TrI w v' G nm n fs f2 la lg lc u :=
 ⟨h.x.grow hb, h.y.grow hb, bstep hb h.k⟩
theorem TBox.away_ {w : World} {b c j : Nat} {n : ByteArray} {x : Int} {u : Value} (h : TBox w b n x u) (hc : c ≠ b) (v : Value) : TBox (w.setCell ⟨c, j, none⟩ v) b n x u := by
 obtain ⟨h0, h1, h2, h3, h4, h5, h6⟩ := h
 constructor <;> simp [cell_setCell, frozen_setCell, h0, h1, h2, h3, h4, h5, h6, hc]
theorem TrI.growB {w v v' : World} {G : Nat} {nm n : ByteArray} {fs f2 : Int} {la : Option Addr} {lg : List ByteArray} {lc : Nat} {u : Value} (h : TrI w v G nm n fs f2 la lg lc u) (hw : w.heap.size < G) (hz : G + 1 ≤ v.heap.size) (hb : Below (G + 1) v v') : TrI w v' G nm n fs f2 la lg lc u :=
 ⟨h.x.growB (by omega) hz hb, h.y.growB (by omega) hz hb, h.k.trans (hb.mono (by omega))⟩
theorem TrI.put {w v : World} {G : Nat} {nm n : ByteArray} {fs f2 : Int} {la : Option Addr} {lg : List ByteArray} {lc : Nat} {u : Value} (h : TrI w v G nm n fs f2 la lg lc u) (hw : w.heap.size < G) (u' : Value) : TrI w (v.setCell ⟨G, 2, none⟩ u') G nm n fs f2 la lg lc u' :=
 ⟨TBox.away_ h.x (by omega) u', h.y.put2 u', bset _ (by show w.heap.size ≤ G; omega) h.k⟩
end Go.Proofs.YtmlbdblnmbmnpaaGreatDoor
namespace Tryst2
open Go Go.RowKit
/-- append in the drawn part of a region -/
theorem stepV_append {P : Program} {w : World} {K : Value → World → Prop} (ρ : Operand → Value) (o : Oper) (s x : Operand) (t : TypeId)
  (ho : o.op = .call { callee := .builtin .append, args := #[s, x], argTypes := #[t, t] }) {v u v' : Value} {w' : World} (hs : ρ s = v) (hx : ρ x = u)
  (hr : (Builtin.append_ #[t, t] o.type #[v, u]).run P w = .ok v' w') (h : K v' w') : stepV P K ((execOp ρ o).run P w) := by
 unfold execOp
 rw [ho]
 simp [resolve, invoke, builtin, hs, hx, hr, Result.andThen]
 exact h
end Tryst2
namespace Go.Proofs.YtmlbdblnmbmnpaaGreatDoor
open Go.RowKit Tryst
set_option maxHeartbeats 400000
set_option maxRecDepth 20000
/-- a slice of texts, in a block from base on -/
def OwnS (base : Nat) (l : List ByteArray) (v : Value) (w : World) : Prop := ROwn 9 1 w base v (sV l)
theorem OwnS.at {base : Nat} {l : List ByteArray} {v : Value} {w' : World} (h : ∃ w0, Tryst2.Grow w0 w' ∧ OwnS base l v w0) : OwnS base l v w' := by
 obtain ⟨w0, hg, h⟩ := h
 exact ROwn.grow h hg
def EmpS (base : Nat) (v : Value) (w : World) : Prop := ∃ g, v = .slice (some ⟨g, 0, none⟩) 0 0 ∧ ROwn 9 1 w base (.slice (some ⟨g, 0, none⟩) 0 0) []
theorem EmpS.at {base : Nat} {v : Value} {w' : World} (h : ∃ w0, Tryst2.Grow w0 w' ∧ EmpS base v w0) : EmpS base v w' := by
 obtain ⟨w0, hg, g, h1, h2⟩ := h
 exact ⟨g, h1, h2.grow hg⟩
theorem EmpS.of (base : Nat) (w : World) (h : base ≤ w.heap.size) : ∃ w0, Tryst2.Grow w0 (w.alloc (.cells #[] 9)) ∧ EmpS base (.slice (some ⟨w.heap.size, 0, none⟩) 0 0) w0 :=
 ⟨_, Tryst2.Grow.refl _, w.heap.size, rfl, ROwn.empty _ _ _ _ h⟩
theorem OwnS.copy (base g : Nat) (la : Option Addr) (lg : List ByteArray) (lc : Nat) (w : World) (hb : base ≤ w.heap.size) (hg : ROwn 9 1 w base (.slice (some ⟨g, 0, none⟩) 0 0) []) (hl : lg.length ≤ 1000000) (hS : Strs w la lg) (ty : TypeId) :
  ∃ v' w', (Builtin.append_ #[22, 22] ty #[.slice (some ⟨g, 0, none⟩) 0 0, .slice la lg.length lc]).run Tryz.prog w = .ok v' w' ∧ Tryst2.Grow w w' ∧ ∃ w0, Tryst2.Grow w0 w' ∧ OwnS base lg v' w0 := by
 obtain ⟨ii, z, hii, hz, h2, h3, h4⟩ := strT.info
 by_cases h0 : lg = []
 ·
  subst h0
  refine ⟨_, _, run_append_nothing (P := Tryz.prog) w 22 22 ty 9 ii strT.und hii (some ⟨g, 0, none⟩) 0 0 (Nat.le_refl _) _ ?_, Tryst2.Grow.refl _, w, Tryst2.Grow.refl _, hg⟩
  cases la with
  | none => exact Src.ofNil w strT.und lc
  | some ad => exact Src.ofSlice w strT.und ad 0 lc [] (by simp) (fun j u hj => by simp at hj) (fun u hu => by cases hu)
 ·
  cases la with
  | none =>
   obtain ⟨_, _, h, _⟩ := hS.head (List.length_pos_iff.2 h0)
   cases h
  | some ad =>
   have hpos : 0 < lg.length := List.length_pos_iff.2 h0
   obtain ⟨b2, o2, ha2, _⟩ := hS.head hpos
   obtain rfl : ad = ⟨b2, o2, none⟩ := by simpa using ha2
   obtain ⟨v', w', hr, ho, hg2⟩ := run_append_arg_grows (P := Tryz.prog) (w := w) 22 ty 9 ii z 1 16 strT.und hii hz h2 h3 h4 strT.pos ⟨g, 0, none⟩ 0 0 [] (by simp) (fun j u hj => by simp at hj) ⟨b2, o2, none⟩ lg.length lc (lg.map Value.string) (by simp) (fun j u hj => by
    have hjl : j < lg.length := by have := (List.getElem?_eq_some_iff.1 hj).1; simpa using this
    rw [List.getElem?_map, List.getElem?_eq_getElem hjl] at hj
    rw [Addr.add_lit, (hS.at hjl).2]
    exact hj) (by omega) (by unfold maxLen; omega) (by omega)
   have hgr : Tryst2.Grow w w' := (Below.refl _ _).grown hg2 (Nat.le_refl _) (fun k hk => by cases hk)
   refine ⟨v', w', hr, hgr, w', Tryst2.Grow.refl _, ?_⟩
   have hso : SOwn 9 w' w.heap.size v' lg := by
    unfold SOwn
    simpa using ho
   exact ROwn.lower (SOwn.rows.1 hso) hb
def ApR (w : World) (p : List Tp × Int × Nat) (e : Ending) (w' : World) : Prop := ∃ a c l', e = .returned (.tuple #[.slice a l'.length c, .int .i64 p.2.1, .int .i64 p.2.2]) ∧ l'.map TB.tp = p.1 ∧ TopsA w' a l' ∧ Below w.heap.size w w'
theorem ApR.bad {w w' : World} {k : Nat} {e : Ending} (he : e = .returned (.tuple #[.slice none 0 0, .int .i64 0, .int .i64 k])) (hb : Below w.heap.size w w') : ApR w ([], 0, k) e w' :=
 ⟨none, 0, [], he, rfl, ⟨Row.nil _ _ _, fun t h => by cases h⟩, hb⟩
set_option maxHeartbeats 4000000 in
theorem rappend12_c (a : Option Addr) (c : Nat) (l : List TB) (hl : l.length ≤ 1000000) (hI : TIn l) (hN : ∀ t ∈ l, t.name.size ≤ 1000000) (tt pp : ByteArray) (q : Int) (ae : Option Addr) (le : List FB) (ce : Nat) (ht : tt.size ≤ 1000000) (hp : pp.size ≤ 1000000) (h0 : 0 ≤ q) (h4 : q ≤ 18446744073709551615) (hlE : le.length ≤ 1000000000) (hO : FOk le) (hO2 : ∀ f ∈ le, f.name.size ≤ 1000000) (w : World) (hF : TopsA w a l) (hE : Flds w ae le) :
  Calls Tryz.prog 48 #[.slice a l.length c, .agg #[.string tt, .string pp, .int .u64 q, .slice ae le.length ce]] w fun e w' => ApR w (appP (l.map TB.tp) (evMay tt pp q le) tt ⟨(evE tt pp q le).lay.toArray⟩) e w' := by
 have HC := Lib.hid (fun (W : World) (hF : TopsA W a l) => rmay12_c a c l (by omega) hI hN W hF)
 have HMAY := Lib.hid (fun (W : World) (hE : Flds W ae le) => rmayE_c tt pp q ae ce le hlE ht hp (fun f hf => ⟨hO2 f hf, (hO f hf).2.1⟩) W hE h0 h4)
 have HFN := Lib.hid (fun (W : World) (hF : TopsA W a l) => rfind12_c tt a c l (by omega) W hF)
 have HF := Lib.hid hF
 have HE := Lib.hid hE
 obtain ⟨p, hp2⟩ : ∃ p, appP (l.map TB.tp) (evMay tt pp q le) tt ⟨(evE tt pp q le).lay.toArray⟩ = p := ⟨_, rfl⟩
 rw [hp2]
 have HP := Lib.hid hp2
 clear hF hE hp2
 go_enter Tryz.func48, Tryz.ntmps48
 go_upto_region 1 with fail
 refine wp_genC (fun v => Hid (EAt v w.heap.size tt pp q (.slice ae le.length ce)) ∧ Hid (TopsA v a l) ∧ Hid (Flds v ae le) ∧ Hid (Below w.heap.size w v) ∧ w.heap.size < v.heap.size) ⟨EAt.of (new_box w #[.string tt, .string pp, .int .u64 q, .slice ae le.length ce] 63), HF.out.grow (balloc _ (.refl _ _)), HE.out.grow (balloc _ (.refl _ _)), balloc _ (.refl _ _), by simp⟩ ?_
 have HFW := HF
 have HEW := HE
 clear HF HE
 rintro w0 ⟨HX0, HF0, HE0, HB0, hz0⟩
 go_wp2_with fail
 refine (HC.out w0 HF0.out).mono ?_
 rintro e w1 ⟨rfl, hb1⟩
 have HX1 := Lib.hid (HX0.out.grow hz0 hb1)
 have HF1 := Lib.hid (HF0.out.grow hb1)
 have HE1 := Lib.hid (HE0.out.grow hb1)
 have HB1 := Lib.hid (bstep hb1 HB0.out)
 have hz1 : w.heap.size < w1.heap.size := Nat.lt_of_lt_of_le hz0 hb1.size
 clear hb1 HX0 HF0 HE0 HB0 hz0 HC
 obtain ⟨x0, x1, x2, x3, x4, x5, x6, x7⟩ := HX1.out
 cases hm : topsMay (l.map TB.tp) with
 | false =>
  obtain rfl : p = ([], 0, 1) := HP.out.symm.trans (by unfold appP; rw [hm, if_neg (by simp)])
  clear hm HP
  go_wp2_with fail
  go_ret3
  exact ApR.bad rfl HB1.out
 | true =>
  have HTM := Lib.hid hm
  clear hm
  go_wp2_with fail
  refine (HMAY.out w1 HE1.out).mono ?_
  rintro e w2 ⟨rfl, hb2⟩
  have HX2 := Lib.hid (HX1.out.grow hz1 hb2)
  have HF2 := Lib.hid (HF1.out.grow hb2)
  have HE2 := Lib.hid (HE1.out.grow hb2)
  have HB2 := Lib.hid (bstep hb2 HB1.out)
  have hz2 : w.heap.size < w2.heap.size := Nat.lt_of_lt_of_le hz1 hb2.size
  clear hb2 HX1 HF1 HE1 HB1 hz1 x0 x1 x2 x3 x4 x5 x6 x7
  obtain ⟨x0, x1, x2, x3, x4, x5, x6, x7⟩ := HX2.out
  cases hmy : evMay tt pp q le with
  | false =>
   obtain rfl : p = ([], 0, 1) := HP.out.symm.trans (by unfold appP; rw [hmy, if_neg (by simp)])
   clear hmy HP
   go_wp2_with fail
   go_ret3
   exact ApR.bad rfl HB2.out
  | true =>
   have hev : (evE tt pp q le).may = true := (evMay_eq tt pp q le h0).symm.trans hmy
   have HLAY := Lib.hid (fun (W : World) (hE : Flds W ae le) => rlayE_c tt pp q ae ce le hlE (by omega) (by omega) hO W hE h0 h4 hev)
   generalize (⟨(evE tt pp q le).lay.toArray⟩ : ByteArray) = S at HLAY HP
   have HP2 : Hid (appP (l.map TB.tp) true tt S = p) := Lib.hid (by rw [← hmy]; exact HP.out)
   have hG : Hid (okT none (l.map TB.tp) = true) := Lib.hid (by
    have h := HTM.out
    unfold topsMay at h
    rw [Bool.and_eq_true] at h
    exact h.2)
   clear hmy hev HP HMAY
   go_upto_region 4 with fail
   refine wp_genC (fun v => Hid (TBox v w2.heap.size tt 0 (.slice none 0 0)) ∧ Hid (EAt v w.heap.size tt pp q (.slice ae le.length ce)) ∧ Hid (TopsA v a l) ∧ Hid (Flds v ae le) ∧ Hid (Below w.heap.size w v) ∧ w2.heap.size < v.heap.size) ⟨TBox.new w2 tt 0 (.slice none 0 0) 57, HX2.out.grow hz2 (balloc _ (.refl _ _)), HF2.out.grow (balloc _ (.refl _ _)), HE2.out.grow (balloc _ (.refl _ _)), balloc _ HB2.out, by simp⟩ ?_
   clear HX2 HF2 HE2 HB2 x0 x1 x2 x3 x4 x5 x6 x7
   rintro w3 ⟨HY3, HX3, HF3, HE3, HB3, hz3⟩
   generalize w2.heap.size = G at HY3 hz3 hz2 ⊢
   obtain ⟨x0, x1, x2, x3, x4, x5, x6, x7⟩ := HX3.out
   have hwz3 : w.heap.size < w3.heap.size := by omega
   go_wp2_with fail
   refine (HFN.out w3 HF3.out).mono ?_
   rintro e w4 ⟨rfl, hb4⟩
   have HY4 := Lib.hid (HY3.out.grow hb4)
   have HX4 := Lib.hid (HX3.out.grow hwz3 hb4)
   have HF4 := Lib.hid (HF3.out.grow hb4)
   have HE4 := Lib.hid (HE3.out.grow hb4)
   have HB4 := Lib.hid (bstep hb4 HB3.out)
   have hz4 : G < w4.heap.size := Nat.lt_of_lt_of_le hz3 hb4.size
   have hwz4 : w.heap.size < w4.heap.size := by omega
   clear hb4 HY3 HX3 HF3 HE3 HB3 hz3 hwz3 x0 x1 x2 x3 x4 x5 x6 x7 HFN
   obtain ⟨x0, x1, x2, x3, x4, x5, x6, x7⟩ := HX4.out
   obtain ⟨z0, z1, z2, z3, z4, z5, z6⟩ := HY4.out
   unfold findR
   cases hf : findT (l.map TB.tp) tt with
   | none =>
    by_cases h20 : 20 ≤ l.length
    ·
     obtain rfl : p = ([], 0, 6) := HP2.out.symm.trans (by unfold appP; rw [if_pos ⟨HTM.out, rfl⟩, hf]; simp only [List.length_map]; rw [if_pos h20])
     have y1 : (20 : Int) ≤ l.length := by omega
     clear hf HP2
     go_wp2_with fail
     go_ret3
     exact ApR.bad rfl HB4.out
    ·
     have y1 : ¬ (20 : Int) ≤ l.length := by omega
     obtain rfl : p = (withT (l.map TB.tp) ⟨tt, 0, [] ++ [S]⟩, 0, 0) := HP2.out.symm.trans (by
      unfold appP
      rw [if_pos ⟨HTM.out, rfl⟩, hf]
      simp only [List.length_map]
      rw [if_neg h20, withT_ins hG.out ⟨tt, 0, [] ++ [S]⟩ (findT_none hf)]
      rfl)
     clear hf HP2
     have HLL : Hid (([] : List ByteArray).length ≤ 1000000) := Lib.hid (by simp)
     have HS4 : Hid (Strs w4 none []) := Lib.hid (Strs.nil _ _)
     have y9 : IntKind.i64.wrap ((0 : Int) + ((([] : List ByteArray).length : Nat) : Int)) = 0 := by decide
     go_upto_region 10 with fail
     refine wp_genC (fun v => Hid (TBox v G tt (0) (.slice (none) (([] : List ByteArray)).length (0))) ∧ Hid (EAt v w.heap.size tt pp q (.slice ae le.length ce)) ∧ Hid (TopsA v a l) ∧ Hid (Strs v (none) (([] : List ByteArray))) ∧ Hid (Flds v ae le) ∧ Hid (Below w.heap.size w v) ∧ w.heap.size < v.heap.size) ⟨HY4, HX4, HF4, HS4, HE4, HB4, hwz4⟩ ?_
     clear HX4 HF4 HE4 HB4 HY4 HS4 x0 x1 x2 x3 x4 x5 x6 x7 z0 z1 z2 z3 z4 z5 z6
     rintro X ⟨HY5, HX5, HF5, HS5, HE5, HB5, hwz5⟩
     obtain ⟨x0, x1, x2, x3, x4, x5, x6, x7⟩ := HX5.out
     obtain ⟨z0, z1, z2, z3, z4, z5, z6⟩ := HY5.out
     refine Tryst2.wp_region_grows [.any (EmpS X.heap.size), .is (.pointer (some ⟨G, 2, none⟩)), .is (.slice (none) (([] : List ByteArray)).length (0)), .any (OwnS X.heap.size (([] : List ByteArray))), .is (.agg #[.string tt, .string pp, .int .u64 q, .slice ae le.length ce]), .is (.string S), .any (OneS S)] (by kernel_rfl) (by kernel_rfl) ?obl ?fin
     case obl =>
      simp only [YA, YL, YO, YR, Op.operands, Call.operands]
      repeat' apply And.intro
      any_goals trivial
      all_goals (intro tv w' hg hold hd; (try simp at hold); obtain ⟨hcg, hfg, hsg⟩ := YG hg)
      all_goals first | (go_simp; done) | (go_simp; rw [if_neg (by omega)]; exact ⟨.refl _, rfl⟩) | (obtain ⟨⟨g, hvg, hgg, hcell⟩, _⟩ := hd; have hcell0 := hcell 0 (by decide); simp at hcell0; go_simp; done) | (go_simp; exact EmpS.of _ _ (by omega)) | (go_simp; exact OneS.of _ _) | (go_simp; go_at_call 86; (with_reducible refine (HLAY.out _ ?_).mono ?_); (exact HE5.out.grow (Tryst2.Grow.below hg (.refl X.heap.size X))); rintro e w5 ⟨rfl, hb5⟩; exact ⟨hb5, rfl⟩) | (obtain ⟨h1, h2, _⟩ := hd; obtain ⟨g, eg, hgo⟩ := EmpS.at h1; obtain ⟨v', w'', hr, hgr, hov⟩ := OwnS.copy X.heap.size g (none) (([] : List ByteArray)) (0) w' (by omega) hgo HLL.out (HS5.out.grow (Tryst2.Grow.below hg (.refl X.heap.size X))) 22; exact Tryst2.stepV_append _ _ _ _ 22 rfl eg h2 hr ⟨hgr, hov⟩)
     case fin =>
      intro tv w' hg hR
      simp only [YF, YL, YR] at hR
      obtain ⟨hcg, hfg, hsg⟩ := YG hg
      simp only [YP, YL, Act.put, hR]
      have h60 := OwnS.at hR.2.2.2.1
      obtain ⟨g9, e9, h9⟩ := OneS.at hR.2.2.2.2.2.2.1
      simp only [e9]
      have hbw := Tryst2.Grow.below hg (.refl X.heap.size X)
      have HY6 := Lib.hid (HY5.out.grow hbw)
      have HF6 := Lib.hid (HF5.out.grow hbw)
      have HB6 := Lib.hid (bstep hbw HB5.out)
      have hX6 : X.heap.size ≤ w'.heap.size := hbw.size
      have hGX : G < X.heap.size := HY5.out.hz
      have hwX : w.heap.size ≤ X.heap.size := by omega
      generalize tv 60 = u60 at h60 ⊢
      have H60 := Lib.hid h60
      clear hg hR hcg hfg hsg hbw h60 e9 x0 x1 x2 x3 x4 x5 x6 x7 z0 z1 z2 z3 z4 z5 z6 HY5 HX5 HF5 HS5 HE5 HB5
      have HLN : Hid ((sV (([] : List ByteArray))).length = (([] : List ByteArray)).length) := Lib.hid (by unfold sV; exact List.length_map ..)
      refine wpList_appR strT rfl (.tmp 60) (.tmp 63) rfl X.heap.size u60 (sV (([] : List ByteArray))) (([] : List ByteArray)).length HLN.out rfl H60.out [.string S] rfl (by simp [Value.oneCell']) g9 rfl (by intro j hj; obtain rfl : j = 0 := (by omega); simp [World.cell?, h9]) (by have := HLL.out; omega) hX6 ?_
      intro v' w3 ho3 hb3 _
      have ho4 : ROwn 9 1 w3 X.heap.size v' (sV ((([] : List ByteArray)) ++ [S])) := by
       unfold sV
       rw [List.map_append]
       exact ho3
      obtain ⟨a3, c3, hv3, _⟩ := ROwn.row ho4 (fun x hx => by obtain ⟨s, _, rfl⟩ := List.mem_map.1 hx; rfl) (by decide)
      have hln : (sV ((([] : List ByteArray)) ++ [S])).length = ((([] : List ByteArray)) ++ [S]).length := by unfold sV; rw [List.length_map]
      rw [hln] at hv3
      have hY3 := HY6.out.growB hGX hX6 hb3
      have HY7 := Lib.hid (hY3.put2 (.slice a3 ((([] : List ByteArray)) ++ [S]).length c3))
      have HO7 := Lib.hid (ho4.below (b := G) (o := 2) hGX (.slice a3 ((([] : List ByteArray)) ++ [S]).length c3))
      have HB7 := Lib.hid (bset (p := ⟨G, 2, none⟩) (.slice a3 ((([] : List ByteArray)) ++ [S]).length c3) (by show w.heap.size ≤ G; omega) (HB6.out.trans (hb3.mono hwX)))
      have HF7 := Lib.hid (HFW.out.grow HB7.out)
      generalize hL7 : (([] : List ByteArray)) ++ [S] = L7 at hv3 HY7 HO7 HB7 HF7
      have HL7 := Lib.hid hL7
      rw [hv3] at HO7
      subst hv3
      clear ho3 ho4 hb3 hln h9 hL7
      obtain ⟨z0, z1, z2, z3, z4, z5, z6⟩ := hY3
      go_upto_region 11 with fail
      refine wp_genC (fun v => Hid (TBox v G tt (0) (.slice a3 L7.length c3)) ∧ Hid (ROwn 9 1 v X.heap.size (.slice a3 L7.length c3) (sV L7)) ∧ Hid (TopsA v a l) ∧ Hid (Below w.heap.size w v)) ⟨HY7, HO7, HF7, HB7⟩ ?_
      clear HY7 HO7 HF7 HB7 z0 z1 z2 z3 z4 z5 z6
      rintro w8 ⟨HY8, HO8, HF8, HB8⟩
      obtain ⟨z0, z1, z2, z3, z4, z5, z6⟩ := HY8.out
      go_wp2_with fail
      refine (rwith12_c a c l hl tt (0) a3 L7 c3 w8 HF8.out).mono ?_
      rintro e w9 ⟨a9, c9, rfl, hrow, _, hb9⟩
      have HRW := Lib.hid hrow
      have HB9 := Lib.hid hb9
      clear hrow hb9
      have HMP : Hid ((withB l ⟨tt, 0, a3, L7, c3⟩).map TB.tp = withT (l.map TB.tp) ⟨tt, 0, (([] : List ByteArray)) ++ [S]⟩) := Lib.hid (by rw [withB_tp, HL7.out]; rfl)
      go_wp2_with fail
      go_ret3
      refine ⟨a9, c9, withB l ⟨tt, 0, a3, L7, c3⟩, rfl, HMP.out, ⟨HRW.out, fun t ht => ?_⟩, bstep HB9.out HB8.out⟩
      rcases withB_mem ht with rfl | ht
      ·
       exact (rows_strs HO8.out).1.grow HB9.out
      ·
       exact (HF8.out.2 t ht).grow HB9.out
   | some i =>
    obtain ⟨hi, hn, htm⟩ := find_at HTM.out hf
    obtain ⟨q1, q2, q3, _⟩ := tmay_parts htm
    have HP3 : Hid ((if 100 ≤ l[i].log.length ∨ 1099511627775 ≤ l[i].first + (l[i].log.length : Int) then (([] : List Tp), (0 : Int), 6) else ((l.map TB.tp).set i ⟨l[i].name, l[i].first, l[i].log ++ [S]⟩, l[i].first + (l[i].log.length : Int), 0)) = p) := Lib.hid (by
     refine Eq.trans (Eq.symm ?_) HP2.out
     unfold appP
     rw [if_pos ⟨HTM.out, rfl⟩, hf]
     show (match (l.map TB.tp)[i]? with | none => (([] : List Tp), (0 : Int), 6) | some t => _) = _
     rw [List.getElem?_map, List.getElem?_eq_getElem hi]
     rfl)
    have HWS : Hid (∀ t : Tp, t.name = tt → withT (l.map TB.tp) t = (l.map TB.tp).set i t) := Lib.hid (fun t htn => withT_set hG.out t (by simpa using hi) (by rw [List.getElem_map, htn]; exact hn))
    have HS0 := Lib.hid (HFW.out.2 l[i] (List.getElem_mem hi))
    obtain ⟨b, o, ha, hb⟩ := HF4.out.head hi
    obtain rfl : a = some ⟨b, o, none⟩ := ha
    obtain ⟨_, ⟨f0, f1, f2⟩, hS⟩ := HF4.out.at hi
    obtain ⟨nm, fs, la, lg, lc, hlk⟩ : ∃ nm fs la lg lc, l[i] = (⟨nm, fs, la, lg, lc⟩ : TB) := ⟨_, _, _, _, _, rfl⟩
    rw [hlk] at f0 f1 f2 HS0 HP3 q1 q2 q3 hn
    dsimp only at f0 f1 f2 HS0 HP3 q1 q2 q3 hn
    subst hn
    clear hf HP2 htm hlk hS
    have y0 : (i : Int) < l.length := by omega
    have y9 : IntKind.i64.wrap (fs + (lg.length : Int)) = fs + (lg.length : Int) := IntWalk.i64_in _ (by omega)
    go_upto_region 7 with fail
    have hB' := bset (p := ⟨G, 2, none⟩) (.slice la lg.length lc) (by show w.heap.size ≤ G; omega) (bset (p := ⟨G, 1, none⟩) (.int .i64 fs) (by show w.heap.size ≤ G; omega) (bset (p := ⟨G, 0, none⟩) (.string nm) (by show w.heap.size ≤ G; omega) HB4.out))
    refine wp_genC (fun v => Hid (TBox v G nm fs (.slice la lg.length lc)) ∧ Hid (EAt v w.heap.size nm pp q (.slice ae le.length ce)) ∧ Hid (Below w.heap.size w v) ∧ w.heap.size < v.heap.size) ⟨?_, ((HX4.out.away (by omega)).away (by omega)).away (by omega), hB', by simp; omega⟩ ?_
    ·
     show TBox _ _ _ _ _
     constructor <;> simp [cell_setCell, frozen_setCell, z0, z1, z2, z3, z4, z5, z6]
    clear HX4 HF4 HE4 HB4 HY4 x0 x1 x2 x3 x4 x5 x6 x7 z0 z1 z2 z3 z4 z5 z6 f0 f1 f2 hB' hwz4 hz4 hb
    rintro w5 ⟨HY4, HX4, HB4, hwz4⟩
    have HS4 := Lib.hid (HS0.out.grow HB4.out)
    have HE4 := Lib.hid (HEW.out.grow HB4.out)
    have HF4 := Lib.hid (HFW.out.grow HB4.out)
    obtain ⟨x0, x1, x2, x3, x4, x5, x6, x7⟩ := HX4.out
    obtain ⟨z0, z1, z2, z3, z4, z5, z6⟩ := HY4.out
    by_cases g1 : 100 ≤ lg.length
    ·
     obtain rfl : p = ([], 0, 6) := HP3.out.symm.trans (by rw [if_pos (.inl g1)])
     have y2 : (100 : Int) ≤ lg.length := by omega
     go_wp2_with fail
     go_ret3
     exact ApR.bad rfl HB4.out
    ·
     have y2 : ¬ (100 : Int) ≤ lg.length := by omega
     by_cases g2 : 1099511627775 ≤ fs + (lg.length : Int)
     ·
      obtain rfl : p = ([], 0, 6) := HP3.out.symm.trans (by rw [if_pos (.inr g2)])
      go_wp2_with fail
      go_ret3
      exact ApR.bad rfl HB4.out
     ·
      obtain rfl : p = (withT (l.map TB.tp) ⟨nm, fs, lg ++ [S]⟩, fs + (lg.length : Int), 0) := HP3.out.symm.trans (by rw [if_neg (by omega), HWS.out ⟨nm, fs, lg ++ [S]⟩ rfl])
      have HLL : Hid (lg.length ≤ 1000000) := Lib.hid (by omega)
      clear HP3
      go_upto_region 10 with fail
      refine wp_genC (fun v => Hid (TBox v G nm (fs) (.slice (la) (lg).length (lc))) ∧ Hid (EAt v w.heap.size nm pp q (.slice ae le.length ce)) ∧ Hid (TopsA v (some ⟨b, o, none⟩) l) ∧ Hid (Strs v (la) (lg)) ∧ Hid (Flds v ae le) ∧ Hid (Below w.heap.size w v) ∧ w.heap.size < v.heap.size) ⟨HY4, HX4, HF4, HS4, HE4, HB4, hwz4⟩ ?_
      clear HX4 HF4 HE4 HB4 HY4 HS4 x0 x1 x2 x3 x4 x5 x6 x7 z0 z1 z2 z3 z4 z5 z6
      rintro X ⟨HY5, HX5, HF5, HS5, HE5, HB5, hwz5⟩
      obtain ⟨x0, x1, x2, x3, x4, x5, x6, x7⟩ := HX5.out
      obtain ⟨z0, z1, z2, z3, z4, z5, z6⟩ := HY5.out
      refine Tryst2.wp_region_grows [.any (EmpS X.heap.size), .is (.pointer (some ⟨G, 2, none⟩)), .is (.slice (la) (lg).length (lc)), .any (OwnS X.heap.size (lg)), .is (.agg #[.string nm, .string pp, .int .u64 q, .slice ae le.length ce]), .is (.string S), .any (OneS S)] (by kernel_rfl) (by kernel_rfl) ?obl ?fin
      case obl =>
       simp only [YA, YL, YO, YR, Op.operands, Call.operands]
       repeat' apply And.intro
       any_goals trivial
       all_goals (intro tv w' hg hold hd; (try simp at hold); obtain ⟨hcg, hfg, hsg⟩ := YG hg)
       all_goals first | (go_simp; done) | (go_simp; rw [if_neg (by omega)]; exact ⟨.refl _, rfl⟩) | (obtain ⟨⟨g, hvg, hgg, hcell⟩, _⟩ := hd; have hcell0 := hcell 0 (by decide); simp at hcell0; go_simp; done) | (go_simp; exact EmpS.of _ _ (by omega)) | (go_simp; exact OneS.of _ _) | (go_simp; go_at_call 86; (with_reducible refine (HLAY.out _ ?_).mono ?_); (exact HE5.out.grow (Tryst2.Grow.below hg (.refl X.heap.size X))); rintro e w5 ⟨rfl, hb5⟩; exact ⟨hb5, rfl⟩) | (obtain ⟨h1, h2, _⟩ := hd; obtain ⟨g, eg, hgo⟩ := EmpS.at h1; obtain ⟨v', w'', hr, hgr, hov⟩ := OwnS.copy X.heap.size g (la) (lg) (lc) w' (by omega) hgo HLL.out (HS5.out.grow (Tryst2.Grow.below hg (.refl X.heap.size X))) 22; exact Tryst2.stepV_append _ _ _ _ 22 rfl eg h2 hr ⟨hgr, hov⟩)
      case fin =>
       intro tv w' hg hR
       simp only [YF, YL, YR] at hR
       obtain ⟨hcg, hfg, hsg⟩ := YG hg
       simp only [YP, YL, Act.put, hR]
       have h60 := OwnS.at hR.2.2.2.1
       obtain ⟨g9, e9, h9⟩ := OneS.at hR.2.2.2.2.2.2.1
       simp only [e9]
       have hbw := Tryst2.Grow.below hg (.refl X.heap.size X)
       have HY6 := Lib.hid (HY5.out.grow hbw)
       have HF6 := Lib.hid (HF5.out.grow hbw)
       have HB6 := Lib.hid (bstep hbw HB5.out)
       have hX6 : X.heap.size ≤ w'.heap.size := hbw.size
       have hGX : G < X.heap.size := HY5.out.hz
       have hwX : w.heap.size ≤ X.heap.size := by omega
       generalize tv 60 = u60 at h60 ⊢
       have H60 := Lib.hid h60
       clear hg hR hcg hfg hsg hbw h60 e9 x0 x1 x2 x3 x4 x5 x6 x7 z0 z1 z2 z3 z4 z5 z6 HY5 HX5 HF5 HS5 HE5 HB5
       have HLN : Hid ((sV (lg)).length = (lg).length) := Lib.hid (by unfold sV; exact List.length_map ..)
       refine wpList_appR strT rfl (.tmp 60) (.tmp 63) rfl X.heap.size u60 (sV (lg)) (lg).length HLN.out rfl H60.out [.string S] rfl (by simp [Value.oneCell']) g9 rfl (by intro j hj; obtain rfl : j = 0 := (by omega); simp [World.cell?, h9]) (by have := HLL.out; omega) hX6 ?_
       intro v' w3 ho3 hb3 _
       have ho4 : ROwn 9 1 w3 X.heap.size v' (sV ((lg) ++ [S])) := by
        unfold sV
        rw [List.map_append]
        exact ho3
       obtain ⟨a3, c3, hv3, _⟩ := ROwn.row ho4 (fun x hx => by obtain ⟨s, _, rfl⟩ := List.mem_map.1 hx; rfl) (by decide)
       have hln : (sV ((lg) ++ [S])).length = ((lg) ++ [S]).length := by unfold sV; rw [List.length_map]
       rw [hln] at hv3
       have hY3 := HY6.out.growB hGX hX6 hb3
       have HY7 := Lib.hid (hY3.put2 (.slice a3 ((lg) ++ [S]).length c3))
       have HO7 := Lib.hid (ho4.below (b := G) (o := 2) hGX (.slice a3 ((lg) ++ [S]).length c3))
       have HB7 := Lib.hid (bset (p := ⟨G, 2, none⟩) (.slice a3 ((lg) ++ [S]).length c3) (by show w.heap.size ≤ G; omega) (HB6.out.trans (hb3.mono hwX)))
       have HF7 := Lib.hid (HFW.out.grow HB7.out)
       generalize hL7 : (lg) ++ [S] = L7 at hv3 HY7 HO7 HB7 HF7
       have HL7 := Lib.hid hL7
       rw [hv3] at HO7
       subst hv3
       clear ho3 ho4 hb3 hln h9 hL7
       obtain ⟨z0, z1, z2, z3, z4, z5, z6⟩ := hY3
       go_upto_region 11 with fail
       refine wp_genC (fun v => Hid (TBox v G nm (fs) (.slice a3 L7.length c3)) ∧ Hid (ROwn 9 1 v X.heap.size (.slice a3 L7.length c3) (sV L7)) ∧ Hid (TopsA v (some ⟨b, o, none⟩) l) ∧ Hid (Below w.heap.size w v)) ⟨HY7, HO7, HF7, HB7⟩ ?_
       clear HY7 HO7 HF7 HB7 z0 z1 z2 z3 z4 z5 z6
       rintro w8 ⟨HY8, HO8, HF8, HB8⟩
       obtain ⟨z0, z1, z2, z3, z4, z5, z6⟩ := HY8.out
       go_wp2_with fail
       refine (rwith12_c (some ⟨b, o, none⟩) c l hl nm (fs) a3 L7 c3 w8 HF8.out).mono ?_
       rintro e w9 ⟨a9, c9, rfl, hrow, _, hb9⟩
       have HRW := Lib.hid hrow
       have HB9 := Lib.hid hb9
       clear hrow hb9
       have HMP : Hid ((withB l ⟨nm, fs, a3, L7, c3⟩).map TB.tp = withT (l.map TB.tp) ⟨nm, fs, (lg) ++ [S]⟩) := Lib.hid (by rw [withB_tp, HL7.out]; rfl)
       go_wp2_with fail
       go_ret3
       refine ⟨a9, c9, withB l ⟨nm, fs, a3, L7, c3⟩, rfl, HMP.out, ⟨HRW.out, fun t ht => ?_⟩, bstep HB9.out HB8.out⟩
       rcases withB_mem ht with rfl | ht
       ·
        exact (rows_strs HO8.out).1.grow HB9.out
       ·
        exact (HF8.out.2 t ht).grow HB9.out
end Go.Proofs.YtmlbdblnmbmnpaaGreatDoor
