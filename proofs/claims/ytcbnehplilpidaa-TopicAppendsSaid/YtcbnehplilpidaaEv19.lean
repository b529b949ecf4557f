/- The walk of ref04.May. -/
import Derived.Test.YtcbnehplilpidaaProg
import Derived.WalkKit
import Derived.WalkSpells
import Derived.WalkLawsBesides
import Derived.Lib.Hide
import Derived.Deep.RegionWith
import Derived.Deep.Cut
import Derived.Test.YtcbnehplilpidaaNmB
import Derived.Test.YtcbnehplilpidaaEvM
set_option linter.unusedVariables false
set_option linter.unusedSimpArgs false
namespace Go.Proofs.Ytcbnehplilpidaa
open Go.RowKit Tryst
set_option maxHeartbeats 400000
set_option maxRecDepth 20000
def RMayRel (w W : World) (l : List FB) (i : Value) (wr : World) : Prop := ∃ k : Nat, k ≤ l.length ∧ i = .int .i64 k ∧ Hid (okF none (l.map FB.fld) = okF (prevN l k) ((l.drop k).map FB.fld)) ∧ Hid (Below W.heap.size W wr) ∧ W.heap.size ≤ wr.heap.size
set_option maxHeartbeats 4000000 in
theorem rmayE_c (t p : ByteArray) (q : Int) (a : Option Addr) (c : Nat) (l : List FB) (hl : l.length ≤ 1000000000) (ht : t.size ≤ 1000000) (hp : p.size ≤ 1000000) (hs : ∀ f ∈ l, f.name.size ≤ 1000000 ∧ f.s.size ≤ 1000000000) (w : World) (hF : Flds w a l)
    (h0 : 0 ≤ q) (h4 : q ≤ 18446744073709551615) :
    Calls Try.prog 16 #[.agg #[.string t, .string p, .int .u64 q, .slice a l.length c]] w fun e w' => e = .returned (.bool (evMay t p q l)) ∧ Below w.heap.size w w' := by
  have HF := Lib.hid hF
  have HS := Lib.hid hs
  clear hF hs
  go_enter Try.func16, Try.ntmps16
  go_wp2_with fail
  obtain ⟨W, hW⟩ : ∃ W, W = w.alloc (.cells #[.string t, .string p, .int .u64 q, .slice a l.length c] 25) := ⟨_, rfl⟩
  have hE : EAt W w.heap.size t p q (.slice a l.length c) := by rw [hW]; constructor <;> simp [go_sem]
  have hKB : Below w.heap.size w W := by rw [hW]; exact balloc _ (.refl _ _)
  have hwz : w.heap.size < W.heap.size := by rw [hW]; simp
  have HB2 := Lib.hid hKB
  have EE := Lib.hid hE
  rw [← hW]
  clear hKB hE hW
  go_loopw [3] (fun i wr => RMayRel w W l i wr) (fun i _ => l.length - (intOf i).toNat)
  case atStart => exact ⟨0, by omega, rfl, rfl, .refl _ _, Nat.le_refl _⟩
  case round =>
    obtain ⟨k, hk, rfl, HO, HB, hz⟩ := hrel
    obtain ⟨wo, rfl⟩ : ∃ wo, wo = wr := ⟨_, rfl⟩
    have KB := Lib.hid (HB2.out.trans (HB.out.mono HB2.out.size))
    obtain ⟨c0, c1, c2, c3, c4, c5, c6, c7⟩ := EE.out.growB hwz HB.out
    have hwo : w.heap.size < wo.heap.size := by omega
    by_cases hlt : k < l.length
    · clear c0 c1 c2 c4 c5 c6 c7
      have HF2 := Lib.hid (HF.out.grow KB.out)
      obtain ⟨b, o, ha, hb⟩ := HF2.out.head hlt
      subst ha
      obtain ⟨_, f0, f1, f2, f3⟩ := HF2.out.at hlt
      obtain ⟨s1, s2⟩ := HS.out l[k] (List.getElem_mem hlt)
      have hst := okF_step hlt
      have x1 : (k : Int) < l.length := by omega
      have x2 : (0 : Int) ≤ k := by omega
      cases hfb : fieldB l[k].name.data.toList with
      | false =>
        have FB0 := Lib.hid hfb
        have HR : Hid (evMay t p q l = false) := by
          show _ = false
          unfold evMay; rw [HO.out, hst, hfb]; simp
        clear hfb hst
        go_wp2_with fail
        refine Tryst2.wp_region_grows [.is (.pointer (some ⟨w.heap.size, 3, none⟩)), .is (.slice (some ⟨b, o, none⟩) l.length c), .is (.int .i64 k), .is (.pointer (some ⟨b, o + k * 4, none⟩)), .is (.pointer (some ⟨b, o + k * 4, none⟩)), .is (.string l[k].name), .is (.bool false), .is (.bool true), .is (.bool true), .is undef, .is undef, .is undef, .is undef, .is undef, .is undef, .is undef, .is undef, .is (.bool true), .is (.bool true), .is undef, .is undef, .is undef, .is undef, .is undef, .is undef, .is undef, .is undef, .is undef, .is undef, .is undef, .is undef, .is undef, .is undef, .is undef, .is undef, .is undef, .is undef, .is (.bool true)] (by kernel_rfl) (by kernel_rfl) ?obl ?fin
        case obl =>
          simp only [Tryst2.AllObl, Tryst2.dstL, Tryst2.Obl, Tryst2.depsOf, Tryst2.binds_data, Tryst2.binds_chain, Tryst2.binds_phase, Tryst2.binds_guard, Tryst2.binds_text, Tryst2.binds_gc, Bool.false_eq_true, if_false, List.filterMap_cons_some, List.filterMap_cons_none, Tryst2.depsR, Tryst2.holdR, Tryst2.tmpsOf, Op.operands, Call.operands, Tryst2.Rsp.pred, Tryst2.wantedV_none, Tryst2.wantedV_some, if_true, List.map_cons, List.map_nil, List.length_map, List.take_succ_cons, List.take_zero, List.length_cons, List.length_nil, List.getElem?_cons_zero, List.getElem?_cons_succ, Option.bind_some, id, List.getD_cons_zero, List.getD_cons_succ, Tryst2.isDst, List.filterMap_cons, List.filterMap_nil, List.toList_toArray]
          repeat' apply And.intro
          any_goals trivial
          all_goals (intro tv w' hg hold hd; (try simp at hold); obtain ⟨hcg, hfg⟩ := Tryst2.Grow.cells hg; have hsg := Tryst2.Grow.le hg)
          all_goals first | (go_simp; done) | (go_simp; rw [if_neg (by omega)]; exact ⟨.refl _, rfl⟩) | (obtain ⟨⟨g, hvg, hgg, hcell⟩, _⟩ := hd; have hcell0 := hcell 0 (by decide); simp at hcell0; go_simp; done) | (go_simp; refine (rfield_c _ (by assumption) _).mono ?_; rintro e w3 ⟨rfl, hb3⟩; exact ⟨hb3, by rw [FB0.out]⟩) | (go_simp; refine (rmay_c _ _ _ (by assumption) _).mono ?_; rintro e w3 ⟨rfl, hb3⟩; exact ⟨hb3, by rw [VB.out]⟩) | (go_simp; omega)
        case fin =>
          intro tv w' hg hR
          simp only [Tryst2.allR, Tryst2.dstL, Tryst2.Rsp.pred, List.map_cons, List.map_nil, List.take_succ_cons, List.take_zero, List.length_cons, List.length_nil, List.tail_cons, List.toList_toArray] at hR
          obtain ⟨hcg, hfg⟩ := Tryst2.Grow.cells hg
          have hsg := Tryst2.Grow.le hg
          simp only [Tryst2.putAll, Tryst2.dstL, List.map_cons, List.map_nil, List.take_succ_cons, List.take_zero, List.length_cons, List.length_nil, List.toList_toArray, List.drop_succ_cons, List.drop_zero, Act.put, List.setIfInBounds_toArray, List.set_cons_zero, List.set_cons_succ, hR]
          have KB3 := Lib.hid (Tryst2.Grow.below hg KB.out)
          clear hg hR hcg hfg hsg
          go_wp2_with fail
          go_ret
          exact ⟨ret_bool HR.out.symm, KB3.out⟩
      | true =>
        have FB0 := Lib.hid hfb
        cases hvb : V.mayB ⟨l[k].num, l[k].n, l[k].s.data.toList⟩ with
        | false =>
          have VB := Lib.hid hvb
          have HR : Hid (evMay t p q l = false) := by
            show _ = false
            unfold evMay; rw [HO.out, hst, hfb, hvb]; simp
          clear hfb hst hvb
          go_wp2_with fail
          refine Tryst2.wp_region_grows [.is (.pointer (some ⟨w.heap.size, 3, none⟩)), .is (.slice (some ⟨b, o, none⟩) l.length c), .is (.int .i64 k), .is (.pointer (some ⟨b, o + k * 4, none⟩)), .is (.pointer (some ⟨b, o + k * 4, none⟩)), .is (.string l[k].name), .is (.bool true), .is (.bool false), .is (.bool false), .is (.pointer (some ⟨w.heap.size, 3, none⟩)), .is (.slice (some ⟨b, o, none⟩) l.length c), .is (.int .i64 k), .is (.pointer (some ⟨b, o + k * 4, none⟩)), .is (.pointer (some ⟨b, o + k * 4 + 1, none⟩)), .is (.agg #[.bool l[k].num, .int .i64 l[k].n, .string l[k].s]), .is (.bool false), .is (.bool true), .is (.bool true), .is (.bool true), .is undef, .is undef, .is undef, .is undef, .is undef, .is undef, .is undef, .is undef, .is undef, .is undef, .is undef, .is undef, .is undef, .is undef, .is undef, .is undef, .is undef, .is undef, .is (.bool true)] (by kernel_rfl) (by kernel_rfl) ?obl ?fin
          case obl =>
            simp only [Tryst2.AllObl, Tryst2.dstL, Tryst2.Obl, Tryst2.depsOf, Tryst2.binds_data, Tryst2.binds_chain, Tryst2.binds_phase, Tryst2.binds_guard, Tryst2.binds_text, Tryst2.binds_gc, Bool.false_eq_true, if_false, List.filterMap_cons_some, List.filterMap_cons_none, Tryst2.depsR, Tryst2.holdR, Tryst2.tmpsOf, Op.operands, Call.operands, Tryst2.Rsp.pred, Tryst2.wantedV_none, Tryst2.wantedV_some, if_true, List.map_cons, List.map_nil, List.length_map, List.take_succ_cons, List.take_zero, List.length_cons, List.length_nil, List.getElem?_cons_zero, List.getElem?_cons_succ, Option.bind_some, id, List.getD_cons_zero, List.getD_cons_succ, Tryst2.isDst, List.filterMap_cons, List.filterMap_nil, List.toList_toArray]
            repeat' apply And.intro
            any_goals trivial
            all_goals (intro tv w' hg hold hd; (try simp at hold); obtain ⟨hcg, hfg⟩ := Tryst2.Grow.cells hg; have hsg := Tryst2.Grow.le hg)
            all_goals first | (go_simp; done) | (go_simp; rw [if_neg (by omega)]; exact ⟨.refl _, rfl⟩) | (obtain ⟨⟨g, hvg, hgg, hcell⟩, _⟩ := hd; have hcell0 := hcell 0 (by decide); simp at hcell0; go_simp; done) | (go_simp; refine (rfield_c _ (by assumption) _).mono ?_; rintro e w3 ⟨rfl, hb3⟩; exact ⟨hb3, by rw [FB0.out]⟩) | (go_simp; refine (rmay_c _ _ _ (by assumption) _).mono ?_; rintro e w3 ⟨rfl, hb3⟩; exact ⟨hb3, by rw [VB.out]⟩) | (go_simp; omega)
          case fin =>
            intro tv w' hg hR
            simp only [Tryst2.allR, Tryst2.dstL, Tryst2.Rsp.pred, List.map_cons, List.map_nil, List.take_succ_cons, List.take_zero, List.length_cons, List.length_nil, List.tail_cons, List.toList_toArray] at hR
            obtain ⟨hcg, hfg⟩ := Tryst2.Grow.cells hg
            have hsg := Tryst2.Grow.le hg
            simp only [Tryst2.putAll, Tryst2.dstL, List.map_cons, List.map_nil, List.take_succ_cons, List.take_zero, List.length_cons, List.length_nil, List.toList_toArray, List.drop_succ_cons, List.drop_zero, Act.put, List.setIfInBounds_toArray, List.set_cons_zero, List.set_cons_succ, hR]
            have KB3 := Lib.hid (Tryst2.Grow.below hg KB.out)
            clear hg hR hcg hfg hsg
            go_wp2_with fail
            go_ret
            exact ⟨ret_bool HR.out.symm, KB3.out⟩
        | true =>
          have VB := Lib.hid hvb
          rw [hfb, hvb] at hst
          by_cases hk0 : k = 0
          · have HR : Hid (okF none (l.map FB.fld) = okF (prevN l (k + 1)) ((l.drop (k + 1)).map FB.fld)) := by
              show okF none _ = _
              rw [HO.out, hst]
              subst hk0; rfl
            have z0 : (k : Int) ≤ 0 := by omega
            clear hfb hst hvb HO hk0
            go_wp2_with fail
            refine Tryst2.wp_region_grows [.is (.pointer (some ⟨w.heap.size, 3, none⟩)), .is (.slice (some ⟨b, o, none⟩) l.length c), .is (.int .i64 k), .is (.pointer (some ⟨b, o + k * 4, none⟩)), .is (.pointer (some ⟨b, o + k * 4, none⟩)), .is (.string l[k].name), .is (.bool true), .is (.bool false), .is (.bool false), .is (.pointer (some ⟨w.heap.size, 3, none⟩)), .is (.slice (some ⟨b, o, none⟩) l.length c), .is (.int .i64 k), .is (.pointer (some ⟨b, o + k * 4, none⟩)), .is (.pointer (some ⟨b, o + k * 4 + 1, none⟩)), .is (.agg #[.bool l[k].num, .int .i64 l[k].n, .string l[k].s]), .is (.bool true), .is (.bool false), .is (.bool false), .is (.bool false), .is (.int .i64 k), .is (.bool false), .is (.bool false), .is undef, .is undef, .is undef, .is undef, .is undef, .is undef, .is undef, .is undef, .is undef, .is undef, .is undef, .is undef, .is undef, .is undef, .is (.bool false), .is (.bool false)] (by kernel_rfl) (by kernel_rfl) ?obl ?fin
            case obl =>
              simp only [Tryst2.AllObl, Tryst2.dstL, Tryst2.Obl, Tryst2.depsOf, Tryst2.binds_data, Tryst2.binds_chain, Tryst2.binds_phase, Tryst2.binds_guard, Tryst2.binds_text, Tryst2.binds_gc, Bool.false_eq_true, if_false, List.filterMap_cons_some, List.filterMap_cons_none, Tryst2.depsR, Tryst2.holdR, Tryst2.tmpsOf, Op.operands, Call.operands, Tryst2.Rsp.pred, Tryst2.wantedV_none, Tryst2.wantedV_some, if_true, List.map_cons, List.map_nil, List.length_map, List.take_succ_cons, List.take_zero, List.length_cons, List.length_nil, List.getElem?_cons_zero, List.getElem?_cons_succ, Option.bind_some, id, List.getD_cons_zero, List.getD_cons_succ, Tryst2.isDst, List.filterMap_cons, List.filterMap_nil, List.toList_toArray]
              repeat' apply And.intro
              any_goals trivial
              all_goals (intro tv w' hg hold hd; (try simp at hold); obtain ⟨hcg, hfg⟩ := Tryst2.Grow.cells hg; have hsg := Tryst2.Grow.le hg)
              all_goals first | (go_simp; done) | (go_simp; rw [if_neg (by omega)]; exact ⟨.refl _, rfl⟩) | (obtain ⟨⟨g, hvg, hgg, hcell⟩, _⟩ := hd; have hcell0 := hcell 0 (by decide); simp at hcell0; go_simp; done) | (go_simp; refine (rfield_c _ (by assumption) _).mono ?_; rintro e w3 ⟨rfl, hb3⟩; exact ⟨hb3, by rw [FB0.out]⟩) | (go_simp; refine (rmay_c _ _ _ (by assumption) _).mono ?_; rintro e w3 ⟨rfl, hb3⟩; exact ⟨hb3, by rw [VB.out]⟩) | (go_simp; omega)
            case fin =>
              intro tv w' hg hR
              simp only [Tryst2.allR, Tryst2.dstL, Tryst2.Rsp.pred, List.map_cons, List.map_nil, List.take_succ_cons, List.take_zero, List.length_cons, List.length_nil, List.tail_cons, List.toList_toArray] at hR
              obtain ⟨hcg, hfg⟩ := Tryst2.Grow.cells hg
              have hsg := Tryst2.Grow.le hg
              simp only [Tryst2.putAll, Tryst2.dstL, List.map_cons, List.map_nil, List.take_succ_cons, List.take_zero, List.length_cons, List.length_nil, List.toList_toArray, List.drop_succ_cons, List.drop_zero, Act.put, List.setIfInBounds_toArray, List.set_cons_zero, List.set_cons_succ, hR]
              have HBR := Lib.hid (Tryst2.Grow.below hg HB.out)
              have hzr : W.heap.size ≤ w'.heap.size := (by (try simp at hsg); omega)
              clear hg hR hcg hfg hsg
              go_wp2_with fail
              go_roundw
              case rel => exact ⟨k + 1, by omega, by go_num, HR, HBR, hzr⟩
              case measure => simp [intOf] <;> omega
          · have hkp : k - 1 < l.length := by omega
            obtain ⟨_, g0, g1, g2, g3⟩ := HF2.out.at hkp
            have hpv : prevN l k = some l[k - 1].name.data.toList := by
              unfold prevN; rw [if_neg hk0, List.getElem?_eq_getElem hkp]; rfl
            have z0 : (0 : Int) < k := by omega
            have z5 : (1 : Int) ≤ k := by omega
            have z1 : ((k : Int) - 1).toNat = k - 1 := by omega
            have z2 : IntKind.i64.wrap ((k : Int) - 1) = (k : Int) - 1 := IntWalk.i64_in _ (by omega)
            have z3 : (0 : Int) ≤ (k : Int) - 1 := by omega
            have z4 : (k : Int) - 1 < l.length := by omega
            rw [hpv] at hst
            cases hlb : Op.bytesLess l[k - 1].name.data.toList l[k].name.data.toList with
            | true =>
              have HR : Hid (okF none (l.map FB.fld) = okF (prevN l (k + 1)) ((l.drop (k + 1)).map FB.fld)) := by
                show okF none _ = _
                rw [HO.out, hpv, hst]; simp [hlb]
              have d1 : Op.bytesLess l[k - 1].name.toList l[k].name.toList = true := by rw [str_toList, str_toList]; exact hlb
              clear hfb hst hvb HO hlb hpv
              go_wp2_with fail
              refine Tryst2.wp_region_grows [.is (.pointer (some ⟨w.heap.size, 3, none⟩)), .is (.slice (some ⟨b, o, none⟩) l.length c), .is (.int .i64 k), .is (.pointer (some ⟨b, o + k * 4, none⟩)), .is (.pointer (some ⟨b, o + k * 4, none⟩)), .is (.string l[k].name), .is (.bool true), .is (.bool false), .is (.bool false), .is (.pointer (some ⟨w.heap.size, 3, none⟩)), .is (.slice (some ⟨b, o, none⟩) l.length c), .is (.int .i64 k), .is (.pointer (some ⟨b, o + k * 4, none⟩)), .is (.pointer (some ⟨b, o + k * 4 + 1, none⟩)), .is (.agg #[.bool l[k].num, .int .i64 l[k].n, .string l[k].s]), .is (.bool true), .is (.bool false), .is (.bool false), .is (.bool false), .is (.int .i64 k), .is (.bool true), .is (.bool true), .is (.pointer (some ⟨w.heap.size, 3, none⟩)), .is (.slice (some ⟨b, o, none⟩) l.length c), .is (.int .i64 k), .is (.int .i64 ((k : Int) - 1)), .is (.pointer (some ⟨b, o + (k - 1) * 4, none⟩)), .is (.pointer (some ⟨b, o + (k - 1) * 4, none⟩)), .is (.string l[k - 1].name), .is (.pointer (some ⟨w.heap.size, 3, none⟩)), .is (.slice (some ⟨b, o, none⟩) l.length c), .is (.int .i64 k), .is (.pointer (some ⟨b, o + k * 4, none⟩)), .is (.pointer (some ⟨b, o + k * 4, none⟩)), .is (.string l[k].name), .is (.bool false), .is (.bool false), .is (.bool false)] (by kernel_rfl) (by kernel_rfl) ?obl ?fin
              case obl =>
                simp only [Tryst2.AllObl, Tryst2.dstL, Tryst2.Obl, Tryst2.depsOf, Tryst2.binds_data, Tryst2.binds_chain, Tryst2.binds_phase, Tryst2.binds_guard, Tryst2.binds_text, Tryst2.binds_gc, Bool.false_eq_true, if_false, List.filterMap_cons_some, List.filterMap_cons_none, Tryst2.depsR, Tryst2.holdR, Tryst2.tmpsOf, Op.operands, Call.operands, Tryst2.Rsp.pred, Tryst2.wantedV_none, Tryst2.wantedV_some, if_true, List.map_cons, List.map_nil, List.length_map, List.take_succ_cons, List.take_zero, List.length_cons, List.length_nil, List.getElem?_cons_zero, List.getElem?_cons_succ, Option.bind_some, id, List.getD_cons_zero, List.getD_cons_succ, Tryst2.isDst, List.filterMap_cons, List.filterMap_nil, List.toList_toArray]
                repeat' apply And.intro
                any_goals trivial
                all_goals (intro tv w' hg hold hd; (try simp at hold); obtain ⟨hcg, hfg⟩ := Tryst2.Grow.cells hg; have hsg := Tryst2.Grow.le hg)
                all_goals first | (go_simp; done) | (go_simp; rw [if_neg (by omega)]; exact ⟨.refl _, rfl⟩) | (obtain ⟨⟨g, hvg, hgg, hcell⟩, _⟩ := hd; have hcell0 := hcell 0 (by decide); simp at hcell0; go_simp; done) | (go_simp; refine (rfield_c _ (by assumption) _).mono ?_; rintro e w3 ⟨rfl, hb3⟩; exact ⟨hb3, by rw [FB0.out]⟩) | (go_simp; refine (rmay_c _ _ _ (by assumption) _).mono ?_; rintro e w3 ⟨rfl, hb3⟩; exact ⟨hb3, by rw [VB.out]⟩) | (go_simp; omega)
              case fin =>
                intro tv w' hg hR
                simp only [Tryst2.allR, Tryst2.dstL, Tryst2.Rsp.pred, List.map_cons, List.map_nil, List.take_succ_cons, List.take_zero, List.length_cons, List.length_nil, List.tail_cons, List.toList_toArray] at hR
                obtain ⟨hcg, hfg⟩ := Tryst2.Grow.cells hg
                have hsg := Tryst2.Grow.le hg
                simp only [Tryst2.putAll, Tryst2.dstL, List.map_cons, List.map_nil, List.take_succ_cons, List.take_zero, List.length_cons, List.length_nil, List.toList_toArray, List.drop_succ_cons, List.drop_zero, Act.put, List.setIfInBounds_toArray, List.set_cons_zero, List.set_cons_succ, hR]
                have HBR := Lib.hid (Tryst2.Grow.below hg HB.out)
                have hzr : W.heap.size ≤ w'.heap.size := (by (try simp at hsg); omega)
                clear hg hR hcg hfg hsg z1 z2
                go_wp2_with fail
                go_roundw
                case rel => exact ⟨k + 1, by omega, by go_num, HR, HBR, hzr⟩
                case measure => simp [intOf] <;> omega
            | false =>
              have HR : Hid (evMay t p q l = false) := by
                show _ = false
                unfold evMay; rw [HO.out, hpv, hst]; simp [hlb]
              have d1 : Op.bytesLess l[k - 1].name.toList l[k].name.toList = false := by rw [str_toList, str_toList]; exact hlb
              clear hfb hst hvb HO hlb hpv
              go_wp2_with fail
              refine Tryst2.wp_region_grows [.is (.pointer (some ⟨w.heap.size, 3, none⟩)), .is (.slice (some ⟨b, o, none⟩) l.length c), .is (.int .i64 k), .is (.pointer (some ⟨b, o + k * 4, none⟩)), .is (.pointer (some ⟨b, o + k * 4, none⟩)), .is (.string l[k].name), .is (.bool true), .is (.bool false), .is (.bool false), .is (.pointer (some ⟨w.heap.size, 3, none⟩)), .is (.slice (some ⟨b, o, none⟩) l.length c), .is (.int .i64 k), .is (.pointer (some ⟨b, o + k * 4, none⟩)), .is (.pointer (some ⟨b, o + k * 4 + 1, none⟩)), .is (.agg #[.bool l[k].num, .int .i64 l[k].n, .string l[k].s]), .is (.bool true), .is (.bool false), .is (.bool false), .is (.bool false), .is (.int .i64 k), .is (.bool true), .is (.bool true), .is (.pointer (some ⟨w.heap.size, 3, none⟩)), .is (.slice (some ⟨b, o, none⟩) l.length c), .is (.int .i64 k), .is (.int .i64 ((k : Int) - 1)), .is (.pointer (some ⟨b, o + (k - 1) * 4, none⟩)), .is (.pointer (some ⟨b, o + (k - 1) * 4, none⟩)), .is (.string l[k - 1].name), .is (.pointer (some ⟨w.heap.size, 3, none⟩)), .is (.slice (some ⟨b, o, none⟩) l.length c), .is (.int .i64 k), .is (.pointer (some ⟨b, o + k * 4, none⟩)), .is (.pointer (some ⟨b, o + k * 4, none⟩)), .is (.string l[k].name), .is (.bool true), .is (.bool true), .is (.bool true)] (by kernel_rfl) (by kernel_rfl) ?obl ?fin
              case obl =>
                simp only [Tryst2.AllObl, Tryst2.dstL, Tryst2.Obl, Tryst2.depsOf, Tryst2.binds_data, Tryst2.binds_chain, Tryst2.binds_phase, Tryst2.binds_guard, Tryst2.binds_text, Tryst2.binds_gc, Bool.false_eq_true, if_false, List.filterMap_cons_some, List.filterMap_cons_none, Tryst2.depsR, Tryst2.holdR, Tryst2.tmpsOf, Op.operands, Call.operands, Tryst2.Rsp.pred, Tryst2.wantedV_none, Tryst2.wantedV_some, if_true, List.map_cons, List.map_nil, List.length_map, List.take_succ_cons, List.take_zero, List.length_cons, List.length_nil, List.getElem?_cons_zero, List.getElem?_cons_succ, Option.bind_some, id, List.getD_cons_zero, List.getD_cons_succ, Tryst2.isDst, List.filterMap_cons, List.filterMap_nil, List.toList_toArray]
                repeat' apply And.intro
                any_goals trivial
                all_goals (intro tv w' hg hold hd; (try simp at hold); obtain ⟨hcg, hfg⟩ := Tryst2.Grow.cells hg; have hsg := Tryst2.Grow.le hg)
                all_goals first | (go_simp; done) | (go_simp; rw [if_neg (by omega)]; exact ⟨.refl _, rfl⟩) | (obtain ⟨⟨g, hvg, hgg, hcell⟩, _⟩ := hd; have hcell0 := hcell 0 (by decide); simp at hcell0; go_simp; done) | (go_simp; refine (rfield_c _ (by assumption) _).mono ?_; rintro e w3 ⟨rfl, hb3⟩; exact ⟨hb3, by rw [FB0.out]⟩) | (go_simp; refine (rmay_c _ _ _ (by assumption) _).mono ?_; rintro e w3 ⟨rfl, hb3⟩; exact ⟨hb3, by rw [VB.out]⟩) | (go_simp; omega)
              case fin =>
                intro tv w' hg hR
                simp only [Tryst2.allR, Tryst2.dstL, Tryst2.Rsp.pred, List.map_cons, List.map_nil, List.take_succ_cons, List.take_zero, List.length_cons, List.length_nil, List.tail_cons, List.toList_toArray] at hR
                obtain ⟨hcg, hfg⟩ := Tryst2.Grow.cells hg
                have hsg := Tryst2.Grow.le hg
                simp only [Tryst2.putAll, Tryst2.dstL, List.map_cons, List.map_nil, List.take_succ_cons, List.take_zero, List.length_cons, List.length_nil, List.toList_toArray, List.drop_succ_cons, List.drop_zero, Act.put, List.setIfInBounds_toArray, List.set_cons_zero, List.set_cons_succ, hR]
                have KB3 := Lib.hid (Tryst2.Grow.below hg KB.out)
                clear hg hR hcg hfg hsg z1 z2
                go_wp2_with fail
                go_ret
                exact ⟨ret_bool HR.out.symm, KB3.out⟩
    · have hok : okF none (l.map FB.fld) = true := by
        rw [HO.out, List.drop_eq_nil_of_le (by omega)]
        cases prevN l k <;> rfl
      have HG : Hid (evMay t p q l = (topicB t.data.toList && fieldB p.data.toList && decide (1 ≤ q) && decide (l.length ≤ 8))) := by
        show _ = _
        unfold evMay; rw [hok, Bool.and_true]
      clear HO hok
      cases h1 : topicB t.data.toList with
      | false =>
        have HR : Hid (evMay t p q l = false) := by show _ = _; rw [HG.out, h1]; rfl
        have G1 := Lib.hid h1
        clear h1
        go_wp2_with fail
        refine (rtopic_c t ht wo).mono ?_
        rintro e w3 ⟨rfl, hb3⟩
        rw [G1.out]
        obtain ⟨d0, d1, d2, d3, d4, d5, d6, d7⟩ := (EAt.mk c0 c1 c2 c3 c4 c5 c6 c7).grow hwo hb3
        have hw3 : w.heap.size < w3.heap.size := Nat.lt_of_lt_of_le hwo hb3.size
        have KB1 := Lib.hid (bstep hb3 KB.out)
        clear hb3 c0 c1 c2 c3 c4 c5 c6 c7
        go_wp2_with fail
        go_ret
        exact ⟨ret_bool HR.out.symm, KB1.out⟩
      | true =>
        have G1 := Lib.hid h1
        cases h2 : fieldB p.data.toList with
        | false =>
          have HR : Hid (evMay t p q l = false) := by show _ = _; rw [HG.out, h1, h2]; rfl
          have G2 := Lib.hid h2
          clear h1 h2
          go_wp2_with fail
          refine (rtopic_c t ht wo).mono ?_
          rintro e w3 ⟨rfl, hb3⟩
          rw [G1.out]
          obtain ⟨d0, d1, d2, d3, d4, d5, d6, d7⟩ := (EAt.mk c0 c1 c2 c3 c4 c5 c6 c7).grow hwo hb3
          have hw3 : w.heap.size < w3.heap.size := Nat.lt_of_lt_of_le hwo hb3.size
          have KB1 := Lib.hid (bstep hb3 KB.out)
          clear hb3 c0 c1 c2 c3 c4 c5 c6 c7
          go_wp2_with fail
          refine (rfield_c p hp w3).mono ?_
          rintro e w4 ⟨rfl, hb4⟩
          rw [G2.out]
          obtain ⟨e0, e1, e2, e3, e4, e5, e6, e7⟩ := (EAt.mk d0 d1 d2 d3 d4 d5 d6 d7).grow hw3 hb4
          have hw4 : w.heap.size < w4.heap.size := Nat.lt_of_lt_of_le hw3 hb4.size
          have KB2 := Lib.hid (bstep hb4 KB1.out)
          clear hb4 d0 d1 d2 d3 d4 d5 d6 d7
          go_wp2_with fail
          go_ret
          exact ⟨ret_bool HR.out.symm, KB2.out⟩
        | true =>
          have G2 := Lib.hid h2
          by_cases hq : 1 ≤ q
          · by_cases hl8 : l.length ≤ 8
            · have HR : Hid (evMay t p q l = true) := by show _ = _; rw [HG.out, h1, h2, decide_eq_true hq, decide_eq_true hl8]; rfl
              have y1 : decide (0 < q) = true := by simp; omega
              have y2 : decide ((l.length : Int) ≤ 8) = true := by simp; omega
              clear h1 h2
              go_wp2_with fail
              refine (rtopic_c t ht wo).mono ?_
              rintro e w3 ⟨rfl, hb3⟩
              rw [G1.out]
              obtain ⟨d0, d1, d2, d3, d4, d5, d6, d7⟩ := (EAt.mk c0 c1 c2 c3 c4 c5 c6 c7).grow hwo hb3
              have hw3 : w.heap.size < w3.heap.size := Nat.lt_of_lt_of_le hwo hb3.size
              have KB1 := Lib.hid (bstep hb3 KB.out)
              clear hb3 c0 c1 c2 c3 c4 c5 c6 c7
              go_wp2_with fail
              refine (rfield_c p hp w3).mono ?_
              rintro e w4 ⟨rfl, hb4⟩
              rw [G2.out]
              obtain ⟨e0, e1, e2, e3, e4, e5, e6, e7⟩ := (EAt.mk d0 d1 d2 d3 d4 d5 d6 d7).grow hw3 hb4
              have hw4 : w.heap.size < w4.heap.size := Nat.lt_of_lt_of_le hw3 hb4.size
              have KB2 := Lib.hid (bstep hb4 KB1.out)
              clear hb4 d0 d1 d2 d3 d4 d5 d6 d7
              go_wp2_with fail
              go_ret
              exact ⟨ret_bool (by rw [HR.out]), KB2.out⟩
            · have HR : Hid (evMay t p q l = false) := by show _ = _; rw [HG.out, decide_eq_false hl8, Bool.and_false]
              have y1 : decide (0 < q) = true := by simp; omega
              have y2 : decide ((l.length : Int) ≤ 8) = false := by simp; omega
              clear h1 h2
              go_wp2_with fail
              refine (rtopic_c t ht wo).mono ?_
              rintro e w3 ⟨rfl, hb3⟩
              rw [G1.out]
              obtain ⟨d0, d1, d2, d3, d4, d5, d6, d7⟩ := (EAt.mk c0 c1 c2 c3 c4 c5 c6 c7).grow hwo hb3
              have hw3 : w.heap.size < w3.heap.size := Nat.lt_of_lt_of_le hwo hb3.size
              have KB1 := Lib.hid (bstep hb3 KB.out)
              clear hb3 c0 c1 c2 c3 c4 c5 c6 c7
              go_wp2_with fail
              refine (rfield_c p hp w3).mono ?_
              rintro e w4 ⟨rfl, hb4⟩
              rw [G2.out]
              obtain ⟨e0, e1, e2, e3, e4, e5, e6, e7⟩ := (EAt.mk d0 d1 d2 d3 d4 d5 d6 d7).grow hw3 hb4
              have hw4 : w.heap.size < w4.heap.size := Nat.lt_of_lt_of_le hw3 hb4.size
              have KB2 := Lib.hid (bstep hb4 KB1.out)
              clear hb4 d0 d1 d2 d3 d4 d5 d6 d7
              go_wp2_with fail
              go_ret
              exact ⟨ret_bool HR.out.symm, KB2.out⟩
          · have HR : Hid (evMay t p q l = false) := by show _ = _; rw [HG.out, decide_eq_false hq]; simp
            have y1 : decide (0 < q) = false := by simp; omega
            clear h1 h2
            go_wp2_with fail
            refine (rtopic_c t ht wo).mono ?_
            rintro e w3 ⟨rfl, hb3⟩
            rw [G1.out]
            obtain ⟨d0, d1, d2, d3, d4, d5, d6, d7⟩ := (EAt.mk c0 c1 c2 c3 c4 c5 c6 c7).grow hwo hb3
            have hw3 : w.heap.size < w3.heap.size := Nat.lt_of_lt_of_le hwo hb3.size
            have KB1 := Lib.hid (bstep hb3 KB.out)
            clear hb3 c0 c1 c2 c3 c4 c5 c6 c7
            go_wp2_with fail
            refine (rfield_c p hp w3).mono ?_
            rintro e w4 ⟨rfl, hb4⟩
            rw [G2.out]
            obtain ⟨e0, e1, e2, e3, e4, e5, e6, e7⟩ := (EAt.mk d0 d1 d2 d3 d4 d5 d6 d7).grow hw3 hb4
            have hw4 : w.heap.size < w4.heap.size := Nat.lt_of_lt_of_le hw3 hb4.size
            have KB2 := Lib.hid (bstep hb4 KB1.out)
            clear hb4 d0 d1 d2 d3 d4 d5 d6 d7
            go_wp2_with fail
            go_ret
            exact ⟨ret_bool HR.out.symm, KB2.out⟩
end Go.Proofs.Ytcbnehplilpidaa
