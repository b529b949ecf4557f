/- The walk of EventTurns. -/
import Derived.Test.YtfohdjgalmodbaaProg
import Derived.WalkKit
import Derived.WalkSpells
import Derived.WalkLawsBesides
import Derived.Lib.Hide
import Derived.Deep.RegionWith
import Derived.Deep.Cut
import Derived.Test.YtfohdjgalmodbaaPuts4
import Derived.Test.YtfohdjgalmodbaaBoxes4
import Derived.Test.YtfohdjgalmodbaaEv18
set_option linter.unusedVariables false
set_option linter.unusedSimpArgs false
namespace Go.Proofs.Ytfohdjgalmodbaa
open Go.RowKit Tryst
set_option maxHeartbeats 400000
set_option maxRecDepth 20000
theorem putB_putB (l : List FB) (f g : FB) (h : f.name = g.name) : putB (putB l f) g = putB l g := FB.map_inj (by rw [putB_map, putB_map, putB_map, h]; exact put_put _ _ _ _)
theorem putB_comm (l : List FB) (f g : FB) (h : f.name ≠ g.name) : putB (putB l f) g = putB (putB l g) f := FB.map_inj (by rw [putB_map, putB_map, putB_map, putB_map]; exact put_comm _ _ _ _ _ (fun e => h (str_ext e)))
theorem allocEv' (ρ : Operand → Value) (o : Oper) (w : World) (ho : o.op = .alloc 25) : (execOp ρ o).run Try.prog w = .ok (.value (.pointer (some ⟨w.heap.size, 0, none⟩))) (w.alloc (.cells #[.string ⟨#[]⟩, .string ⟨#[]⟩, .int .u64 0, .slice none 0 0] 25)) := allocEv ρ o w ho
theorem allocVal (ρ : Operand → Value) (o : Oper) (w : World) (ho : o.op = .alloc 27) : (execOp ρ o).run Try.prog w = .ok (.value (.pointer (some ⟨w.heap.size, 0, none⟩))) (w.alloc (.cells #[.bool false, .int .i64 0, .string ⟨#[]⟩] 27)) := by
  unfold execOp
  rw [ho]
  kernel_rfl
set_option maxHeartbeats 8000000 in
theorem eventTurns_c (t p : ByteArray) (q : Int) (a : Option Addr) (l : List FB) (c : Nat) (ht : t.size ≤ 9223372036854775807) (hp : p.size ≤ 9223372036854775807) (h0 : 0 ≤ q) (h4 : q ≤ 18446744073709551615) (hI : FIn l) (hl : l.length ≤ 9223372036854775807)
    (nm : ByteArray) (hnm : nm.size ≤ 9223372036854775807) (om : ByteArray) (hom : om.size ≤ 9223372036854775807) (x : Bool) (n : Int) (s : ByteArray) (hs : s.size ≤ 9223372036854775807) (hln : -9223372036854775808 ≤ n) (hhn : n ≤ 9223372036854775807) (w : World) (hM : MaxW w) (hF : Flds w a l) :
    Calls Try.prog 8 #[.agg #[.string t, .string p, .int .u64 q, .slice a l.length c, .string nm, .string om, .bool x, .int .i64 n, .string s]] w fun e w' => e = .returned (.bool true) ∧ Below w.heap.size w w' := by
  obtain ⟨hO, hO2, hlen⟩ := few_ok hI
  have HM := Lib.hid hM
  have CF := Lib.hid (fun W h => efew_c t p q a c l hl ht hp (few_in hI) W h)
  have CN := Lib.hid (fun W => few60_c nm hnm W)
  have CO := Lib.hid (fun W => few60_c om hom W)
  have CV := Lib.hid (fun W => fewV_c x n s hs W)
  have HF := Lib.hid hF
  have HO := Lib.hid hO2
  have u1 := few60_le t
  have u2 := few60_le p
  have u3 := few60_le nm
  have u5 := few60_le om
  have u4 := few_le s
  clear hF hM hI hO hO2 hl ht hp hnm hom hs
  revert u1 u2 u3 u4 u5 HO CF CN CO CV hlen
  generalize few60 t = t1
  generalize few60 p = p1
  generalize few60 nm = n1
  generalize few60 om = o1
  generalize few s = s1
  generalize fewL l = L
  intro hlen CF CN CO CV HO u1 u2 u3 u5 u4
  have hl1 := putB_length L ⟨n1, x, n, s1⟩
  have hl2 := putB_length L ⟨n1, true, 77, ⟨#[]⟩⟩
  have hl3 := putB_length L ⟨o1, true, 77, ⟨#[]⟩⟩
  have hl4 := putB_length (putB L ⟨n1, x, n, s1⟩) ⟨o1, true, 77, ⟨#[]⟩⟩
  have HPL := Lib.hid (fun a c hS W h => put_c t1 p1 q a c L (by omega) hS ⟨n1, x, n, s1⟩ W h)
  have HP1 := Lib.hid (fun a c hS W h => put_c t1 p1 q a c L (by omega) hS ⟨n1, true, 77, ⟨#[]⟩⟩ W h)
  have HPO := Lib.hid (fun a c hS W h => put_c t1 p1 q a c L (by omega) hS ⟨o1, true, 77, ⟨#[]⟩⟩ W h)
  have HP2 := Lib.hid (fun a c hS W h => put_c t1 p1 q a c (putB L ⟨n1, true, 77, ⟨#[]⟩⟩) (by omega) hS ⟨n1, x, n, s1⟩ W h)
  rw [putB_putB L ⟨n1, true, 77, ⟨#[]⟩⟩ ⟨n1, x, n, s1⟩ rfl] at HP2
  have HPB := Lib.hid (fun a c hS W h => put_c t1 p1 q a c (putB L ⟨n1, x, n, s1⟩) (by omega) hS ⟨o1, true, 77, ⟨#[]⟩⟩ W h)
  have HPC := Lib.hid (fun (hne : n1 ≠ o1) a c hS W h => by
    have h6 := put_c t1 p1 q a c (putB L ⟨o1, true, 77, ⟨#[]⟩⟩) (by omega) hS ⟨n1, x, n, s1⟩ W h
    rw [putB_comm L ⟨o1, true, 77, ⟨#[]⟩⟩ ⟨n1, x, n, s1⟩ (fun e => hne e.symm)] at h6
    exact h6)
  have HMAY := Lib.hid (fun a c W hM h => evmay_c t1 p1 q a c L (by omega) (by omega) (by omega) (fun f hf => by have := HO.out f hf; omega) W hM h h0 h4)
  revert hl1 hl2 hl3 hl4 HPL HP1 HPO HP2 HPB HPC
  generalize putB (putB L ⟨n1, x, n, s1⟩) ⟨o1, true, 77, ⟨#[]⟩⟩ = PB
  generalize putB L ⟨n1, x, n, s1⟩ = PL
  generalize putB L ⟨n1, true, 77, ⟨#[]⟩⟩ = P1
  generalize putB L ⟨o1, true, 77, ⟨#[]⟩⟩ = PO
  intro hl1 hl2 hl3 hl4 HPL HP1 HPO HP2 HPB HPC
  have HSB := Lib.hid (fun a1 a2 c1 c2 W h1 h2 => same_c t1 t1 p1 p1 q q a1 a2 c1 c2 PB PB (by omega) (by omega) W h1 h2)
  have HSL := Lib.hid (fun a1 a2 c1 c2 W h1 h2 => same_c t1 t1 p1 p1 q q a1 a2 c1 c2 PL PL (by omega) (by omega) W h1 h2)
  generalize hmm : evMay t1 p1 q L = mm at HMAY
  clear hmm
  go_enter Try.func8, Try.ntmps8
  go_wp2_with fail
  have HBX := Lib.hid (balloc (.cells #[.string t, .string p, .int .u64 q, .slice a l.length c, .string nm, .string om, .bool x, .int .i64 n, .string s] 38) (.refl w.heap.size w))
  refine Tryst2.wp_region_grows [.is (.pointer (some ⟨w.heap.size, 0, none⟩)), .is (.agg #[.string t, .string p, .int .u64 q, .slice a l.length c]), .any (EvS t1 p1 q L), .is (.pointer (some ⟨w.heap.size, 4, none⟩)), .is (.string nm), .is (.string n1), .is (.pointer (some ⟨w.heap.size, 5, none⟩)), .is (.string om), .is (.string o1), .is (.pointer (some ⟨w.heap.size, 6, none⟩)), .is (.agg #[.bool x, .int .i64 n, .string s]), .is (.agg #[.bool x, .int .i64 n, .string s1]), .any (NewBox (w.heap.size + 1) 25 [.string ⟨#[]⟩, .string ⟨#[]⟩, .int .u64 0, .slice none 0 0]), .any (NewBox (w.heap.size + 1) 27 [.bool false, .int .i64 0, .string ⟨#[]⟩])] (by kernel_rfl) (by kernel_rfl) ?obl ?fin
  case obl =>
    simp only [Tryst2.AllObl, Tryst2.dstL, Tryst2.Obl, Tryst2.depsOf, Tryst2.binds_data, Tryst2.binds_chain, Tryst2.binds_phase, Tryst2.binds_guard, Tryst2.binds_text, Tryst2.binds_gc, Bool.false_eq_true, if_false, List.filterMap_cons_some, List.filterMap_cons_none, Tryst2.depsR, Tryst2.holdR, Tryst2.tmpsOf, Op.operands, Call.operands, Tryst2.Rsp.pred, Tryst2.wantedV_none, if_true, List.map_cons, List.map_nil, List.length_map, List.take_succ_cons, List.take_zero, List.length_cons, List.length_nil, List.getElem?_cons_zero, List.getElem?_cons_succ, Option.bind_some, id, List.getD_cons_zero, List.getD_cons_succ, Tryst2.isDst, List.filterMap_cons, List.filterMap_nil, List.toList_toArray]
    repeat' apply And.intro
    any_goals trivial
    all_goals (intro tv w' hg hold hd; (try simp at hold); obtain ⟨hcg, hfg⟩ := Tryst2.Grow.cells hg; have hsg := Tryst2.Grow.le hg)
    all_goals first | (go_simp; done) | (go_simp; rw [if_neg (by omega)]; exact ⟨.refl _, rfl⟩) | (obtain ⟨⟨g, hvg, hgg, hcell⟩, _⟩ := hd; have hcell0 := hcell 0 (by decide); simp at hcell0; go_simp; done) | (go_simp; go_at_call 9; (with_reducible refine (CF.out _ ?_).mono ?_); (exact HF.out.grow (Tryst2.Grow.below hg HBX.out)); rintro e w2 ⟨a', c', rfl, hf2, hs2, hb2⟩; exact EvS.of hf2 hs2 hb2) | (go_simp; go_at_call 10; (with_reducible refine (CN.out _).mono ?_); rintro e w2 ⟨rfl, rfl⟩; exact ⟨Tryst2.Grow.refl _, rfl⟩) | (go_simp; go_at_call 10; (with_reducible refine (CO.out _).mono ?_); rintro e w2 ⟨rfl, rfl⟩; exact ⟨Tryst2.Grow.refl _, rfl⟩) | (go_simp; go_at_call 11; (with_reducible refine (CV.out _).mono ?_); rintro e w2 ⟨rfl, hb2⟩; exact ⟨hb2, rfl⟩) | (rw [allocEv _ _ _ rfl, Tryst2.stepV_value]; exact newBox _ _ _ _ (by simp at hsg; omega)) | (rw [allocVal _ _ _ rfl, Tryst2.stepV_value]; exact newBox _ _ _ _ (by simp at hsg; omega))
  case fin =>
    intro tv w' hg hR
    simp only [Tryst2.allR, Tryst2.dstL, Tryst2.Rsp.pred, List.map_cons, List.map_nil, List.take_succ_cons, List.take_zero, List.length_cons, List.length_nil, List.tail_cons, List.toList_toArray] at hR
    obtain ⟨hcg, hfg⟩ := Tryst2.Grow.cells hg
    have hsg := Tryst2.Grow.le hg
    simp only [Tryst2.putAll, Tryst2.dstL, List.map_cons, List.map_nil, List.take_succ_cons, List.take_zero, List.length_cons, List.length_nil, List.toList_toArray, List.drop_succ_cons, List.drop_zero, Act.put, List.setIfInBounds_toArray, List.set_cons_zero, List.set_cons_succ, hR]
    obtain ⟨aA, cA, eA, fA, sA⟩ := EvS.at hR.2.2.1
    simp only [eA]
    obtain ⟨g3, e3, hl3, hz3, hh3⟩ := NewBox.at hR.2.2.2.2.2.2.2.2.2.2.2.2.1
    obtain ⟨g6, e6, hl6, hz6, hh6⟩ := NewBox.at hR.2.2.2.2.2.2.2.2.2.2.2.2.2.1
    simp only [e3, e6]
    have hK := Tryst2.Grow.below hg HBX.out
    have hTB := ev_val_boxes hh3 hh6 fA t1 p1 q (.slice aA L.length cA) x n s1
    have HTB := Lib.hid hTB
    have SA := Lib.hid sA
    have KY := Lib.hid (bset (p := ⟨g6, 2, none⟩) (.string s1) (by simp; omega) (bset (p := ⟨g6, 1, none⟩) (.int .i64 n) (by simp; omega) (bset (p := ⟨g6, 0, none⟩) (.bool x) (by simp; omega) (bset (p := ⟨g3, 3, none⟩) (.slice aA L.length cA) (by simp; omega) (bset (p := ⟨g3, 2, none⟩) (.int .u64 q) (by simp; omega) (bset (p := ⟨g3, 1, none⟩) (.string p1) (by simp; omega) (bset (p := ⟨g3, 0, none⟩) (.string t1) (by simp; omega) hK)))))))
    obtain ⟨x0, x1, x2, x3, x4, x5, x6, x7⟩ := EAt.of hh3
    have y0 : w'.cell? ⟨g6, 0, none⟩ = some (.bool false) := by rw [Lib.cell_of_heap hh6]; rfl
    have y1 : w'.cell? ⟨g6, 1, none⟩ = some (.int .i64 0) := by rw [Lib.cell_of_heap hh6]; rfl
    have y2 : w'.cell? ⟨g6, 2, none⟩ = some (.string ⟨#[]⟩) := by rw [Lib.cell_of_heap hh6]; rfl
    have y4 : w'.frozen? ⟨g6, 0, none⟩ = false := Lib.frozen_of_heap hh6 0
    have y5 : w'.frozen? ⟨g6, 1, none⟩ = false := Lib.frozen_of_heap hh6 1
    have y6 : w'.frozen? ⟨g6, 2, none⟩ = false := Lib.frozen_of_heap hh6 2
    have hne : g3 ≠ g6 := hTB.1
    have hne2 : g6 ≠ g3 := fun e => hne e.symm
    have hlo3 : w.heap.size < g3 := by omega
    have hlo6 : w.heap.size < g6 := by omega
    clear hg hR hcg hfg hsg eA fA sA e3 e6 hK hh3 hh6 hTB HF CF CN CO CV HBX
    go_upto_region 2 with fail
    clear x0 x1 x2 x3 x4 x5 x6 x7 y0 y1 y2 y4 y5 y6
    revert HTB KY
    generalize ((((((w'.setCell ⟨g3, 0, none⟩ (.string t1)).setCell ⟨g3, 1, none⟩ (.string p1)).setCell ⟨g3, 2, none⟩ (.int .u64 q)).setCell ⟨g3, 3, none⟩ (.slice aA L.length cA)).setCell ⟨g6, 0, none⟩ (.bool x)).setCell ⟨g6, 1, none⟩ (.int .i64 n)).setCell ⟨g6, 2, none⟩ (.string s1) = Y
    intro HTB KY
    have HK3 := Lib.hid (show VB3 (Y.alloc (.cells #[.bool true, .int .i64 77, .string ⟨#[]⟩] 27)) Y.heap.size true 77 ⟨#[]⟩ ∧ Below Y.heap.size Y (Y.alloc (.cells #[.bool true, .int .i64 77, .string ⟨#[]⟩] 27)) from ⟨VB3.new Y true 77 ⟨#[]⟩ _, balloc _ (.refl _ _)⟩)
    have hg3z : g3 < Y.heap.size := (cell_lt HTB.out.2.1.c0).1
    have hg6z : g6 < Y.heap.size := HTB.out.2.2.1.hz
    obtain ⟨x0, x1, x2, x3, x4, x5, x6, x7⟩ := HTB.out.2.1
    obtain ⟨y0, y1, y2, y3⟩ := HTB.out.2.2.1
    go_upto_region 3 with fail
    have E3 := Lib.hid (HTB.out.2.1.grow hg3z HK3.out.2)
    have V3 := Lib.hid (HTB.out.2.2.1.grow HK3.out.2)
    have F3 := Lib.hid (HTB.out.2.2.2.grow HK3.out.2)
    have W3 := Lib.hid HK3.out.1
    have K3 := Lib.hid (bstep HK3.out.2 KY.out)
    clear HK3 HTB KY x0 x1 x2 x3 x4 x5 x6 x7 y0 y1 y2 y3 hg3z hg6z
    revert E3 V3 F3 W3 K3
    generalize Y.alloc (.cells #[.bool true, .int .i64 77, .string ⟨#[]⟩] 27) = X
    generalize Y.heap.size = b6
    intro E3 V3 F3 W3 K3
    have hz3 : g3 < X.heap.size := (cell_lt E3.out.c0).1
    have hz6 : g6 < X.heap.size := V3.out.hz
    have hz7 : b6 < X.heap.size := W3.out.hz
    obtain ⟨x0, x1, x2, x3, x4, x5, x6, x7⟩ := E3.out
    obtain ⟨y0, y1, y2, y3⟩ := V3.out
    obtain ⟨z0, z1, z2, z3⟩ := W3.out
    rcases ba_cases n1 o1 with hab | ⟨hab, hab1, hab2⟩
    · subst hab
      have hab1 : (n1.toList == n1.toList) = true := strEq rfl
      have hab2 : (n1.toList != n1.toList) = false := by rw [bne, hab1]; rfl
      refine Tryst2.wp_region_grows [.is (.string n1), .is (.string n1), .is (.bool false), .is (.bool false), .is undef, .is undef, .is (.bool false), .is (.bool false), .is undef, .is undef, .is undef, .is undef, .is undef, .is undef, .is undef, .is undef, .is undef, .is undef, .is undef, .is undef, .is undef, .is undef, .is undef, .is undef, .is (.bool false)] (by kernel_rfl) (by kernel_rfl) ?obl ?fin
      case obl =>
        simp only [Tryst2.AllObl, Tryst2.dstL, Tryst2.Obl, Tryst2.depsOf, Tryst2.binds_data, Tryst2.binds_chain, Tryst2.binds_phase, Tryst2.binds_guard, Tryst2.binds_text, Tryst2.binds_gc, Bool.false_eq_true, if_false, List.filterMap_cons_some, List.filterMap_cons_none, Tryst2.depsR, Tryst2.holdR, Tryst2.tmpsOf, Op.operands, Call.operands, Tryst2.Rsp.pred, Tryst2.wantedV_none, Tryst2.wantedV_some, if_true, List.map_cons, List.map_nil, List.length_map, List.take_succ_cons, List.take_zero, List.length_cons, List.length_nil, List.getElem?_cons_zero, List.getElem?_cons_succ, Option.bind_some, id, List.getD_cons_zero, List.getD_cons_succ, Tryst2.isDst, List.filterMap_cons, List.filterMap_nil, List.toList_toArray]
        repeat' apply And.intro
        any_goals trivial
        all_goals (intro tv w' hg hold hd; (try simp at hold); obtain ⟨hcg, hfg⟩ := Tryst2.Grow.cells hg; have hsg := Tryst2.Grow.le hg)
        all_goals first | (go_simp; done) | (go_simp; rw [if_neg (by omega)]; exact ⟨.refl _, rfl⟩) | (obtain ⟨⟨g, hvg, hgg, hcell⟩, _⟩ := hd; have hcell0 := hcell 0 (by decide); simp at hcell0; go_simp; done) 
      case fin =>
        intro tv w' hg hR
        simp only [Tryst2.allR, Tryst2.dstL, Tryst2.Rsp.pred, List.map_cons, List.map_nil, List.take_succ_cons, List.take_zero, List.length_cons, List.length_nil, List.tail_cons, List.toList_toArray] at hR
        obtain ⟨hcg, hfg⟩ := Tryst2.Grow.cells hg
        have hsg := Tryst2.Grow.le hg
        simp only [Tryst2.putAll, Tryst2.dstL, List.map_cons, List.map_nil, List.take_succ_cons, List.take_zero, List.length_cons, List.length_nil, List.toList_toArray, List.drop_succ_cons, List.drop_zero, Act.put, List.setIfInBounds_toArray, List.set_cons_zero, List.set_cons_succ, hR]
        have hbX := Tryst2.Grow.below hg (.refl X.heap.size X)
        have E4 := Lib.hid (E3.out.grow hz3 hbX)
        have V4 := Lib.hid (V3.out.grow hbX)
        have W4 := Lib.hid (W3.out.grow hbX)
        have F4 := Lib.hid (F3.out.grow hbX)
        have K4 := Lib.hid (bstep hbX K3.out)
        clear hg hR hcg hfg hsg hbX x0 x1 x2 x3 x4 x5 x6 x7 y0 y1 y2 y3 z0 z1 z2 z3 hz3 hz6 hz7 E3 V3 W3 F3 K3
        obtain ⟨w4, rfl⟩ : ∃ v, v = w' := ⟨_, rfl⟩
        have hz3 : g3 < w4.heap.size := (cell_lt E4.out.c0).1
        have hz6 : g6 < w4.heap.size := V4.out.hz
        have hz7 : b6 < w4.heap.size := W4.out.hz
        obtain ⟨x0, x1, x2, x3, x4, x5, x6, x7⟩ := E4.out
        obtain ⟨y0, y1, y2, y3⟩ := V4.out
        obtain ⟨z0, z1, z2, z3⟩ := W4.out
        go_upto_region 5 with fail
        refine Tryst2.wp_region_grows [.is (.agg #[.string t1, .string p1, .int .u64 q, .slice aA L.length cA]), .is (.string n1), .is (.agg #[.bool true, .int .i64 77, .string ⟨#[]⟩]), .any (EvS t1 p1 q P1), .is (.string n1), .is (.agg #[.bool x, .int .i64 n, .string s1]), .any (EvS t1 p1 q PL), .is (.agg #[.string t1, .string p1, .int .u64 q, .slice aA L.length cA]), .is (.string n1), .is (.agg #[.bool x, .int .i64 n, .string s1]), .any (EvS t1 p1 q PL), .is (.bool true), .is (.bool true), .is (.bool true), .is (.bool true), .is (.bool true)] (by kernel_rfl) (by kernel_rfl) ?obl ?fin
        case obl =>
          simp only [Tryst2.AllObl, Tryst2.dstL, Tryst2.Obl, Tryst2.depsOf, Tryst2.binds_data, Tryst2.binds_chain, Tryst2.binds_phase, Tryst2.binds_guard, Tryst2.binds_text, Tryst2.binds_gc, Bool.false_eq_true, if_false, List.filterMap_cons_some, List.filterMap_cons_none, Tryst2.depsR, Tryst2.holdR, Tryst2.tmpsOf, Op.operands, Call.operands, Tryst2.Rsp.pred, Tryst2.wantedV_none, Tryst2.wantedV_some, if_true, List.map_cons, List.map_nil, List.length_map, List.take_succ_cons, List.take_zero, List.length_cons, List.length_nil, List.getElem?_cons_zero, List.getElem?_cons_succ, Option.bind_some, id, List.getD_cons_zero, List.getD_cons_succ, Tryst2.isDst, List.filterMap_cons, List.filterMap_nil, List.toList_toArray]
          repeat' apply And.intro
          any_goals trivial
          all_goals (intro tv w' hg hold hd; (try simp at hold); obtain ⟨hcg, hfg⟩ := Tryst2.Grow.cells hg; have hsg := Tryst2.Grow.le hg)
          all_goals first | (go_simp; done) | (go_simp; rw [if_neg (by omega)]; exact ⟨.refl _, rfl⟩) | (obtain ⟨⟨g, hvg, hgg, hcell⟩, _⟩ := hd; have hcell0 := hcell 0 (by decide); simp at hcell0; go_simp; done) | (go_simp; go_at_call 15; (with_reducible refine (HP1.out aA cA SA.out _ ?_).mono ?_); (exact F4.out.grow (Tryst2.Grow.below hg (.refl w4.heap.size w4))); rintro e w5 ⟨a', c', rfl, hf2, hs2, hb2⟩; exact EvS.of hf2 hs2 hb2) | (go_simp; go_at_call 15; (with_reducible refine (HPL.out aA cA SA.out _ ?_).mono ?_); (exact F4.out.grow (Tryst2.Grow.below hg (.refl w4.heap.size w4))); rintro e w5 ⟨a', c', rfl, hf2, hs2, hb2⟩; exact EvS.of hf2 hs2 hb2) | (obtain ⟨h1, _⟩ := hd; obtain ⟨a5, c5, e5, f5, s5⟩ := EvS.at h1; go_simp; go_at_call 15; (with_reducible refine (HP2.out a5 c5 s5 _ f5).mono ?_); rintro e w5 ⟨a', c', rfl, hf2, hs2, hb2⟩; exact EvS.of hf2 hs2 hb2) | (go_simp; go_at_call 17; (with_reducible refine (awake4_c _ ?_).mono ?_); (exact HM.out.grow (Tryst2.Grow.below hg K4.out)); rintro e w5 ⟨rfl, hb5⟩; exact ⟨hb5, rfl⟩) | (obtain ⟨h1, h2, _⟩ := hd; obtain ⟨a5, c5, e5, f5, _⟩ := EvS.at h1; obtain ⟨a6, c6, e6, f6, _⟩ := EvS.at h2; go_simp; go_at_call 23; (with_reducible refine (HSL.out a5 a6 c5 c6 _ f5 f6).mono ?_); rintro e w5 ⟨r5, rfl, hr5, hb5⟩; exact ⟨hb5, by rw [hr5.2 ⟨rfl, rfl, rfl, rfl⟩]⟩)
        case fin =>
          intro tv w' hg hR
          simp only [Tryst2.allR, Tryst2.dstL, Tryst2.Rsp.pred, List.map_cons, List.map_nil, List.take_succ_cons, List.take_zero, List.length_cons, List.length_nil, List.tail_cons, List.toList_toArray] at hR
          obtain ⟨hcg, hfg⟩ := Tryst2.Grow.cells hg
          have hsg := Tryst2.Grow.le hg
          simp only [Tryst2.putAll, Tryst2.dstL, List.map_cons, List.map_nil, List.take_succ_cons, List.take_zero, List.length_cons, List.length_nil, List.toList_toArray, List.drop_succ_cons, List.drop_zero, Act.put, List.setIfInBounds_toArray, List.set_cons_zero, List.set_cons_succ, hR]
          have K9 := Lib.hid (Tryst2.Grow.below hg K4.out)
          clear hg hR hcg hfg hsg
          go_wp2_with fail
          go_ret
          exact ⟨rfl, K9.out⟩
    · cases mm with
      | false =>
        refine Tryst2.wp_region_grows [.is (.string n1), .is (.string o1), .is (.bool true), .is (.bool true), .is (.agg #[.string t1, .string p1, .int .u64 q, .slice aA L.length cA]), .is (.bool false), .is (.bool false), .is (.bool false), .is undef, .is undef, .is undef, .is undef, .is undef, .is undef, .is undef, .is undef, .is undef, .is undef, .is undef, .is undef, .is undef, .is undef, .is undef, .is undef, .is (.bool false)] (by kernel_rfl) (by kernel_rfl) ?obl ?fin
        case obl =>
          simp only [Tryst2.AllObl, Tryst2.dstL, Tryst2.Obl, Tryst2.depsOf, Tryst2.binds_data, Tryst2.binds_chain, Tryst2.binds_phase, Tryst2.binds_guard, Tryst2.binds_text, Tryst2.binds_gc, Bool.false_eq_true, if_false, List.filterMap_cons_some, List.filterMap_cons_none, Tryst2.depsR, Tryst2.holdR, Tryst2.tmpsOf, Op.operands, Call.operands, Tryst2.Rsp.pred, Tryst2.wantedV_none, Tryst2.wantedV_some, if_true, List.map_cons, List.map_nil, List.length_map, List.take_succ_cons, List.take_zero, List.length_cons, List.length_nil, List.getElem?_cons_zero, List.getElem?_cons_succ, Option.bind_some, id, List.getD_cons_zero, List.getD_cons_succ, Tryst2.isDst, List.filterMap_cons, List.filterMap_nil, List.toList_toArray]
          repeat' apply And.intro
          any_goals trivial
          all_goals (intro tv w' hg hold hd; (try simp at hold); obtain ⟨hcg, hfg⟩ := Tryst2.Grow.cells hg; have hsg := Tryst2.Grow.le hg)
          all_goals first | (go_simp; done) | (go_simp; rw [if_neg (by omega)]; exact ⟨.refl _, rfl⟩) | (obtain ⟨⟨g, hvg, hgg, hcell⟩, _⟩ := hd; have hcell0 := hcell 0 (by decide); simp at hcell0; go_simp; done) | (go_simp; go_at_call 18; (with_reducible refine (HMAY.out aA cA _ ?_ ?_).mono ?_); (exact HM.out.grow (Tryst2.Grow.below hg K3.out)); (exact F3.out.grow (Tryst2.Grow.below hg (.refl X.heap.size X))); rintro e w5 ⟨rfl, hb5⟩; exact ⟨hb5, rfl⟩)
        case fin =>
          intro tv w' hg hR
          simp only [Tryst2.allR, Tryst2.dstL, Tryst2.Rsp.pred, List.map_cons, List.map_nil, List.take_succ_cons, List.take_zero, List.length_cons, List.length_nil, List.tail_cons, List.toList_toArray] at hR
          obtain ⟨hcg, hfg⟩ := Tryst2.Grow.cells hg
          have hsg := Tryst2.Grow.le hg
          simp only [Tryst2.putAll, Tryst2.dstL, List.map_cons, List.map_nil, List.take_succ_cons, List.take_zero, List.length_cons, List.length_nil, List.toList_toArray, List.drop_succ_cons, List.drop_zero, Act.put, List.setIfInBounds_toArray, List.set_cons_zero, List.set_cons_succ, hR]
          have hbX := Tryst2.Grow.below hg (.refl X.heap.size X)
          have E4 := Lib.hid (E3.out.grow hz3 hbX)
          have V4 := Lib.hid (V3.out.grow hbX)
          have W4 := Lib.hid (W3.out.grow hbX)
          have F4 := Lib.hid (F3.out.grow hbX)
          have K4 := Lib.hid (bstep hbX K3.out)
          clear hg hR hcg hfg hsg hbX x0 x1 x2 x3 x4 x5 x6 x7 y0 y1 y2 y3 z0 z1 z2 z3 hz3 hz6 hz7 E3 V3 W3 F3 K3
          obtain ⟨w4, rfl⟩ : ∃ v, v = w' := ⟨_, rfl⟩
          have hz3 : g3 < w4.heap.size := (cell_lt E4.out.c0).1
          have hz6 : g6 < w4.heap.size := V4.out.hz
          have hz7 : b6 < w4.heap.size := W4.out.hz
          obtain ⟨x0, x1, x2, x3, x4, x5, x6, x7⟩ := E4.out
          obtain ⟨y0, y1, y2, y3⟩ := V4.out
          obtain ⟨z0, z1, z2, z3⟩ := W4.out
          go_upto_region 5 with fail
          refine Tryst2.wp_region_grows [.is (.agg #[.string t1, .string p1, .int .u64 q, .slice aA L.length cA]), .is (.string n1), .is (.agg #[.bool true, .int .i64 77, .string ⟨#[]⟩]), .any (EvS t1 p1 q P1), .is (.string n1), .is (.agg #[.bool x, .int .i64 n, .string s1]), .any (EvS t1 p1 q PL), .is (.agg #[.string t1, .string p1, .int .u64 q, .slice aA L.length cA]), .is (.string n1), .is (.agg #[.bool x, .int .i64 n, .string s1]), .any (EvS t1 p1 q PL), .is (.bool true), .is (.bool true), .is (.bool true), .is (.bool true), .is (.bool true)] (by kernel_rfl) (by kernel_rfl) ?obl ?fin
          case obl =>
            simp only [Tryst2.AllObl, Tryst2.dstL, Tryst2.Obl, Tryst2.depsOf, Tryst2.binds_data, Tryst2.binds_chain, Tryst2.binds_phase, Tryst2.binds_guard, Tryst2.binds_text, Tryst2.binds_gc, Bool.false_eq_true, if_false, List.filterMap_cons_some, List.filterMap_cons_none, Tryst2.depsR, Tryst2.holdR, Tryst2.tmpsOf, Op.operands, Call.operands, Tryst2.Rsp.pred, Tryst2.wantedV_none, Tryst2.wantedV_some, if_true, List.map_cons, List.map_nil, List.length_map, List.take_succ_cons, List.take_zero, List.length_cons, List.length_nil, List.getElem?_cons_zero, List.getElem?_cons_succ, Option.bind_some, id, List.getD_cons_zero, List.getD_cons_succ, Tryst2.isDst, List.filterMap_cons, List.filterMap_nil, List.toList_toArray]
            repeat' apply And.intro
            any_goals trivial
            all_goals (intro tv w' hg hold hd; (try simp at hold); obtain ⟨hcg, hfg⟩ := Tryst2.Grow.cells hg; have hsg := Tryst2.Grow.le hg)
            all_goals first | (go_simp; done) | (go_simp; rw [if_neg (by omega)]; exact ⟨.refl _, rfl⟩) | (obtain ⟨⟨g, hvg, hgg, hcell⟩, _⟩ := hd; have hcell0 := hcell 0 (by decide); simp at hcell0; go_simp; done) | (go_simp; go_at_call 15; (with_reducible refine (HP1.out aA cA SA.out _ ?_).mono ?_); (exact F4.out.grow (Tryst2.Grow.below hg (.refl w4.heap.size w4))); rintro e w5 ⟨a', c', rfl, hf2, hs2, hb2⟩; exact EvS.of hf2 hs2 hb2) | (go_simp; go_at_call 15; (with_reducible refine (HPL.out aA cA SA.out _ ?_).mono ?_); (exact F4.out.grow (Tryst2.Grow.below hg (.refl w4.heap.size w4))); rintro e w5 ⟨a', c', rfl, hf2, hs2, hb2⟩; exact EvS.of hf2 hs2 hb2) | (obtain ⟨h1, _⟩ := hd; obtain ⟨a5, c5, e5, f5, s5⟩ := EvS.at h1; go_simp; go_at_call 15; (with_reducible refine (HP2.out a5 c5 s5 _ f5).mono ?_); rintro e w5 ⟨a', c', rfl, hf2, hs2, hb2⟩; exact EvS.of hf2 hs2 hb2) | (go_simp; go_at_call 17; (with_reducible refine (awake4_c _ ?_).mono ?_); (exact HM.out.grow (Tryst2.Grow.below hg K4.out)); rintro e w5 ⟨rfl, hb5⟩; exact ⟨hb5, rfl⟩) | (obtain ⟨h1, h2, _⟩ := hd; obtain ⟨a5, c5, e5, f5, _⟩ := EvS.at h1; obtain ⟨a6, c6, e6, f6, _⟩ := EvS.at h2; go_simp; go_at_call 23; (with_reducible refine (HSL.out a5 a6 c5 c6 _ f5 f6).mono ?_); rintro e w5 ⟨r5, rfl, hr5, hb5⟩; exact ⟨hb5, by rw [hr5.2 ⟨rfl, rfl, rfl, rfl⟩]⟩)
          case fin =>
            intro tv w' hg hR
            simp only [Tryst2.allR, Tryst2.dstL, Tryst2.Rsp.pred, List.map_cons, List.map_nil, List.take_succ_cons, List.take_zero, List.length_cons, List.length_nil, List.tail_cons, List.toList_toArray] at hR
            obtain ⟨hcg, hfg⟩ := Tryst2.Grow.cells hg
            have hsg := Tryst2.Grow.le hg
            simp only [Tryst2.putAll, Tryst2.dstL, List.map_cons, List.map_nil, List.take_succ_cons, List.take_zero, List.length_cons, List.length_nil, List.toList_toArray, List.drop_succ_cons, List.drop_zero, Act.put, List.setIfInBounds_toArray, List.set_cons_zero, List.set_cons_succ, hR]
            have K9 := Lib.hid (Tryst2.Grow.below hg K4.out)
            clear hg hR hcg hfg hsg
            go_wp2_with fail
            go_ret
            exact ⟨rfl, K9.out⟩
      | true =>
        refine Tryst2.wp_region_grows [.is (.string n1), .is (.string o1), .is (.bool true), .is (.bool true), .is (.agg #[.string t1, .string p1, .int .u64 q, .slice aA L.length cA]), .is (.bool true), .is (.bool true), .is (.bool true), .is (.agg #[.string t1, .string p1, .int .u64 q, .slice aA L.length cA]), .is (.string n1), .is (.agg #[.bool x, .int .i64 n, .string s1]), .any (EvS t1 p1 q PL), .is (.string o1), .is (.agg #[.bool true, .int .i64 77, .string ⟨#[]⟩]), .any (EvS t1 p1 q PB), .is (.agg #[.string t1, .string p1, .int .u64 q, .slice aA L.length cA]), .is (.string o1), .is (.agg #[.bool true, .int .i64 77, .string ⟨#[]⟩]), .any (EvS t1 p1 q PO), .is (.string n1), .is (.agg #[.bool x, .int .i64 n, .string s1]), .any (EvS t1 p1 q PB), .is (.bool true), .is (.bool false), .is (.bool false)] (by kernel_rfl) (by kernel_rfl) ?obl ?fin
        case obl =>
          simp only [Tryst2.AllObl, Tryst2.dstL, Tryst2.Obl, Tryst2.depsOf, Tryst2.binds_data, Tryst2.binds_chain, Tryst2.binds_phase, Tryst2.binds_guard, Tryst2.binds_text, Tryst2.binds_gc, Bool.false_eq_true, if_false, List.filterMap_cons_some, List.filterMap_cons_none, Tryst2.depsR, Tryst2.holdR, Tryst2.tmpsOf, Op.operands, Call.operands, Tryst2.Rsp.pred, Tryst2.wantedV_none, Tryst2.wantedV_some, if_true, List.map_cons, List.map_nil, List.length_map, List.take_succ_cons, List.take_zero, List.length_cons, List.length_nil, List.getElem?_cons_zero, List.getElem?_cons_succ, Option.bind_some, id, List.getD_cons_zero, List.getD_cons_succ, Tryst2.isDst, List.filterMap_cons, List.filterMap_nil, List.toList_toArray]
          repeat' apply And.intro
          any_goals trivial
          all_goals (intro tv w' hg hold hd; (try simp at hold); obtain ⟨hcg, hfg⟩ := Tryst2.Grow.cells hg; have hsg := Tryst2.Grow.le hg)
          all_goals first | (go_simp; done) | (go_simp; rw [if_neg (by omega)]; exact ⟨.refl _, rfl⟩) | (obtain ⟨⟨g, hvg, hgg, hcell⟩, _⟩ := hd; have hcell0 := hcell 0 (by decide); simp at hcell0; go_simp; done) | (go_simp; go_at_call 18; (with_reducible refine (HMAY.out aA cA _ ?_ ?_).mono ?_); (exact HM.out.grow (Tryst2.Grow.below hg K3.out)); (exact F3.out.grow (Tryst2.Grow.below hg (.refl X.heap.size X))); rintro e w5 ⟨rfl, hb5⟩; exact ⟨hb5, rfl⟩) | (go_simp; go_at_call 15; (with_reducible refine (HPL.out aA cA SA.out _ ?_).mono ?_); (exact F3.out.grow (Tryst2.Grow.below hg (.refl X.heap.size X))); rintro e w5 ⟨a', c', rfl, hf2, hs2, hb2⟩; exact EvS.of hf2 hs2 hb2) | (go_simp; go_at_call 15; (with_reducible refine (HPO.out aA cA SA.out _ ?_).mono ?_); (exact F3.out.grow (Tryst2.Grow.below hg (.refl X.heap.size X))); rintro e w5 ⟨a', c', rfl, hf2, hs2, hb2⟩; exact EvS.of hf2 hs2 hb2) | (obtain ⟨h1, _⟩ := hd; obtain ⟨a5, c5, e5, f5, s5⟩ := EvS.at h1; go_simp; go_at_call 15; (with_reducible refine (HPB.out a5 c5 s5 _ f5).mono ?_); rintro e w5 ⟨a', c', rfl, hf2, hs2, hb2⟩; exact EvS.of hf2 hs2 hb2) | (obtain ⟨h1, _⟩ := hd; obtain ⟨a5, c5, e5, f5, s5⟩ := EvS.at h1; go_simp; go_at_call 15; (with_reducible refine (HPC.out hab a5 c5 s5 _ f5).mono ?_); rintro e w5 ⟨a', c', rfl, hf2, hs2, hb2⟩; exact EvS.of hf2 hs2 hb2) | (obtain ⟨h1, h2, _⟩ := hd; obtain ⟨a5, c5, e5, f5, _⟩ := EvS.at h1; obtain ⟨a6, c6, e6, f6, _⟩ := EvS.at h2; go_simp; go_at_call 23; (with_reducible refine (HSB.out a5 a6 c5 c6 _ f5 f6).mono ?_); rintro e w5 ⟨r5, rfl, hr5, hb5⟩; exact ⟨hb5, by rw [hr5.2 ⟨rfl, rfl, rfl, rfl⟩]⟩)
        case fin =>
          intro tv w' hg hR
          simp only [Tryst2.allR, Tryst2.dstL, Tryst2.Rsp.pred, List.map_cons, List.map_nil, List.take_succ_cons, List.take_zero, List.length_cons, List.length_nil, List.tail_cons, List.toList_toArray] at hR
          obtain ⟨hcg, hfg⟩ := Tryst2.Grow.cells hg
          have hsg := Tryst2.Grow.le hg
          simp only [Tryst2.putAll, Tryst2.dstL, List.map_cons, List.map_nil, List.take_succ_cons, List.take_zero, List.length_cons, List.length_nil, List.toList_toArray, List.drop_succ_cons, List.drop_zero, Act.put, List.setIfInBounds_toArray, List.set_cons_zero, List.set_cons_succ, hR]
          have hbX := Tryst2.Grow.below hg (.refl X.heap.size X)
          have E4 := Lib.hid (E3.out.grow hz3 hbX)
          have V4 := Lib.hid (V3.out.grow hbX)
          have W4 := Lib.hid (W3.out.grow hbX)
          have F4 := Lib.hid (F3.out.grow hbX)
          have K4 := Lib.hid (bstep hbX K3.out)
          clear hg hR hcg hfg hsg hbX x0 x1 x2 x3 x4 x5 x6 x7 y0 y1 y2 y3 z0 z1 z2 z3 hz3 hz6 hz7 E3 V3 W3 F3 K3
          obtain ⟨w4, rfl⟩ : ∃ v, v = w' := ⟨_, rfl⟩
          have hz3 : g3 < w4.heap.size := (cell_lt E4.out.c0).1
          have hz6 : g6 < w4.heap.size := V4.out.hz
          have hz7 : b6 < w4.heap.size := W4.out.hz
          obtain ⟨x0, x1, x2, x3, x4, x5, x6, x7⟩ := E4.out
          obtain ⟨y0, y1, y2, y3⟩ := V4.out
          obtain ⟨z0, z1, z2, z3⟩ := W4.out
          go_upto_region 5 with fail
          refine Tryst2.wp_region_grows [.is (.agg #[.string t1, .string p1, .int .u64 q, .slice aA L.length cA]), .is (.string n1), .is (.agg #[.bool true, .int .i64 77, .string ⟨#[]⟩]), .any (EvS t1 p1 q P1), .is (.string n1), .is (.agg #[.bool x, .int .i64 n, .string s1]), .any (EvS t1 p1 q PL), .is (.agg #[.string t1, .string p1, .int .u64 q, .slice aA L.length cA]), .is (.string n1), .is (.agg #[.bool x, .int .i64 n, .string s1]), .any (EvS t1 p1 q PL), .is (.bool true), .is (.bool true), .is (.bool true), .is (.bool true), .is (.bool true)] (by kernel_rfl) (by kernel_rfl) ?obl ?fin
          case obl =>
            simp only [Tryst2.AllObl, Tryst2.dstL, Tryst2.Obl, Tryst2.depsOf, Tryst2.binds_data, Tryst2.binds_chain, Tryst2.binds_phase, Tryst2.binds_guard, Tryst2.binds_text, Tryst2.binds_gc, Bool.false_eq_true, if_false, List.filterMap_cons_some, List.filterMap_cons_none, Tryst2.depsR, Tryst2.holdR, Tryst2.tmpsOf, Op.operands, Call.operands, Tryst2.Rsp.pred, Tryst2.wantedV_none, Tryst2.wantedV_some, if_true, List.map_cons, List.map_nil, List.length_map, List.take_succ_cons, List.take_zero, List.length_cons, List.length_nil, List.getElem?_cons_zero, List.getElem?_cons_succ, Option.bind_some, id, List.getD_cons_zero, List.getD_cons_succ, Tryst2.isDst, List.filterMap_cons, List.filterMap_nil, List.toList_toArray]
            repeat' apply And.intro
            any_goals trivial
            all_goals (intro tv w' hg hold hd; (try simp at hold); obtain ⟨hcg, hfg⟩ := Tryst2.Grow.cells hg; have hsg := Tryst2.Grow.le hg)
            all_goals first | (go_simp; done) | (go_simp; rw [if_neg (by omega)]; exact ⟨.refl _, rfl⟩) | (obtain ⟨⟨g, hvg, hgg, hcell⟩, _⟩ := hd; have hcell0 := hcell 0 (by decide); simp at hcell0; go_simp; done) | (go_simp; go_at_call 15; (with_reducible refine (HP1.out aA cA SA.out _ ?_).mono ?_); (exact F4.out.grow (Tryst2.Grow.below hg (.refl w4.heap.size w4))); rintro e w5 ⟨a', c', rfl, hf2, hs2, hb2⟩; exact EvS.of hf2 hs2 hb2) | (go_simp; go_at_call 15; (with_reducible refine (HPL.out aA cA SA.out _ ?_).mono ?_); (exact F4.out.grow (Tryst2.Grow.below hg (.refl w4.heap.size w4))); rintro e w5 ⟨a', c', rfl, hf2, hs2, hb2⟩; exact EvS.of hf2 hs2 hb2) | (obtain ⟨h1, _⟩ := hd; obtain ⟨a5, c5, e5, f5, s5⟩ := EvS.at h1; go_simp; go_at_call 15; (with_reducible refine (HP2.out a5 c5 s5 _ f5).mono ?_); rintro e w5 ⟨a', c', rfl, hf2, hs2, hb2⟩; exact EvS.of hf2 hs2 hb2) | (go_simp; go_at_call 17; (with_reducible refine (awake4_c _ ?_).mono ?_); (exact HM.out.grow (Tryst2.Grow.below hg K4.out)); rintro e w5 ⟨rfl, hb5⟩; exact ⟨hb5, rfl⟩) | (obtain ⟨h1, h2, _⟩ := hd; obtain ⟨a5, c5, e5, f5, _⟩ := EvS.at h1; obtain ⟨a6, c6, e6, f6, _⟩ := EvS.at h2; go_simp; go_at_call 23; (with_reducible refine (HSL.out a5 a6 c5 c6 _ f5 f6).mono ?_); rintro e w5 ⟨r5, rfl, hr5, hb5⟩; exact ⟨hb5, by rw [hr5.2 ⟨rfl, rfl, rfl, rfl⟩]⟩)
          case fin =>
            intro tv w' hg hR
            simp only [Tryst2.allR, Tryst2.dstL, Tryst2.Rsp.pred, List.map_cons, List.map_nil, List.take_succ_cons, List.take_zero, List.length_cons, List.length_nil, List.tail_cons, List.toList_toArray] at hR
            obtain ⟨hcg, hfg⟩ := Tryst2.Grow.cells hg
            have hsg := Tryst2.Grow.le hg
            simp only [Tryst2.putAll, Tryst2.dstL, List.map_cons, List.map_nil, List.take_succ_cons, List.take_zero, List.length_cons, List.length_nil, List.toList_toArray, List.drop_succ_cons, List.drop_zero, Act.put, List.setIfInBounds_toArray, List.set_cons_zero, List.set_cons_succ, hR]
            have K9 := Lib.hid (Tryst2.Grow.below hg K4.out)
            clear hg hR hcg hfg hsg
            go_wp2_with fail
            go_ret
            exact ⟨rfl, K9.out⟩
end Go.Proofs.Ytfohdjgalmodbaa
