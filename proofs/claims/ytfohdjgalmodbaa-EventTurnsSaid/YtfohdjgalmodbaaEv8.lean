/- The walk of Put where the field is not there, and is put at the end. -/
import Derived.Test.YtfohdjgalmodbaaProg
import Derived.WalkKit
import Derived.WalkSpells
import Derived.WalkLawsBesides
import Derived.Lib.Hide
import Derived.Deep.RegionWith
import Derived.Deep.Cut
import Derived.Test.YtfohdjgalmodbaaEv6
import Derived.Test.YtfohdjgalmodbaaPutE
import Derived.Test.YtfohdjgalmodbaaEv7
set_option linter.unusedVariables false
set_option linter.unusedSimpArgs false
namespace Go.Proofs.Ytfohdjgalmodbaa
open Go.RowKit Tryst
set_option maxHeartbeats 400000
set_option maxRecDepth 20000
set_option maxHeartbeats 2000000 in
theorem put_end (t p : ByteArray) (q : Int) (b o c : Nat) (l : List FB) (hl : l.length ≤ 1000000000) (hc : l.length ≤ c) (f : FB) (w : World) (hF : Flds w (some ⟨b, o, none⟩) l) (hi : idxB (fun x => x.name.toList == f.name.toList) l = -1)
    (hi2 : idxB (fun x => Op.bytesLess f.name.toList x.name.toList) l = -1) (hins : insB l f = l ++ [f]) (hb : 0 < l.length → b < w.heap.size) :
    Calls Try.prog 15 #[.agg #[.string t, .string p, .int .u64 q, .slice (some ⟨b, o, none⟩) l.length c], .string f.name, .agg #[.bool f.num, .int .i64 f.n, .string f.s]] w fun e w' => EvR w t p q (insB l f) e w' := by
  have HIns := Lib.hid hins
  have HF := Lib.hid hF
  have HI := Lib.hid hi
  have HI2 := Lib.hid hi2
  obtain ⟨M, hM, hmk⟩ := makeF (l.length + 1) (by omega)
  have hmk2 : ∀ w : World, (Instr.makeSlice 23 (.int .i64 0) (.int .i64 ((l.length : Int) + 1))).run Try.prog w = .ok (.slice (some ⟨w.heap.size, 0, none⟩) 0 (l.length + 1)) (w.alloc (.cells M 42)) := fun w => by simpa using hmk w
  have HM := Lib.hid hM
  clear hF hi hi2 hins hmk hM
  go_enter Try.func15, Try.ntmps15
  go_wp2_with fail
  have PW := PutW.new w t p q (.slice (some ⟨b, o, none⟩) l.length c) f 25 9 27 25 42
  revert PW
  generalize (((((w.alloc (.cells #[.string t, .string p, .int .u64 q, .slice (some ⟨b, o, none⟩) l.length c] 25)).alloc (.cells #[.string f.name] 9)).alloc (.cells #[.bool f.num, .int .i64 f.n, .string f.s] 27)).alloc (.cells #[.string ⟨#[]⟩, .string ⟨#[]⟩, .int .u64 0, .slice none 0 0] 25)).alloc (.cells #[.string f.name, .bool f.num, .int .i64 f.n, .string f.s] 42)) = X
  intro PW
  refine (find_c t p q _ c l hl f.name X (HF.out.grow PW.b)).mono ?_
  rintro e w1 ⟨rfl, hb1⟩
  rw [HI.out]
  have PW1 := PW.grow hb1
  have HF1 := Lib.hid (HF.out.grow PW1.b)
  have hz1 := PW1.size
  have HP1 := Lib.hid PW1
  obtain ⟨c0, c1, c2, c3, c4, c5, c6, c7⟩ := PW1.e
  clear PW PW1 hb1 HF
  go_wp2_with fail
  refine (indexAbove_c f.name ⟨w.heap.size + 1, 0, none⟩ _ c l hl w1 HF1.out HP1.out.n (by show w.heap.size + 1 < _; omega)).mono ?_
  rintro e w2 ⟨rfl, hb2⟩
  rw [HI2.out]
  have PW2 := HP1.out.grow hb2
  have HF2 := Lib.hid (HF1.out.grow hb2)
  have HP2 := Lib.hid PW2
  have hz2 := PW2.size
  obtain ⟨d0, d1, d2, d3, d4, d5, d6, d7⟩ := PW2.e
  have x1 : (0 : Int) ≤ l.length := by omega
  clear PW2 hb2 HF1 HP1 c0 c1 c2 c3 c4 c5 c6 c7
  go_upto_region 11 with fail
  obtain ⟨G, hG⟩ : ∃ G, w2.heap.size = G := ⟨_, rfl⟩
  have hX : Hid (PutW w (w2.alloc (.cells M 42)) t p q (.slice (some ⟨b, o, none⟩) l.length c) f) ∧ Hid (Flds (w2.alloc (.cells M 42)) (some ⟨b, o, none⟩) l) ∧ Hid ((w2.alloc (.cells M 42)).heap[G]? = some (.cells M 42 (0, 0))) ∧ G < (w2.alloc (.cells M 42)).heap.size := by
    refine ⟨HP2.out.grow (balloc _ (.refl _ _)), HF2.out.grow (balloc _ (.refl _ _)), ?_, by simp; omega⟩
    show (w2.heap.push _)[G]? = _
    rw [← hG]; simp
  rw [hG]
  have hGz : w.heap.size + 5 ≤ G := by omega
  clear HP2 HF2 d0 d1 d2 d3 d4 d5 d6 d7 hz2 hmk2
  revert hX
  generalize w2.alloc (.cells M 42) = X3
  rintro ⟨HP, HF3, HG, hGX⟩
  clear hG
  have x2 : (l.length : Int) ≤ c := by omega
  refine Tryst3.wp_region_ext G (Tryst3.rowC 42 l M) [.is (.slice (some ⟨G, 0, none⟩) 0 (l.length + 1)), .is (.pointer (some ⟨w.heap.size, 3, none⟩)), .is (.slice (some ⟨b, o, none⟩) l.length c), .is (.int .i64 l.length), .is (.slice (some ⟨b, o, none⟩) l.length c), .any (Tryst3.App48 42 G (l.length + 1) l M), .is (.agg #[.string f.name, .bool f.num, .int .i64 f.n, .string f.s]), .any (Tryst3.OneG G f)] (by kernel_rfl) (by kernel_rfl) ?obl ?fin
  case obl =>
    simp only [Tryst2.AllObl, Tryst2.dstL, Tryst2.Obl, Tryst2.depsOf, Tryst2.binds_data, Tryst2.binds_chain, Tryst2.binds_phase, Tryst2.binds_guard, Tryst2.binds_text, Tryst2.binds_gc, Bool.false_eq_true, if_false, List.filterMap_cons_some, List.filterMap_cons_none, Tryst2.depsR, Tryst2.holdR, Tryst2.tmpsOf, Op.operands, Call.operands, Tryst3.Rsp.pred, Tryst2.wantedV_none, Tryst2.wantedV_some, if_true, List.map_cons, List.map_nil, List.length_map, List.take_succ_cons, List.take_zero, List.length_cons, List.length_nil, List.getElem?_cons_zero, List.getElem?_cons_succ, Option.bind_some, id, List.getD_cons_zero, List.getD_cons_succ, Tryst2.isDst, List.filterMap_cons, List.filterMap_nil, List.toList_toArray]
    repeat' apply And.intro
    any_goals trivial
    all_goals (intro tv w' hg hold hd; (try simp at hold); obtain ⟨e0, e1, e2, e3, e4, e5, e6, e7⟩ := hg.ev (b := w.heap.size) (EAt.mk HP.out.e.c0 HP.out.e.c1 HP.out.e.c2 HP.out.e.c3 HP.out.e.f0 HP.out.e.f1 HP.out.e.f2 HP.out.e.f3) (by show w.heap.size < X3.heap.size; omega) (by omega); have hgs : X3.heap.size ≤ w'.heap.size := hg.size; obtain ⟨f0, f1, f2, f3⟩ := hg.fat (b := w.heap.size + 1 + 1 + 1 + 1) (o := 0) (f := f) (FAt.mk HP.out.fa.c0 HP.out.fa.c1 HP.out.fa.c2 HP.out.fa.c3) (by show w.heap.size + 1 + 1 + 1 + 1 < X3.heap.size; omega) (by omega); simp only [Nat.zero_add] at f1 f2 f3)
    all_goals first | (go_simp; done) | (go_simp; rw [if_neg (by omega)]; exact ⟨.refl _ _ _, rfl⟩) | (go_simp; exact Tryst3.oneG G _ f _ _ (by omega)) | (refine Tryst3.step48 (w := X3.drew) fldT (.tmp 43) (.tmp 47) rfl G (l.length + 1) M l HM.out (show X3.drew.heap[G]? = _ from HG.out) hg hd.1 l.length b o c rfl hd.2.1 (flds_cells (hg.flds0 (l := l) (b := b) (o := o) (Flds.drew HF3.out) (fun h => by have := hb h; omega))) (by omega))
  case fin =>
    intro tv w' hg hR
    simp only [Tryst2.allR, Tryst2.dstL, Tryst3.Rsp.pred, List.map_cons, List.map_nil, List.take_succ_cons, List.take_zero, List.length_cons, List.length_nil, List.tail_cons, List.toList_toArray] at hR
    simp only [Tryst2.putAll, Tryst2.dstL, List.map_cons, List.map_nil, List.take_succ_cons, List.take_zero, List.length_cons, List.length_nil, List.toList_toArray, List.drop_succ_cons, List.drop_zero, Act.put, List.setIfInBounds_toArray, List.set_cons_zero, List.set_cons_succ, hR]
    obtain ⟨e48, h48⟩ := Tryst3.App48.at hR.2.2.2.2.2.1
    obtain ⟨g2, e50, hg2, hf2⟩ := Tryst3.OneG.at hR.2.2.2.2.2.2.2.1
    simp only [e48, e50]
    have hgs : X3.heap.size ≤ w'.heap.size := hg.size
    have E1 := hg.ev (b := w.heap.size) (EAt.mk HP.out.e.c0 HP.out.e.c1 HP.out.e.c2 HP.out.e.c3 HP.out.e.f0 HP.out.e.f1 HP.out.e.f2 HP.out.e.f3) (by show w.heap.size < X3.heap.size; omega) (by omega)
    have E2 := hg.ev (b := w.heap.size + 1 + 1 + 1) (EAt.mk HP.out.z.c0 HP.out.z.c1 HP.out.z.c2 HP.out.z.c3 HP.out.z.f0 HP.out.z.f1 HP.out.z.f2 HP.out.z.f3) (by show w.heap.size + 1 + 1 + 1 < X3.heap.size; omega) (by omega)
    have F4 := hg.flds0 (l := l) (b := b) (o := o) (Flds.drew HF3.out) (fun h => by have := hb h; omega)
    have KB : Below w.heap.size w w' := (HP.out.b.drew).trans (hg.below (B := w.heap.size) (by omega) (by show w.heap.size ≤ X3.heap.size; omega))
    have O1 : FOwn 42 w' G (.slice (some ⟨G, 0, none⟩) l.length (l.length + 1)) l := Tryst3.own48 (base := G) h48 HM.out (by omega) (Nat.le_refl _) (by unfold maxLen; omega)
    clear hR hg HP HF3 HG e48 e50 h48
    refine wpList_appN fldT rfl _ _ rfl G _ l l.length rfl rfl O1 f g2 rfl hf2 (by omega) (by omega) ?_
    intro a' c' w3 O2 hb3
    have hz3 : w'.heap.size ≤ w3.heap.size := hb3.size
    have E1' := E1.growB (B := G) (by omega) hb3
    have E2' := E2.growB (B := G) (by omega) hb3
    have KB' := Lib.hid (KB.trans (hb3.mono (by omega)))
    obtain ⟨d0, d1, d2, d3, d4, d5, d6, d7⟩ := E1'
    have hZ := Lib.hid E2'
    have hE := Lib.hid (EAt.mk d0 d1 d2 d3 d4 d5 d6 d7)
    have HO2 := Lib.hid O2
    have hGw : G ≤ w3.heap.size := by omega
    have hr4 : (l ++ [f]).length = l.length + 1 := by simp
    have HR4 := Lib.hid hr4
    clear hb3 E1 E2 F4 KB O1 E2' O2 hf2 hr4
    clear d0 d1 d2 d3 d4 d5 d6 d7
    obtain ⟨d0, d1, d2, d3, d4, d5, d6, d7⟩ := hE.out
    by_cases hcl : c = l.length
    · subst hcl
      go_wp2_with (at_builtin; refine wpList_appSN fldT rfl _ _ rfl G _ (l ++ [f]) (l.length + 1) HR4.out rfl HO2.out [] 0 rfl _ _ _ rfl (fun j u h => by simp at h) (by omega) hGw ?_; intro a2 c2 w4 O3 hb4; clear d0 d1 d2 d3 d4 d5 d6 d7; have hE4 := hE.out.growB (B := G) (by omega) hb4; obtain ⟨d0, d1, d2, d3, d4, d5, d6, d7⟩ := hE4; have hZ4 := hZ.out.growB (B := G) (by omega) hb4; obtain ⟨z0, z1, z2, z3, z4, z5, z6, z7⟩ := hZ4; have hz4 : w3.heap.size ≤ w4.heap.size := hb4.size; have y1 : w.heap.size < w4.heap.size := (by omega); have KB4 := Lib.hid (KB'.out.trans (hb4.mono (by omega : w.heap.size ≤ G))); have O4 := Lib.hid O3; clear O3 hb4)
      have O5 := ((((O4.out.set (b := w.heap.size) (o := 3) (by omega) (.slice a2 (l.length + 1) c2)).set (b := w.heap.size + 1 + 1 + 1) (o := 0) (by omega) (.string t)).set (b := w.heap.size + 1 + 1 + 1) (o := 1) (by omega) (.string p)).set (b := w.heap.size + 1 + 1 + 1) (o := 2) (by omega) (.int .u64 q)).set (b := w.heap.size + 1 + 1 + 1) (o := 3) (by omega) (.slice a2 (l.length + 1) c2)
      rw [List.append_nil] at O5
      obtain ⟨aa, cc, hv, hfl, _, _, hcc⟩ := O5.flds
      rw [← HIns.out] at hv hfl hcc
      obtain ⟨rfl, hln, rfl⟩ : a2 = aa ∧ l.length + 1 = (insB l f).length ∧ c2 = cc := by simpa using hv
      have HLN := Lib.hid hln
      have HFL := Lib.hid hfl
      have HCC := Lib.hid hcc
      clear hv hln hfl hcc O5
      refine bodyPost_ret (v := .agg #[.string t, .string p, .int .u64 q, .slice a2 (l.length + 1) c2]) (by simp [results, Try.results15, go_sem, *]) rfl ⟨a2, c2, by rw [← HLN.out], HFL.out, HCC.out, ?_⟩
      exact bset _ (by simp; omega) (bset _ (by simp; omega) (bset _ (by simp; omega) (bset _ (by simp; omega) (bset _ (by simp) KB4.out))))
    · go_wp2_with (at_builtin; refine wpList_appSN fldT rfl _ _ rfl G _ (l ++ [f]) (l.length + 1) HR4.out rfl HO2.out [] 0 rfl _ _ _ rfl (fun j u h => by simp at h) (by omega) hGw ?_; intro a2 c2 w4 O3 hb4; clear d0 d1 d2 d3 d4 d5 d6 d7; have hE4 := hE.out.growB (B := G) (by omega) hb4; obtain ⟨d0, d1, d2, d3, d4, d5, d6, d7⟩ := hE4; have hZ4 := hZ.out.growB (B := G) (by omega) hb4; obtain ⟨z0, z1, z2, z3, z4, z5, z6, z7⟩ := hZ4; have hz4 : w3.heap.size ≤ w4.heap.size := hb4.size; have y1 : w.heap.size < w4.heap.size := (by omega); have KB4 := Lib.hid (KB'.out.trans (hb4.mono (by omega : w.heap.size ≤ G))); have O4 := Lib.hid O3; clear O3 hb4)
      have O5 := ((((O4.out.set (b := w.heap.size) (o := 3) (by omega) (.slice a2 (l.length + 1) c2)).set (b := w.heap.size + 1 + 1 + 1) (o := 0) (by omega) (.string t)).set (b := w.heap.size + 1 + 1 + 1) (o := 1) (by omega) (.string p)).set (b := w.heap.size + 1 + 1 + 1) (o := 2) (by omega) (.int .u64 q)).set (b := w.heap.size + 1 + 1 + 1) (o := 3) (by omega) (.slice a2 (l.length + 1) c2)
      rw [List.append_nil] at O5
      obtain ⟨aa, cc, hv, hfl, _, _, hcc⟩ := O5.flds
      rw [← HIns.out] at hv hfl hcc
      obtain ⟨rfl, hln, rfl⟩ : a2 = aa ∧ l.length + 1 = (insB l f).length ∧ c2 = cc := by simpa using hv
      have HLN := Lib.hid hln
      have HFL := Lib.hid hfl
      have HCC := Lib.hid hcc
      clear hv hln hfl hcc O5
      refine bodyPost_ret (v := .agg #[.string t, .string p, .int .u64 q, .slice a2 (l.length + 1) c2]) (by simp [results, Try.results15, go_sem, *]) rfl ⟨a2, c2, by rw [← HLN.out], HFL.out, HCC.out, ?_⟩
      exact bset _ (by simp; omega) (bset _ (by simp; omega) (bset _ (by simp; omega) (bset _ (by simp; omega) (bset _ (by simp) KB4.out))))
end Go.Proofs.Ytfohdjgalmodbaa
