/- joined: law04.Few. -/
import Derived.Test.YtmlbdblnmbmnpaaGreatDoorProg
import Derived.WalkKit
import Derived.WalkSpells
import Derived.WalkLawsBesides
import Derived.Lib.Hide
import Derived.Deep.RegionWith
import Derived.Deep.Cut
import Derived.Test.YtmlbdblnmbmnpaaGreatDoorFldG
import Derived.Test.YtmlbdblnmbmnpaaGreatDoorVal47
set_option linter.unusedVariables false
set_option linter.unusedSimpArgs false
namespace Go.Proofs.YtmlbdblnmbmnpaaGreatDoor
open Go.RowKit Tryst
set_option maxHeartbeats 400000
set_option maxRecDepth 20000
theorem allocEv (ρ : Operand → Value) (o : Oper) (w : World) (ho : o.op = .alloc 63) : (execOp ρ o).run Tryz.prog w = .ok (.value (.pointer (some ⟨w.heap.size, 0, none⟩))) (w.alloc (.cells #[.string ⟨#[]⟩, .string ⟨#[]⟩, .int .u64 0, .slice none 0 0] 63)) := by
 unfold execOp
 rw [ho]
 kernel_rfl
theorem fldT : SliceOf Tryz.prog 61 96 4 48 := .mk' Tryz.underlying61 (z := .agg #[.string ⟨#[]⟩, .bool false, .int .i64 0, .string ⟨#[]⟩]) (by kernel_rfl) rfl (by decide) (by decide)
def few60 (s : ByteArray) : ByteArray := if 60 < s.size then s.extract 0 60 else s
theorem few60_le (s : ByteArray) : (few60 s).size ≤ 60 := by
 unfold few60; split
 ·
  simp; omega
 ·
  omega
theorem few60_c (s : ByteArray) (hs : s.size ≤ 9223372036854775807) (w : World) :
  Calls Tryz.prog 12 #[.string s] w fun e w' => e = .returned (.string (few60 s)) ∧ w = w' := by
 by_cases h : 60 < s.size
 all_goals
  go_enter Tryz.func12, Tryz.ntmps12
  go_wp2
  first | rw [show few60 s = s.extract 0 60 by unfold few60; rw [if_pos (by omega)]] | rw [show few60 s = s by unfold few60; rw [if_neg (by omega)]]
  go_ret
  exact ⟨rfl, rfl⟩
theorem fewV_c (x : Bool) (n : Int) (s : ByteArray) (hs : s.size ≤ 9223372036854775807) (w : World) :
  Calls Tryz.prog 56 #[.agg #[.bool x, .int .i64 n, .string s]] w fun e w' => e = .returned (.agg #[.bool x, .int .i64 n, .string (few s)]) ∧ Below w.heap.size w w' := by
 by_cases h : 70 < s.size
 all_goals
  go_enter Tryz.func56, Tryz.ntmps56
  go_wp2
  first | rw [show few s = s.extract 0 70 by unfold few; rw [if_pos (by omega)]] | rw [show few s = s by unfold few; rw [if_neg (by omega)]]
  exact bodyPost_ret (v := .agg #[.bool x, .int .i64 n, .string _]) (by simp [results, Tryz.results56, go_sem, *]) rfl ⟨rfl, by repeat (first | exact Below.refl _ _ | refine bdrew ?_ | refine balloc _ ?_ | refine bset _ (by simp) ?_ | refine bstep (by assumption) ?_)⟩
def fewF (f : FB) : FB := ⟨few60 f.name, f.num, f.n, few f.s⟩
def fewL (l : List FB) : List FB := (l.take 10).map fewF
def FewRel (w : World) (g B : Nat) (t p : ByteArray) (q : Int) (a : Option Addr) (c : Nat) (l : List FB) (i : Value) (wr : World) : Prop :=
 ∃ (k : Nat) (v : Value), k ≤ l.length ∧ k ≤ 10 ∧ i = .int .i64 k ∧ Hid (EAt wr g (few60 t) (few60 p) q v) ∧ Hid (FOwn 96 wr B v ((l.take k).map fewF)) ∧ Hid (EAt wr w.heap.size t p q (.slice a l.length c)) ∧
  Hid (EAt wr (w.heap.size + 1) ⟨#[]⟩ ⟨#[]⟩ 0 (.slice none 0 0)) ∧ B ≤ wr.heap.size ∧ Hid (Below w.heap.size w wr)
end Go.Proofs.YtmlbdblnmbmnpaaGreatDoor
namespace Go.Proofs.YtmlbdblnmbmnpaaGreatDoor
open Go.RowKit Tryst
set_option maxHeartbeats 400000
set_option maxRecDepth 20000
theorem fown_lower {e : TypeId} {w : World} {base base' : Nat} {v : Value} {l : List FB} (h : FOwn e w base v l) (hb : base' ≤ base) : FOwn e w base' v l := by
 refine ⟨h.1, ?_⟩
 rcases h.2 with h2 | ⟨g, cap, cur, h1, h2, h3, h4⟩
 ·
  exact .inl h2
 ·
  exact .inr ⟨g, cap, cur, h1, by omega, h3, h4⟩
/-- .. its fields in a slice of the call's own -/
def EvRO (w : World) (t p : ByteArray) (q : Int) (l : List FB) (e : Ending) (w' : World) : Prop := ∃ a c, e = .returned (.agg #[.string t, .string p, .int .u64 q, .slice a l.length c]) ∧ FOwn 96 w' w.heap.size (.slice a l.length c) l ∧ Below w.heap.size w w'
set_option maxHeartbeats 2000000 in
theorem efewO_c (t p : ByteArray) (q : Int) (a : Option Addr) (c : Nat) (l : List FB) (hl : l.length ≤ 9223372036854775807) (ht : t.size ≤ 9223372036854775807) (hp : p.size ≤ 9223372036854775807) (hs : ∀ f ∈ l, f.name.size ≤ 9223372036854775807 ∧ f.s.size ≤ 9223372036854775807) (w : World) (hF : Flds w a l) :
  Calls Tryz.prog 26 #[.agg #[.string t, .string p, .int .u64 q, .slice a l.length c]] w fun e w' => EvRO w (few60 t) (few60 p) q (fewL l) e w' := by
 have HF := Lib.hid hF
 have HS := Lib.hid hs
 clear hF hs
 go_enter Tryz.func26, Tryz.ntmps26
 go_wp2_with fail
 refine Tryst2.wp_region_grows [.is (.pointer (some ⟨w.heap.size, 0, none⟩)), .is (.string t), .is (.string (few60 t)), .is (.pointer (some ⟨w.heap.size, 1, none⟩)), .is (.string p), .is (.string (few60 p)), .is (.pointer (some ⟨w.heap.size, 2, none⟩)), .is (.int .u64 q), .is (.agg #[.string (few60 t), .string (few60 p), .int .u64 q, .slice none 0 0]), .any (NewBox (w.heap.size + 2) 63 [.string ⟨#[]⟩, .string ⟨#[]⟩, .int .u64 0, .slice none 0 0])] (by kernel_rfl) (by kernel_rfl) ?obl ?fin
 case obl =>
  simp only [YA, YL, YO, YR, Op.operands, Call.operands]
  repeat' apply And.intro
  any_goals trivial
  all_goals (intro tv w' hg hold hd; (try simp at hold); obtain ⟨hcg, hfg, hsg⟩ := YG hg)
  all_goals first | (go_simp; done) | (go_simp; rw [if_neg (by omega)]; exact ⟨.refl _, rfl⟩) | (obtain ⟨⟨g, hvg, hgg, hcell⟩, _⟩ := hd; have hcell0 := hcell 0 (by decide); simp at hcell0; go_simp; done) | (go_simp; refine (few60_c _ (by assumption) _).mono ?_; rintro e w2 ⟨rfl, rfl⟩; exact ⟨Tryst2.Grow.refl _, rfl⟩) | (rw [allocEv _ _ _ rfl, Tryst2.stepV_value]; exact newBox _ _ _ _ (by simp at hsg; omega))
 case fin =>
  intro tv w' hg hR
  simp only [YF, YL, YR] at hR
  obtain ⟨hcg, hfg, hsg⟩ := YG hg
  simp only [YP, YL, Act.put, hR]
  obtain ⟨g, e3, hg1, hg2, hg3⟩ := NewBox.at hR.2.2.2.2.2.2.2.2.2.1
  have hbw := Tryst2.Grow.below hg (w := w) (balloc _ (balloc _ (.refl _ _)))
  simp only [e3]
  have hE1 : EAt w' w.heap.size t p q (.slice a l.length c) := by
   refine EAt.grow (v := ((w.alloc (.cells #[.string t, .string p, .int .u64 q, .slice a l.length c] 63)).alloc (.cells #[.string ⟨#[]⟩, .string ⟨#[]⟩, .int .u64 0, .slice none 0 0] 63))) ?_ (by simp; omega) (Tryst2.Grow.below hg (.refl _ _))
   constructor <;> simp [go_sem]
  have hE2 : EAt w' (w.heap.size + 1) ⟨#[]⟩ ⟨#[]⟩ 0 (.slice none 0 0) := by
   refine EAt.grow (v := ((w.alloc (.cells #[.string t, .string p, .int .u64 q, .slice a l.length c] 63)).alloc (.cells #[.string ⟨#[]⟩, .string ⟨#[]⟩, .int .u64 0, .slice none 0 0] 63))) ?_ (by simp) (Tryst2.Grow.below hg (.refl _ _))
   constructor <;> simp [go_sem]
  have hE3 : EAt w' g ⟨#[]⟩ ⟨#[]⟩ 0 (.slice none 0 0) := EAt.of hg3
  obtain ⟨d0, d1, d2, d3, d4, d5, d6, d7⟩ := hE3
  have hE3' := (EAt.mk d0 d1 d2 d3 d4 d5 d6 d7).setAll (t' := few60 t) (p' := few60 p) (q' := q) (u' := .slice none 0 0)
  have hE1' := hE1.otherAll (c := g) (v0 := .string (few60 t)) (v1 := .string (few60 p)) (v2 := .int .u64 q) (v3 := .slice none 0 0) (by omega)
  have hE2' := hE2.otherAll (c := g) (v0 := .string (few60 t)) (v1 := .string (few60 p)) (v2 := .int .u64 q) (v3 := .slice none 0 0) (by omega)
  have K1 := Lib.hid hE1'
  have K2 := Lib.hid hE2'
  have K3 := Lib.hid hE3'
  have KB := Lib.hid (bset (p := ⟨g, 3, none⟩) (.slice none 0 0) (by simp; omega) (bset (p := ⟨g, 2, none⟩) (.int .u64 q) (by simp; omega) (bset (p := ⟨g, 1, none⟩) (.string (few60 p)) (by simp; omega) (bset (p := ⟨g, 0, none⟩) (.string (few60 t)) (by simp; omega) hbw))))
  clear hE1 hE2 hE1' hE2' hE3' hcg hfg hsg hg hR hg3 hbw
  go_upto_region 2 with fail
  refine wp_genC (fun v => Hid (EAt v w.heap.size t p q (.slice a l.length c)) ∧ Hid (EAt v (w.heap.size + 1) ⟨#[]⟩ ⟨#[]⟩ 0 (.slice none 0 0)) ∧ Hid (EAt v g (few60 t) (few60 p) q (.slice none 0 0)) ∧ Hid (Below w.heap.size w v) ∧ g < v.heap.size) ⟨K1, K2, K3, KB, by simpa using hg2⟩ ?_
  clear K1 K2 K3 KB d0 d1 d2 d3 d4 d5 d6 d7 e3 hg2
  rintro v ⟨K1, K2, K3, KB, hgv⟩
  obtain ⟨B, hB⟩ : ∃ B, v.heap.size = B := ⟨_, rfl⟩
  have hgB : g < B := by omega
  have hBv : B ≤ v.heap.size := by omega
  clear hB hgv
  go_wp2_with fail
  go_loopw [4] (fun i wr => FewRel w g B t p q a c l i wr) (fun i _ => l.length - (intOf i).toNat)
  case atStart => exact ⟨0, .slice none 0 0, by omega, by omega, rfl, K3, FOwn.nil _ _ _, K1, K2, hBv, KB⟩
  case round =>
   clear K1 K2 K3 KB hBv
   obtain ⟨k, u, hk, hk2, rfl, E3, O, E1, E2, hBr, KB⟩ := hrel
   obtain ⟨wo, rfl⟩ : ∃ wo, wo = wr := ⟨_, rfl⟩
   obtain ⟨c0, c1, c2, c3, c4, c5, c6, c7⟩ := E1.out
   obtain ⟨d0, d1, d2, d3, d4, d5, d6, d7⟩ := E3.out
   by_cases hlt : k < l.length ∧ k < 10
   ·
    obtain ⟨hl1, hl2⟩ := hlt
    have HF2 := Lib.hid (HF.out.grow KB.out)
    obtain ⟨b, o, ha, hb⟩ := HF2.out.head hl1
    subst ha
    obtain ⟨_, f0, f1, f2, f3⟩ := HF2.out.at hl1
    obtain ⟨s1, s2⟩ := HS.out l[k] (List.getElem_mem hl1)
    obtain ⟨L, hL⟩ : ∃ L, (l.take k).map fewF = L := ⟨_, rfl⟩
    have hL2 : (l.take (k + 1)).map fewF = L ++ [fewF l[k]] := by rw [List.take_succ_eq_append_getElem hl1, List.map_append, hL]; rfl
    have hLl : L.length = k := by rw [← hL]; simp; omega
    have hLl1 : L.length ≤ k := by omega
    rw [hL] at O
    have HL2 := Lib.hid hL2
    clear hL hL2 hLl
    obtain ⟨au, cu, hu, _, _⟩ := O.out.flds
    subst hu
    have x1 : (k : Int) < l.length := by omega
    have x2 : (0 : Int) ≤ k := by omega
    have y1 : g < wo.heap.size := by omega
    have y2 : w.heap.size < wo.heap.size := by omega
    go_wp2_with fail
    refine Tryst2.wp_region_grows [.is (.pointer (some ⟨g, 3, none⟩)), .is (.slice au L.length cu), .is (.pointer (some ⟨w.heap.size, 3, none⟩)), .is (.slice (some ⟨b, o, none⟩) l.length c), .is (.int .i64 k), .is (.pointer (some ⟨b, o + k * 4, none⟩)), .is (.pointer (some ⟨b, o + k * 4, none⟩)), .is (.string l[k].name), .is (.string (few60 l[k].name)), .is (.pointer (some ⟨w.heap.size, 3, none⟩)), .is (.slice (some ⟨b, o, none⟩) l.length c), .is (.int .i64 k), .is (.pointer (some ⟨b, o + k * 4, none⟩)), .is (.pointer (some ⟨b, o + k * 4 + 1, none⟩)), .is (.agg #[.bool l[k].num, .int .i64 l[k].n, .string l[k].s]), .is (.agg #[.bool l[k].num, .int .i64 l[k].n, .string (few l[k].s)]), .is (.agg #[.string (few60 l[k].name), .bool l[k].num, .int .i64 l[k].n, .string (few l[k].s)]), .any (OneF (fewF l[k]))] (by kernel_rfl) (by kernel_rfl) ?obl ?fin
    case obl =>
     simp only [YA, YL, YO, YR, Op.operands, Call.operands]
     repeat' apply And.intro
     any_goals trivial
     all_goals (intro tv w' hg hold hd; (try simp at hold); obtain ⟨hcg, hfg, hsg⟩ := YG hg)
     all_goals first | (go_simp; done) | (go_simp; rw [if_neg (by omega)]; exact ⟨.refl _, rfl⟩) | (obtain ⟨⟨g, hvg, hgg, hcell⟩, _⟩ := hd; have hcell0 := hcell 0 (by decide); simp at hcell0; go_simp; done) | (go_simp; refine (few60_c _ (by assumption) _).mono ?_; rintro e w2 ⟨rfl, rfl⟩; exact ⟨Tryst2.Grow.refl _, rfl⟩) | (go_simp; refine (fewV_c _ _ _ (by assumption) _).mono ?_; rintro e w2 ⟨rfl, hb2⟩; exact ⟨hb2, rfl⟩) | (go_simp; exact (oneF (fewF l[k]) _ _).2)
    case fin =>
     intro tv w' hg hR
     simp only [YF, YL, YR] at hR
     obtain ⟨hcg, hfg, hsg⟩ := YG hg
     simp only [YP, YL, Act.put, hR]
     obtain ⟨g2, e42, hg2, hf2⟩ := OneF.at hR.2.2.2.2.2.2.2.2.2.2.2.2.2.2.2.2.2.1
     have hbw : Below wo.heap.size wo w' := Tryst2.Grow.below hg (.refl _ _)
     simp only [e42]
     have O' := O.out.grow hbw
     have E1' := Lib.hid (E1.out.grow (by omega) hbw)
     have E2' := Lib.hid (E2.out.grow (by omega) hbw)
     have E3' := E3.out.grow y1 hbw
     have KB' := Lib.hid (KB.out.trans (hbw.mono KB.out.size))
     have hBr' : B ≤ w'.heap.size := Nat.le_trans hBr hbw.size
     clear hg hR hcg hfg hsg O E1 E2 E3 KB hbw c0 c1 c2 c3 c4 c5 c6 c7 d0 d1 d2 d3 d4 d5 d6 d7 f0 f1 f2 f3 HF2 e42
     refine wpList_appF fldT rfl _ _ rfl B _ L rfl O' (fewF l[k]) g2 rfl hf2 (by omega) hBr' ?_
     intro a' c' w2 O2 hb2
     have hz2 : w'.heap.size ≤ w2.heap.size := hb2.size
     have E1'' := Lib.hid ((E1'.out.growB (by omega : w.heap.size < B) hb2).other3 (c := g) (v3 := .slice a' (L.length + 1) c') (by omega))
     have E2'' := Lib.hid ((E2'.out.growB (by omega : w.heap.size + 1 < B) hb2).other3 (c := g) (v3 := .slice a' (L.length + 1) c') (by omega))
     have e3 := E3'.growB hgB hb2
     have E3'' := Lib.hid (e3.set3 (v := .slice a' (L.length + 1) c'))
     have O3 := Lib.hid (O2.set (o := 3) hgB (.slice a' (L.length + 1) c'))
     have KB'' := Lib.hid (bset (p := ⟨g, 3, none⟩) (.slice a' (L.length + 1) c') (by simp; omega) (KB'.out.trans (hb2.mono (by omega))))
     obtain ⟨d0, d1, d2, d3, d4, d5, d6, d7⟩ := e3
     have hBr2 : B ≤ (w2.setCell ⟨g, 3, none⟩ (.slice a' (L.length + 1) c')).heap.size := by simp; omega
     clear E1' E2' E3' O' O2 hb2 KB' hf2 hBr' hz2
     go_wp2_with fail
     go_roundw
     case rel => exact ⟨k + 1, .slice a' (L.length + 1) c', by omega, by omega, by go_num, E3'', Lib.hid (by rw [HL2.out]; exact O3.out), E1'', E2'', hBr2, KB''⟩
     case measure => simp [intOf] <;> omega
   ·
    have hk10 : l.take k = l.take 10 := by
     by_cases h : k < l.length
     ·
      have : k = 10 := by omega
      rw [this]
     ·
      rw [List.take_of_length_le (by omega), List.take_of_length_le (by omega)]
    have hfl0 : (l.take k).map fewF = fewL l := by rw [hk10]; rfl
    rw [hfl0] at O
    clear hk10 hfl0
    have hwB : w.heap.size + 1 < wo.heap.size := by omega
    obtain ⟨p0, p1, p2, p3, p4, p5, p6, p7⟩ := E2.out
    have O2 := ((((O.out.set (b := w.heap.size + 1) (o := 0) (by omega) (.string (few60 t))).set (b := w.heap.size + 1) (o := 1) (by omega) (.string (few60 p))).set (b := w.heap.size + 1) (o := 2) (by omega) (.int .u64 q)).set (b := w.heap.size + 1) (o := 3) (by omega) u)
    obtain ⟨L, hL⟩ : ∃ L, fewL l = L := ⟨_, rfl⟩
    rw [hL] at O2
    have HLe := Lib.hid hL
    have O3 := fown_lower O2 (by omega : w.heap.size ≤ B)
    obtain ⟨au, cu, hu, hfl, _, _, hcu⟩ := O2.flds
    subst hu
    have HFL := Lib.hid O3
    clear O2 O3 hfl O E1 E2 E3 HF hL hcu
    have KB2 := Lib.hid (bset (p := ⟨w.heap.size + 1, 3, none⟩) (.slice au L.length cu) (by simp) (bset (p := ⟨w.heap.size + 1, 2, none⟩) (.int .u64 q) (by simp) (bset (p := ⟨w.heap.size + 1, 1, none⟩) (.string (few60 p)) (by simp) (bset (p := ⟨w.heap.size + 1, 0, none⟩) (.string (few60 t)) (by simp) KB.out))))
    by_cases hks : k < l.length
    all_goals
     go_wp2_with fail
     exact bodyPost_ret (v := .agg #[.string (few60 t), .string (few60 p), .int .u64 q, .slice au L.length cu]) (by simp [results, Tryz.results26, go_sem, *]) rfl (by rw [HLe.out]; exact ⟨au, cu, rfl, HFL.out, KB2.out⟩)
end Go.Proofs.YtmlbdblnmbmnpaaGreatDoor
