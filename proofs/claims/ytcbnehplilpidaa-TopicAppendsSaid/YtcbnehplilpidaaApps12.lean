/- The walk of the law TopicAppends. -/
import Derived.Test.YtcbnehplilpidaaProg
import Derived.WalkKit
import Derived.WalkSpells
import Derived.WalkLawsBesides
import Derived.Lib.Hide
import Derived.Deep.RegionWith
import Derived.Deep.Cut
import Derived.IntWalk
import Derived.Test.YtcbnehplilpidaaRApp12
import Derived.Test.YtcbnehplilpidaaRSame12
import Derived.Test.YtcbnehplilpidaaReads12
import Derived.Test.YtcbnehplilpidaaPuts4
set_option linter.unusedVariables false
set_option linter.unusedSimpArgs false
namespace Go.Proofs.Ytcbnehplilpidaa
open Go.RowKit Tryst
set_option maxHeartbeats 400000
set_option maxRecDepth 20000
theorem FewTO.at {base : Nat} {L : List Tp} {v : Value} {w' : World} (h : ∃ w0, Tryst2.Grow w0 w' ∧ FewTO base L v w0) : FewTO base L v w' := by
  obtain ⟨w0, hg, a, c, l', h1, h2, h3, h4⟩ := h
  exact ⟨a, c, l', h1, h2, h3.grow hg, h4.grow hg⟩
theorem FewTO.of {w w' : World} {base : Nat} {L : List Tp} {e : Ending} (hb : base ≤ w.heap.size) (h : FewTOR w L e w') : ∃ v, e = .returned v ∧ Tryst2.Grow w w' ∧ ∃ w0, Tryst2.Grow w0 w' ∧ FewTO base L v w0 := by
  obtain ⟨v, rfl, ⟨a, c, l', h1, h2, h3, h4⟩, h5⟩ := h
  exact ⟨_, rfl, h5, w', Tryst2.Grow.refl _, a, c, l', h1, h2, ROwn.lower h3 hb, h4.lower hb⟩
/-- a store below them -/
theorem FewTO.tops {base : Nat} {L : List Tp} {a : Option Addr} {c : Nat} {l' : List TB} {w : World} (h3 : TOwn w base (.slice a l'.length c) l') (h4 : TLogO w base l' l'.length) {B : Nat} (hB : B < base) (v0 v1 v2 v3 : Value) :
    Tops ((((w.setCell ⟨B, 0, none⟩ v0).setCell ⟨B, 1, none⟩ v1).setCell ⟨B, 2, none⟩ v2).setCell ⟨B, 3, none⟩ v3) a l' ∧ Sl a c l'.length := by
  have k3 : TOwn ((((w.setCell ⟨B, 0, none⟩ v0).setCell ⟨B, 1, none⟩ v1).setCell ⟨B, 2, none⟩ v2).setCell ⟨B, 3, none⟩ v3) base (.slice a l'.length c) l' := ROwn.below (ROwn.below (ROwn.below (ROwn.below h3 hB _) hB _) hB _) hB _
  have k4 : TLogO ((((w.setCell ⟨B, 0, none⟩ v0).setCell ⟨B, 1, none⟩ v1).setCell ⟨B, 2, none⟩ v2).setCell ⟨B, 3, none⟩ v3) base l' l'.length := fun i hi hk => ROwn.below (ROwn.below (ROwn.below (ROwn.below (h4 i hi hk) hB _) hB _) hB _) hB _
  obtain ⟨h1, h2, _⟩ := TOwn.tops k3 (k4.logs (Nat.le_refl _))
  exact ⟨h1, h2⟩
theorem fewTs_fewTs (L : List Tp) : fewTs (fewTs L) = fewTs L := by
  have h6 : ∀ z : ByteArray, few60 (few60 z) = few60 z := fun z => by
    have := few60_le z
    show (if 60 < (few60 z).size then _ else _) = _
    rw [if_neg (by omega)]
  have h9 : ∀ z : ByteArray, few9 (few9 z) = few9 z := fun z => by
    have := few9_le z
    show (if 900 < (few9 z).size then _ else _) = _
    rw [if_neg (by omega)]
  unfold fewTs
  rw [← List.map_take, List.take_take, List.map_map]
  congr 1
  funext t
  show (⟨few60 (few60 t.name), t.first, (((t.log.take 101).map few9).take 101).map few9⟩ : Tp) = ⟨few60 t.name, t.first, (t.log.take 101).map few9⟩
  rw [h6, ← List.map_take, List.take_take, List.map_map]
  congr 2
  funext z
  exact h9 z
theorem appP_len (L : List Tp) (m : Bool) (n s : ByteArray) (hL : L.length ≤ 21) (hl : ∀ t ∈ L, t.log.length ≤ 101) : (appP L m n s).1.length ≤ 22 ∧ ∀ t ∈ (appP L m n s).1, t.log.length ≤ 1000 := by
  unfold appP
  split
  · split
    · split
      · exact ⟨by simp, fun t h => by cases h⟩
      · refine ⟨by simp; omega, fun t ht => ?_⟩
        dsimp only at ht
        rcases List.mem_append.1 ht with h | h
        · have := hl t (List.mem_of_mem_take h); omega
        · rcases List.mem_cons.1 h with h | h
          · subst h; simp
          · have := hl t (List.mem_of_mem_drop h); omega
    · split
      · exact ⟨by simp, fun t h => by cases h⟩
      · rename_i i _ t ht
        split
        · exact ⟨by simp, fun t h => by cases h⟩
        · refine ⟨by simp; omega, fun y hy => ?_⟩
          have hm := hl t (List.mem_of_getElem? ht)
          rcases List.mem_or_eq_of_mem_set hy with h | h
          · have := hl y h; omega
          · subst h; simp; omega
  · exact ⟨by simp, fun t h => by cases h⟩
structure AK (w : World) (t1 p1 : ByteArray) (q : Int) (a2 : Option Addr) (c2 : Nat) (le : List FB) (a1 : Option Addr) (l1 : List TB) (v : World) : Prop where
  e : EAt v w.heap.size t1 p1 q (.slice a2 le.length c2)
  t : Tops v a1 l1
  f : Flds v a2 le
  k : Below w.heap.size w v
  z : w.heap.size < v.heap.size
theorem AK.grow {w v v' : World} {t1 p1 : ByteArray} {q : Int} {a2 : Option Addr} {c2 : Nat} {le : List FB} {a1 : Option Addr} {l1 : List TB} (h : AK w t1 p1 q a2 c2 le a1 l1 v) (hb : Below v.heap.size v v') : AK w t1 p1 q a2 c2 le a1 l1 v' :=
  ⟨h.e.grow h.z hb, h.t.grow hb, h.f.grow hb, bstep hb h.k, Nat.lt_of_lt_of_le h.z hb.size⟩
set_option maxHeartbeats 4000000 in
theorem topicAppends_c (a : Option Addr) (l : List TB) (c : Nat) (t p : ByteArray) (q : Int) (ae : Option Addr) (le : List FB) (ce : Nat) (ht : t.size ≤ 9223372036854775807) (hp : p.size ≤ 9223372036854775807) (h0 : 0 ≤ q) (h4 : q ≤ 18446744073709551615) (hIe : FIn le) (hme : le.length ≤ 9223372036854775807) (n : ByteArray) (hn : n.size ≤ 9223372036854775807) (w : World) (hM : MaxW w) (hF : TopsA w a l) (hI : ∀ t ∈ l, t.name.size ≤ 9223372036854775807 ∧ (∀ s ∈ t.log, s.size ≤ 9223372036854775807) ∧ t.log.length ≤ 9223372036854775807 ∧ -9223372036854775808 ≤ t.first ∧ t.first ≤ 9223372036854775807) (hl : l.length ≤ 9223372036854775807) (hFe : Flds w ae le) :
    Calls Try.prog 6 #[.slice a l.length c, .agg #[.string t, .string p, .int .u64 q, .slice ae le.length ce], .string n] w fun e w' => e = .returned (.bool true) ∧ Below w.heap.size w w' := by
  have HM := Lib.hid hM
  have HFW := Lib.hid (fun (W : World) (hF : TopsA W a l) => few12o_c a c l hl (fun t ht => ⟨(hI t ht).1, (hI t ht).2.1, (hI t ht).2.2.1⟩) W hF)
  have HFI := Lib.hid (fun (t : Tp) (ht : t ∈ l.map TB.tp) => show -9223372036854775808 ≤ t.first ∧ t.first ≤ 9223372036854775807 by
    obtain ⟨u, hu, rfl⟩ := List.mem_map.1 ht
    exact (hI u hu).2.2.2)
  have HFE := Lib.hid (fun (W : World) (hF : Flds W ae le) => efew_c t p q ae ce le hme ht hp (fun f hf => ⟨(hIe f hf).1, (hIe f hf).2.1⟩) W hF)
  have HF := Lib.hid hF
  have HE := Lib.hid hFe
  have HEK := Lib.hid (few_ok hIe)
  have u1 := few60_le t
  have u2 := few60_le p
  generalize l.map TB.tp = L0 at HFW HFI
  go_enter Try.func6, Try.ntmps6
  go_upto_region 1 with fail
  have HH0 := Lib.hid (new_box w #[.string t, .string p, .int .u64 q, .slice ae le.length ce] 25)
  refine wp_genC (fun v => Hid (v.heap[w.heap.size]? = some (.cells #[.string t, .string p, .int .u64 q, .slice ae le.length ce] 25 (0, 0))) ∧ Hid (TopsA v a l) ∧ Hid (Flds v ae le) ∧ Hid (Below w.heap.size w v) ∧ w.heap.size < v.heap.size) ⟨HH0, HF.out.grow (balloc _ (.refl _ _)), HE.out.grow (balloc _ (.refl _ _)), balloc _ (.refl _ _), by simp⟩ ?_
  clear HF HE hM hF hI hFe HH0 hIe hme
  rintro w0 ⟨HH0, HF0, HE0, HB0, hz0⟩
  obtain ⟨x0, x1, x2, x3, x4, x5, x6, x7⟩ := EAt.of HH0.out
  refine Tryst2.wp_region_grows [.is (.slice a l.length c), .any (FewTO w0.heap.size L0), .is (.agg #[.string t, .string p, .int .u64 q, .slice ae le.length ce]), .any (EvS (few60 t) (few60 p) q (fewL le)), .is (.string n), .is (.string (few60 n))] (by kernel_rfl) (by kernel_rfl) ?obl ?fin
  case obl =>
    simp only [Tryst2.AllObl, Tryst2.dstL, Tryst2.Obl, Tryst2.depsOf, Tryst2.binds_data, Tryst2.binds_chain, Tryst2.binds_phase, Tryst2.binds_guard, Tryst2.binds_text, Tryst2.binds_gc, Bool.false_eq_true, if_false, List.filterMap_cons_some, List.filterMap_cons_none, Tryst2.depsR, Tryst2.holdR, Tryst2.tmpsOf, Op.operands, Call.operands, Tryst2.Rsp.pred, Tryst2.wantedV_none, Tryst2.wantedV_some, if_true, List.map_cons, List.map_nil, List.length_map, List.take_succ_cons, List.take_zero, List.length_cons, List.length_nil, List.getElem?_cons_zero, List.getElem?_cons_succ, Option.bind_some, id, List.getD_cons_zero, List.getD_cons_succ, Tryst2.isDst, List.filterMap_cons, List.filterMap_nil, List.toList_toArray]
    repeat' apply And.intro
    any_goals trivial
    all_goals (intro tv w' hg hold hd; (try simp at hold); obtain ⟨hcg, hfg⟩ := Tryst2.Grow.cells hg; have hsg := Tryst2.Grow.le hg)
    all_goals first | (go_simp; done) | (go_simp; rw [if_neg (by omega)]; exact ⟨.refl _, rfl⟩) | (obtain ⟨⟨g, hvg, hgg, hcell⟩, _⟩ := hd; have hcell0 := hcell 0 (by decide); simp at hcell0; go_simp; done) | (go_simp; go_at_call 24; (with_reducible refine (HFW.out _ ?_).mono ?_); (exact HF0.out.grow (Tryst2.Grow.below hg (.refl w0.heap.size w0))); rintro e w5 hcl; obtain ⟨v5, rfl, hv5⟩ := FewTO.of hsg hcl; exact hv5) | (go_simp; go_at_call 9; (with_reducible refine (HFE.out _ ?_).mono ?_); (exact HE0.out.grow (Tryst2.Grow.below hg (.refl w0.heap.size w0))); rintro e w2 ⟨a', c', rfl, hf2, hs2, hb2⟩; exact EvS.of hf2 hs2 hb2) | (go_simp; refine (few60_c _ (by assumption) _).mono ?_; rintro e w2 ⟨rfl, rfl⟩; exact ⟨Tryst2.Grow.refl _, rfl⟩)
  case fin =>
    intro tv w' hg hR
    simp only [Tryst2.allR, Tryst2.dstL, Tryst2.Rsp.pred, List.map_cons, List.map_nil, List.take_succ_cons, List.take_zero, List.length_cons, List.length_nil, List.tail_cons, List.toList_toArray] at hR
    obtain ⟨hcg, hfg⟩ := Tryst2.Grow.cells hg
    have hsg := Tryst2.Grow.le hg
    simp only [Tryst2.putAll, Tryst2.dstL, List.map_cons, List.map_nil, List.take_succ_cons, List.take_zero, List.length_cons, List.length_nil, List.toList_toArray, List.drop_succ_cons, List.drop_zero, Act.put, List.setIfInBounds_toArray, List.set_cons_zero, List.set_cons_succ, hR]
    obtain ⟨a1, c1, l1, e1, hm1, hO1, hL1⟩ := FewTO.at hR.2.1
    obtain ⟨a2, c2, e2, hE2, hS2⟩ := EvS.at hR.2.2.2.1
    simp only [e1, e2]
    have hh := (hg.block w.heap.size hz0).trans HH0.out
    have hK := bstep (Tryst2.Grow.below hg (.refl w0.heap.size w0)) HB0.out
    have hz1 : w.heap.size < w'.heap.size := (Array.getElem?_eq_some_iff.1 hh).1
    have hT1 := FewTO.tops (L := L0) hO1 hL1 hz0 (.string (few60 t)) (.string (few60 p)) (.int .u64 q) (.slice a2 (fewL le).length c2)
    have HS1 := Lib.hid hT1.2
    have hF1 := flds_box hh hE2 (.string (few60 t)) (.string (few60 p)) (.int .u64 q) (.slice a2 (fewL le).length c2)
    have hE1 := (EAt.of hh).setAll (t' := few60 t) (p' := few60 p) (q' := q) (u' := .slice a2 (fewL le).length c2)
    have hK1 := bset (p := ⟨w.heap.size, 3, none⟩) (.slice a2 (fewL le).length c2) (Nat.le_refl _) (bset (p := ⟨w.heap.size, 2, none⟩) (.int .u64 q) (Nat.le_refl _) (bset (p := ⟨w.heap.size, 1, none⟩) (.string (few60 p)) (Nat.le_refl _) (bset (p := ⟨w.heap.size, 0, none⟩) (.string (few60 t)) (Nat.le_refl _) hK)))
    have GT := Lib.hid hT1.1
    have GF := Lib.hid hF1
    have GE := Lib.hid hE1
    have GK := Lib.hid hK1
    clear x0 x1 x2 x3 x4 x5 x6 x7
    obtain ⟨x0, x1, x2, x3, x4, x5, x6, x7⟩ := EAt.of hh
    obtain ⟨hl1, hI1⟩ := few_TIn hm1 HFI.out
    have hN1 := few_names hm1
    obtain ⟨hOE, hOE2, hlE⟩ := HEK.out
    clear hg hR hcg hfg hsg e1 e2 hh hK hT1 hF1 hE1 hK1 hO1 hL1 hE2 hS2 HH0 HF0 HE0 HB0 hz0 HFE
    go_upto_region 2 with fail
    clear x0 x1 x2 x3 x4 x5 x6 x7
    refine wp_genC (fun v => Hid (AK w (few60 t) (few60 p) q a2 c2 (fewL le) a1 l1 v)) ⟨GE.out, GT.out, GF.out, GK.out, by simp; exact hz1⟩ ?_
    clear GT GF GE GK hz1
    rintro w1 HK1
    obtain ⟨N, hNN⟩ : ∃ N, few60 n = N := ⟨_, rfl⟩
    simp only [hNN]
    have HAW := Lib.hid (fun (W : World) (hb : Below w.heap.size w W) => awake12_c W (HM.out.grow hb))
    have hfl : ∀ t ∈ fewL le, t.name.size ≤ 1000000 := fun f hf => by have := (hOE2 f hf).1; omega
    have HFW2 := Lib.hid (fun (W : World) (hF : TopsA W a1 l1) => few12_c a1 c1 l1 (by omega) (fun t ht => by obtain ⟨q1, q2, q3, _⟩ := hI1 t ht; exact ⟨by omega, fun s hs => by have := q2 s hs; omega, by omega⟩) W hF)
    have HFF : Hid (fewTs (l1.map TB.tp) = l1.map TB.tp) := Lib.hid (by rw [hm1, fewTs_fewTs])
    have HAP := Lib.hid (fun (W : World) (hb : Below w.heap.size w W) (hF : Tops W a1 l1) (hE : Flds W a2 (fewL le)) => tappend_c a1 c1 l1 (by omega) hI1 (few60 t) (few60 p) q a2 (fewL le) c2 (by omega) (by omega) h0 h4 (by omega) hOE W (HM.out.grow hb) hF HS1.out hE)
    have HRA := Lib.hid (fun (W : World) (hF : Tops W a1 l1) (hE : Flds W a2 (fewL le)) => rappend12_c a1 c1 l1 (by omega) hI1 hN1 (few60 t) (few60 p) q a2 (fewL le) c2 (by omega) (by omega) h0 h4 (by omega) hOE hfl W (Tops.a hF) hE)
    have HFD := Lib.hid (fun (W : World) (hF : Tops W a1 l1) => tfind_c N a1 c1 l1 (by omega) W hF)
    have HRF := Lib.hid (fun (W : World) (hF : Tops W a1 l1) => rfind12_c N a1 c1 l1 (by omega) W (Tops.a hF))
    have HCK := Lib.hid (fun (W : World) (hb : Below w.heap.size w W) (hF : Tops W a1 l1) => tcheck_c a1 c1 l1 (by omega) hI1 W (HM.out.grow hb) hF)
    have HMY := Lib.hid (fun (W : World) (hF : Tops W a1 l1) => rmay12_c a1 c1 l1 (by omega) hI1 hN1 W (Tops.a hF))
    have HEN := Lib.hid (fun (W : World) (hb : Below w.heap.size w W) (hF : Tops W a1 l1) => tEnd_c N a1 c1 l1 (by omega) hI1 W (HM.out.grow hb) hF)
    have hlog : ∀ t ∈ l1.map TB.tp, t.log.length ≤ 101 := fun t ht => by
      rw [hm1] at ht
      obtain ⟨u, _, rfl⟩ := List.mem_map.1 ht
      show ((u.log.take 101).map few9).length ≤ 101
      simp; omega
    have HPL := Lib.hid (appP_len (l1.map TB.tp) (evMay (few60 t) (few60 p) q (fewL le)) (few60 t) ⟨(evE (few60 t) (few60 p) q (fewL le)).lay.toArray⟩ (by simpa using hl1) hlog)
    have HLG := Lib.hid hlog
    generalize appP (l1.map TB.tp) (evMay (few60 t) (few60 p) q (fewL le)) (few60 t) ⟨(evE (few60 t) (few60 p) q (fewL le)).lay.toArray⟩ = A at HAP HRA HPL
    obtain ⟨AT, an, ak⟩ := A
    dsimp only at HAP HRA HPL
    clear hm1 hI1 hN1 hOE hOE2 hlE hNN hfl HFI HM hlog HS1 HEK
    go_wp2_with fail
    refine (HFW2.out w1 (Tops.a HK1.out.t)).mono ?_
    rintro e w2 ⟨a3, c3, l3, rfl, hm3, hF3, _, hb2⟩
    have HK2 := Lib.hid (HK1.out.grow hb2)
    have HT3 := Lib.hid (Tops.a hF3)
    have HM3 := Lib.hid (hm3.trans HFF.out)
    clear hm3 hF3 hb2 HK1 HFW2 HFF
    obtain ⟨x0, x1, x2, x3, x4, x5, x6, x7⟩ := HK2.out.e
    go_wp2_with fail
    refine (HAP.out w2 HK2.out.k HK2.out.t HK2.out.f).mono ?_
    rintro e w3 h3
    obtain ⟨a4, c4, l4, rfl, hm4, hF4, _, hb3⟩ := app_at h3
    have HK3 := Lib.hid (HK2.out.grow hb3)
    have HT4 := Lib.hid (Tops.a hF4)
    have HT3' := Lib.hid (HT3.out.grow hb3)
    have HM4 := Lib.hid hm4
    clear hm4 hF4 hb3 HK2 HT3 HAP h3 x0 x1 x2 x3 x4 x5 x6 x7
    obtain ⟨x0, x1, x2, x3, x4, x5, x6, x7⟩ := HK3.out.e
    go_wp2_with fail
    refine (HRA.out w3 HK3.out.t HK3.out.f).mono ?_
    rintro e w4 ⟨a5, c5, l5, rfl, hm5, hF5, hb4⟩
    dsimp only at hm5 ⊢
    have HK4 := Lib.hid (HK3.out.grow hb4)
    have HT5 := Lib.hid hF5
    have HT4' := Lib.hid (HT4.out.grow hb4)
    have HT3 := Lib.hid (HT3'.out.grow hb4)
    have HM5 := Lib.hid hm5
    clear hm5 hF5 hb4 HK3 HT3' HT4 HRA x0 x1 x2 x3 x4 x5 x6 x7
    go_wp2_with fail
    refine (HFD.out w4 HK4.out.t).mono ?_
    rintro e w5 ⟨rfl, hb5⟩
    unfold findR
    have HK5 := Lib.hid (HK4.out.grow hb5)
    have HT5' := Lib.hid (HT5.out.grow hb5)
    have HT4 := Lib.hid (HT4'.out.grow hb5)
    have HT3' := Lib.hid (HT3.out.grow hb5)
    clear hb5 HK4 HT3 HT4' HT5 HFD
    go_wp2_with fail
    refine (HRF.out w5 HK5.out.t).mono ?_
    rintro e w6 ⟨rfl, hb6⟩
    unfold findR
    have HK6 := Lib.hid (HK5.out.grow hb6)
    have HT5 := Lib.hid (HT5'.out.grow hb6)
    have HT4' := Lib.hid (HT4.out.grow hb6)
    have HT3 := Lib.hid (HT3'.out.grow hb6)
    clear hb6 HK5 HT3' HT4 HT5' HRF
    have hs45 := fun (W : World) (h1 : TopsA W a4 l4) (h2 : TopsA W a5 l5) => rsame12_c a4 a5 c4 c5 l4 l5 (HM4.out.trans HM5.out.symm) (by have := congrArg List.length HM4.out; have h3 := HPL.out.1; rw [List.length_map] at this; omega) (fun t ht => by have := HPL.out.2 t.tp (by rw [← HM4.out]; exact List.mem_map.2 ⟨t, ht, rfl⟩); exact Nat.le_trans this (by omega)) W h1 h2
    have hs13 := fun (W : World) (h1 : TopsA W a1 l1) (h2 : TopsA W a3 l3) => rsame12_c a1 a3 c1 c3 l1 l3 HM3.out.symm (by omega) (fun t ht => by have := HLG.out t.tp (List.mem_map.2 ⟨t, ht, rfl⟩); exact Nat.le_trans this (by omega)) W h1 h2
    have HS45 := Lib.hid hs45
    have HS13 := Lib.hid hs13
    clear hs45 hs13
    cases hm : topsMay (l1.map TB.tp) with
    | false =>
      rw [hm] at HCK HMY
      have hen : endP (l1.map TB.tp) N = (0, 1) := by unfold endP; rw [hm]; rfl
      rw [hen] at HEN
      dsimp only at HEN
      clear hm hen HM3 HM4 HM5 HPL HLG
      go_wp2_with fail
      refine (HS45.out w6 HT4'.out HT5.out).mono ?_
      rintro e w7 ⟨rfl, hb7⟩
      have HK7 := Lib.hid (HK6.out.grow hb7)
      have HT3' := Lib.hid (HT3.out.grow hb7)
      clear hb7 HK6 HT3 HT4' HT5 HS45
      go_wp2_with fail
      refine (HCK.out w7 HK7.out.k HK7.out.t).mono ?_
      rintro e w8 ⟨rfl, hb8⟩
      have HK8 := Lib.hid (HK7.out.grow hb8)
      have HT3 := Lib.hid (HT3'.out.grow hb8)
      clear hb8 HK7 HT3' HCK
      rw [show errV false = 1 from rfl]
      go_wp2_with fail
      refine (HMY.out w8 HK8.out.t).mono ?_
      rintro e w9 ⟨rfl, hb9⟩
      have HK9 := Lib.hid (HK8.out.grow hb9)
      have HT3' := Lib.hid (HT3.out.grow hb9)
      clear hb9 HK8 HT3
      go_wp2_with fail
      refine (HS13.out w9 (Tops.a HK9.out.t) HT3'.out).mono ?_
      rintro e w10 ⟨rfl, hb10⟩
      have HK10 := Lib.hid (HK9.out.grow hb10)
      clear hb10 HK9 HT3' HS13
      go_wp2_with fail
      refine (HEN.out w10 HK10.out.k HK10.out.t).mono ?_
      rintro e w11 ⟨rfl, hb11⟩
      have HK11 := Lib.hid (HK10.out.grow hb11)
      clear hb11 HK10 HEN
      go_wp2_with fail
      refine (HMY.out w11 HK11.out.t).mono ?_
      rintro e w12 ⟨rfl, hb12⟩
      have HK12 := Lib.hid (HK11.out.grow hb12)
      clear hb12 HK11
      go_wp2_with fail
      refine (HAW.out w12 HK12.out.k).mono ?_
      rintro e w13 ⟨rfl, hb13⟩
      have HB13 := Lib.hid (bstep hb13 HK12.out.k)
      clear hb13 HK12
      go_wp2_with fail
      go_ret
      exact ⟨rfl, HB13.out⟩
    | true =>
      rw [hm] at HCK HMY
      cases hf : findT (l1.map TB.tp) N with
      | none =>
        have hen : endP (l1.map TB.tp) N = (0, 4) := by unfold endP; rw [hm, hf]; rfl
        rw [hen] at HEN
        dsimp only at HEN
        clear hm hen hf HM3 HM4 HM5 HPL HLG
        go_wp2_with fail
        refine (HS45.out w6 HT4'.out HT5.out).mono ?_
        rintro e w7 ⟨rfl, hb7⟩
        have HK7 := Lib.hid (HK6.out.grow hb7)
        have HT3' := Lib.hid (HT3.out.grow hb7)
        clear hb7 HK6 HT3 HT4' HT5 HS45
        go_wp2_with fail
        refine (HCK.out w7 HK7.out.k HK7.out.t).mono ?_
        rintro e w8 ⟨rfl, hb8⟩
        have HK8 := Lib.hid (HK7.out.grow hb8)
        have HT3 := Lib.hid (HT3'.out.grow hb8)
        clear hb8 HK7 HT3' HCK
        rw [show errV true = 0 from rfl]
        go_wp2_with fail
        refine (HMY.out w8 HK8.out.t).mono ?_
        rintro e w9 ⟨rfl, hb9⟩
        have HK9 := Lib.hid (HK8.out.grow hb9)
        have HT3' := Lib.hid (HT3.out.grow hb9)
        clear hb9 HK8 HT3
        go_wp2_with fail
        refine (HS13.out w9 (Tops.a HK9.out.t) HT3'.out).mono ?_
        rintro e w10 ⟨rfl, hb10⟩
        have HK10 := Lib.hid (HK9.out.grow hb10)
        clear hb10 HK9 HT3' HS13
        go_wp2_with fail
        refine (HEN.out w10 HK10.out.k HK10.out.t).mono ?_
        rintro e w11 ⟨rfl, hb11⟩
        have HK11 := Lib.hid (HK10.out.grow hb11)
        clear hb11 HK10 HEN
        go_wp2_with fail
        refine (HMY.out w11 HK11.out.t).mono ?_
        rintro e w12 ⟨rfl, hb12⟩
        have HK12 := Lib.hid (HK11.out.grow hb12)
        clear hb12 HK11
        go_wp2_with fail
        refine (HAW.out w12 HK12.out.k).mono ?_
        rintro e w13 ⟨rfl, hb13⟩
        have HB13 := Lib.hid (bstep hb13 HK12.out.k)
        clear hb13 HK12
        go_wp2_with fail
        go_ret
        exact ⟨rfl, HB13.out⟩
      | some i =>
        obtain ⟨hi, _, htm⟩ := find_at hm hf
        obtain ⟨q1, q2, q3, _⟩ := tmay_parts htm
        have hen : endP (l1.map TB.tp) N = (l1[i].first + (l1[i].log.length : Int), 0) := by
          unfold endP
          rw [if_pos hm, hf]
          show (((l1.map TB.tp)[i]?.map _).getD 0, 0) = _
          rw [List.getElem?_map, List.getElem?_eq_getElem hi]
          rfl
        rw [hen] at HEN
        dsimp only at HEN
        clear hm hen hf htm HM3 HM4 HM5 HPL HLG
        go_wp2_with fail
        refine (HS45.out w6 HT4'.out HT5.out).mono ?_
        rintro e w7 ⟨rfl, hb7⟩
        have HK7 := Lib.hid (HK6.out.grow hb7)
        have HT3' := Lib.hid (HT3.out.grow hb7)
        clear hb7 HK6 HT3 HT4' HT5 HS45
        go_wp2_with fail
        refine (HCK.out w7 HK7.out.k HK7.out.t).mono ?_
        rintro e w8 ⟨rfl, hb8⟩
        have HK8 := Lib.hid (HK7.out.grow hb8)
        have HT3 := Lib.hid (HT3'.out.grow hb8)
        clear hb8 HK7 HT3' HCK
        rw [show errV true = 0 from rfl]
        go_wp2_with fail
        refine (HMY.out w8 HK8.out.t).mono ?_
        rintro e w9 ⟨rfl, hb9⟩
        have HK9 := Lib.hid (HK8.out.grow hb9)
        have HT3' := Lib.hid (HT3.out.grow hb9)
        clear hb9 HK8 HT3
        go_wp2_with fail
        refine (HS13.out w9 (Tops.a HK9.out.t) HT3'.out).mono ?_
        rintro e w10 ⟨rfl, hb10⟩
        have HK10 := Lib.hid (HK9.out.grow hb10)
        clear hb10 HK9 HT3' HS13
        go_wp2_with fail
        refine (HEN.out w10 HK10.out.k HK10.out.t).mono ?_
        rintro e w11 ⟨rfl, hb11⟩
        have HK11 := Lib.hid (HK10.out.grow hb11)
        clear hb11 HK10 HEN
        go_wp2_with fail
        refine (HMY.out w11 HK11.out.t).mono ?_
        rintro e w12 ⟨rfl, hb12⟩
        have HK12 := Lib.hid (HK11.out.grow hb12)
        clear hb12 HK11
        obtain ⟨b, o, ha, hb⟩ := HK12.out.t.head hi
        obtain rfl : a1 = some ⟨b, o, none⟩ := ha
        obtain ⟨_, ⟨f0, f1, f2⟩, _⟩ := HK12.out.t.at hi
        have y0 : (i : Int) < l1.length := by omega
        have y9 : IntKind.i64.wrap (l1[i].first + (l1[i].log.length : Int)) = l1[i].first + (l1[i].log.length : Int) := IntWalk.i64_in _ (by omega)
        go_upto_region 14 with fail
        refine Tryst2.wp_region_grows [.is (.int .i64 (l1[i].first + (l1[i].log.length : Int))), .is (.slice (some ⟨b, o, none⟩) l1.length c1), .is (.int .i64 (i : Int)), .is (.pointer (some ⟨b, o + i * 3, none⟩)), .is (.pointer (some ⟨b, o + i * 3 + 1, none⟩)), .is (.int .i64 l1[i].first), .is (.slice (some ⟨b, o, none⟩) l1.length c1), .is (.int .i64 (i : Int)), .is (.pointer (some ⟨b, o + i * 3, none⟩)), .is (.pointer (some ⟨b, o + i * 3 + 2, none⟩)), .is (.slice l1[i].la l1[i].log.length l1[i].lc), .is (.int .i64 (l1[i].log.length : Int)), .is (.int .i64 (l1[i].first + (l1[i].log.length : Int))), .is (.bool true), .is (.bool true), .is (.int .i64 0), .is (.bool true), .is (.bool true), .is (.bool true), .is (.bool true), .is (.bool true)] (by kernel_rfl) (by kernel_rfl) ?obl ?fin
        case obl =>
          simp only [Tryst2.AllObl, Tryst2.dstL, Tryst2.Obl, Tryst2.depsOf, Tryst2.binds_data, Tryst2.binds_chain, Tryst2.binds_phase, Tryst2.binds_guard, Tryst2.binds_text, Tryst2.binds_gc, Bool.false_eq_true, if_false, List.filterMap_cons_some, List.filterMap_cons_none, Tryst2.depsR, Tryst2.holdR, Tryst2.tmpsOf, Op.operands, Call.operands, Tryst2.Rsp.pred, Tryst2.wantedV_none, Tryst2.wantedV_some, if_true, List.map_cons, List.map_nil, List.length_map, List.take_succ_cons, List.take_zero, List.length_cons, List.length_nil, List.getElem?_cons_zero, List.getElem?_cons_succ, Option.bind_some, id, List.getD_cons_zero, List.getD_cons_succ, Tryst2.isDst, List.filterMap_cons, List.filterMap_nil, List.toList_toArray]
          repeat' apply And.intro
          any_goals trivial
          all_goals (intro tv w' hg hold hd; (try simp at hold); obtain ⟨hcg, hfg⟩ := Tryst2.Grow.cells hg; have hsg := Tryst2.Grow.le hg)
          all_goals first | (go_simp; done) | (go_simp; rw [if_neg (by omega)]; exact ⟨.refl _, rfl⟩) | (obtain ⟨⟨g, hvg, hgg, hcell⟩, _⟩ := hd; have hcell0 := hcell 0 (by decide); simp at hcell0; go_simp; done) | (go_simp; go_at_call 30; (with_reducible refine (HAW.out _ ?_).mono ?_); (exact bstep (Tryst2.Grow.below hg (.refl w12.heap.size w12)) HK12.out.k); rintro e w2 ⟨rfl, hb2⟩; exact ⟨hb2, rfl⟩)
        case fin =>
          intro tv w' hg hR
          simp only [Tryst2.allR, Tryst2.dstL, Tryst2.Rsp.pred, List.map_cons, List.map_nil, List.take_succ_cons, List.take_zero, List.length_cons, List.length_nil, List.tail_cons, List.toList_toArray] at hR
          obtain ⟨hcg, hfg⟩ := Tryst2.Grow.cells hg
          have hsg := Tryst2.Grow.le hg
          simp only [Tryst2.putAll, Tryst2.dstL, List.map_cons, List.map_nil, List.take_succ_cons, List.take_zero, List.length_cons, List.length_nil, List.toList_toArray, List.drop_succ_cons, List.drop_zero, Act.put, List.setIfInBounds_toArray, List.set_cons_zero, List.set_cons_succ, hR]
          have HB9 := Lib.hid (bstep (Tryst2.Grow.below hg (.refl w12.heap.size w12)) HK12.out.k)
          clear hg hR hcg hfg hsg
          go_wp2_with fail
          go_ret
          exact ⟨rfl, HB9.out⟩
end Go.Proofs.Ytcbnehplilpidaa
