/- The walk of EventPuts. -/
import Derived.Test.YtfohdjgalmodbaaProg
import Derived.WalkKit
import Derived.WalkSpells
import Derived.WalkLawsBesides
import Derived.Lib.Hide
import Derived.Deep.RegionWith
import Derived.Deep.Cut
import Derived.Test.YtfohdjgalmodbaaShort4
import Derived.Test.YtfohdjgalmodbaaEv12
set_option linter.unusedVariables false
set_option linter.unusedSimpArgs false
namespace Go.Proofs.Ytfohdjgalmodbaa
open Go.RowKit Tryst
set_option maxHeartbeats 400000
set_option maxRecDepth 20000
/-- a value that is an event with these fields, as Go has slices -/
def EvS (t p : ByteArray) (q : Int) (l : List FB) (v : Value) (w : World) : Prop := ∃ a c, v = .agg #[.string t, .string p, .int .u64 q, .slice a l.length c] ∧ Flds w a l ∧ Sl a c l.length
theorem EvS.at {t p : ByteArray} {q : Int} {l : List FB} {v : Value} {w' : World} (h : ∃ w0, Tryst2.Grow w0 w' ∧ EvS t p q l v w0) : EvS t p q l v w' := by
  obtain ⟨w0, hg, a, c, h1, h2, h3⟩ := h
  exact ⟨a, c, h1, h2.grow hg, h3⟩
theorem EvS.of {w w' : World} {t p : ByteArray} {q : Int} {l : List FB} {a : Option Addr} {c : Nat} (h : Flds w' a l) (hs : Sl a c l.length) (hb : Below w.heap.size w w') : Tryst2.Grow w w' ∧ ∃ w0, Tryst2.Grow w0 w' ∧ EvS t p q l (.agg #[.string t, .string p, .int .u64 q, .slice a l.length c]) w0 :=
  ⟨hb, w', Tryst2.Grow.refl _, a, c, rfl, h, hs⟩
/-- a value's three cells -/
structure VB3 (w : World) (b : Nat) (x : Bool) (n : Int) (s : ByteArray) : Prop where
  c0 : w.cell? ⟨b, 0, none⟩ = some (.bool x)
  c1 : w.cell? ⟨b, 1, none⟩ = some (.int .i64 n)
  c2 : w.cell? ⟨b, 2, none⟩ = some (.string s)
  hz : b < w.heap.size
theorem VB3.grow {w w' : World} {b : Nat} {x : Bool} {n : Int} {s : ByteArray} (h : VB3 w b x n s) (hb : Below w.heap.size w w') : VB3 w' b x n s := by
  obtain ⟨h0, h1, h2, h6⟩ := h
  exact ⟨by rw [hb.cell (p := ⟨b, 0, none⟩) h6]; exact h0, by rw [hb.cell (p := ⟨b, 1, none⟩) h6]; exact h1, by rw [hb.cell (p := ⟨b, 2, none⟩) h6]; exact h2, Nat.lt_of_lt_of_le h6 hb.size⟩
theorem VB3.new (w : World) (x : Bool) (n : Int) (s : ByteArray) (T : TypeId) : VB3 (w.alloc (.cells #[.bool x, .int .i64 n, .string s] T)) w.heap.size x n s := by
  constructor <;> simp [go_sem]
theorem VB3.set {w : World} {b : Nat} {x y : Bool} {n m : Int} {s u : ByteArray} (h : VB3 w b x n s) : VB3 (((w.setCell ⟨b, 0, none⟩ (.bool y)).setCell ⟨b, 1, none⟩ (.int .i64 m)).setCell ⟨b, 2, none⟩ (.string u)) b y m u := by
  obtain ⟨h0, h1, h2, h6⟩ := h
  constructor <;> simp [cell_setCell, h0, h1, h2, h6]
theorem VB3.away {w : World} {b c o : Nat} {x : Bool} {n : Int} {s : ByteArray} {u : Value} (h : VB3 w b x n s) (hc : c ≠ b) : VB3 (w.setCell ⟨c, o, none⟩ u) b x n s := by
  obtain ⟨h0, h1, h2, h6⟩ := h
  constructor <;> simp [cell_setCell, hc, h0, h1, h2, h6]
theorem flds_vbox {w : World} {B : Nat} {x : Bool} {n : Int} {s : ByteArray} {T : TypeId} {a : Option Addr} {l : List FB} (hB : w.heap[B]? = some (.cells #[.bool x, .int .i64 n, .string s] T (0, 0))) (hF : Flds w a l) (v0 v1 v2 : Value) :
    Flds (((w.setCell ⟨B, 0, none⟩ v0).setCell ⟨B, 1, none⟩ v1).setCell ⟨B, 2, none⟩ v2) a l := by
  intro i hi
  obtain ⟨b, o, h1, h2, h3⟩ := hF i hi
  have hne : B ≠ b := fun e => by
    subst e
    have h := h3.c3
    rw [Lib.cell_of_heap hB, Array.getElem?_eq_none (by simp)] at h
    cases h
  obtain ⟨k0, k1, k2, k3⟩ := h3
  exact ⟨b, o, h1, by simpa using h2, ⟨by simp [cell_setCell, hne, k0], by simp [cell_setCell, hne, k1], by simp [cell_setCell, hne, k2], by simp [cell_setCell, hne, k3]⟩⟩
set_option maxHeartbeats 2000000 in
theorem eventPuts_c (t p : ByteArray) (q : Int) (a : Option Addr) (l : List FB) (c : Nat) (ht : t.size ≤ 9223372036854775807) (hp : p.size ≤ 9223372036854775807) (h0 : 0 ≤ q) (h4 : q ≤ 18446744073709551615) (hI : FIn l) (hl : l.length ≤ 9223372036854775807)
    (nm : ByteArray) (hnm : nm.size ≤ 9223372036854775807) (x : Bool) (n : Int) (s : ByteArray) (hs : s.size ≤ 9223372036854775807) (hln : -9223372036854775808 ≤ n) (hhn : n ≤ 9223372036854775807) (w : World) (hM : MaxW w) (hF : Flds w a l) :
    Calls Try.prog 3 #[.agg #[.string t, .string p, .int .u64 q, .slice a l.length c], .string nm, .agg #[.bool x, .int .i64 n, .string s]] w fun e w' => e = .returned (.bool true) ∧ Below w.heap.size w w' := by
  obtain ⟨hO, hO2, hlen⟩ := few_ok hI
  have HM := Lib.hid hM
  have CF := Lib.hid (fun W h => efew_c t p q a c l hl ht hp (few_in hI) W h)
  have CN := Lib.hid (fun W => few60_c nm hnm W)
  have CV := Lib.hid (fun W => fewV_c x n s hs W)
  have HF := Lib.hid hF
  have u1 := few60_le t
  have u2 := few60_le p
  have u3 := few60_le nm
  have u4 := few_le s
  have HFF := Lib.hid (few_in (show FIn (fewL l) from fun f hf => ⟨by have := (hO2 f hf).1; omega, by have := (hO2 f hf).2; omega, (hO f hf).2.2.1, (hO f hf).2.2.2⟩))
  have hff : fewL (fewL l) = fewL l := by
    unfold fewL
    rw [← List.map_take, List.take_take, List.map_map]
    congr 1
    · funext f
      have h6 : ∀ z : ByteArray, few60 (few60 z) = few60 z := fun z => by
        have := few60_le z
        show (if 60 < (few60 z).size then _ else _) = _
        rw [if_neg (by omega)]
      have h7 : ∀ z : ByteArray, few (few z) = few z := fun z => by
        have := few_le z
        show (if 70 < (few z).size then _ else _) = _
        rw [if_neg (by omega)]
      show (⟨few60 (few60 f.name), f.num, f.n, few (few f.s)⟩ : FB) = ⟨few60 f.name, f.num, f.n, few f.s⟩
      rw [h6, h7]
  have h6 : ∀ z : ByteArray, few60 (few60 z) = few60 z := fun z => by
    have := few60_le z
    show (if 60 < (few60 z).size then _ else _) = _
    rw [if_neg (by omega)]
  have hfft := h6 t
  have hffp := h6 p
  clear hF hM hI hO hO2 hl ht hp hnm hs h6
  revert u1 u2 u3 u4 HFF hff hfft hffp CF CN CV hlen
  generalize few60 t = t1
  generalize few60 p = p1
  generalize few60 nm = n1
  generalize few s = s1
  generalize fewL l = L
  intro hlen CF CN CV u1 u2 u3 u4 HFF hff hfft hffp
  have CF2 := Lib.hid (fun a c W h => efew_c t1 p1 q a c L (by omega) (by omega) (by omega) HFF.out W h)
  rw [hff, hfft, hffp] at CF2
  have HPUT := Lib.hid (fun a c hS W h => put_c t1 p1 q a c L (by omega) hS ⟨n1, x, n, s1⟩ W h)
  have HRPUT := Lib.hid (fun a c W h => rput_c t1 p1 q a c L (by omega) ⟨n1, x, n, s1⟩ W h)
  have hpl := putB_length L ⟨n1, x, n, s1⟩
  have HGET := Lib.hid (fun a c W h => get_c t1 p1 q a c L (by omega) n1 W h)
  have HRGET := Lib.hid (fun a c W h => rget_c t1 p1 q a c L (by omega) n1 W h)
  have HSM := Lib.hid (fun l (hl : l.length ≤ 20) a1 a2 c1 c2 W h1 h2 => rsame_c t1 t1 p1 p1 q q a1 a2 c1 c2 l l (by omega) (by omega) W h1 h2)
  unfold vV at HGET HRGET
  revert HPUT HRPUT hpl HGET HRGET
  generalize putB L ⟨n1, x, n, s1⟩ = PL
  generalize (findB L n1).getD FB.zero = G
  generalize (findB L n1).isSome = g
  intro HPUT HRPUT hpl HGET HRGET
  clear hff hfft hffp HFF
  go_enter Try.func3, Try.ntmps3
  go_wp2_with fail
  have HBX := Lib.hid (balloc (.cells #[.bool x, .int .i64 n, .string s] 27) (balloc (.cells #[.string t, .string p, .int .u64 q, .slice a l.length c] 25) (.refl w.heap.size w)))
  refine Tryst2.wp_region_grows [.is (.agg #[.string t, .string p, .int .u64 q, .slice a l.length c]), .any (EvS t1 p1 q L), .is (.string nm), .is (.string n1), .is (.agg #[.bool x, .int .i64 n, .string s]), .is (.agg #[.bool x, .int .i64 n, .string s1])] (by kernel_rfl) (by kernel_rfl) ?obl ?fin
  case obl =>
    simp only [Tryst2.AllObl, Tryst2.dstL, Tryst2.Obl, Tryst2.depsOf, Tryst2.binds_data, Tryst2.binds_chain, Tryst2.binds_phase, Tryst2.binds_guard, Tryst2.binds_text, Tryst2.binds_gc, Bool.false_eq_true, if_false, List.filterMap_cons_some, List.filterMap_cons_none, Tryst2.depsR, Tryst2.holdR, Tryst2.tmpsOf, Op.operands, Call.operands, Tryst2.Rsp.pred, Tryst2.wantedV_none, if_true, List.map_cons, List.map_nil, List.length_map, List.take_succ_cons, List.take_zero, List.length_cons, List.length_nil, List.getElem?_cons_zero, List.getElem?_cons_succ, Option.bind_some, id, List.getD_cons_zero, List.getD_cons_succ, Tryst2.isDst, List.filterMap_cons, List.filterMap_nil, List.toList_toArray]
    repeat' apply And.intro
    any_goals trivial
    all_goals (intro tv w' hg hold hd; (try simp at hold); obtain ⟨hcg, hfg⟩ := Tryst2.Grow.cells hg; have hsg := Tryst2.Grow.le hg)
    all_goals first | (go_simp; done) | (go_simp; rw [if_neg (by omega)]; exact ⟨.refl _, rfl⟩) | (obtain ⟨⟨g, hvg, hgg, hcell⟩, _⟩ := hd; have hcell0 := hcell 0 (by decide); simp at hcell0; go_simp; done) | (go_simp; go_at_call 9; (with_reducible refine (CF.out _ ?_).mono ?_); (exact HF.out.grow (Tryst2.Grow.below hg HBX.out)); rintro e w2 ⟨a', c', rfl, hf2, hs2, hb2⟩; exact EvS.of hf2 hs2 hb2) | (go_simp; go_at_call 10; (with_reducible refine (CN.out _).mono ?_); rintro e w2 ⟨rfl, rfl⟩; exact ⟨Tryst2.Grow.refl _, rfl⟩) | (go_simp; go_at_call 11; (with_reducible refine (CV.out _).mono ?_); rintro e w2 ⟨rfl, hb2⟩; exact ⟨hb2, rfl⟩)
  case fin =>
    intro tv w' hg hR
    simp only [Tryst2.allR, Tryst2.dstL, Tryst2.Rsp.pred, List.map_cons, List.map_nil, List.take_succ_cons, List.take_zero, List.length_cons, List.length_nil, List.tail_cons, List.toList_toArray] at hR
    obtain ⟨hcg, hfg⟩ := Tryst2.Grow.cells hg
    have hsg := Tryst2.Grow.le hg
    simp only [Tryst2.putAll, Tryst2.dstL, List.map_cons, List.map_nil, List.take_succ_cons, List.take_zero, List.length_cons, List.length_nil, List.toList_toArray, List.drop_succ_cons, List.drop_zero, Act.put, List.setIfInBounds_toArray, List.set_cons_zero, List.set_cons_succ, hR]
    obtain ⟨aA, cA, eA, fA, sA⟩ := EvS.at hR.2.1
    simp only [eA]
    have hK := Tryst2.Grow.below hg HBX.out
    have hh0 : w'.heap[w.heap.size]? = some (.cells #[.string t, .string p, .int .u64 q, .slice a l.length c] 25 (0, 0)) := (hg.block w.heap.size (by simp; omega)).trans (by
      show ((w.heap.push _).push _)[_]? = _
      simp [Array.getElem?_push])
    have hnb := new_box (w.alloc (.cells #[.string t, .string p, .int .u64 q, .slice a l.length c] 25)) #[.bool x, .int .i64 n, .string s] 27
    rw [show (w.alloc (.cells #[.string t, .string p, .int .u64 q, .slice a l.length c] 25)).heap.size = w.heap.size + 1 by simp] at hnb
    have hh1 : w'.heap[w.heap.size + 1]? = some (.cells #[.bool x, .int .i64 n, .string s] 27 (0, 0)) := (hg.block (w.heap.size + 1) (by simp)).trans hnb
    have hz : w.heap.size + 1 < w'.heap.size := (Array.getElem?_eq_some_iff.1 hh1).1
    have hz0 : w.heap.size < w'.heap.size := by omega
    have e0 := EAt.of hh0
    have v0 : VB3 w' (w.heap.size + 1) x n s := ⟨by rw [Lib.cell_of_heap hh1]; rfl, by rw [Lib.cell_of_heap hh1]; rfl, by rw [Lib.cell_of_heap hh1]; rfl, hz⟩
    have hh1' : ((((w'.setCell ⟨w.heap.size, 0, none⟩ (.string t1)).setCell ⟨w.heap.size, 1, none⟩ (.string p1)).setCell ⟨w.heap.size, 2, none⟩ (.int .u64 q)).setCell ⟨w.heap.size, 3, none⟩ (.slice aA L.length cA)).heap[w.heap.size + 1]? = some (.cells #[.bool x, .int .i64 n, .string s] 27 (0, 0)) := by
      rw [Below.heap_setCell _ _ _ _ (show w.heap.size + 1 ≠ w.heap.size by omega), Below.heap_setCell _ _ _ _ (show w.heap.size + 1 ≠ w.heap.size by omega), Below.heap_setCell _ _ _ _ (show w.heap.size + 1 ≠ w.heap.size by omega), Below.heap_setCell _ _ _ _ (show w.heap.size + 1 ≠ w.heap.size by omega)]
      exact hh1
    have hFY := flds_vbox hh1' (flds_box hh0 fA (.string t1) (.string p1) (.int .u64 q) (.slice aA L.length cA)) (.bool x) (.int .i64 n) (.string s1)
    have hEY := (((e0.setAll (t' := t1) (p' := p1) (q' := q) (u' := .slice aA L.length cA)).away (c := w.heap.size + 1) (o := 0) (x := .bool x) (by omega)).away (c := w.heap.size + 1) (o := 1) (x := .int .i64 n) (by omega)).away (c := w.heap.size + 1) (o := 2) (x := .string s1) (by omega)
    have hVY := ((((v0.away (c := w.heap.size) (o := 0) (u := .string t1) (by omega)).away (c := w.heap.size) (o := 1) (u := .string p1) (by omega)).away (c := w.heap.size) (o := 2) (u := .int .u64 q) (by omega)).away (c := w.heap.size) (o := 3) (u := .slice aA L.length cA) (by omega)).set (y := x) (m := n) (u := s1)
    have GF := Lib.hid hFY
    have GE := Lib.hid hEY
    have GV := Lib.hid hVY
    have SA := Lib.hid sA
    have KY := Lib.hid (bset (p := ⟨w.heap.size + 1, 2, none⟩) (.string s1) (by simp) (bset (p := ⟨w.heap.size + 1, 1, none⟩) (.int .i64 n) (by simp) (bset (p := ⟨w.heap.size + 1, 0, none⟩) (.bool x) (by simp) (bset (p := ⟨w.heap.size, 3, none⟩) (.slice aA L.length cA) (Nat.le_refl _) (bset (p := ⟨w.heap.size, 2, none⟩) (.int .u64 q) (Nat.le_refl _) (bset (p := ⟨w.heap.size, 1, none⟩) (.string p1) (Nat.le_refl _) (bset (p := ⟨w.heap.size, 0, none⟩) (.string t1) (Nat.le_refl _) hK)))))))
    obtain ⟨x0, x1, x2, x3, x4, x5, x6, x7⟩ := e0
    obtain ⟨y0, y1, y2, y3⟩ := v0
    have y4 : w'.frozen? ⟨w.heap.size + 1, 0, none⟩ = false := Lib.frozen_of_heap hh1 0
    have y5 : w'.frozen? ⟨w.heap.size + 1, 1, none⟩ = false := Lib.frozen_of_heap hh1 1
    have y6 : w'.frozen? ⟨w.heap.size + 1, 2, none⟩ = false := Lib.frozen_of_heap hh1 2
    clear hg hR hcg hfg hsg eA fA sA hK hh0 hh1 hh1' hnb HF CF CN CV HBX hFY hEY hVY
    go_upto_region 2 with fail
    clear x0 x1 x2 x3 x4 x5 x6 x7 y0 y1 y2 y3 y4 y5 y6 hz hz0
    revert GF GE GV KY
    generalize ((((((w'.setCell ⟨w.heap.size, 0, none⟩ (.string t1)).setCell ⟨w.heap.size, 1, none⟩ (.string p1)).setCell ⟨w.heap.size, 2, none⟩ (.int .u64 q)).setCell ⟨w.heap.size, 3, none⟩ (.slice aA L.length cA)).setCell ⟨w.heap.size + 1, 0, none⟩ (.bool x)).setCell ⟨w.heap.size + 1, 1, none⟩ (.int .i64 n)).setCell ⟨w.heap.size + 1, 2, none⟩ (.string s1) = Y
    intro GF GE GV KY
    have hzY : w.heap.size + 1 < Y.heap.size := GV.out.hz
    have hzY0 : w.heap.size < Y.heap.size := by omega
    obtain ⟨x0, x1, x2, x3, x4, x5, x6, x7⟩ := GE.out
    go_wp2_with fail
    refine (CF2.out aA cA Y GF.out).mono ?_
    rintro e w2 ⟨aB, cB, rfl, fB, _, hb2⟩
    clear x0 x1 x2 x3 x4 x5 x6 x7
    have hbA := hb2.trans (balloc (.cells #[.string t1, .string p1, .int .u64 q, .slice aB L.length cB] 25) (.refl w2.heap.size w2) |>.mono hb2.size)
    have E2 := Lib.hid (GE.out.grow hzY0 hbA)
    have V2 := Lib.hid (GV.out.grow hbA)
    have F2 := Lib.hid (GF.out.grow hbA)
    have K2 := Lib.hid (bstep hbA KY.out)
    have W2 := Lib.hid (fB.grow (balloc (.cells #[.string t1, .string p1, .int .u64 q, .slice aB L.length cB] 25) (.refl w2.heap.size w2)))
    have B2 := Lib.hid (EAt.of (new_box w2 #[.string t1, .string p1, .int .u64 q, .slice aB L.length cB] 25))
    have hz2 : w.heap.size + 1 < w2.heap.size := Nat.lt_of_lt_of_le hzY hb2.size
    obtain ⟨b2, hb2e⟩ : ∃ b, w2.heap.size = b := ⟨_, rfl⟩
    have hz2' : b2 < (w2.alloc (.cells #[.string t1, .string p1, .int .u64 q, .slice aB L.length cB] 25)).heap.size := by simp; omega
    rw [hb2e] at B2 hz2
    obtain ⟨x0, x1, x2, x3, x4, x5, x6, x7⟩ := E2.out
    have hzz : w.heap.size < (w2.alloc (.cells #[.string t1, .string p1, .int .u64 q, .slice aB L.length cB] 25)).heap.size := by omega
    clear hbA hb2 fB
    go_wp2_with fail
    clear hb2e
    revert E2 V2 F2 K2 W2 B2 hz2' hzz x0 x1 x2 x3 x4 x5 x6 x7
    generalize w2.alloc (.cells #[.string t1, .string p1, .int .u64 q, .slice aB L.length cB] 25) = X2
    intro E2 V2 F2 K2 W2 B2 hz2' x0 x1 x2 x3 x4 x5 x6 x7 hzz
    refine (HGET.out aA cA X2 F2.out).mono ?_
    rintro e w3 ⟨rfl, hb3⟩
    have hbA := hb3.trans (balloc (.cells #[.bool G.num, .int .i64 G.n, .string G.s] 27) (.refl w3.heap.size w3) |>.mono hb3.size)
    have E2n := Lib.hid (E2.out.grow (by have := V2.out.hz; omega) hbA)
    have V2n := Lib.hid (V2.out.grow hbA)
    have F2n := Lib.hid (F2.out.grow hbA)
    have K2n := Lib.hid (bstep hbA K2.out)
    have W2n := Lib.hid (W2.out.grow hbA)
    have B2n := Lib.hid (B2.out.grow hz2' hbA)
    have b3V := Lib.hid (VB3.new w3 G.num G.n G.s 27)
    obtain ⟨b3, b3e⟩ : ∃ b, w3.heap.size = b := ⟨_, rfl⟩
    have hz2n : b2 < (w3.alloc (.cells #[.bool G.num, .int .i64 G.n, .string G.s] 27)).heap.size := Nat.lt_of_lt_of_le hz2' hbA.size
    rw [b3e] at b3V
    clear hbA hb3 x0 x1 x2 x3 x4 x5 x6 x7 hz2' hzz
    obtain ⟨x0, x1, x2, x3, x4, x5, x6, x7⟩ := E2n.out
    have hzz : w.heap.size < (w3.alloc (.cells #[.bool G.num, .int .i64 G.n, .string G.s] 27)).heap.size := by have := V2n.out.hz; omega
    clear E2 V2 F2 K2 W2 B2
    go_wp2_with fail
    clear b3e
    revert E2n V2n F2n K2n W2n B2n b3V hz2n hzz x0 x1 x2 x3 x4 x5 x6 x7
    generalize w3.alloc (.cells #[.bool G.num, .int .i64 G.n, .string G.s] 27) = X3
    intro E3 V3 F3 K3 W3 B3 hb3V hz2' x0 x1 x2 x3 x4 x5 x6 x7 hzz
    refine (HRGET.out aA cA X3 F3.out).mono ?_
    rintro e w4 ⟨rfl, hb3⟩
    have hbA := hb3.trans (balloc (.cells #[.bool G.num, .int .i64 G.n, .string G.s] 27) (.refl w4.heap.size w4) |>.mono hb3.size)
    have E3n := Lib.hid (E3.out.grow (by have := V3.out.hz; omega) hbA)
    have V3n := Lib.hid (V3.out.grow hbA)
    have F3n := Lib.hid (F3.out.grow hbA)
    have K3n := Lib.hid (bstep hbA K3.out)
    have W3n := Lib.hid (W3.out.grow hbA)
    have B3n := Lib.hid (B3.out.grow hz2' hbA)
    have b4V := Lib.hid (VB3.new w4 G.num G.n G.s 27)
    obtain ⟨b4, b4e⟩ : ∃ b, w4.heap.size = b := ⟨_, rfl⟩
    have hz2n : b2 < (w4.alloc (.cells #[.bool G.num, .int .i64 G.n, .string G.s] 27)).heap.size := Nat.lt_of_lt_of_le hz2' hbA.size
    rw [b4e] at b4V
    have hb3Vn := Lib.hid (hb3V.out.grow hbA)
    clear hbA hb3 x0 x1 x2 x3 x4 x5 x6 x7 hz2' hzz
    obtain ⟨x0, x1, x2, x3, x4, x5, x6, x7⟩ := E3n.out
    have hzz : w.heap.size < (w4.alloc (.cells #[.bool G.num, .int .i64 G.n, .string G.s] 27)).heap.size := by have := V3n.out.hz; omega
    clear E3 V3 F3 K3 W3 B3 hb3V
    go_upto_region 5 with fail
    clear b4e
    revert E3n V3n F3n K3n W3n B3n b4V hb3Vn hz2n hzz x0 x1 x2 x3 x4 x5 x6 x7
    generalize w4.alloc (.cells #[.bool G.num, .int .i64 G.n, .string G.s] 27) = X4
    intro E4 V4 F4 K4 W4 B4 b4V hz2' b3V x0 x1 x2 x3 x4 x5 x6 x7 hzz
    have hxy : (G.s.toList == G.s.toList) = true := strEq rfl
    obtain ⟨r0, r1, r2, r3⟩ := b3V.out
    obtain ⟨m0, m1, m2, m3⟩ := b4V.out
    obtain ⟨k0, k1, k2, k3⟩ := V4.out
    obtain ⟨j0, j1, j2, j3, j4, j5, j6, j7⟩ := B4.out
    refine Tryst2.wp_region_grows [.is (.agg #[.bool G.num, .int .i64 G.n, .string G.s]), .is (.agg #[.bool G.num, .int .i64 G.n, .string G.s]), .is (.bool true), .is (.bool true), .is (.bool g), .is (.bool g), .is (.bool true), .is (.bool true), .is (.bool true), .is (.agg #[.string t1, .string p1, .int .u64 q, .slice aA L.length cA]), .is (.string n1), .is (.agg #[.bool x, .int .i64 n, .string s1]), .any (EvS t1 p1 q PL), .is (.agg #[.string t1, .string p1, .int .u64 q, .slice aA L.length cA]), .is (.string n1), .is (.agg #[.bool x, .int .i64 n, .string s1]), .any (EvS t1 p1 q PL), .is (.bool true), .is (.bool true), .is (.bool true), .is (.agg #[.string t1, .string p1, .int .u64 q, .slice aA L.length cA]), .is (.agg #[.string t1, .string p1, .int .u64 q, .slice aB L.length cB]), .is (.bool true), .is (.bool true), .is (.bool true), .is (.bool true), .is (.bool true), .is (.bool true)] (by kernel_rfl) (by kernel_rfl) ?obl ?fin
    case obl =>
      simp only [Tryst2.AllObl, Tryst2.dstL, Tryst2.Obl, Tryst2.depsOf, Tryst2.binds_data, Tryst2.binds_chain, Tryst2.binds_phase, Tryst2.binds_guard, Tryst2.binds_text, Tryst2.binds_gc, Bool.false_eq_true, if_false, List.filterMap_cons_some, List.filterMap_cons_none, Tryst2.depsR, Tryst2.holdR, Tryst2.tmpsOf, Op.operands, Call.operands, Tryst2.Rsp.pred, Tryst2.wantedV_none, Tryst2.wantedV_some, if_true, List.map_cons, List.map_nil, List.length_map, List.take_succ_cons, List.take_zero, List.length_cons, List.length_nil, List.getElem?_cons_zero, List.getElem?_cons_succ, Option.bind_some, id, List.getD_cons_zero, List.getD_cons_succ, Tryst2.isDst, List.filterMap_cons, List.filterMap_nil, List.toList_toArray]
      repeat' apply And.intro
      any_goals trivial
      all_goals (intro tv w' hg hold hd; (try simp at hold); obtain ⟨hcg, hfg⟩ := Tryst2.Grow.cells hg; have hsg := Tryst2.Grow.le hg)
      all_goals first | (go_simp; done) | (go_simp; rw [if_neg (by omega)]; exact ⟨.refl _, rfl⟩) | (obtain ⟨⟨g, hvg, hgg, hcell⟩, _⟩ := hd; have hcell0 := hcell 0 (by decide); simp at hcell0; go_simp; done) | (go_simp; go_at_call 15; (with_reducible refine (HPUT.out aA cA SA.out _ ?_).mono ?_); (exact F4.out.grow (Tryst2.Grow.below hg (.refl X4.heap.size X4))); rintro e w5 ⟨a', c', rfl, hf2, hs2, hb2⟩; exact EvS.of hf2 hs2 hb2) | (go_simp; go_at_call 16; (with_reducible refine (HRPUT.out aA cA _ ?_).mono ?_); (exact F4.out.grow (Tryst2.Grow.below hg (.refl X4.heap.size X4))); rintro e w5 ⟨a', c', rfl, hf2, hs2, hb2⟩; exact EvS.of hf2 hs2 hb2) | (go_simp; go_at_call 17; (with_reducible refine (awake4_c _ ?_).mono ?_); (exact HM.out.grow (Tryst2.Grow.below hg K4.out)); rintro e w5 ⟨rfl, hb5⟩; exact ⟨hb5, rfl⟩) | (go_simp; go_at_call 14; (with_reducible refine (HSM.out L (by omega) aA aB cA cB _ ?_ ?_).mono ?_); (exact F4.out.grow (Tryst2.Grow.below hg (.refl X4.heap.size X4))); (exact W4.out.grow (Tryst2.Grow.below hg (.refl X4.heap.size X4))); rintro e w5 ⟨r5, rfl, hr5, hb5⟩; exact ⟨hb5, by rw [hr5.2 ⟨rfl, rfl, rfl, rfl⟩]⟩) | (obtain ⟨h1, h2, _⟩ := hd; obtain ⟨a5, c5, e5, f5, _⟩ := EvS.at h1; obtain ⟨a6, c6, e6, f6, _⟩ := EvS.at h2; go_simp; go_at_call 14; (with_reducible refine (HSM.out PL (by omega) a5 a6 c5 c6 _ f5 f6).mono ?_); rintro e w5 ⟨r5, rfl, hr5, hb5⟩; exact ⟨hb5, by rw [hr5.2 ⟨rfl, rfl, rfl, rfl⟩]⟩)
    case fin =>
      intro tv w' hg hR
      simp only [Tryst2.allR, Tryst2.dstL, Tryst2.Rsp.pred, List.map_cons, List.map_nil, List.take_succ_cons, List.take_zero, List.length_cons, List.length_nil, List.tail_cons, List.toList_toArray] at hR
      obtain ⟨hcg, hfg⟩ := Tryst2.Grow.cells hg
      have hsg := Tryst2.Grow.le hg
      simp only [Tryst2.putAll, Tryst2.dstL, List.map_cons, List.map_nil, List.take_succ_cons, List.take_zero, List.length_cons, List.length_nil, List.toList_toArray, List.drop_succ_cons, List.drop_zero, Act.put, List.setIfInBounds_toArray, List.set_cons_zero, List.set_cons_succ, hR]
      have K9 := Lib.hid (Tryst2.Grow.below hg K4.out)
      clear hg hR hcg hfg hsg
      go_wp2_with fail
      go_ret
      exact ⟨rfl, K9.out⟩
end Go.Proofs.Ytfohdjgalmodbaa
