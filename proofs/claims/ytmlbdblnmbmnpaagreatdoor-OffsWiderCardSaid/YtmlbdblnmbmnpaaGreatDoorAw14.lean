/- law14.One and law14.awake. -/
import Derived.Test.YtmlbdblnmbmnpaaGreatDoorProg
import Derived.WalkKit
import Derived.WalkSpells
import Derived.WalkLawsBesides
import Derived.Lib.Hide
import Derived.Deep.RegionWith
import Derived.Deep.Cut
import Derived.IntWalk
import Derived.Laws.ResultCell
import Derived.Test.YtmlbdblnmbmnpaaGreatDoorOffN
import Derived.Test.YtmlbdblnmbmnpaaGreatDoorDefU
import Derived.Test.YtmlbdblnmbmnpaaGreatDoorOffU
import Derived.Test.YtmlbdblnmbmnpaaGreatDoorR12
set_option linter.unusedVariables false
set_option linter.unusedSimpArgs false
namespace Go.Proofs.YtmlbdblnmbmnpaaGreatDoor
open Go.RowKit Tryst
set_option maxHeartbeats 4000000
set_option maxRecDepth 20000
/-- one definition: a glob, and a field that is there -/
def oneD (g : ByteArray) (ga : Option Addr) (gc : Nat) (wa : Option Addr) (wc : Nat) : DB := ⟨⟨#[115]⟩, ga, [g], gc, wa, [.mk ⟨#[104, 97, 115]⟩ ⟨#[120]⟩ false 0 ⟨#[]⟩ none 0 []], wc, ⟨#[]⟩, ⟨⟨#[97, 110, 121]⟩, 1, 0, 0⟩⟩
def OneDP (g : ByteArray) (v : Value) (w : World) : Prop := ∃ ga gc wa wc, v = (oneD g ga gc wa wc).agg ∧ DO w (oneD g ga gc wa wc)
theorem OneDP.at {g : ByteArray} {v : Value} {w' : World} (h : ∃ w0, Tryst2.Grow w0 w' ∧ OneDP g v w0) : OneDP g v w' := by
 obtain ⟨w0, hg, ga, gc, wa, wc, h1, h2⟩ := h
 exact ⟨ga, gc, wa, wc, h1, h2.grow hg⟩
theorem one_c (g : ByteArray) (hg : g.size ≤ 100000) (w : World) : Calls Tryz.prog 49 #[.string g] w fun e w' => ∃ v, e = .returned v ∧ OneDP g v w' ∧ Below w.heap.size w w' := by
 go_enter Tryz.func49, Tryz.ntmps49
 go_wp2_with fail
 have hb := balloc (.cells #[.string ⟨#[104, 97, 115]⟩, .string ⟨#[120]⟩, .bool false, .int .i64 0, .string ⟨#[]⟩, .slice none 0 0] 69) (balloc (.cells #[.string g] 9) (balloc (.cells #[.string ⟨#[115]⟩, .slice (some ⟨w.heap.size + 1, 0, none⟩) 1 1, .slice (some ⟨w.heap.size + 1 + 1, 0, none⟩) 1 1, .string ⟨#[]⟩, .string ⟨#[97, 110, 121]⟩, .int .i64 1, .int .i64 0, .int .i64 0] 27) (.refl w.heap.size w)))
 refine bodyPost_ret (v := (oneD g (some ⟨w.heap.size + 1, 0, none⟩) 1 (some ⟨w.heap.size + 1 + 1, 0, none⟩) 1).agg) (by simp [results, Tryz.results49, go_sem, oneD, DB.agg]) rfl ⟨_, rfl, ⟨_, _, _, _, rfl, ?_⟩, hb⟩
 refine ⟨show 1 ≤ 100000 by omega, show 1 ≤ 100 by omega, fun s hs => ?_, ?_, ⟨Nat.le_refl _, fun A h => (by cases h; rfl), fun h => (by cases h)⟩, show 1 ≤ 100 by omega, ⟨?_, ⟨Nat.le_refl _, fun A h => (by cases h; rfl), fun h => (by cases h)⟩, fun p hp => ?_⟩, show 0 ≤ 100000 by omega⟩
 ·
  obtain rfl : s = g := by simpa [oneD] using hs
  exact hg
 ·
  intro i hi
  obtain rfl : i = 0 := by simpa [oneD] using hi
  exact ⟨w.heap.size + 1, 0, rfl, by simp, by simp [go_sem, oneD]⟩
 ·
  intro i hi
  obtain rfl : i = 0 := by simpa [oneD] using hi
  refine ⟨w.heap.size + 1 + 1, 0, rfl, by simp, fun j hj => ?_⟩
  match j, hj with
  | 0, _ => simp [go_sem, oneD, PB.cells, PB.op]
  | 1, _ => simp [go_sem, oneD, PB.cells, PB.s]
  | 2, _ => simp [go_sem, oneD, PB.cells, PB.num]
  | 3, _ => simp [go_sem, oneD, PB.cells, PB.n]
  | 4, _ => simp [go_sem, oneD, PB.cells, PB.vs]
  | 5, _ => simp [go_sem, oneD, PB.cells, PB.a, PB.l, PB.c]
 ·
  obtain rfl : p = .mk ⟨#[104, 97, 115]⟩ ⟨#[120]⟩ false 0 ⟨#[]⟩ none 0 [] := by simpa [oneD] using hp
  exact ⟨.mk _ _ _ _ _ _ _ _ (show 3 ≤ 100000 by omega) (show 1 ≤ 100000 by omega) (show 0 ≤ 100000 by omega) (show 0 ≤ 10 by omega) (by omega) (Row.nil _ _ _) ⟨Nat.le_refl _, fun A h => (by cases h), fun _ => rfl⟩ (fun b o h => by cases h) (fun b o h => by cases h) (fun x hx => by cases hx), (by decide)⟩
abbrev aT : ByteArray := ⟨#[97, 46, 97]⟩
def aS : ByteArray := ⟨(evE aT ⟨#[112]⟩ 1 []).lay.toArray⟩
def aT1 : List Tp := [⟨aT, 0, [aS]⟩]
def aT2 : List Tp := [⟨aT, 0, [aS, aS]⟩]
theorem ap1 : appP [] (evMay aT ⟨#[112]⟩ 1 []) aT aS = (aT1, 0, 0) := by kernel_rfl
theorem ap2 : appP aT1 (evMay aT ⟨#[112]⟩ 1 []) aT aS = (aT2, 1, 0) := by kernel_rfl
abbrev aG : ByteArray := ⟨#[97, 46, 42]⟩
theorem aG_le : aG.size ≤ 100000 := by decide
theorem nx1 (ga : Option Addr) (gc : Nat) (wa : Option Addr) (wc : Nat) : nextV (oneD aG ga gc wa wc) [] aT2 = (aT, 0, 0) := by kernel_rfl
theorem nx2 (ga : Option Addr) (gc : Nat) (wa : Option Addr) (wc : Nat) : nextV (oneD aG ga gc wa wc) [⟨aT, 1⟩] aT2 = (aT, 1, 0) := by kernel_rfl
theorem pt1 : putO [] ⟨aT, 1⟩ = (some [⟨aT, 1⟩], 0) := by kernel_rfl
theorem pr1 (ga : Option Addr) (gc : Nat) (wa : Option Addr) (wc : Nat) : partD (oneD aG ga gc wa wc) aT [] = -1 := by kernel_rfl
def TpIn' (t : Tp) : Prop := t.name.size ≤ 100000 ∧ (∀ s ∈ t.log, s.size ≤ 1000000000) ∧ t.log.length ≤ 1000000000 ∧ -9223372036854775808 ≤ t.first ∧ t.first ≤ 9223372036854775807
theorem TIn.of' {l : List TB} {L : List Tp} (h : l.map TB.tp = L) (hL : ∀ t ∈ L, TpIn' t) : TIn l ∧ ∀ t ∈ l, t.name.size ≤ 100000 := by
 have key : ∀ t ∈ l, TpIn' t.tp := fun t ht => hL t.tp (by rw [← h]; exact List.mem_map.2 ⟨t, ht, rfl⟩)
 exact ⟨fun t ht => ⟨Nat.le_trans (key t ht).1 (by decide), (key t ht).2⟩, fun t ht => (key t ht).1⟩
instance (t : Tp) : Decidable (TpIn' t) := by unfold TpIn'; infer_instance
theorem aI1 : ∀ t ∈ aT1, TpIn' t := by decide +kernel
theorem aI2 : ∀ t ∈ aT2, TpIn' t := by decide +kernel
theorem awApr (a : Option Addr) (c : Nat) (l : List TB) (hl : l.length ≤ 1000000) {L : List Tp} (hL : l.map TB.tp = L) (hI : ∀ t ∈ L, TpIn' t) {p : List Tp × Int × Nat} (hp : appP L (evMay aT ⟨#[112]⟩ 1 []) aT aS = p) (w : World) (hF : TopsA w a l) :
  Calls Tryz.prog 48 #[.slice a l.length c, .agg #[.string aT, .string ⟨#[112]⟩, .int .u64 1, .slice none 0 0]] w fun e w' => ApR w p e w' := by
 have h := rappend12_c a c l hl (TIn.of' hL hI).1 (fun t ht => Nat.le_trans ((TIn.of' hL hI).2 t ht) (by decide)) aT ⟨#[112]⟩ 1 none [] 0 (show 3 ≤ 1000000 by omega) (show 1 ≤ 1000000 by omega) (by omega) (by omega) (by simp) (fun f hf => by cases hf) (fun f hf => by cases hf) w hF (Flds.nil _ _)
 rw [hL] at h
 have hp' : appP L (evMay aT ⟨#[112]⟩ 1 []) aT ⟨(evE aT ⟨#[112]⟩ 1 []).lay.toArray⟩ = p := hp
 rw [hp'] at h
 exact h
theorem awNext {v : Value} {la : Option Addr} {lc : Nat} {l : List OB} {ta : Option Addr} {tc : Nat} {tl : List TB} {r : ByteArray × Int × Int} (hl : l.length ≤ 1000000) (hs : ∀ x ∈ l, x.topic.size ≤ 1000000000) (htl : tl.length ≤ 1000000) (hL : tl.map TB.tp = aT2) (hr : ∀ ga gc wa wc, nextV (oneD aG ga gc wa wc) l aT2 = r)
  (w : World) (hM : MaxW w) (hD : OneDP aG v w) (hO : Offs w la l) (hT : TopsA w ta tl) :
  Calls Tryz.prog 15 #[v, .slice la l.length lc, .slice ta tl.length tc] w fun e w' => e = .returned (.tuple #[.string r.1, .int .i64 r.2.1, .int .i64 r.2.2]) ∧ Below w.heap.size w w' := by
 obtain ⟨ga, gc, wa, wc, rfl, hD⟩ := hD
 have h := onext_c (oneD aG ga gc wa wc) la lc l ta tc tl hl hs htl (TIn.of' hL aI2).1 (TIn.of' hL aI2).2 w hM hD hO hT
 rw [hL, hr] at h
 exact h
set_option maxHeartbeats 8000000 in
theorem awake14_c (w : World) (hM : MaxW w) : Calls Tryz.prog 22 #[] w fun e w' => e = .returned (.bool true) ∧ Below w.heap.size w w' := by
 have HM := Lib.hid (fun W (hb : Below w.heap.size w W) => hM.grow hb)
 clear hM
 have H1 := Lib.hid (fun W => awApr none 0 [] (by simp) rfl (fun t ht => by cases ht) ap1 W ⟨Row.nil _ _ _, fun t h => by cases h⟩)
 simp only [List.length_nil] at H1
 go_enter Tryz.func22, Tryz.ntmps22
 go_upto_region 2 with fail
 refine wp_genC (fun v => Hid (EX v w.heap.size aT ⟨#[112]⟩ 1 (.slice none 0 0)) ∧ Hid (Below w.heap.size w v)) ⟨EX.new _ _ _ _ _, balloc _ (.refl _ _)⟩ ?_
 rintro Y ⟨HE, HY⟩
 generalize w.heap.size = g at HE ⊢
 obtain ⟨e0, e1, e2, e3, e4⟩ := HE.out.box
 go_wp2_with fail
 with_reducible refine (H1.out _).mono ?_
 rintro e w2 ⟨a2, c2, l2, rfl, hl2, hF2, hb2⟩
 have HE2 := Lib.hid (HE.out.grow hb2)
 have HB2 := Lib.hid (bstep hb2 HY.out)
 have HN2 : Hid (l2.length = 1) := Lib.hid (by
  have := congrArg List.length hl2
  simpa [aT1] using this)
 have HF2 := Lib.hid hF2
 have H2 := Lib.hid (fun W hF => awApr a2 c2 l2 (by have := HN2.out; omega) hl2 aI1 ap2 W hF)
 clear hl2 hF2 hb2 H1 HE HY e0 e1 e2 e3 e4
 obtain ⟨e0, e1, e2, e3, e4⟩ := HE2.out.box
 simp only
 go_wp2_with fail
 with_reducible refine (H2.out _ HF2.out).mono ?_
 rintro e w4 ⟨a4, c4, l4, rfl, hl4, hF4, hb4⟩
 have HE4 := Lib.hid (HE2.out.grow hb4)
 have HB4 := Lib.hid (bstep hb4 HB2.out)
 have HN4 : Hid (l4.length = 1) := Lib.hid (by
  have := congrArg List.length hl4
  simpa [aT2] using this)
 have HF4 := Lib.hid (fun W (hb : Below w4.heap.size w4 W) => hF4.grow hb)
 have HL4 := Lib.hid hl4
 clear hl4 hF4 hb4 H2 HE2 HF2 HB2 e0 e1 e2 e3 e4
 obtain ⟨e0, e1, e2, e3, e4⟩ := HE4.out.box
 simp only
 go_wp2_with fail
 with_reducible refine (one_c aG aG_le _).mono ?_
 rintro e w5 ⟨v5, rfl, hd5, hb5⟩
 have HE5 := Lib.hid (HE4.out.grow hb5)
 have HB5 := Lib.hid (bstep hb5 HB4.out)
 have HC5 := Lib.hid hb5
 have HD5 := Lib.hid hd5
 clear hb5 hd5 HE4 e0 e1 e2 e3 e4
 have C5 := Lib.hid (awNext (la := none) (lc := 0) (l := []) (tc := c4) (r := (aT, 0, 0)) (by simp) (fun x hx => by cases hx) (by have := HN4.out; omega) HL4.out (fun ga gc wa wc => nx1 ga gc wa wc) w5 (HM.out _ HB5.out) HD5.out (Row.nil _ _ _) (HF4.out _ HC5.out))
 simp only [List.length_nil] at C5
 go_wp2_with fail
 with_reducible refine C5.out.mono ?_
 rintro e w6 ⟨rfl, hb6⟩
 have HE6 := Lib.hid (HE5.out.grow hb6)
 have HB6 := Lib.hid (bstep hb6 HB5.out)
 have HC6 := Lib.hid (bstep hb6 HC5.out)
 clear hb6 HE5 HD5 C5
 have C6 := Lib.hid (oput_c none 0 [] (by simp) ⟨Nat.le_refl _, fun A h => (by cases h), fun _ => rfl⟩ (fun x hx => by cases hx) ⟨aT, 1⟩ (show 3 ≤ 1000000000 by omega) w6 (HM.out _ HB6.out) (Row.nil _ _ _))
 rw [pt1] at C6
 simp only [List.length_nil] at C6
 simp only
 go_wp2_with fail
 with_reducible refine C6.out.mono ?_
 rintro e w7 ⟨a7, c7, rfl, hO7, hb7⟩
 have HE7 := Lib.hid (HE6.out.grow hb7)
 have HB7 := Lib.hid (bstep hb7 HB6.out)
 have HC7 := Lib.hid (bstep hb7 HC6.out)
 have HO7 : Hid (OOwn w7 w6.heap.size (.slice a7 1 c7) [⟨aT, 1⟩]) := Lib.hid hO7
 clear hb7 hO7 HE6 C6
 simp only [Option.getD_some, List.length_cons, List.length_nil]
 go_wp2_with fail
 with_reducible refine (one_c aG aG_le _).mono ?_
 rintro e w8 ⟨v8, rfl, hd8, hb8⟩
 have HE8 := Lib.hid (HE7.out.grow hb8)
 have HB8 := Lib.hid (bstep hb8 HB7.out)
 have HC8 := Lib.hid (bstep hb8 HC7.out)
 have HO8 := Lib.hid (HO7.out.grow hb8)
 have HD8 := Lib.hid hd8
 clear hb8 hd8 HE7 HO7
 obtain ⟨a9, c9, hv9, hR9, _⟩ := ROwn.row HO8.out (OB.cells_len _) (by decide)
 have hv9' : a7 = a9 := by
  simp only [List.map_cons, List.map_nil, List.length_cons, List.length_nil, Value.slice.injEq] at hv9
  exact hv9.1
 subst hv9'
 have HR9 : Hid (Offs w8 a7 [⟨aT, 1⟩]) := Lib.hid hR9
 clear hv9 hR9 HO8
 have C8 := Lib.hid (awNext (la := a7) (lc := c7) (l := [⟨aT, 1⟩]) (tc := c4) (r := (aT, 1, 0)) (by simp) (fun x hx => (by rw [List.mem_singleton] at hx; subst hx; exact (show 3 ≤ 1000000000 by omega))) (by have := HN4.out; omega) HL4.out (fun ga gc wa wc => nx2 ga gc wa wc) w8 (HM.out _ HB8.out) HD8.out HR9.out (HF4.out _ HC8.out))
 simp only [List.length_nil, List.length_cons] at C8
 go_wp2_with fail
 with_reducible refine C8.out.mono ?_
 rintro e w9 ⟨rfl, hb9⟩
 have HE9 := Lib.hid (HE8.out.grow hb9)
 have HB9 := Lib.hid (bstep hb9 HB8.out)
 clear hb9 HE8 HD8 C8 HR9
 obtain ⟨e0, e1, e2, e3, e4⟩ := HE9.out.box
 have c9' : ∀ (v : Value) W, Below w9.heap.size w9 W → OneDP aG v W → Calls Tryz.prog 30 #[v, .agg #[.string aT, .string ⟨#[112]⟩, .int .u64 1, .slice none 0 0]] W fun e w' => e = .returned (.int .i64 (-1)) ∧ Below W.heap.size W w' := by
  intro v W hb hd
  obtain ⟨ga, gc, wa, wc, rfl, hD⟩ := hd
  have h := dPart_c (oneD aG ga gc wa wc) aT ⟨#[112]⟩ 1 none [] 0 (show 3 ≤ 1000000 by omega) (by simp) W (HM.out _ (bstep hb HB9.out)) hD (Flds.nil _ _)
  rw [pr1] at h
  exact h
 have C9 := Lib.hid c9'
 have CO := Lib.hid (fun W => one_c aG aG_le W)
 clear c9'
 simp only
 go_upto_region 7 with fail
 refine Tryst2.wp_region_grows [.is (.string aT), .is (.bool true), .is (.bool true), .is (.int .i64 0), .is (.bool true), .is (.bool true), .is (.bool true), .is (.int .i64 0), .is (.bool true), .is (.bool true), .is (.bool true), .is (.int .i64 0), .is (.bool true), .is (.bool true), .is (.bool true), .is (.int .i64 1), .is (.bool true), .is (.bool true), .is (.bool true), .is (.int .i64 0), .is (.bool true), .is (.bool true), .is (.bool true), .any (OneDP aG), .is (.agg #[.string aT, .string ⟨#[112]⟩, .int .u64 1, .slice none 0 0]), .is (.int .i64 (-1)), .is (.bool true), .is (.bool true), .is (.bool true), .is (.bool true), .is (.bool true), .is (.bool true)] (by kernel_rfl) (by kernel_rfl) ?obl ?fin
 case obl =>
  simp only [YA, YL, YO, YR, Op.operands, Call.operands]
  repeat' apply And.intro
  any_goals trivial
  all_goals (intro tv w' hg hold hd; (try simp at hold); obtain ⟨hcg, hfg, hsg⟩ := YG hg)
  all_goals first | (go_simp; done) | (go_simp; rw [if_neg (by omega)]; exact ⟨.refl _, rfl⟩) | (obtain ⟨⟨g, hvg, hgg, hcell⟩, _⟩ := hd; have hcell0 := hcell 0 (by decide); simp at hcell0; go_simp; done) | (go_simp; go_at_call 49; (with_reducible refine (CO.out _).mono ?_); rintro e w5 ⟨v5, rfl, hd5, hb5⟩; exact ⟨hb5, _, Tryst2.Grow.refl _, hd5⟩) | (obtain ⟨hd1, _⟩ := hd; have hdo := OneDP.at hd1; go_simp; go_at_call 30; (with_reducible refine (C9.out _ _ ?_ hdo).mono ?_); (exact Tryst2.Grow.below hg (.refl _ _)); rintro e w5 ⟨rfl, hb5⟩; exact ⟨hb5, rfl⟩)
 case fin =>
  intro tv w' hg hR
  simp only [YF, YL, YR] at hR
  obtain ⟨hcg, hfg, hsg⟩ := YG hg
  simp only [YP, YL, Act.put, hR]
  have HB10 := Lib.hid (bstep (Tryst2.Grow.below hg (.refl _ _)) HB9.out)
  clear hg hR hcg hfg hsg
  go_wp2_with fail
  go_ret
  exact ⟨rfl, HB10.out⟩
end Go.Proofs.YtmlbdblnmbmnpaaGreatDoor
