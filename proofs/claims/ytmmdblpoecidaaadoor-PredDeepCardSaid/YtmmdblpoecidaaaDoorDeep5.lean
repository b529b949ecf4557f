/- The walk of the law PredDeep. -/
import Derived.Test.YtmmdblpoecidaaaDoorProg
import Derived.WalkKit
import Derived.WalkSpells
import Derived.WalkLawsBesides
import Derived.Lib.Hide
import Derived.Deep.RegionWith
import Derived.Deep.Cut
import Derived.IntWalk
import Derived.Test.YtmmdblpoecidaaaDoorAwake5
import Derived.Test.YtmmdblpoecidaaaDoorPuts4
import Derived.Test.YtmmdblpoecidaaaDoorHold5
import Derived.Test.YtmmdblpoecidaaaDoorWrT5
import Derived.Test.YtmmdblpoecidaaaDoorApart5
set_option linter.unusedVariables false
set_option linter.unusedSimpArgs false
namespace Tryst
open Go Go.RowKit
/-- so often not of: it has x -/
def nots : Nat → Pr
  | 0 => .mk ⟨#[104, 97, 115]⟩ ⟨#[120]⟩ false 0 ⟨#[]⟩ []
  | i + 1 => .mk ⟨#[110, 111, 116]⟩ ⟨#[]⟩ false 0 ⟨#[]⟩ [nots i]
theorem nots_may : ∀ i : Nat, i ≤ 9 → mayP (nots i) = decide (i ≤ 7)
  | 0, _ => by rfl
  | 1, _ => by rfl
  | 2, _ => by rfl
  | 3, _ => by rfl
  | 4, _ => by rfl
  | 5, _ => by rfl
  | 6, _ => by rfl
  | 7, _ => by rfl
  | 8, _ => by rfl
  | 9, _ => by rfl
  | i + 10, h => by omega
theorem POwn.not {w : World} {S : Nat → Prop} {g : Nat} {T : TypeId} {op r0 r1 : ByteArray} {r2 : Bool} {r3 : Int} {r4 : ByteArray} {r5 : Option Addr} {r6 : Nat} {r7 : List PB} (ho : op.size ≤ 1000) (hS : S g) (h : w.heap[g]? = some (.cells #[.string r0, .string r1, .bool r2, .int .i64 r3, .string r4, .slice r5 r7.length r6] T (0, 0))) (hX : POwn w S (.mk r0 r1 r2 r3 r4 r5 r6 r7)) : POwn w S (.mk op ⟨#[]⟩ false 0 ⟨#[]⟩ (some ⟨g, 0, none⟩) 1 [.mk r0 r1 r2 r3 r4 r5 r6 r7]) := by
  have hz := (Array.getElem?_eq_some_iff.1 h).1
  refine .mk _ _ _ _ _ _ _ _ ho (by decide) (by decide) (by simp) (by omega) ?_ ⟨by simp, fun A e => by cases e; rfl, fun e => by cases e⟩ (fun b o e => by cases e; exact ⟨hS, hz⟩) (fun b o e => by cases e; exact ⟨_, _, h⟩) (fun x hx => by rw [List.mem_singleton] at hx; subst hx; exact hX)
  intro i hi
  obtain rfl : i = 0 := by simpa using hi
  refine ⟨g, 0, rfl, hz, fun j hj => ?_⟩
  have hj6 : j = 0 ∨ j = 1 ∨ j = 2 ∨ j = 3 ∨ j = 4 ∨ j = 5 := by omega
  rcases hj6 with rfl | rfl | rfl | rfl | rfl | rfl <;> simp [World.cell?, h, PB.cells, PB.op, PB.s, PB.num, PB.n, PB.vs, PB.a, PB.c, PB.l]
end Tryst
namespace Go.Proofs.YtmmdblpoecidaaaDoor
open Go.RowKit Tryst
set_option maxHeartbeats 4000000
set_option maxRecDepth 20000
theorem nots_holds (t : ByteArray) (l : List FB) : ∀ i : Nat, holdsP t l (nots i) = (holdsP t l (nots 0) == decide (i % 2 = 0))
  | 0 => by simp
  | i + 1 => by
    have h : holdsP t l (nots (i + 1)) = !(holdsP t l (nots i)) := holds_not t l _ _ _ _ _
    rw [h, nots_holds t l i]
    have : (i + 1) % 2 = 0 ↔ ¬ i % 2 = 0 := by omega
    by_cases e : i % 2 = 0
    · simp [e, this]
    · simp [e, this]
/-- so far in the loop: the predicate's box, and the event's -/
def DpRel (w : World) (B G : Nat) (t p : ByteArray) (q : Int) (a : Option Addr) (c : Nat) (L : List FB) (K : Nat) (i : Value) (wr : World) : Prop :=
  ∃ (k : Nat) (y : PB), k ≤ K ∧ i = .int .i64 k ∧ Hid (y.pr = nots k) ∧ Hid (POwn wr (fun b => b ≠ G) y) ∧ Hid (BX wr G y.op y.s y.num y.n y.vs (.slice y.a y.l.length y.c)) ∧ Hid (EAt wr B t p q (.slice a L.length c)) ∧ Hid (Flds wr a L) ∧ Hid (Below w.heap.size w wr) ∧ G < wr.heap.size
theorem predDeep_c (t p : ByteArray) (q : Int) (a : Option Addr) (l : List FB) (c : Nat) (ht : t.size ≤ 9223372036854775807) (hp : p.size ≤ 9223372036854775807) (h0 : 0 ≤ q) (h4 : q ≤ 18446744073709551615) (hI : FIn l) (hl : l.length ≤ 9223372036854775807) (n : Int) (hn0 : 0 ≤ n) (hn1 : n ≤ 255) (w : World) (hM : MaxW w) (hT : Tab w) (hF : Flds w a l) :
    Calls Tryd.prog 8 #[.agg #[.string t, .string p, .int .u64 q, .slice a l.length c], .int .u8 n] w fun e w' => e = .returned (.bool true) ∧ Below w.heap.size w w' := by
  obtain ⟨hO, hO2, hlen⟩ := few_ok hI
  have HM := Lib.hid hM
  have HT := Lib.hid hT
  have CF := Lib.hid (fun W h => efew_c t p q a c l hl ht hp (few_in hI) W h)
  have HF := Lib.hid hF
  have u1 := few60_le t
  clear hF hM hT hI hO hO2 hl ht hp
  revert CF hlen u1
  generalize few60 t = t1
  generalize few60 p = p1
  generalize fewL l = L
  intro hlen CF u1
  go_enter Tryd.func8, Tryd.ntmps8
  go_upto_region 1 with fail
  refine wp_genC (fun v => Hid (v.heap[w.heap.size]? = some (.cells #[.string t, .string p, .int .u64 q, .slice a l.length c] 30 (0, 0))) ∧ Hid (Below w.heap.size w v)) ⟨?_, balloc _ (.refl _ _)⟩ ?_
  · show (w.heap.push _)[_]? = _
    simp [Array.getElem?_push]
  rintro Y ⟨HE, HY⟩
  obtain ⟨e0, e1, e2, e3, e4, e5, e6, e7⟩ := EAt.of HE.out
  have hzY := (Array.getElem?_eq_some_iff.1 HE.out).1
  go_wp2_with fail
  refine (CF.out _ (HF.out.grow HY.out)).mono ?_
  rintro e w1 ⟨aA, cA, rfl, fA, sA, hb1⟩
  have HE1 : Hid (w1.heap[w.heap.size]? = some (.cells #[.string t, .string p, .int .u64 q, .slice a l.length c] 30 (0, 0))) := Lib.hid ((hb1.block _ hzY).trans HE.out)
  have HY1 := Lib.hid (bstep hb1 HY.out)
  have HFA := Lib.hid fA
  clear e0 e1 e2 e3 e4 e5 e6 e7 hb1 fA sA hzY HE HY CF HF
  have hz1 := (Array.getElem?_eq_some_iff.1 HE1.out).1
  obtain ⟨e0, e1, e2, e3, e4, e5, e6, e7⟩ := EAt.of HE1.out
  go_upto_region 2 with fail
  refine wp_genC (fun v => Hid (EAt v w.heap.size t1 p1 q (.slice aA L.length cA)) ∧ Hid (Flds v aA L) ∧ Hid (Below w.heap.size w v)) ⟨(EAt.of HE1.out).setAll, flds_box HE1.out HFA.out _ _ _ _, bset (p := ⟨w.heap.size, 3, none⟩) _ (Nat.le_refl _) (bset (p := ⟨w.heap.size, 2, none⟩) _ (Nat.le_refl _) (bset (p := ⟨w.heap.size, 1, none⟩) _ (Nat.le_refl _) (bset (p := ⟨w.heap.size, 0, none⟩) _ (Nat.le_refl _) HY1.out)))⟩ ?_
  clear e0 e1 e2 e3 e4 e5 e6 e7 hz1 HE1 HFA HY1
  rintro Z ⟨HE, HF, HZ⟩
  go_upto_region 3 with fail
  have hzz : w.heap.size < Z.heap.size := (cell_lt HE.out.c0).1
  refine wp_genC (fun v => Hid (BX v Z.heap.size ⟨#[104, 97, 115]⟩ ⟨#[120]⟩ false 0 ⟨#[]⟩ (.slice none 0 0)) ∧ Hid (EAt v w.heap.size t1 p1 q (.slice aA L.length cA)) ∧ Hid (Flds v aA L) ∧ Hid (Below w.heap.size w v) ∧ Hid (∀ b o, aA = some ⟨b, o, none⟩ → 0 < L.length → b ≠ Z.heap.size) ∧ w.heap.size ≤ Z.heap.size ∧ w.heap.size ≠ Z.heap.size) ⟨BX.new _ _ _ _ _ _ _, HE.out.grow hzz (balloc _ (.refl _ _)), HF.out.grow (balloc _ (.refl _ _)), balloc _ HZ.out, ?_, by omega, by omega⟩ ?_
  · exact Lib.hid (fun b o e hl => by
      obtain ⟨b2, o2, e2, h2, _⟩ := HF.out 0 hl
      rw [e] at e2
      cases e2
      omega)
  clear HE HF HZ hzz
  rintro X ⟨HX, HE, HF, HB, HAG, hG1, hG2⟩
  generalize Z.heap.size = G at HX HAG hG1 hG2 ⊢
  obtain ⟨B, hB⟩ : ∃ B, w.heap.size = B := ⟨_, rfl⟩
  rw [hB] at HE hG1 hG2 ⊢
  obtain ⟨hh, hhh⟩ : ∃ b, holdsP t1 L (nots 0) = b := ⟨_, rfl⟩
  have HHH := Lib.hid hhh
  have HHD : Hid (∀ W, Below X.heap.size X W → Calls Tryd.prog 12 #[.agg #[.string ⟨#[104, 97, 115]⟩, .string ⟨#[120]⟩, .bool false, .int .i64 0, .string ⟨#[]⟩, .slice none 0 0], .agg #[.string t1, .string p1, .int .u64 q, .slice aA L.length cA]] W fun e w' => e = .returned (.bool hh) ∧ Below W.heap.size W w') := Lib.hid (fun W hb => by
    have h2 := holds5_c (PB.mk ⟨#[104, 97, 115]⟩ ⟨#[120]⟩ false 0 ⟨#[]⟩ none 0 []) t1 p1 q aA L cA (by omega) (by omega) W (HM.out.grow (bstep hb HB.out)) (.mk _ _ _ _ _ _ _ _ (by decide) (by decide) (by simp) (Row.nil _ _ _) (fun x hx => by cases hx)) (HF.out.grow hb)
    have e : (mayP (PB.mk ⟨#[104, 97, 115]⟩ ⟨#[120]⟩ false 0 ⟨#[]⟩ none 0 []).pr && holdsP t1 L (PB.mk ⟨#[104, 97, 115]⟩ ⟨#[120]⟩ false 0 ⟨#[]⟩ none 0 []).pr) = hh := by
      have e1 : (PB.mk ⟨#[104, 97, 115]⟩ ⟨#[120]⟩ false 0 ⟨#[]⟩ none 0 []).pr = nots 0 := by rw [PB.pr, PB.prs]; rfl
      rw [e1, nots_may 0 (by omega), hhh]
      rfl
    rw [e] at h2
    exact h2)
  clear hhh
  have hzX := (cell_lt HE.out.c0).1
  obtain ⟨x0, x1, x2, x3, x4, x5, x6⟩ := HX.out.box
  obtain ⟨e0, e1, e2, e3, e4, e5, e6, e7⟩ := HE.out
  go_wp2_with fail
  refine (HHD.out _ (.refl _ _)).mono ?_
  rintro e w2 ⟨rfl, hb2⟩
  have HX2 := Lib.hid (HX.out.grow hb2)
  have HE2 := Lib.hid (HE.out.grow hzX hb2)
  have HF2 := Lib.hid (HF.out.grow hb2)
  have HB2 := Lib.hid (bstep hb2 HB.out)
  clear hb2 x0 x1 x2 x3 x4 x5 x6 e0 e1 e2 e3 e4 e5 e6 e7 HX HE HF HB HHD hzX
  obtain ⟨K, hK, hK9⟩ : ∃ K : Nat, n % 10 = (K : Int) ∧ K ≤ 9 := ⟨(n % 10).toNat, by omega, by omega⟩
  go_upto_region 6 with fail
  rw [hK]
  clear hK hn0 hn1
  have hGz : G < w2.heap.size := HX2.out.box.hz
  go_loopw [8] (fun i wr => DpRel w B G t1 p1 q aA cA L K i wr) (fun i _ => K - (intOf i).toNat)
  case atStart => exact ⟨0, PB.mk ⟨#[104, 97, 115]⟩ ⟨#[120]⟩ false 0 ⟨#[]⟩ none 0 [], by omega, rfl, Lib.hid (by rw [PB.pr, PB.prs]; rfl), Lib.hid (.mk _ _ _ _ _ _ _ _ (by decide) (by decide) (by decide) (by simp) (by omega) (Row.nil _ _ _) ⟨Nat.le_refl _, fun A e => (by cases e), fun _ => rfl⟩ (fun b o e => (by cases e)) (fun b o e => (by cases e)) (fun x hx => (by cases hx))), HX2, HE2, HF2, HB2, hGz⟩
  case round =>
    obtain ⟨k, y, hk, rfl, HPR, HPO, HX, HE, HF, HB, hGr⟩ := hrel
    clear HX2 HE2 HF2 HB2 hGz
    obtain ⟨wo, rfl⟩ : ∃ wo, wo = wr := ⟨_, rfl⟩
    obtain ⟨r0, r1, r2, r3, r4, r5, r6, r7⟩ := y
    simp only [PB.op, PB.s, PB.num, PB.n, PB.vs, PB.a, PB.c, PB.l] at HX
    obtain ⟨x0, x1, x2, x3, x4, x5, x6⟩ := HX.out.box
    have z0 := HX.out.fz 0
    have z1 := HX.out.fz 1
    have z2 := HX.out.fz 2
    have z3 := HX.out.fz 3
    have z4 := HX.out.fz 4
    have z5 := HX.out.fz 5
    by_cases hlt : k < K
    · have q1 : (k : Int) < K := by omega
      go_wp2_with fail
      obtain ⟨V, hV⟩ : ∃ V, (((((wo.setCell ⟨G, 0, none⟩ (.string ⟨#[110, 111, 116]⟩)).setCell ⟨G, 1, none⟩ (.string ⟨#[]⟩)).setCell ⟨G, 2, none⟩ (.bool false)).setCell ⟨G, 3, none⟩ (.int .i64 0)).setCell ⟨G, 4, none⟩ (.string ⟨#[]⟩)).setCell ⟨G, 5, none⟩ (.slice (some ⟨wo.heap.size, 0, none⟩) 1 1) = V := ⟨_, rfl⟩
      rw [hV]
      have hne : ∀ b, b ≠ G → V.heap[b]? = wo.heap[b]? := fun b hb => by
        rw [← hV]
        repeat rw [Below.heap_setCell _ _ _ _ hb]
      have hVz : V.heap.size = wo.heap.size := by rw [← hV]; simp
      have ba := balloc (.cells #[.string r0, .string r1, .bool r2, .int .i64 r3, .string r4, .slice r5 r7.length r6] 26) (.refl V.heap.size V)
      have hgG : wo.heap.size ≠ G := by omega
      have hBG : G ≠ B := by omega
      have hwG : w.heap.size ≤ G := by omega
      have HPO2 : POwn (V.alloc (.cells #[.string r0, .string r1, .bool r2, .int .i64 r3, .string r4, .slice r5 r7.length r6] 26)) (fun b => b ≠ G) (PB.mk r0 r1 r2 r3 r4 r5 r6 r7) := (HPO.out.keep (w' := V) (S' := fun b => b ≠ G) (fun b hb _ => ⟨hne b hb, hb⟩) (by omega)).grow ba (fun _ h => h)
      have hrw := BX.new V r0 r1 r2 r3 r4 (.slice r5 r7.length r6)
      rw [hVz] at hrw
      have HNT := Lib.hid (POwn.not (S := fun b => b ≠ G) (g := wo.heap.size) (T := 26) (op := ⟨#[110, 111, 116]⟩) (by decide) hgG hrw HPO2)
      have HXN : Hid (BX (V.alloc (.cells #[.string r0, .string r1, .bool r2, .int .i64 r3, .string r4, .slice r5 r7.length r6] 26)) G ⟨#[110, 111, 116]⟩ ⟨#[]⟩ false 0 ⟨#[]⟩ (.slice (some ⟨wo.heap.size, 0, none⟩) 1 1)) := by
        have h := HX.out.all ⟨#[110, 111, 116]⟩ ⟨#[]⟩ false 0 ⟨#[]⟩ (.slice (some ⟨wo.heap.size, 0, none⟩) 1 1)
        rw [hV] at h
        exact Lib.hid (h.grow ba)
      have HEN : Hid (EAt (V.alloc (.cells #[.string r0, .string r1, .bool r2, .int .i64 r3, .string r4, .slice r5 r7.length r6] 26)) B t1 p1 q (.slice aA L.length cA)) := by
        have h := ((((((HE.out).away (c := G) (o := 0) (x := .string ⟨#[110, 111, 116]⟩) hBG).away (c := G) (o := 1) (x := .string ⟨#[]⟩) hBG).away (c := G) (o := 2) (x := .bool false) hBG).away (c := G) (o := 3) (x := .int .i64 0) hBG).away (c := G) (o := 4) (x := .string ⟨#[]⟩) hBG).away (c := G) (o := 5) (x := .slice (some ⟨wo.heap.size, 0, none⟩) 1 1) hBG
        rw [hV] at h
        exact Lib.hid (h.grow (cell_lt h.c0).1 ba)
      have HFN : Hid (Flds (V.alloc (.cells #[.string r0, .string r1, .bool r2, .int .i64 r3, .string r4, .slice r5 r7.length r6] 26)) aA L) := by
        rcases Nat.eq_zero_or_pos L.length with h | h
        · rw [List.eq_nil_of_length_eq_zero h]
          intro i hi
          simp at hi
        · exact Lib.hid ((Flds.keep HF.out (fun b o e => hne b (HAG.out b o e h)) (by omega)).grow ba)
      have HBN : Hid (Below w.heap.size w (V.alloc (.cells #[.string r0, .string r1, .bool r2, .int .i64 r3, .string r4, .slice r5 r7.length r6] 26))) := by
        have h := bset (p := ⟨G, 5, none⟩) (.slice (some ⟨wo.heap.size, 0, none⟩) 1 1) hwG (bset (p := ⟨G, 4, none⟩) (.string ⟨#[]⟩) hwG (bset (p := ⟨G, 3, none⟩) (.int .i64 0) hwG (bset (p := ⟨G, 2, none⟩) (.bool false) hwG (bset (p := ⟨G, 1, none⟩) (.string ⟨#[]⟩) hwG (bset (p := ⟨G, 0, none⟩) (.string ⟨#[110, 111, 116]⟩) hwG HB.out)))))
        rw [hV] at h
        exact Lib.hid (bstep ba h)
      have HPN : Hid ((PB.mk ⟨#[110, 111, 116]⟩ ⟨#[]⟩ false 0 ⟨#[]⟩ (some ⟨wo.heap.size, 0, none⟩) 1 [PB.mk r0 r1 r2 r3 r4 r5 r6 r7]).pr = nots (k + 1)) := by
        show _ = _
        rw [PB.pr, PB.prs, PB.prs, HPR.out]
        rfl
      have hGV : G < (V.alloc (.cells #[.string r0, .string r1, .bool r2, .int .i64 r3, .string r4, .slice r5 r7.length r6] 26)).heap.size := by simp; omega
      clear ba hne HPO2 hrw HPO HX HE HF HB HPR hV
      go_roundw
      case rel => exact ⟨k + 1, PB.mk ⟨#[110, 111, 116]⟩ ⟨#[]⟩ false 0 ⟨#[]⟩ (some ⟨wo.heap.size, 0, none⟩) 1 [PB.mk r0 r1 r2 r3 r4 r5 r6 r7], by omega, by go_num, HPN, HNT, HXN, HEN, HFN, HBN, hGV⟩
      case measure => simp [intOf] <;> omega
    · obtain rfl : k = K := by omega
      have HTX := Lib.hid (fun W (hb : Below wo.heap.size wo W) => text5_c (PB.mk r0 r1 r2 r3 r4 r5 r6 r7) W (HM.out.grow (bstep hb HB.out)) (HPO.out.mem.grow hb) (po_fits _ HPO.out.po) (HT.out.grow (bstep hb HB.out)))
      have HMY := Lib.hid (fun W (hb : Below wo.heap.size wo W) => may5_c (PB.mk r0 r1 r2 r3 r4 r5 r6 r7) W (HM.out.grow (bstep hb HB.out)) (HPO.out.mem.grow hb))
      have HHL := Lib.hid (fun W (hb : Below wo.heap.size wo W) => holds5_c (PB.mk r0 r1 r2 r3 r4 r5 r6 r7) t1 p1 q aA L cA (by omega) (by omega) W (HM.out.grow (bstep hb HB.out)) (HPO.out.mem.grow hb) (HF.out.grow hb))
      have HAW := Lib.hid (fun W (hb : Below wo.heap.size wo W) => awake5_c W (HM.out.grow (bstep hb HB.out)))
      rw [HPR.out, nots_may k (by omega)] at HTX HMY HHL
      rw [nots_holds, HHH.out] at HHL
      unfold PB.agg at HTX HMY HHL
      simp only [PB.op, PB.s, PB.num, PB.n, PB.vs, PB.a, PB.c, PB.l] at HTX HMY HHL
      generalize pText (nots k) = tx at HTX
      clear HPR HPO HM HT HF HAG
      have hzB := (cell_lt HE.out.c0).1
      obtain ⟨e0, e1, e2, e3, e4, e5, e6, e7⟩ := HE.out
      have W0 : Hid (Below wo.heap.size wo wo) := Lib.hid (.refl _ _)
      clear z0 z1 z2 z3 z4 z5 hlt
      by_cases h7 : k ≤ 7
      · rw [decide_eq_true h7] at HTX HMY HHL
        simp only [if_true, Bool.true_and] at HTX HHL
        have y7 : (k : Int) ≤ 7 := by omega
        have y8 : ¬ (k : Int) > 7 := by omega
        have y9 : ¬ 7 < (k : Int) := by omega
        clear h7
        by_cases hpar : k % 2 = 0
        · rw [decide_eq_true hpar] at HHL
          have w1 : (k : Int) % 2 = 0 := by omega
          clear hpar
          cases hh
          all_goals
            go_wp2_with fail
            refine (HTX.out _ W0.out).mono ?_
            rintro e w1 ⟨rfl, hb⟩
            have W1 := Lib.hid (W0.out.trans (hb.mono W0.out.size))
            have HXn := Lib.hid (HX.out.grow W1.out)
            have HEn := Lib.hid (HE.out.grow (cell_lt HE.out.c0).1 W1.out)
            clear hb x0 x1 x2 x3 x4 x5 x6 e0 e1 e2 e3 e4 e5 e6 e7 hzB
            obtain ⟨x0, x1, x2, x3, x4, x5, x6⟩ := HXn.out.box
            have hzB := (cell_lt HEn.out.c0).1
            obtain ⟨e0, e1, e2, e3, e4, e5, e6, e7⟩ := HEn.out
            clear HXn HEn
            go_wp2_with fail
            refine (HMY.out _ W1.out).mono ?_
            rintro e w2 ⟨rfl, hb⟩
            have W2 := Lib.hid (W1.out.trans (hb.mono W1.out.size))
            have HXn := Lib.hid (HX.out.grow W2.out)
            have HEn := Lib.hid (HE.out.grow (cell_lt HE.out.c0).1 W2.out)
            clear hb x0 x1 x2 x3 x4 x5 x6 e0 e1 e2 e3 e4 e5 e6 e7 hzB
            obtain ⟨x0, x1, x2, x3, x4, x5, x6⟩ := HXn.out.box
            have hzB := (cell_lt HEn.out.c0).1
            obtain ⟨e0, e1, e2, e3, e4, e5, e6, e7⟩ := HEn.out
            clear HXn HEn
            go_wp2_with fail
            refine (HHL.out _ W2.out).mono ?_
            rintro e w3 ⟨rfl, hb⟩
            have W3 := Lib.hid (W2.out.trans (hb.mono W2.out.size))
            have HXn := Lib.hid (HX.out.grow W3.out)
            have HEn := Lib.hid (HE.out.grow (cell_lt HE.out.c0).1 W3.out)
            clear hb x0 x1 x2 x3 x4 x5 x6 e0 e1 e2 e3 e4 e5 e6 e7 hzB
            obtain ⟨x0, x1, x2, x3, x4, x5, x6⟩ := HXn.out.box
            have hzB := (cell_lt HEn.out.c0).1
            obtain ⟨e0, e1, e2, e3, e4, e5, e6, e7⟩ := HEn.out
            clear HXn HEn
            go_wp2_with fail
            refine (HAW.out _ W3.out).mono ?_
            rintro e w4 ⟨rfl, hb⟩
            have W4 := Lib.hid (W3.out.trans (hb.mono W3.out.size))
            have HXn := Lib.hid (HX.out.grow W4.out)
            have HEn := Lib.hid (HE.out.grow (cell_lt HE.out.c0).1 W4.out)
            clear hb x0 x1 x2 x3 x4 x5 x6 e0 e1 e2 e3 e4 e5 e6 e7 hzB
            obtain ⟨x0, x1, x2, x3, x4, x5, x6⟩ := HXn.out.box
            have hzB := (cell_lt HEn.out.c0).1
            obtain ⟨e0, e1, e2, e3, e4, e5, e6, e7⟩ := HEn.out
            clear HXn HEn
            go_wp2_with fail
            go_ret
            first | exact ⟨rfl, bstep W4.out HB.out⟩ | exact ⟨ret_bool (by simp <;> omega), bstep W4.out HB.out⟩
        · rw [decide_eq_false hpar] at HHL
          have w1 : ¬ (k : Int) % 2 = 0 := by omega
          clear hpar
          cases hh
          all_goals
            go_wp2_with fail
            refine (HTX.out _ W0.out).mono ?_
            rintro e w1 ⟨rfl, hb⟩
            have W1 := Lib.hid (W0.out.trans (hb.mono W0.out.size))
            have HXn := Lib.hid (HX.out.grow W1.out)
            have HEn := Lib.hid (HE.out.grow (cell_lt HE.out.c0).1 W1.out)
            clear hb x0 x1 x2 x3 x4 x5 x6 e0 e1 e2 e3 e4 e5 e6 e7 hzB
            obtain ⟨x0, x1, x2, x3, x4, x5, x6⟩ := HXn.out.box
            have hzB := (cell_lt HEn.out.c0).1
            obtain ⟨e0, e1, e2, e3, e4, e5, e6, e7⟩ := HEn.out
            clear HXn HEn
            go_wp2_with fail
            refine (HMY.out _ W1.out).mono ?_
            rintro e w2 ⟨rfl, hb⟩
            have W2 := Lib.hid (W1.out.trans (hb.mono W1.out.size))
            have HXn := Lib.hid (HX.out.grow W2.out)
            have HEn := Lib.hid (HE.out.grow (cell_lt HE.out.c0).1 W2.out)
            clear hb x0 x1 x2 x3 x4 x5 x6 e0 e1 e2 e3 e4 e5 e6 e7 hzB
            obtain ⟨x0, x1, x2, x3, x4, x5, x6⟩ := HXn.out.box
            have hzB := (cell_lt HEn.out.c0).1
            obtain ⟨e0, e1, e2, e3, e4, e5, e6, e7⟩ := HEn.out
            clear HXn HEn
            go_wp2_with fail
            refine (HHL.out _ W2.out).mono ?_
            rintro e w3 ⟨rfl, hb⟩
            have W3 := Lib.hid (W2.out.trans (hb.mono W2.out.size))
            have HXn := Lib.hid (HX.out.grow W3.out)
            have HEn := Lib.hid (HE.out.grow (cell_lt HE.out.c0).1 W3.out)
            clear hb x0 x1 x2 x3 x4 x5 x6 e0 e1 e2 e3 e4 e5 e6 e7 hzB
            obtain ⟨x0, x1, x2, x3, x4, x5, x6⟩ := HXn.out.box
            have hzB := (cell_lt HEn.out.c0).1
            obtain ⟨e0, e1, e2, e3, e4, e5, e6, e7⟩ := HEn.out
            clear HXn HEn
            go_wp2_with fail
            refine (HAW.out _ W3.out).mono ?_
            rintro e w4 ⟨rfl, hb⟩
            have W4 := Lib.hid (W3.out.trans (hb.mono W3.out.size))
            have HXn := Lib.hid (HX.out.grow W4.out)
            have HEn := Lib.hid (HE.out.grow (cell_lt HE.out.c0).1 W4.out)
            clear hb x0 x1 x2 x3 x4 x5 x6 e0 e1 e2 e3 e4 e5 e6 e7 hzB
            obtain ⟨x0, x1, x2, x3, x4, x5, x6⟩ := HXn.out.box
            have hzB := (cell_lt HEn.out.c0).1
            obtain ⟨e0, e1, e2, e3, e4, e5, e6, e7⟩ := HEn.out
            clear HXn HEn
            go_wp2_with fail
            go_ret
            first | exact ⟨rfl, bstep W4.out HB.out⟩ | exact ⟨ret_bool (by simp <;> omega), bstep W4.out HB.out⟩
      · rw [decide_eq_false h7] at HTX HMY HHL
        simp only [Bool.false_eq_true, if_false, Bool.false_and] at HTX HHL
        have y7 : ¬ (k : Int) ≤ 7 := by omega
        have y8 : (k : Int) > 7 := by omega
        clear h7
        go_wp2_with fail
        refine (HTX.out _ W0.out).mono ?_
        rintro e w1 ⟨rfl, hb⟩
        have W1 := Lib.hid (W0.out.trans (hb.mono W0.out.size))
        have HXn := Lib.hid (HX.out.grow W1.out)
        have HEn := Lib.hid (HE.out.grow (cell_lt HE.out.c0).1 W1.out)
        clear hb x0 x1 x2 x3 x4 x5 x6 e0 e1 e2 e3 e4 e5 e6 e7 hzB
        obtain ⟨x0, x1, x2, x3, x4, x5, x6⟩ := HXn.out.box
        have hzB := (cell_lt HEn.out.c0).1
        obtain ⟨e0, e1, e2, e3, e4, e5, e6, e7⟩ := HEn.out
        clear HXn HEn
        go_wp2_with fail
        refine (HMY.out _ W1.out).mono ?_
        rintro e w2 ⟨rfl, hb⟩
        have W2 := Lib.hid (W1.out.trans (hb.mono W1.out.size))
        have HXn := Lib.hid (HX.out.grow W2.out)
        have HEn := Lib.hid (HE.out.grow (cell_lt HE.out.c0).1 W2.out)
        clear hb x0 x1 x2 x3 x4 x5 x6 e0 e1 e2 e3 e4 e5 e6 e7 hzB
        obtain ⟨x0, x1, x2, x3, x4, x5, x6⟩ := HXn.out.box
        have hzB := (cell_lt HEn.out.c0).1
        obtain ⟨e0, e1, e2, e3, e4, e5, e6, e7⟩ := HEn.out
        clear HXn HEn
        go_wp2_with fail
        refine (HAW.out _ W2.out).mono ?_
        rintro e w3 ⟨rfl, hb⟩
        have W3 := Lib.hid (W2.out.trans (hb.mono W2.out.size))
        have HXn := Lib.hid (HX.out.grow W3.out)
        have HEn := Lib.hid (HE.out.grow (cell_lt HE.out.c0).1 W3.out)
        clear hb x0 x1 x2 x3 x4 x5 x6 e0 e1 e2 e3 e4 e5 e6 e7 hzB
        obtain ⟨x0, x1, x2, x3, x4, x5, x6⟩ := HXn.out.box
        have hzB := (cell_lt HEn.out.c0).1
        obtain ⟨e0, e1, e2, e3, e4, e5, e6, e7⟩ := HEn.out
        clear HXn HEn
        go_wp2_with fail
        go_ret
        exact ⟨ret_bool (by simp <;> omega), bstep W3.out HB.out⟩
end Go.Proofs.YtmmdblpoecidaaaDoor
