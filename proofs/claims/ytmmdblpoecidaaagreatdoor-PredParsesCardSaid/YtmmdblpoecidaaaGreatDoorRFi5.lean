/- ref05.compare, ref05.first. -/
import Derived.Test.YtmmdblpoecidaaaGreatDoorProg
import Derived.WalkKit
import Derived.WalkSpells
import Derived.WalkLawsBesides
import Derived.Lib.Hide
import Derived.Deep.RegionWith
import Derived.Deep.Cut
import Derived.IntWalk
import Derived.Test.YtmmdblpoecidaaaGreatDoorParG
import Derived.Test.YtmmdblpoecidaaaGreatDoorNmB
import Derived.Test.YtmmdblpoecidaaaGreatDoorRRead
set_option linter.unusedVariables false
set_option linter.unusedSimpArgs false
namespace Tryst
open Go Go.RowKit Go.Lib
theorem starts_eq (s t : ByteArray) (h : t.size ≤ s.size) : ((s.extract 0 t.size).toList == t.toList) = Lib.hasPrefix s.data.toList t.data.toList := by
  rw [Bool.eq_iff_iff, beq_iff_eq, str_toList, str_toList, sub_str, List.drop_zero]
  constructor
  · intro e
    exact pre_iff.2 ⟨s.data.toList.drop t.size, by rw [← e, List.take_append_drop]⟩
  · intro e
    obtain ⟨r, hr⟩ := pre_iff.1 e
    rw [hr, ← len_str t]
    simp
theorem cut_found {s : ByteArray} {c : UInt8} {n k : Nat} (hnk : n ≤ k) (hk : k < s.size) (he : s[k] = c) (hne : ∀ (j : Nat) (h : j < s.size), n ≤ j → j < k → s[j] ≠ c) : cutC c (s.data.toList.drop n) = some ((s.extract n k).data.toList, s.data.toList.drop (k + 1)) := by
  have hkl : k < s.data.toList.length := by simpa using hk
  have e1 : s.data.toList.drop n = (s.extract n k).data.toList ++ c :: s.data.toList.drop (k + 1) := by
    rw [sub_str]
    have h1 : s.data.toList.drop n = (s.data.toList.take k ++ s.data.toList.drop k).drop n := by rw [List.take_append_drop]
    rw [h1, List.drop_append_of_le_length (by simp; omega), List.drop_eq_getElem_cons hkl]
    congr 2
  rw [e1]
  refine cutC_at _ fun hmem => ?_
  rw [sub_str] at hmem
  obtain ⟨i, hi, he'⟩ := List.mem_iff_getElem.1 hmem
  rw [List.getElem_drop, List.getElem_take] at he'
  simp at hi
  exact hne (n + i) (by omega) (by omega) (by omega) he'
theorem cut_lost {s : ByteArray} {c : UInt8} {n : Nat} (hne : ∀ (j : Nat) (h : j < s.size), n ≤ j → s[j] ≠ c) : cutC c (s.data.toList.drop n) = none := by
  refine cutC_none' fun hmem => ?_
  obtain ⟨i, hi, he'⟩ := List.mem_iff_getElem.1 hmem
  rw [List.getElem_drop] at he'
  simp at hi
  exact hne (n + i) (by omega) (by omega) he'
/-- a place up to which no such octet stands; there, one does, or the text is at its end -/
def StopAt (s : ByteArray) (c : UInt8) (n k : Nat) : Prop := n ≤ k ∧ k ≤ s.size ∧ (∀ (j : Nat) (h : j < s.size), n ≤ j → j < k → s[j] ≠ c) ∧ ∀ h : k < s.size, s[k] = c
theorem pre_cons {c : UInt8} {l w : List UInt8} : Lib.hasPrefix (c :: l) (c :: w) = Lib.hasPrefix l w := by
  rw [Bool.eq_iff_iff, pre_iff, pre_iff]
  constructor
  · rintro ⟨r, hr⟩
    cases hr
    exact ⟨r, rfl⟩
  · rintro ⟨r, rfl⟩
    exact ⟨r, rfl⟩
theorem cmp_by {s : ByteArray} {r : List UInt8} {k : Nat} (hs : s.data.toList = 40 :: r) (h : StopAt s 32 1 k) : cmpP r =
    if fieldB (s.extract 1 k).data.toList = true then (if Lib.hasPrefix (s.data.toList.drop k) [32, 60, 32] = true then cmpV .lt (s.extract 1 k).data.toList (s.data.toList.drop (k + 3)) else if Lib.hasPrefix (s.data.toList.drop k) [32, 61, 32] = true then cmpV .eq (s.extract 1 k).data.toList (s.data.toList.drop (k + 3)) else none) else none := by
  obtain ⟨h1, h2, h3, h4⟩ := h
  have hr : s.data.toList.drop 1 = r := by rw [hs]; rfl
  rcases Nat.lt_or_ge k s.size with hk | hk
  · have hc := cut_found h1 hk (h4 hk) h3
    rw [hr] at hc
    unfold cmpP
    rw [hc]
    dsimp only
    have hkl : k < s.data.toList.length := by simpa using hk
    have e2 : s.data.toList[k] = 32 := h4 hk
    rw [List.drop_eq_getElem_cons hkl, e2, pre_cons, pre_cons, List.drop_drop, show k + 1 + 2 = k + 3 by omega]
    by_cases hf : fieldB (s.extract 1 k).data.toList = true
    · rw [if_pos hf, if_pos hf]
      by_cases he : Lib.hasPrefix (s.data.toList.drop (k + 1)) [61, 32] = true
      · have hl : ¬ Lib.hasPrefix (s.data.toList.drop (k + 1)) [60, 32] = true := fun e => by
          obtain ⟨a, ha⟩ := pre_iff.1 he
          obtain ⟨b, hb⟩ := pre_iff.1 e
          rw [ha] at hb
          cases hb
        rw [if_pos he, if_neg hl, if_pos he]
      · rw [if_neg he, if_neg he]
    · rw [if_neg hf, if_neg hf]
  · have hc := cut_lost (s := s) (c := 32) (n := 1) (fun j hj hn => h3 j hj hn (by omega))
    rw [hr] at hc
    have hm : cmpP r = none := by unfold cmpP; rw [hc]
    rw [hm, List.drop_eq_nil_of_le (show s.data.toList.length ≤ k by rw [len_str]; omega), if_neg (c := Lib.hasPrefix [] [32, 60, 32] = true) (by decide), if_neg (c := Lib.hasPrefix [] [32, 61, 32] = true) (by decide)]
    split <;> rfl
theorem cmpV_eq (k : Opk) (f t : List UInt8) : cmpV k f t = if (readV t).2 = 0 then none else if Lib.hasPrefix (t.drop (readV t).2) [41] = true then some (leafP k f (readV t).1, t.drop ((readV t).2 + 1)) else none := by
  unfold cmpV
  by_cases h : (readV t).2 = 0
  · rw [if_pos h, if_pos h]
  · rw [if_neg h, if_neg h, ← List.drop_drop]
    cases hd : t.drop (readV t).2 with
    | nil => rw [if_neg (by decide)]
    | cons c z =>
      by_cases hc : c = 41
      · subst hc
        rw [if_pos (show Lib.hasPrefix (41 :: z) [41] = true from pre_app [41] z)]
        rfl
      · rw [if_neg (one_no hc)]
        exact if_neg hc
theorem pre_size {s : ByteArray} {k : Nat} {w : List UInt8} (h : Lib.hasPrefix (s.data.toList.drop k) w = true) (hk : k ≤ s.size) : k + w.length ≤ s.size := by
  obtain ⟨r, hr⟩ := pre_iff.1 h
  have := congrArg List.length hr
  rw [List.length_drop, len_str, List.length_append] at this
  omega
end Tryst
namespace Go.Proofs.YtmmdblpoecidaaaGreatDoor
open Go.RowKit Tryst
set_option maxHeartbeats 4000000
set_option maxRecDepth 20000
theorem starts_c (s t : ByteArray) (hs : s.size ≤ 1000000) (ht : t.size ≤ 1000000) (w : World) :
    Calls Tryz.prog 37 #[.string s, .string t] w fun e w' => e = .returned (.bool (Lib.hasPrefix s.data.toList t.data.toList)) ∧ w' = w := by
  obtain ⟨b, hb⟩ : ∃ b, Lib.hasPrefix s.data.toList t.data.toList = b := ⟨_, rfl⟩
  have HB := Lib.hid hb
  rw [hb]
  by_cases hl : t.size ≤ s.size
  · have y1 : (t.size : Int) ≤ s.size := by omega
    clear hb
    go_enter Tryz.func37, Tryz.ntmps37
    go_wp2_with fail
    go_ret
    refine ⟨congrArg (fun b => Ending.returned (.bool b)) ?_, rfl⟩
    rw [← HB.out]
    exact starts_eq s t hl
  · have y1 : ¬ (t.size : Int) ≤ s.size := by omega
    have e : b = false := by
      rw [← hb]
      cases e : Lib.hasPrefix s.data.toList t.data.toList with
      | false => rfl
      | true =>
        obtain ⟨r, hr⟩ := pre_iff.1 e
        have := congrArg List.length hr
        rw [List.length_append, len_str, len_str] at this
        omega
    subst e
    clear hb
    go_enter Tryz.func37, Tryz.ntmps37
    go_wp2_with fail
    go_ret
    exact ⟨rfl, rfl⟩
/-- what the document's readers of a text hand back: the predicate, and how long its text is; 0: there is none -/
def FirR (w : World) (len : Nat) (R : Option (Pr × List UInt8)) (e : Ending) (w' : World) : Prop :=
  ∃ (y : PB) (n : Nat), e = .returned (.tuple #[y.agg, .int .i64 (n : Int)]) ∧ n ≤ len ∧ (R = none → n = 0) ∧ (∀ p u, R = some (p, u) → y.pr = p ∧ 0 < n ∧ n + u.length = len ∧ POwn w' (fun b => w.heap.size ≤ b) y) ∧ Below w.heap.size w w'
/-- the loop that looks for an octet -/
def KRel (s : ByteArray) (c : UInt8) (n : Nat) (i : Value) : Prop := ∃ k : Nat, i = .int .i64 k ∧ n ≤ k ∧ k ≤ s.size ∧ Hid (∀ (j : Nat) (h : j < s.size), n ≤ j → j < k → s[j] ≠ c)
theorem rcompare_c (s : ByteArray) (r : List UInt8) (hs : s.size ≤ 100000) (hr : s.data.toList = 40 :: r) (w : World) :
    Calls Tryz.prog 38 #[.string s] w fun e w' => FirR w s.size (cmpP r) e w' := by
  obtain ⟨R, hR⟩ : ∃ R, cmpP r = R := ⟨_, rfl⟩
  have HR := Lib.hid hR
  have HS := Lib.hid hr
  have hs0 : 1 ≤ s.size := by
    have := congrArg List.length hr
    rw [len_str] at this
    simp at this
    omega
  rw [hR]
  clear hR hr
  go_enter Tryz.func38, Tryz.ntmps38
  go_upto_region 1 with fail
  refine wp_genC (fun v => Hid (BX v w.heap.size ⟨#[]⟩ ⟨#[]⟩ false 0 ⟨#[]⟩ (.slice none 0 0)) ∧ Hid (Below w.heap.size w v)) ⟨BX.new w _ _ _ _ _ _, balloc _ (.refl _ _)⟩ ?_
  rintro Y ⟨HX, HB⟩
  go_wp2_with fail
  go_loop [4] (fun i => KRel s 32 1 i) (fun i => s.size - (intOf i).toNat)
  case atStart => exact ⟨1, rfl, by omega, by omega, fun j _ _ _ => by omega⟩
  case round =>
    obtain ⟨k, rfl, h1, h2, H3⟩ := hrel
    by_cases hk : k < s.size
    · obtain ⟨c, hc⟩ : ∃ c, s[k].toNat = c := ⟨_, rfl⟩
      by_cases h32 : c = 32
      · have HST : Hid (StopAt s 32 1 k) := Lib.hid ⟨h1, h2, H3.out, fun h => UInt8.toNat_inj.1 (by rw [hc, h32]; rfl)⟩
        subst h32
        clear H3
        have HQ := Lib.hid ((cmp_by HS.out HST.out).symm.trans HR.out)
        obtain ⟨h1, h2, -, -⟩ := HST.out
        have HF := Lib.hid (rfield_c (s.extract 1 k) (by simp; omega) Y)
        have HL := Lib.hid (fun W => starts_c (s.extract k s.size) ⟨#[32, 60, 32]⟩ (by simp; omega) (by decide) W)
        have HE := Lib.hid (fun W => starts_c (s.extract k s.size) ⟨#[32, 61, 32]⟩ (by simp; omega) (by decide) W)
        rw [to_end, show (⟨#[32, 60, 32]⟩ : ByteArray).data.toList = [32, 60, 32] from rfl] at HL
        rw [to_end, show (⟨#[32, 61, 32]⟩ : ByteArray).data.toList = [32, 61, 32] from rfl] at HE
        obtain ⟨fb, hfb⟩ : ∃ b, fieldB (s.extract 1 k).data.toList = b := ⟨_, rfl⟩
        obtain ⟨lb, hlb⟩ : ∃ b, Lib.hasPrefix (s.data.toList.drop k) [32, 60, 32] = b := ⟨_, rfl⟩
        obtain ⟨eb, heb⟩ : ∃ b, Lib.hasPrefix (s.data.toList.drop k) [32, 61, 32] = b := ⟨_, rfl⟩
        have PL := Lib.hid (fun (h : lb = true) => pre_size (hlb.trans h) h2)
        have PE := Lib.hid (fun (h : eb = true) => pre_size (heb.trans h) h2)
        rw [hfb] at HF
        rw [hlb] at HL
        rw [heb] at HE
        rw [hfb, hlb, heb] at HQ
        clear hfb hlb heb HR HST HS
        go_wp2_with fail
        refine HF.out.mono ?_
        rintro e w1 ⟨rfl, hb1⟩
        have HX1 := Lib.hid (HX.out.grow hb1)
        have HB1 := Lib.hid (bstep hb1 HB.out)
        clear hb1 HX HB HF
        cases fb with
        | false =>
          rw [if_neg (by decide)] at HQ
          have HN : Hid (R = none) := Lib.hid HQ.out.symm
          obtain ⟨x0, x1, x2, x3, x4, x5, x6⟩ := HX1.out.box
          have z0 := HX1.out.fz 0
          have z1 := HX1.out.fz 1
          have z2 := HX1.out.fz 2
          have z3 := HX1.out.fz 3
          have z4 := HX1.out.fz 4
          have z5 := HX1.out.fz 5
          go_wp2_with fail
          refine bodyPost_ret (v := .tuple #[(leafB ⟨#[]⟩ ⟨#[]⟩ ⟨false, 0, []⟩).agg, .int .i64 0]) (by simp [results, Tryz.results38, go_sem, leafB, PB.agg, PB.op, PB.s, PB.num, PB.n, PB.vs, PB.a, PB.c, PB.l, *]) rfl ⟨leafB ⟨#[]⟩ ⟨#[]⟩ ⟨false, 0, []⟩, 0, rfl, by omega, fun _ => rfl, (fun p u e => by rw [HN.out] at e; cases e), ?_⟩
          (repeat (first | with_reducible exact HB1.out | with_reducible apply bdrew | with_reducible apply balloc | with_reducible refine bset _ (Nat.le_refl _) ?_))
        | true =>
          rw [if_pos rfl] at HQ
          go_wp2_with fail
          refine (HL.out w1).mono ?_
          rintro e w2 ⟨rfl, hw2⟩
          rw [hw2]
          clear hw2
          cases lb with
          | true =>
            rw [if_pos rfl] at HQ
            have hk3 : k + 3 ≤ s.size := PL.out rfl
            clear PL PE HL HE
            have HRD := Lib.hid (rread_c (s.extract (k + 3) s.size) (by simp; omega) w1)
            rw [to_end] at HRD
            rw [cmpV_eq] at HQ
            have HOK := Lib.hid (fun h => read_ok (l := s.data.toList.drop (k + 3)) (v := (readV (s.data.toList.drop (k + 3))).1) (k := (readV (s.data.toList.drop (k + 3))).2) rfl h)
            generalize readV (s.data.toList.drop (k + 3)) = rv at HRD HQ HOK
            obtain ⟨v, n⟩ := rv
            simp only at HRD HQ HOK
            rw [List.drop_drop, List.drop_drop] at HQ
            by_cases hn : n = 0
            · subst hn
              rw [if_pos rfl] at HQ
              have HN : Hid (R = none) := Lib.hid HQ.out.symm
              simp only [ne_eq, not_true_eq_false, decide_false] at HRD
              go_wp2_with fail
              refine HRD.out.mono ?_
              rintro e w2 ⟨rfl, hb2⟩
              have HX2 := HX1.out.grow hb2
              have HB2 := bstep hb2 HB1.out
              clear hb2 HX1 HB1
              have HX1 := Lib.hid HX2
              have HB1 := Lib.hid HB2
              clear HX2 HB2
              obtain ⟨x0, x1, x2, x3, x4, x5, x6⟩ := HX1.out.box
              have z0 := HX1.out.fz 0
              have z1 := HX1.out.fz 1
              have z2 := HX1.out.fz 2
              have z3 := HX1.out.fz 3
              have z4 := HX1.out.fz 4
              have z5 := HX1.out.fz 5
              go_wp2_with fail
              refine bodyPost_ret (v := .tuple #[(leafB ⟨#[]⟩ ⟨#[]⟩ ⟨false, 0, []⟩).agg, .int .i64 0]) (by simp [results, Tryz.results38, go_sem, leafB, PB.agg, PB.op, PB.s, PB.num, PB.n, PB.vs, PB.a, PB.c, PB.l, *]) rfl ⟨leafB ⟨#[]⟩ ⟨#[]⟩ ⟨false, 0, []⟩, 0, rfl, by omega, fun _ => rfl, (fun p u e => by rw [HN.out] at e; cases e), ?_⟩
              (repeat (first | with_reducible exact HB1.out | with_reducible apply bdrew | with_reducible apply balloc | with_reducible refine bset _ (Nat.le_refl _) ?_))
            · rw [if_neg hn] at HQ
              obtain ⟨hmay, hfit, hnl, -⟩ := HOK.out hn
              rw [List.length_drop, len_str] at hnl
              have hvl := may_len hmay
              have HFIT := Lib.hid hfit
              have hk4 : k + 3 + n ≤ s.size := by omega
              rw [show decide (n ≠ 0) = true by simp [hn]] at HRD
              have HS1 := Lib.hid (fun W => starts_c (s.extract (k + 3 + n) s.size) ⟨#[41]⟩ (by simp; omega) (by decide) W)
              rw [to_end, show (⟨#[41]⟩ : ByteArray).data.toList = [41] from rfl] at HS1
              have HPS := Lib.hid (fun h => pre_size (s := s) (k := k + 3 + n) (w := [41]) h hk4)
              obtain ⟨cb, hcb⟩ : ∃ b, Lib.hasPrefix (s.data.toList.drop (k + 3 + n)) [41] = b := ⟨_, rfl⟩
              rw [hcb] at HS1 HQ HPS
              clear hcb hmay hfit HOK
              go_wp2_with fail
              refine HRD.out.mono ?_
              rintro e w2 ⟨rfl, hb2⟩
              have HX2 := HX1.out.grow hb2
              have HB2 := bstep hb2 HB1.out
              clear hb2 HX1 HB1
              have HX1 := Lib.hid HX2
              have HB1 := Lib.hid HB2
              clear HX2 HB2
              go_wp2_with fail
              refine (HS1.out _).mono ?_
              rintro e w3 ⟨rfl, hw3⟩
              rw [hw3]
              clear hw3
              have HXA := Lib.hid (HX1.out.grow (balloc (.cells #[.bool v.num, .int .i64 v.n, .string ⟨v.s.toArray⟩] 23) (.refl _ _)))
              have HBA := Lib.hid (bstep (balloc (.cells #[.bool v.num, .int .i64 v.n, .string ⟨v.s.toArray⟩] 23) (.refl _ w2)) HB1.out)
              have HVA := Lib.hid (VB3.new w2 v.num v.n ⟨v.s.toArray⟩ 23)
              cases cb with
              | false =>
                rw [if_neg (by decide)] at HQ
                have HN : Hid (R = none) := Lib.hid HQ.out.symm
                obtain ⟨x0, x1, x2, x3, x4, x5, x6⟩ := HX1.out.box
                have z0 := HX1.out.fz 0
                have z1 := HX1.out.fz 1
                have z2 := HX1.out.fz 2
                have z3 := HX1.out.fz 3
                have z4 := HX1.out.fz 4
                have z5 := HX1.out.fz 5
                go_wp2_with fail
                refine bodyPost_ret (v := .tuple #[(leafB ⟨#[]⟩ ⟨#[]⟩ ⟨false, 0, []⟩).agg, .int .i64 0]) (by simp [results, Tryz.results38, go_sem, leafB, PB.agg, PB.op, PB.s, PB.num, PB.n, PB.vs, PB.a, PB.c, PB.l, *]) rfl ⟨leafB ⟨#[]⟩ ⟨#[]⟩ ⟨false, 0, []⟩, 0, rfl, by omega, fun _ => rfl, (fun p u e => by rw [HN.out] at e; cases e), ?_⟩
                (repeat (first | with_reducible exact HB1.out | with_reducible apply bdrew | with_reducible apply balloc | with_reducible refine bset _ (Nat.le_refl _) ?_))
              | true =>
                rw [if_pos rfl] at HQ
                have hk5 := HPS.out rfl
                simp only [List.length_cons, List.length_nil] at hk5
                have HN := Lib.hid HQ.out.symm
                obtain ⟨x0, x1, x2, x3, x4, x5, x6⟩ := HXA.out.box
                have z0 := HXA.out.fz 0
                have z1 := HXA.out.fz 1
                have z2 := HXA.out.fz 2
                have z3 := HXA.out.fz 3
                have z4 := HXA.out.fz 4
                have z5 := HXA.out.fz 5
                obtain ⟨v0, v1, v2, v3⟩ := HVA.out
                go_upto_region 14 with fail
                revert HBA
                revert x0 x1 x2 x3 x4 x5 x6 z0 z1 z2 z3 z4 z5 v0 v1 v2 v3
                clear HXA HVA
                generalize w2.alloc (.cells #[.bool v.num, .int .i64 v.n, .string ⟨v.s.toArray⟩] 23) = X
                intro x0 x1 x2 x3 x4 x5 x6 z0 z1 z2 z3 z4 z5 v0 v1 v2 v3 HBA
                go_region
                all_goals
                  go_wp2_with fail
                  refine bodyPost_ret (v := .tuple #[(leafB ⟨#[108, 116]⟩ (s.extract 1 k) v).agg, .int .i64 ((k + 4 + n : Nat) : Int)]) (by simp [results, Tryz.results38, go_sem, leafB, PB.agg, PB.op, PB.s, PB.num, PB.n, PB.vs, PB.a, PB.c, PB.l, *]) rfl ⟨leafB ⟨#[108, 116]⟩ (s.extract 1 k) v, k + 4 + n, rfl, by omega, (fun e => by rw [HN.out] at e; cases e), (fun p u e => ?_), ?_⟩
                  · rw [HN.out] at e
                    cases e
                    refine ⟨leaf_pr .lt _ _, by omega, ?_, leaf_own _ _ _ _ _ (by decide) (by simp; omega) (by omega) HFIT.out⟩
                    rw [List.length_drop, len_str]
                    omega
                  · (repeat (first | with_reducible exact HBA.out | with_reducible apply bdrew | with_reducible apply balloc | with_reducible refine bset _ (Nat.le_refl _) ?_))
          | false =>
            rw [if_neg (by decide)] at HQ
            go_wp2_with fail
            refine (HE.out w1).mono ?_
            rintro e w2 ⟨rfl, hw2⟩
            rw [hw2]
            clear hw2
            cases eb with
            | true =>
              rw [if_pos rfl] at HQ
              have hk3 : k + 3 ≤ s.size := PE.out rfl
              clear PL PE HL HE
              have HRD := Lib.hid (rread_c (s.extract (k + 3) s.size) (by simp; omega) w1)
              rw [to_end] at HRD
              rw [cmpV_eq] at HQ
              have HOK := Lib.hid (fun h => read_ok (l := s.data.toList.drop (k + 3)) (v := (readV (s.data.toList.drop (k + 3))).1) (k := (readV (s.data.toList.drop (k + 3))).2) rfl h)
              generalize readV (s.data.toList.drop (k + 3)) = rv at HRD HQ HOK
              obtain ⟨v, n⟩ := rv
              simp only at HRD HQ HOK
              rw [List.drop_drop, List.drop_drop] at HQ
              by_cases hn : n = 0
              · subst hn
                rw [if_pos rfl] at HQ
                have HN : Hid (R = none) := Lib.hid HQ.out.symm
                simp only [ne_eq, not_true_eq_false, decide_false] at HRD
                go_wp2_with fail
                refine HRD.out.mono ?_
                rintro e w2 ⟨rfl, hb2⟩
                have HX2 := HX1.out.grow hb2
                have HB2 := bstep hb2 HB1.out
                clear hb2 HX1 HB1
                have HX1 := Lib.hid HX2
                have HB1 := Lib.hid HB2
                clear HX2 HB2
                obtain ⟨x0, x1, x2, x3, x4, x5, x6⟩ := HX1.out.box
                have z0 := HX1.out.fz 0
                have z1 := HX1.out.fz 1
                have z2 := HX1.out.fz 2
                have z3 := HX1.out.fz 3
                have z4 := HX1.out.fz 4
                have z5 := HX1.out.fz 5
                go_wp2_with fail
                refine bodyPost_ret (v := .tuple #[(leafB ⟨#[]⟩ ⟨#[]⟩ ⟨false, 0, []⟩).agg, .int .i64 0]) (by simp [results, Tryz.results38, go_sem, leafB, PB.agg, PB.op, PB.s, PB.num, PB.n, PB.vs, PB.a, PB.c, PB.l, *]) rfl ⟨leafB ⟨#[]⟩ ⟨#[]⟩ ⟨false, 0, []⟩, 0, rfl, by omega, fun _ => rfl, (fun p u e => by rw [HN.out] at e; cases e), ?_⟩
                (repeat (first | with_reducible exact HB1.out | with_reducible apply bdrew | with_reducible apply balloc | with_reducible refine bset _ (Nat.le_refl _) ?_))
              · rw [if_neg hn] at HQ
                obtain ⟨hmay, hfit, hnl, -⟩ := HOK.out hn
                rw [List.length_drop, len_str] at hnl
                have hvl := may_len hmay
                have HFIT := Lib.hid hfit
                have hk4 : k + 3 + n ≤ s.size := by omega
                rw [show decide (n ≠ 0) = true by simp [hn]] at HRD
                have HS1 := Lib.hid (fun W => starts_c (s.extract (k + 3 + n) s.size) ⟨#[41]⟩ (by simp; omega) (by decide) W)
                rw [to_end, show (⟨#[41]⟩ : ByteArray).data.toList = [41] from rfl] at HS1
                have HPS := Lib.hid (fun h => pre_size (s := s) (k := k + 3 + n) (w := [41]) h hk4)
                obtain ⟨cb, hcb⟩ : ∃ b, Lib.hasPrefix (s.data.toList.drop (k + 3 + n)) [41] = b := ⟨_, rfl⟩
                rw [hcb] at HS1 HQ HPS
                clear hcb hmay hfit HOK
                go_wp2_with fail
                refine HRD.out.mono ?_
                rintro e w2 ⟨rfl, hb2⟩
                have HX2 := HX1.out.grow hb2
                have HB2 := bstep hb2 HB1.out
                clear hb2 HX1 HB1
                have HX1 := Lib.hid HX2
                have HB1 := Lib.hid HB2
                clear HX2 HB2
                go_wp2_with fail
                refine (HS1.out _).mono ?_
                rintro e w3 ⟨rfl, hw3⟩
                rw [hw3]
                clear hw3
                have HXA := Lib.hid (HX1.out.grow (balloc (.cells #[.bool v.num, .int .i64 v.n, .string ⟨v.s.toArray⟩] 23) (.refl _ _)))
                have HBA := Lib.hid (bstep (balloc (.cells #[.bool v.num, .int .i64 v.n, .string ⟨v.s.toArray⟩] 23) (.refl _ w2)) HB1.out)
                have HVA := Lib.hid (VB3.new w2 v.num v.n ⟨v.s.toArray⟩ 23)
                cases cb with
                | false =>
                  rw [if_neg (by decide)] at HQ
                  have HN : Hid (R = none) := Lib.hid HQ.out.symm
                  obtain ⟨x0, x1, x2, x3, x4, x5, x6⟩ := HX1.out.box
                  have z0 := HX1.out.fz 0
                  have z1 := HX1.out.fz 1
                  have z2 := HX1.out.fz 2
                  have z3 := HX1.out.fz 3
                  have z4 := HX1.out.fz 4
                  have z5 := HX1.out.fz 5
                  go_wp2_with fail
                  refine bodyPost_ret (v := .tuple #[(leafB ⟨#[]⟩ ⟨#[]⟩ ⟨false, 0, []⟩).agg, .int .i64 0]) (by simp [results, Tryz.results38, go_sem, leafB, PB.agg, PB.op, PB.s, PB.num, PB.n, PB.vs, PB.a, PB.c, PB.l, *]) rfl ⟨leafB ⟨#[]⟩ ⟨#[]⟩ ⟨false, 0, []⟩, 0, rfl, by omega, fun _ => rfl, (fun p u e => by rw [HN.out] at e; cases e), ?_⟩
                  (repeat (first | with_reducible exact HB1.out | with_reducible apply bdrew | with_reducible apply balloc | with_reducible refine bset _ (Nat.le_refl _) ?_))
                | true =>
                  rw [if_pos rfl] at HQ
                  have hk5 := HPS.out rfl
                  simp only [List.length_cons, List.length_nil] at hk5
                  have HN := Lib.hid HQ.out.symm
                  obtain ⟨x0, x1, x2, x3, x4, x5, x6⟩ := HXA.out.box
                  have z0 := HXA.out.fz 0
                  have z1 := HXA.out.fz 1
                  have z2 := HXA.out.fz 2
                  have z3 := HXA.out.fz 3
                  have z4 := HXA.out.fz 4
                  have z5 := HXA.out.fz 5
                  obtain ⟨v0, v1, v2, v3⟩ := HVA.out
                  go_upto_region 14 with fail
                  revert HBA
                  revert x0 x1 x2 x3 x4 x5 x6 z0 z1 z2 z3 z4 z5 v0 v1 v2 v3
                  clear HXA HVA
                  generalize w2.alloc (.cells #[.bool v.num, .int .i64 v.n, .string ⟨v.s.toArray⟩] 23) = X
                  intro x0 x1 x2 x3 x4 x5 x6 z0 z1 z2 z3 z4 z5 v0 v1 v2 v3 HBA
                  go_region
                  all_goals
                    go_wp2_with fail
                    refine bodyPost_ret (v := .tuple #[(leafB ⟨#[101, 113]⟩ (s.extract 1 k) v).agg, .int .i64 ((k + 4 + n : Nat) : Int)]) (by simp [results, Tryz.results38, go_sem, leafB, PB.agg, PB.op, PB.s, PB.num, PB.n, PB.vs, PB.a, PB.c, PB.l, *]) rfl ⟨leafB ⟨#[101, 113]⟩ (s.extract 1 k) v, k + 4 + n, rfl, by omega, (fun e => by rw [HN.out] at e; cases e), (fun p u e => ?_), ?_⟩
                    · rw [HN.out] at e
                      cases e
                      refine ⟨leaf_pr .eq _ _, by omega, ?_, leaf_own _ _ _ _ _ (by decide) (by simp; omega) (by omega) HFIT.out⟩
                      rw [List.length_drop, len_str]
                      omega
                    · (repeat (first | with_reducible exact HBA.out | with_reducible apply bdrew | with_reducible apply balloc | with_reducible refine bset _ (Nat.le_refl _) ?_))
            | false =>
              rw [if_neg (by decide)] at HQ
              have HN : Hid (R = none) := Lib.hid HQ.out.symm
              obtain ⟨x0, x1, x2, x3, x4, x5, x6⟩ := HX1.out.box
              have z0 := HX1.out.fz 0
              have z1 := HX1.out.fz 1
              have z2 := HX1.out.fz 2
              have z3 := HX1.out.fz 3
              have z4 := HX1.out.fz 4
              have z5 := HX1.out.fz 5
              go_wp2_with fail
              refine bodyPost_ret (v := .tuple #[(leafB ⟨#[]⟩ ⟨#[]⟩ ⟨false, 0, []⟩).agg, .int .i64 0]) (by simp [results, Tryz.results38, go_sem, leafB, PB.agg, PB.op, PB.s, PB.num, PB.n, PB.vs, PB.a, PB.c, PB.l, *]) rfl ⟨leafB ⟨#[]⟩ ⟨#[]⟩ ⟨false, 0, []⟩, 0, rfl, by omega, fun _ => rfl, (fun p u e => by rw [HN.out] at e; cases e), ?_⟩
              (repeat (first | with_reducible exact HB1.out | with_reducible apply bdrew | with_reducible apply balloc | with_reducible refine bset _ (Nat.le_refl _) ?_))
      · have H4 : Hid (∀ (j : Nat) (h : j < s.size), 1 ≤ j → j < k + 1 → s[j] ≠ 32) := Lib.hid (fun j h hj hjk e => by
          rcases Nat.lt_or_ge j k with hl | hl
          · exact H3.out j h hj hl e
          · obtain rfl : j = k := by omega
            rw [e] at hc
            exact h32 hc.symm)
        have h33 : ¬ (c : Int) = 32 := by omega
        clear H3
        go_wp2_with fail
        go_round
        case rel => exact ⟨k + 1, by go_num, by omega, by omega, H4⟩
        case measure => simp [intOf] <;> omega
    · have HST : Hid (StopAt s 32 1 k) := Lib.hid ⟨h1, h2, H3.out, fun h => absurd h hk⟩
      have hkk : s.size ≤ k := by omega
      clear H3
      have HQ := Lib.hid ((cmp_by HS.out HST.out).symm.trans HR.out)
      obtain ⟨h1, h2, -, -⟩ := HST.out
      have HF := Lib.hid (rfield_c (s.extract 1 k) (by simp; omega) Y)
      have HL := Lib.hid (fun W => starts_c (s.extract k s.size) ⟨#[32, 60, 32]⟩ (by simp; omega) (by decide) W)
      have HE := Lib.hid (fun W => starts_c (s.extract k s.size) ⟨#[32, 61, 32]⟩ (by simp; omega) (by decide) W)
      rw [to_end, show (⟨#[32, 60, 32]⟩ : ByteArray).data.toList = [32, 60, 32] from rfl] at HL
      rw [to_end, show (⟨#[32, 61, 32]⟩ : ByteArray).data.toList = [32, 61, 32] from rfl] at HE
      obtain ⟨fb, hfb⟩ : ∃ b, fieldB (s.extract 1 k).data.toList = b := ⟨_, rfl⟩
      obtain ⟨lb, hlb⟩ : ∃ b, Lib.hasPrefix (s.data.toList.drop k) [32, 60, 32] = b := ⟨_, rfl⟩
      obtain ⟨eb, heb⟩ : ∃ b, Lib.hasPrefix (s.data.toList.drop k) [32, 61, 32] = b := ⟨_, rfl⟩
      have PL := Lib.hid (fun (h : lb = true) => pre_size (hlb.trans h) h2)
      have PE := Lib.hid (fun (h : eb = true) => pre_size (heb.trans h) h2)
      rw [hfb] at HF
      rw [hlb] at HL
      rw [heb] at HE
      rw [hfb, hlb, heb] at HQ
      clear hfb hlb heb HR HST HS
      go_wp2_with fail
      refine HF.out.mono ?_
      rintro e w1 ⟨rfl, hb1⟩
      have HX1 := Lib.hid (HX.out.grow hb1)
      have HB1 := Lib.hid (bstep hb1 HB.out)
      clear hb1 HX HB HF
      cases fb with
      | false =>
        rw [if_neg (by decide)] at HQ
        have HN : Hid (R = none) := Lib.hid HQ.out.symm
        obtain ⟨x0, x1, x2, x3, x4, x5, x6⟩ := HX1.out.box
        have z0 := HX1.out.fz 0
        have z1 := HX1.out.fz 1
        have z2 := HX1.out.fz 2
        have z3 := HX1.out.fz 3
        have z4 := HX1.out.fz 4
        have z5 := HX1.out.fz 5
        go_wp2_with fail
        refine bodyPost_ret (v := .tuple #[(leafB ⟨#[]⟩ ⟨#[]⟩ ⟨false, 0, []⟩).agg, .int .i64 0]) (by simp [results, Tryz.results38, go_sem, leafB, PB.agg, PB.op, PB.s, PB.num, PB.n, PB.vs, PB.a, PB.c, PB.l, *]) rfl ⟨leafB ⟨#[]⟩ ⟨#[]⟩ ⟨false, 0, []⟩, 0, rfl, by omega, fun _ => rfl, (fun p u e => by rw [HN.out] at e; cases e), ?_⟩
        (repeat (first | with_reducible exact HB1.out | with_reducible apply bdrew | with_reducible apply balloc | with_reducible refine bset _ (Nat.le_refl _) ?_))
      | true =>
        rw [if_pos rfl] at HQ
        go_wp2_with fail
        refine (HL.out w1).mono ?_
        rintro e w2 ⟨rfl, hw2⟩
        rw [hw2]
        clear hw2
        cases lb with
        | true =>
          rw [if_pos rfl] at HQ
          have hk3 : k + 3 ≤ s.size := PL.out rfl
          exact absurd hk3 (by omega)
        | false =>
          rw [if_neg (by decide)] at HQ
          go_wp2_with fail
          refine (HE.out w1).mono ?_
          rintro e w2 ⟨rfl, hw2⟩
          rw [hw2]
          clear hw2
          cases eb with
          | true =>
            rw [if_pos rfl] at HQ
            have hk3 : k + 3 ≤ s.size := PE.out rfl
            exact absurd hk3 (by omega)
          | false =>
            rw [if_neg (by decide)] at HQ
            have HN : Hid (R = none) := Lib.hid HQ.out.symm
            obtain ⟨x0, x1, x2, x3, x4, x5, x6⟩ := HX1.out.box
            have z0 := HX1.out.fz 0
            have z1 := HX1.out.fz 1
            have z2 := HX1.out.fz 2
            have z3 := HX1.out.fz 3
            have z4 := HX1.out.fz 4
            have z5 := HX1.out.fz 5
            go_wp2_with fail
            refine bodyPost_ret (v := .tuple #[(leafB ⟨#[]⟩ ⟨#[]⟩ ⟨false, 0, []⟩).agg, .int .i64 0]) (by simp [results, Tryz.results38, go_sem, leafB, PB.agg, PB.op, PB.s, PB.num, PB.n, PB.vs, PB.a, PB.c, PB.l, *]) rfl ⟨leafB ⟨#[]⟩ ⟨#[]⟩ ⟨false, 0, []⟩, 0, rfl, by omega, fun _ => rfl, (fun p u e => by rw [HN.out] at e; cases e), ?_⟩
            (repeat (first | with_reducible exact HB1.out | with_reducible apply bdrew | with_reducible apply balloc | with_reducible refine bset _ (Nat.le_refl _) ?_))
end Go.Proofs.YtmmdblpoecidaaaGreatDoor
namespace Tryst
open Go Go.RowKit Go.Lib
theorem first_tail {d : Nat} {s : List UInt8} {p : Pr} {u : List UInt8} (h : firstP d s = some (p, u)) : u.length ≤ s.length ∧ ∀ n, n + u.length = s.length → s.drop n = u := by
  have e := first_text d s p u h
  refine ⟨by rw [e, List.length_append]; omega, fun n hn => ?_⟩
  rw [e, List.length_append] at hn
  rw [e, show n = (pText p).length by omega, List.drop_left]
theorem head_at (f : List UInt8 → Option (Pr × List UInt8)) (s : List UInt8) (h1 : ¬ Lib.hasPrefix s [97, 108, 108] = true) (h2 : ¬ Lib.hasPrefix s [116, 111, 112, 105, 99, 40] = true) (h3 : ¬ Lib.hasPrefix s [104, 97, 115, 40] = true) : headP f s = if Lib.hasPrefix s [40] = true then innerP f (s.drop 1) else none := by
  unfold headP
  rw [if_neg h1, if_neg h2, if_neg h3]
theorem join_or (u : List UInt8) : joinP u = if Lib.hasPrefix u [32, 111, 114, 32] = true then some (.or, u.drop 4) else if Lib.hasPrefix u [32, 97, 110, 100, 32] = true then some (.and, u.drop 5) else none := by
  unfold joinP
  by_cases ha : Lib.hasPrefix u [32, 97, 110, 100, 32] = true
  · have ho : ¬ Lib.hasPrefix u [32, 111, 114, 32] = true := fun e => by
      obtain ⟨a, h1⟩ := pre_iff.1 ha
      obtain ⟨b, h2⟩ := pre_iff.1 e
      rw [h1] at h2
      cases h2
    rw [if_pos ha, if_neg ho, if_pos ha]
  · rw [if_neg ha, if_neg ha]
theorem par_no {s w : List UInt8} (h : ¬ Lib.hasPrefix s [40] = true) : ¬ Lib.hasPrefix s (40 :: w) = true := fun e => by
  obtain ⟨r, rfl⟩ := pre_iff.1 e
  exact h (pre_app [40] _)
end Tryst
namespace Go.Proofs.YtmmdblpoecidaaaGreatDoor
open Go.RowKit Tryst
set_option maxHeartbeats 8000000
set_option maxRecDepth 20000
section
variable {B : Nat} {v : World} {a0 a1 a2 a3 a4 a5 : Value} {T : TypeId} {op r0 r1 : ByteArray} {r2 : Bool} {r3 : Int} {r4 : ByteArray} {r5 : Option Addr} {r6 : Nat} {r7 : List PB} {s0 s1 : ByteArray} {s2 : Bool} {s3 : Int} {s4 : ByteArray} {s5 : Option Addr} {s6 : Nat} {s7 : List PB}
theorem keepC {o : Obj} {y : PB} (hX : POwn v (fun b => B < b) y) : POwn (((((((v.setCell ⟨B, 0, none⟩ a0).setCell ⟨B, 1, none⟩ a1).setCell ⟨B, 2, none⟩ a2).setCell ⟨B, 3, none⟩ a3).setCell ⟨B, 4, none⟩ a4).setCell ⟨B, 5, none⟩ a5).alloc o) (fun b => B ≤ b) y :=
  hX.keep (fun j hj hlt => ⟨(Below.heap_alloc _ _ _ (by rw [six_size]; exact hlt)).trans (six_heap _ _ _ (by omega) _ _ _ _ _ _), Nat.le_of_lt hj⟩) (by rw [World.alloc_size, six_size]; omega)
theorem keepD {y : PB} (hX : POwn v (fun b => B < b) y) : POwn ((((((v.setCell ⟨B, 0, none⟩ a0).setCell ⟨B, 1, none⟩ a1).setCell ⟨B, 2, none⟩ a2).setCell ⟨B, 3, none⟩ a3).setCell ⟨B, 4, none⟩ a4).setCell ⟨B, 5, none⟩ a5) (fun b => B ≤ b) y :=
  hX.keep (fun j hj hlt => ⟨six_heap _ _ _ (by omega) _ _ _ _ _ _, Nat.le_of_lt hj⟩) (by rw [six_size]; omega)
theorem finC (hB : B < v.heap.size) (ho : op.size ≤ 100000) (hX : POwn v (fun b => B < b) (.mk r0 r1 r2 r3 r4 r5 r6 r7)) :
    POwn (((((((v.setCell ⟨B, 0, none⟩ a0).setCell ⟨B, 1, none⟩ a1).setCell ⟨B, 2, none⟩ a2).setCell ⟨B, 3, none⟩ a3).setCell ⟨B, 4, none⟩ a4).setCell ⟨B, 5, none⟩ a5).alloc (.cells #[.string r0, .string r1, .bool r2, .int .i64 r3, .string r4, .slice r5 r7.length r6] T)) (fun b => B ≤ b) (.mk op ⟨#[]⟩ false 0 ⟨#[]⟩ (some ⟨v.heap.size, 0, none⟩) 1 [.mk r0 r1 r2 r3 r4 r5 r6 r7]) :=
  POwn.one (T := T) ho (Nat.le_of_lt hB) (alloc_at (six_size _ _ _ _ _ _ _ _)) (keepC hX)
theorem finC2 (hB : B < v.heap.size) (ho : op.size ≤ 100000) (hX : POwn v (fun b => B < b) (.mk r0 r1 r2 r3 r4 r5 r6 r7)) (hY : POwn v (fun b => B < b) (.mk s0 s1 s2 s3 s4 s5 s6 s7)) :
    POwn (((((((v.setCell ⟨B, 0, none⟩ a0).setCell ⟨B, 1, none⟩ a1).setCell ⟨B, 2, none⟩ a2).setCell ⟨B, 3, none⟩ a3).setCell ⟨B, 4, none⟩ a4).setCell ⟨B, 5, none⟩ a5).alloc (.cells #[.string r0, .string r1, .bool r2, .int .i64 r3, .string r4, .slice r5 r7.length r6, .string s0, .string s1, .bool s2, .int .i64 s3, .string s4, .slice s5 s7.length s6] T)) (fun b => B ≤ b) (.mk op ⟨#[]⟩ false 0 ⟨#[]⟩ (some ⟨v.heap.size, 0, none⟩) 2 [.mk r0 r1 r2 r3 r4 r5 r6 r7, .mk s0 s1 s2 s3 s4 s5 s6 s7]) :=
  POwn.two (T := T) ho (Nat.le_of_lt hB) (alloc_at (six_size _ _ _ _ _ _ _ _)) (keepC hX) (keepC hY)
end
/-- so far: the result's box -/
structure FX (w v : World) : Prop where
  x : BX v w.heap.size ⟨#[]⟩ ⟨#[]⟩ false 0 ⟨#[]⟩ (.slice none 0 0)
  b : Below w.heap.size w v
theorem FX.grow {w v v' : World} (h : FX w v) (hb : Below v.heap.size v v') : FX w v' := ⟨h.x.grow hb, bstep hb h.b⟩
theorem FX.facts {w v : World} (h : FX w v) : (v.cell? ⟨w.heap.size, 0, none⟩ = some (.string ⟨#[]⟩) ∧ v.cell? ⟨w.heap.size, 1, none⟩ = some (.string ⟨#[]⟩) ∧ v.cell? ⟨w.heap.size, 2, none⟩ = some (.bool false) ∧ v.cell? ⟨w.heap.size, 3, none⟩ = some (.int .i64 0) ∧ v.cell? ⟨w.heap.size, 4, none⟩ = some (.string ⟨#[]⟩) ∧ v.cell? ⟨w.heap.size, 5, none⟩ = some (.slice none 0 0)) ∧ (v.frozen? ⟨w.heap.size, 0, none⟩ = false ∧ v.frozen? ⟨w.heap.size, 1, none⟩ = false ∧ v.frozen? ⟨w.heap.size, 2, none⟩ = false ∧ v.frozen? ⟨w.heap.size, 3, none⟩ = false ∧ v.frozen? ⟨w.heap.size, 4, none⟩ = false ∧ v.frozen? ⟨w.heap.size, 5, none⟩ = false) ∧ w.heap.size < v.heap.size :=
  ⟨⟨h.x.box.c0, h.x.box.c1, h.x.box.c2, h.x.box.c3, h.x.box.c4, h.x.box.c5⟩, ⟨h.x.fz 0, h.x.fz 1, h.x.fz 2, h.x.fz 3, h.x.fz 4, h.x.fz 5⟩, h.x.box.hz⟩
/-- the loop over the two heads -/
def HRel (s : ByteArray) (i : Value) : Prop := ∃ k : Nat, i = .int .i64 k ∧ k ≤ 2 ∧ Hid (1 ≤ k → ¬ Lib.hasPrefix s.data.toList [116, 111, 112, 105, 99, 40] = true) ∧ Hid (2 ≤ k → ¬ Lib.hasPrefix s.data.toList [104, 97, 115, 40] = true)
theorem rfirst_c : ∀ (d : Nat), d ≤ 8 → ∀ (s : ByteArray), s.size ≤ 100000 → ∀ w, Calls Tryz.prog 22 #[.string s, .int .i64 (d : Int)] w fun e w' => FirR w s.size (firstP d s.data.toList) e w' := by
  intro d
  induction d with
  | zero =>
    intro _ s hs w
    obtain ⟨R, hR⟩ : ∃ R, firstP 0 s.data.toList = R := ⟨_, rfl⟩
    have HN : Hid (R = none) := Lib.hid hR.symm
    rw [hR]
    clear hR
    have HX1 : Hid (FX w (w.alloc (.cells #[.string ⟨#[]⟩, .string ⟨#[]⟩, .bool false, .int .i64 0, .string ⟨#[]⟩, .slice none 0 0] 26))) := Lib.hid ⟨BX.new w _ _ _ _ _ _, balloc _ (.refl _ _)⟩
    go_enter Tryz.func22, Tryz.ntmps22
    go_upto_region 1 with fail
    revert HX1
    generalize w.alloc (.cells #[.string ⟨#[]⟩, .string ⟨#[]⟩, .bool false, .int .i64 0, .string ⟨#[]⟩, .slice none 0 0] 26) = X1
    intro HX1
    obtain ⟨⟨x0, x1, x2, x3, x4, x5⟩, ⟨z0, z1, z2, z3, z4, z5⟩, zz⟩ := HX1.out.facts
    go_wp2_with fail
    refine bodyPost_ret (v := .tuple #[(leafB ⟨#[]⟩ ⟨#[]⟩ ⟨false, 0, []⟩).agg, .int .i64 0]) (by simp [results, Tryz.results22, go_sem, leafB, PB.agg, PB.op, PB.s, PB.num, PB.n, PB.vs, PB.a, PB.c, PB.l, *]) rfl ⟨leafB ⟨#[]⟩ ⟨#[]⟩ ⟨false, 0, []⟩, 0, rfl, by omega, fun _ => rfl, (fun p u e => by rw [HN.out] at e; cases e), ?_⟩
    (repeat (first | with_reducible exact HX1.out.b | with_reducible apply bdrew | with_reducible apply balloc | with_reducible refine bset _ (Nat.le_refl _) ?_))
  | succ d ih =>
    intro hd s hs w
    have HIH := Lib.hid (ih (by omega))
    obtain ⟨R, hR⟩ : ∃ R, firstP (d + 1) s.data.toList = R := ⟨_, rfl⟩
    have HR : Hid (headP (firstP d) s.data.toList = R) := Lib.hid hR
    rw [hR]
    clear hR ih
    have HX1 : Hid (FX w (w.alloc (.cells #[.string ⟨#[]⟩, .string ⟨#[]⟩, .bool false, .int .i64 0, .string ⟨#[]⟩, .slice none 0 0] 26))) := Lib.hid ⟨BX.new w _ _ _ _ _ _, balloc _ (.refl _ _)⟩
    have q0 : (((d + 1 : Nat) : Int) == 0) = false := by simp; omega
    rw [show ((d + 1 : Nat) : Int) = (d : Int) + 1 by omega] at q0 ⊢
    have q1 : wrap64 ((d : Int) + 1 - 1) = (d : Int) := by rw [IntWalk.wrap64_in _ (by omega)]; omega
    have HS := Lib.hid (fun (t : ByteArray) (ht : t.size ≤ 100000) W => starts_c s t (by omega) (by omega) W)
    go_enter Tryz.func22, Tryz.ntmps22
    go_upto_region 1 with fail
    revert HX1
    generalize w.alloc (.cells #[.string ⟨#[]⟩, .string ⟨#[]⟩, .bool false, .int .i64 0, .string ⟨#[]⟩, .slice none 0 0] 26) = X1
    intro HX1
    go_wp2_with fail
    refine (HS.out _ (by decide) _).mono ?_
    rintro e w2 ⟨rfl, hw2⟩
    rw [hw2]
    clear hw2
    rw [show (⟨#[97, 108, 108]⟩ : ByteArray).data.toList = [97, 108, 108] from rfl]
    by_cases p1 : Lib.hasPrefix s.data.toList [97, 108, 108] = true
    · rw [p1]
      have HN : Hid (R = some (nodeP .all [], s.data.toList.drop 3)) := Lib.hid (by rw [← HR.out]; unfold headP; rw [if_pos p1])
      have h3 := pre_size (s := s) (k := 0) p1 (by omega)
      simp only [List.length_cons, List.length_nil] at h3
      clear p1
      obtain ⟨⟨x0, x1, x2, x3, x4, x5⟩, ⟨z0, z1, z2, z3, z4, z5⟩, zz⟩ := HX1.out.facts
      go_wp2_with fail
      refine bodyPost_ret (v := .tuple #[(leafB ⟨#[97, 108, 108]⟩ ⟨#[]⟩ ⟨false, 0, []⟩).agg, .int .i64 3]) (by simp [results, Tryz.results22, go_sem, leafB, PB.agg, PB.op, PB.s, PB.num, PB.n, PB.vs, PB.a, PB.c, PB.l, *]) rfl ⟨leafB ⟨#[97, 108, 108]⟩ ⟨#[]⟩ ⟨false, 0, []⟩, 3, rfl, by omega, (fun e => by rw [HN.out] at e; cases e), (fun p u e => ?_), ?_⟩
      · rw [HN.out] at e
        cases e
        refine ⟨by unfold leafB nodeP; rw [PB.pr, PB.prs]; rfl, by omega, by rw [List.length_drop, len_str]; omega, leaf_own _ _ _ _ _ (by decide) (by decide) (by decide) ⟨by decide, by decide⟩⟩
      · (repeat (first | with_reducible exact HX1.out.b | with_reducible apply bdrew | with_reducible apply balloc | with_reducible refine bset _ (Nat.le_refl _) ?_))
    · rw [show Lib.hasPrefix s.data.toList [97, 108, 108] = false by simpa using p1]
      have HP1 := Lib.hid p1
      clear p1
      go_upto_region 6 with fail
      refine wp_genC (fun v => Hid (FX w v) ∧ v.cell? ⟨X1.heap.size, 0, none⟩ = some (.string ⟨#[116, 111, 112, 105, 99]⟩) ∧ v.cell? ⟨X1.heap.size, 1, none⟩ = some (.string ⟨#[104, 97, 115]⟩)) ⟨HX1.out.grow (balloc _ (.refl _ _)), by simp [go_sem], by simp [go_sem]⟩ ?_
      rintro X2 ⟨HX2, hd0, hd1⟩
      clear HX1
      generalize X1.heap.size = H at hd0 hd1 ⊢
      go_wp2_with fail
      go_loop [7] (fun i => HRel s i) (fun i => 2 - (intOf i).toNat)
      case atStart => exact ⟨0, rfl, by omega, fun h => by omega, fun h => by omega⟩
      case round =>
        obtain ⟨i, rfl, hi, HT, HH⟩ := hrel
        have hi3 : i = 0 ∨ i = 1 ∨ i = 2 := by omega
        rcases hi3 with rfl | rfl | rfl
        · clear HT HH hi
          go_wp2_with fail
          refine (HS.out _ (by decide) _).mono ?_
          rintro e w2 ⟨rfl, hw2⟩
          rw [hw2]
          clear hw2
          rw [show (⟨#[116, 111, 112, 105, 99]⟩ ++ ⟨#[40]⟩ : ByteArray).data.toList = [116, 111, 112, 105, 99, 40] from rfl]
          by_cases p2 : Lib.hasPrefix s.data.toList [116, 111, 112, 105, 99, 40] = true
          · rw [p2]
            have HRC : Hid (R = (cutC 41 (s.data.toList.drop 6)).map fun p => (leafP .topic p.1 V.zero, p.2)) := Lib.hid (by rw [← HR.out]; unfold headP; rw [if_neg HP1.out, if_pos p2])
            have h6 := pre_size (s := s) (k := 0) p2 (by omega)
            simp only [List.length_cons, List.length_nil] at h6
            clear p2 HR HIH HP1
            go_wp2_with fail
            go_loop [9] (fun i => KRel s 41 6 i) (fun i => s.size - (intOf i).toNat)
            case atStart => exact ⟨6, rfl, by omega, by omega, fun j _ _ _ => by omega⟩
            case round =>
              obtain ⟨k, rfl, h1, h2, H3⟩ := hrel
              by_cases hk : k < s.size
              · obtain ⟨c, hc⟩ : ∃ c, s[k].toNat = c := ⟨_, rfl⟩
                by_cases h41 : c = 41
                · have HC := cut_found h1 hk (UInt8.toNat_inj.1 (by rw [hc, h41]; rfl)) H3.out
                  have HN : Hid (R = some (leafP .topic (s.extract 6 k).data.toList V.zero, s.data.toList.drop (k + 1))) := Lib.hid (by rw [HRC.out, HC]; rfl)
                  have hkn : ((k : Int) == s.size) = false := by rw [beq_eq_false_iff_ne]; omega
                  subst h41
                  clear H3 HC HRC
                  obtain ⟨⟨x0, x1, x2, x3, x4, x5⟩, ⟨z0, z1, z2, z3, z4, z5⟩, zz⟩ := HX2.out.facts
                  go_upto_region 16 with fail
                  go_region
                  all_goals
                    go_wp2_with fail
                    refine bodyPost_ret (v := .tuple #[(leafB ⟨#[116, 111, 112, 105, 99]⟩ (s.extract 6 k) ⟨false, 0, []⟩).agg, .int .i64 ((k + 1 : Nat) : Int)]) (by simp [results, Tryz.results22, go_sem, leafB, PB.agg, PB.op, PB.s, PB.num, PB.n, PB.vs, PB.a, PB.c, PB.l, *]) rfl ⟨leafB ⟨#[116, 111, 112, 105, 99]⟩ (s.extract 6 k) ⟨false, 0, []⟩, k + 1, rfl, by omega, (fun e => by rw [HN.out] at e; cases e), (fun p u e => ?_), ?_⟩
                    · rw [HN.out] at e
                      cases e
                      refine ⟨leaf_pr .topic _ _, by omega, by rw [List.length_drop, len_str]; omega, leaf_own _ _ _ _ _ (by decide) (by simp; omega) (by decide) ⟨by decide, by decide⟩⟩
                    · (repeat (first | with_reducible exact HX2.out.b | with_reducible apply bdrew | with_reducible apply balloc | with_reducible refine bset _ (Nat.le_refl _) ?_))
                · have H4 : Hid (∀ (j : Nat) (h : j < s.size), 6 ≤ j → j < k + 1 → s[j] ≠ 41) := Lib.hid (fun j h hj hjk e => by
                    rcases Nat.lt_or_ge j k with hl | hl
                    · exact H3.out j h hj hl e
                    · obtain rfl : j = k := by omega
                      rw [e] at hc
                      exact h41 hc.symm)
                  have h33 : ¬ (c : Int) = 41 := by omega
                  clear H3
                  go_wp2_with fail
                  go_round
                  case rel => exact ⟨k + 1, by go_num, by omega, by omega, H4⟩
                  case measure => simp [intOf] <;> omega
              · have HC := cut_lost (s := s) (c := 41) (n := 6) (fun j hj hn => H3.out j hj hn (by omega))
                have HN : Hid (R = none) := Lib.hid (by rw [HRC.out, HC]; rfl)
                have hkk : ((k : Int) == s.size) = true := by rw [beq_iff_eq]; omega
                clear H3 HC HRC
                obtain ⟨⟨x0, x1, x2, x3, x4, x5⟩, ⟨z0, z1, z2, z3, z4, z5⟩, zz⟩ := HX2.out.facts
                go_wp2_with fail
                refine bodyPost_ret (v := .tuple #[(leafB ⟨#[]⟩ ⟨#[]⟩ ⟨false, 0, []⟩).agg, .int .i64 0]) (by simp [results, Tryz.results22, go_sem, leafB, PB.agg, PB.op, PB.s, PB.num, PB.n, PB.vs, PB.a, PB.c, PB.l, *]) rfl ⟨leafB ⟨#[]⟩ ⟨#[]⟩ ⟨false, 0, []⟩, 0, rfl, by omega, fun _ => rfl, (fun p u e => by rw [HN.out] at e; cases e), ?_⟩
                (repeat (first | with_reducible exact HX2.out.b | with_reducible apply bdrew | with_reducible apply balloc | with_reducible refine bset _ (Nat.le_refl _) ?_))
          · rw [show Lib.hasPrefix s.data.toList [116, 111, 112, 105, 99, 40] = false by simpa using p2]
            have HP2 := Lib.hid p2
            clear p2
            go_wp2_with fail
            go_round
            case rel => exact ⟨1, rfl, by omega, fun _ => HP2.out, fun h => by omega⟩
            case measure => simp [intOf]
        · clear HH hi
          go_wp2_with fail
          refine (HS.out _ (by decide) _).mono ?_
          rintro e w2 ⟨rfl, hw2⟩
          rw [hw2]
          clear hw2
          rw [show (⟨#[104, 97, 115]⟩ ++ ⟨#[40]⟩ : ByteArray).data.toList = [104, 97, 115, 40] from rfl]
          by_cases p3 : Lib.hasPrefix s.data.toList [104, 97, 115, 40] = true
          · rw [p3]
            have HRC : Hid (R = (cutC 41 (s.data.toList.drop 4)).map fun p => (leafP .has p.1 V.zero, p.2)) := Lib.hid (by rw [← HR.out]; unfold headP; rw [if_neg HP1.out, if_neg (HT.out (by omega)), if_pos p3])
            have h6 := pre_size (s := s) (k := 0) p3 (by omega)
            simp only [List.length_cons, List.length_nil] at h6
            clear p3 HR HIH HP1 HT
            go_wp2_with fail
            go_loop [9] (fun i => KRel s 41 4 i) (fun i => s.size - (intOf i).toNat)
            case atStart => exact ⟨4, rfl, by omega, by omega, fun j _ _ _ => by omega⟩
            case round =>
              obtain ⟨k, rfl, h1, h2, H3⟩ := hrel
              by_cases hk : k < s.size
              · obtain ⟨c, hc⟩ : ∃ c, s[k].toNat = c := ⟨_, rfl⟩
                by_cases h41 : c = 41
                · have HC := cut_found h1 hk (UInt8.toNat_inj.1 (by rw [hc, h41]; rfl)) H3.out
                  have HN : Hid (R = some (leafP .has (s.extract 4 k).data.toList V.zero, s.data.toList.drop (k + 1))) := Lib.hid (by rw [HRC.out, HC]; rfl)
                  have hkn : ((k : Int) == s.size) = false := by rw [beq_eq_false_iff_ne]; omega
                  subst h41
                  clear H3 HC HRC
                  obtain ⟨⟨x0, x1, x2, x3, x4, x5⟩, ⟨z0, z1, z2, z3, z4, z5⟩, zz⟩ := HX2.out.facts
                  go_upto_region 16 with fail
                  go_region
                  all_goals
                    go_wp2_with fail
                    refine bodyPost_ret (v := .tuple #[(leafB ⟨#[104, 97, 115]⟩ (s.extract 4 k) ⟨false, 0, []⟩).agg, .int .i64 ((k + 1 : Nat) : Int)]) (by simp [results, Tryz.results22, go_sem, leafB, PB.agg, PB.op, PB.s, PB.num, PB.n, PB.vs, PB.a, PB.c, PB.l, *]) rfl ⟨leafB ⟨#[104, 97, 115]⟩ (s.extract 4 k) ⟨false, 0, []⟩, k + 1, rfl, by omega, (fun e => by rw [HN.out] at e; cases e), (fun p u e => ?_), ?_⟩
                    · rw [HN.out] at e
                      cases e
                      refine ⟨leaf_pr .has _ _, by omega, by rw [List.length_drop, len_str]; omega, leaf_own _ _ _ _ _ (by decide) (by simp; omega) (by decide) ⟨by decide, by decide⟩⟩
                    · (repeat (first | with_reducible exact HX2.out.b | with_reducible apply bdrew | with_reducible apply balloc | with_reducible refine bset _ (Nat.le_refl _) ?_))
                · have H4 : Hid (∀ (j : Nat) (h : j < s.size), 4 ≤ j → j < k + 1 → s[j] ≠ 41) := Lib.hid (fun j h hj hjk e => by
                    rcases Nat.lt_or_ge j k with hl | hl
                    · exact H3.out j h hj hl e
                    · obtain rfl : j = k := by omega
                      rw [e] at hc
                      exact h41 hc.symm)
                  have h33 : ¬ (c : Int) = 41 := by omega
                  clear H3
                  go_wp2_with fail
                  go_round
                  case rel => exact ⟨k + 1, by go_num, by omega, by omega, H4⟩
                  case measure => simp [intOf] <;> omega
              · have HC := cut_lost (s := s) (c := 41) (n := 4) (fun j hj hn => H3.out j hj hn (by omega))
                have HN : Hid (R = none) := Lib.hid (by rw [HRC.out, HC]; rfl)
                have hkk : ((k : Int) == s.size) = true := by rw [beq_iff_eq]; omega
                clear H3 HC HRC
                obtain ⟨⟨x0, x1, x2, x3, x4, x5⟩, ⟨z0, z1, z2, z3, z4, z5⟩, zz⟩ := HX2.out.facts
                go_wp2_with fail
                refine bodyPost_ret (v := .tuple #[(leafB ⟨#[]⟩ ⟨#[]⟩ ⟨false, 0, []⟩).agg, .int .i64 0]) (by simp [results, Tryz.results22, go_sem, leafB, PB.agg, PB.op, PB.s, PB.num, PB.n, PB.vs, PB.a, PB.c, PB.l, *]) rfl ⟨leafB ⟨#[]⟩ ⟨#[]⟩ ⟨false, 0, []⟩, 0, rfl, by omega, fun _ => rfl, (fun p u e => by rw [HN.out] at e; cases e), ?_⟩
                (repeat (first | with_reducible exact HX2.out.b | with_reducible apply bdrew | with_reducible apply balloc | with_reducible refine bset _ (Nat.le_refl _) ?_))
          · rw [show Lib.hasPrefix s.data.toList [104, 97, 115, 40] = false by simpa using p3]
            have HP3 := Lib.hid p3
            clear p3
            go_wp2_with fail
            go_round
            case rel => exact ⟨2, rfl, by omega, fun _ => HT.out (by omega), fun _ => HP3.out⟩
            case measure => simp [intOf]
        · have HRI := Lib.hid ((head_at (firstP d) s.data.toList HP1.out (HT.out (by omega)) (HH.out (by omega))).symm.trans HR.out)
          clear HT HH hi HR HP1 hd0 hd1
          go_wp2_with fail
          refine (HS.out _ (by decide) _).mono ?_
          rintro e w2 ⟨rfl, hw2⟩
          rw [hw2]
          clear hw2
          rw [show (⟨#[40]⟩ : ByteArray).data.toList = [40] from rfl]
          by_cases p4 : Lib.hasPrefix s.data.toList [40] = true
          rotate_left
          · rw [if_neg p4] at HRI
            have HN : Hid (R = none) := Lib.hid HRI.out.symm
            have p5 : Lib.hasPrefix s.data.toList [40, 110, 111, 116, 32] = false := by simpa using par_no (w := [110, 111, 116, 32]) p4
            have p4 : Lib.hasPrefix s.data.toList [40] = false := by simpa using p4
            rw [p4]
            have HP := Lib.hid (And.intro p4 p5)
            clear p4 p5
            go_wp2_with fail
            refine (HS.out _ (by decide) _).mono ?_
            rintro e w2 ⟨rfl, hw2⟩
            rw [hw2]
            clear hw2
            rw [show (⟨#[40, 110, 111, 116, 32]⟩ : ByteArray).data.toList = [40, 110, 111, 116, 32] from rfl, HP.out.2]
            go_wp2_with fail
            refine (HS.out _ (by decide) _).mono ?_
            rintro e w2 ⟨rfl, hw2⟩
            rw [hw2]
            clear hw2
            rw [show (⟨#[40]⟩ : ByteArray).data.toList = [40] from rfl, HP.out.1]
            obtain ⟨⟨x0, x1, x2, x3, x4, x5⟩, ⟨z0, z1, z2, z3, z4, z5⟩, zz⟩ := HX2.out.facts
            go_wp2_with fail
            refine bodyPost_ret (v := .tuple #[(leafB ⟨#[]⟩ ⟨#[]⟩ ⟨false, 0, []⟩).agg, .int .i64 0]) (by simp [results, Tryz.results22, go_sem, leafB, PB.agg, PB.op, PB.s, PB.num, PB.n, PB.vs, PB.a, PB.c, PB.l, *]) rfl ⟨leafB ⟨#[]⟩ ⟨#[]⟩ ⟨false, 0, []⟩, 0, rfl, by omega, fun _ => rfl, (fun p u e => by rw [HN.out] at e; cases e), ?_⟩
            (repeat (first | with_reducible exact HX2.out.b | with_reducible apply bdrew | with_reducible apply balloc | with_reducible refine bset _ (Nat.le_refl _) ?_))
          · rw [if_pos p4] at HRI
            rw [p4]
            obtain ⟨r, hr⟩ := pre_iff.1 p4
            have hr : s.data.toList = 40 :: r := hr
            rw [show s.data.toList.drop 1 = r by rw [hr]; rfl] at HRI
            have HRS := Lib.hid hr
            have HP4 := Lib.hid p4
            have h1s : 1 ≤ s.size := by
              have := congrArg List.length hr
              rw [len_str] at this
              simp at this
              omega
            clear p4 hr
            go_wp2_with fail
            refine (rcompare_c s r (by omega) HRS.out X2).mono ?_
            rintro e w3 ⟨y, n, rfl, hn, hn0, hy, hb3⟩
            have HX3 := Lib.hid (HX2.out.grow hb3)
            have hz2 := HX2.out.facts.2.2
            unfold innerP at HRI
            rcases hcm : cmpP r with _ | ⟨p, u⟩
            · obtain rfl : n = 0 := hn0 hcm
              rw [hcm] at HRI
              simp only at HRI
              clear hn0 hy hb3 HX2 hcm hn hz2
              obtain ⟨y0, y1, y2, y3, y4, y5, y6, y7⟩ := y
              unfold PB.agg
              simp only [PB.op, PB.s, PB.num, PB.n, PB.vs, PB.a, PB.c, PB.l]
              have HX4 := Lib.hid (HX3.out.grow (balloc (.cells #[.string y0, .string y1, .bool y2, .int .i64 y3, .string y4, .slice y5 y7.length y6] 26) (.refl _ _)))
              go_upto_region 19 with fail
              revert HX4
              generalize w3.alloc (.cells #[.string y0, .string y1, .bool y2, .int .i64 y3, .string y4, .slice y5 y7.length y6] 26) = X4
              intro HX4
              clear HX3
              go_wp2_with fail
              refine (HS.out _ (by decide) _).mono ?_
              rintro e w2 ⟨rfl, hw2⟩
              rw [hw2]
              clear hw2
              rw [show (⟨#[40, 110, 111, 116, 32]⟩ : ByteArray).data.toList = [40, 110, 111, 116, 32] from rfl]
              have hp5 : Lib.hasPrefix s.data.toList [40, 110, 111, 116, 32] = Lib.hasPrefix r [110, 111, 116, 32] := by rw [HRS.out, pre_cons]
              rw [hp5]
              by_cases p5 : Lib.hasPrefix r [110, 111, 116, 32] = true
              · rw [if_pos p5] at HRI
                rw [p5] at hp5 ⊢
                have h5 := pre_size (s := s) (k := 0) hp5 (by omega)
                simp only [List.length_cons, List.length_nil] at h5
                rw [show r.drop 4 = s.data.toList.drop 5 by rw [HRS.out]; rfl] at HRI
                clear hp5 p5
                have HI := Lib.hid (HIH.out (s.extract 5 s.size) (by simp; omega) X4)
                rw [to_end, show (s.extract 5 s.size).size = s.size - 5 by simp] at HI
                have HTL := Lib.hid (fun p u h => first_tail (d := d) (s := s.data.toList.drop 5) (p := p) (u := u) h)
                have h5i : (5 : Int) ≤ s.size := by omega
                go_wp2_with fail
                refine HI.out.mono ?_
                rintro e w5 ⟨y, n, rfl, hn, hn0, hy, hb5⟩
                have HX5 := Lib.hid (HX4.out.grow hb5)
                have hz4 := HX4.out.facts.2.2
                rcases hF : firstP d (s.data.toList.drop 5) with _ | ⟨p, u⟩
                · obtain rfl : n = 0 := hn0 hF
                  rw [hF] at HRI
                  have HN : Hid (R = none) := Lib.hid HRI.out.symm
                  clear hn0 hy hb5 HX4 hF hn hz4
                  obtain ⟨o0, o1, o2, o3, o4, o5, o6, o7⟩ := y
                  unfold PB.agg
                  simp only [PB.op, PB.s, PB.num, PB.n, PB.vs, PB.a, PB.c, PB.l]
                  have HX6 := Lib.hid (HX5.out.grow (balloc (.cells #[.string o0, .string o1, .bool o2, .int .i64 o3, .string o4, .slice o5 o7.length o6] 26) (.refl _ _)))
                  go_upto_region 23 with fail
                  revert HX6
                  generalize w5.alloc (.cells #[.string o0, .string o1, .bool o2, .int .i64 o3, .string o4, .slice o5 o7.length o6] 26) = X6
                  intro HX6
                  obtain ⟨⟨x0, x1, x2, x3, x4, x5⟩, ⟨z0, z1, z2, z3, z4, z5⟩, zz⟩ := HX6.out.facts
                  go_wp2_with fail
                  refine bodyPost_ret (v := .tuple #[(leafB ⟨#[]⟩ ⟨#[]⟩ ⟨false, 0, []⟩).agg, .int .i64 0]) (by simp [results, Tryz.results22, go_sem, leafB, PB.agg, PB.op, PB.s, PB.num, PB.n, PB.vs, PB.a, PB.c, PB.l, *]) rfl ⟨leafB ⟨#[]⟩ ⟨#[]⟩ ⟨false, 0, []⟩, 0, rfl, by omega, fun _ => rfl, (fun p u e => by rw [HN.out] at e; cases e), ?_⟩
                  (repeat (first | with_reducible exact HX6.out.b | with_reducible apply bdrew | with_reducible apply balloc | with_reducible refine bset _ (Nat.le_refl _) ?_))
                · obtain ⟨hpr, hn1, hnu, hown⟩ := hy p u hF
                  rw [hF] at HRI
                  have HRI : Hid (closeP .not [p] u = R) := HRI
                  rw [close_eq] at HRI
                  obtain ⟨-, htl⟩ := HTL.out p u hF
                  have htl := htl n (by rw [List.length_drop, len_str]; omega)
                  rw [List.drop_drop] at htl
                  have HC := Lib.hid (HS.out ⟨#[41]⟩ (by decide))
                  have HC2 := Lib.hid (fun W => starts_c (s.extract (5 + n) s.size) ⟨#[41]⟩ (by simp; omega) (by decide) W)
                  rw [to_end, show (⟨#[41]⟩ : ByteArray).data.toList = [41] from rfl, htl] at HC2
                  obtain ⟨cb, hcb⟩ : ∃ cb, Lib.hasPrefix u [41] = cb := ⟨_, rfl⟩
                  rw [hcb] at HC2 HRI
                  have HUL := Lib.hid (fun (h : cb = true) => show 1 ≤ u.length by
                    obtain ⟨z, hz⟩ := pre_iff.1 (hcb.trans h)
                    rw [hz]
                    simp)
                  have hn1i : ((n : Int) == 0) = false := by rw [beq_eq_false_iff_ne]; omega
                  have hni : (5 : Int) + n ≤ s.size := by omega
                  have HPR := Lib.hid hpr
                  obtain ⟨o0, o1, o2, o3, o4, o5, o6, o7⟩ := y
                  unfold PB.agg
                  simp only [PB.op, PB.s, PB.num, PB.n, PB.vs, PB.a, PB.c, PB.l]
                  have HX6 := Lib.hid (HX5.out.grow (balloc (.cells #[.string o0, .string o1, .bool o2, .int .i64 o3, .string o4, .slice o5 o7.length o6] 26) (.refl _ _)))
                  have HO6 := Lib.hid (hown.grow (S' := fun b => w.heap.size < b) (balloc (.cells #[.string o0, .string o1, .bool o2, .int .i64 o3, .string o4, .slice o5 o7.length o6] 26) (.refl _ _)) (fun b hb => by omega))
                  have HB6 := Lib.hid (BX.new w5 o0 o1 o2 o3 o4 (.slice o5 o7.length o6))
                  clear hn0 hy hb5 HX4 hF hpr hown HX5 htl hcb HTL HI HC
                  go_upto_region 23 with fail
                  revert HX6 HO6 HB6
                  generalize w5.alloc (.cells #[.string o0, .string o1, .bool o2, .int .i64 o3, .string o4, .slice o5 o7.length o6] 26) = X6
                  intro HX6 HO6 HB6
                  go_wp2_with fail
                  refine (HC2.out _).mono ?_
                  rintro e w7 ⟨rfl, hw7⟩
                  rw [hw7]
                  clear hw7
                  cases cb with
                  | false =>
                    rw [if_neg (by decide)] at HRI
                    have HN : Hid (R = none) := Lib.hid HRI.out.symm
                    obtain ⟨⟨x0, x1, x2, x3, x4, x5⟩, ⟨z0, z1, z2, z3, z4, z5⟩, zz⟩ := HX6.out.facts
                    go_wp2_with fail
                    refine bodyPost_ret (v := .tuple #[(leafB ⟨#[]⟩ ⟨#[]⟩ ⟨false, 0, []⟩).agg, .int .i64 0]) (by simp [results, Tryz.results22, go_sem, leafB, PB.agg, PB.op, PB.s, PB.num, PB.n, PB.vs, PB.a, PB.c, PB.l, *]) rfl ⟨leafB ⟨#[]⟩ ⟨#[]⟩ ⟨false, 0, []⟩, 0, rfl, by omega, fun _ => rfl, (fun p u e => by rw [HN.out] at e; cases e), ?_⟩
                    (repeat (first | with_reducible exact HX6.out.b | with_reducible apply bdrew | with_reducible apply balloc | with_reducible refine bset _ (Nat.le_refl _) ?_))
                  | true =>
                    rw [if_pos rfl] at HRI
                    have HN := Lib.hid HRI.out.symm
                    have hul := HUL.out rfl
                    have HNG : Hid ((PB.mk ⟨#[110, 111, 116]⟩ ⟨#[]⟩ false 0 ⟨#[]⟩ none 1 [PB.mk o0 o1 o2 o3 o4 o5 o6 o7]).pr = nodeP .not [p]) := by
                      show _ = _
                      rw [← HPR.out]
                      rfl
                    obtain ⟨v0, v1, v2, v3, v4, v5, v6⟩ := HB6.out.box
                    obtain ⟨⟨x0, x1, x2, x3, x4, x5⟩, ⟨z0, z1, z2, z3, z4, z5⟩, zz⟩ := HX6.out.facts
                    go_wp2_with fail
                    refine bodyPost_ret (v := .tuple #[(PB.mk ⟨#[110, 111, 116]⟩ ⟨#[]⟩ false 0 ⟨#[]⟩ (some ⟨X6.heap.size, 0, none⟩) 1 [PB.mk o0 o1 o2 o3 o4 o5 o6 o7]).agg, .int .i64 ((6 + n : Nat) : Int)]) (by simp [results, Tryz.results22, go_sem, PB.agg, PB.op, PB.s, PB.num, PB.n, PB.vs, PB.a, PB.c, PB.l, *]) rfl ⟨PB.mk ⟨#[110, 111, 116]⟩ ⟨#[]⟩ false 0 ⟨#[]⟩ (some ⟨X6.heap.size, 0, none⟩) 1 [PB.mk o0 o1 o2 o3 o4 o5 o6 o7], 6 + n, rfl, by omega, (fun e => by rw [HN.out] at e; cases e), (fun p' u' e => ?_), ?_⟩
                    · rw [HN.out] at e
                      cases e
                      refine ⟨HNG.out, by omega, by rw [List.length_drop]; omega, ?_⟩
                      with_reducible exact finC zz (by decide) HO6.out
                    · (repeat (first | with_reducible exact HX6.out.b | with_reducible apply bdrew | with_reducible apply balloc | with_reducible refine bset _ (Nat.le_refl _) ?_))
              · rw [if_neg p5] at HRI
                rw [show Lib.hasPrefix r [110, 111, 116, 32] = false by simpa using p5]
                clear hp5 p5
                go_wp2_with fail
                refine (HS.out _ (by decide) _).mono ?_
                rintro e w2 ⟨rfl, hw2⟩
                rw [hw2]
                clear hw2
                rw [show (⟨#[40]⟩ : ByteArray).data.toList = [40] from rfl, HP4.out]
                have HI := Lib.hid (HIH.out (s.extract 1 s.size) (by simp; omega) X4)
                rw [to_end, show (s.extract 1 s.size).size = s.size - 1 by simp, show s.data.toList.drop 1 = r by rw [HRS.out]; rfl] at HI
                have h1i : (1 : Int) ≤ s.size := by omega
                go_wp2_with fail
                refine HI.out.mono ?_
                rintro e w5 ⟨y, n, rfl, hn, hn0, hy, hb5⟩
                have HX5 := Lib.hid (HX4.out.grow hb5)
                have hz4 := HX4.out.facts.2.2
                rcases hF : firstP d r with _ | ⟨p, u⟩
                · obtain rfl : n = 0 := hn0 hF
                  rw [hF] at HRI
                  have HN : Hid (R = none) := Lib.hid HRI.out.symm
                  clear hn0 hy hb5 HX4 hF hn hz4
                  obtain ⟨o0, o1, o2, o3, o4, o5, o6, o7⟩ := y
                  unfold PB.agg
                  simp only [PB.op, PB.s, PB.num, PB.n, PB.vs, PB.a, PB.c, PB.l]
                  have HX6 := Lib.hid (HX5.out.grow (balloc (.cells #[.string o0, .string o1, .bool o2, .int .i64 o3, .string o4, .slice o5 o7.length o6] 26) (.refl _ _)))
                  go_upto_region 29 with fail
                  revert HX6
                  generalize w5.alloc (.cells #[.string o0, .string o1, .bool o2, .int .i64 o3, .string o4, .slice o5 o7.length o6] 26) = X6
                  intro HX6
                  obtain ⟨⟨x0, x1, x2, x3, x4, x5⟩, ⟨z0, z1, z2, z3, z4, z5⟩, zz⟩ := HX6.out.facts
                  go_wp2_with fail
                  refine bodyPost_ret (v := .tuple #[(leafB ⟨#[]⟩ ⟨#[]⟩ ⟨false, 0, []⟩).agg, .int .i64 0]) (by simp [results, Tryz.results22, go_sem, leafB, PB.agg, PB.op, PB.s, PB.num, PB.n, PB.vs, PB.a, PB.c, PB.l, *]) rfl ⟨leafB ⟨#[]⟩ ⟨#[]⟩ ⟨false, 0, []⟩, 0, rfl, by omega, fun _ => rfl, (fun p u e => by rw [HN.out] at e; cases e), ?_⟩
                  (repeat (first | with_reducible exact HX6.out.b | with_reducible apply bdrew | with_reducible apply balloc | with_reducible refine bset _ (Nat.le_refl _) ?_))
                · obtain ⟨hpr, hn1, hnu, hown⟩ := hy p u hF
                  rw [hF] at HRI
                  have HRI : Hid ((match joinP u with
                    | none => none
                    | some x => secondP (firstP d) p x) = R) := HRI
                  obtain ⟨-, htl⟩ := first_tail hF
                  have hrl : r.length = s.size - 1 := by
                    have := congrArg List.length HRS.out
                    rw [len_str] at this
                    simp at this
                    omega
                  have htl := htl n (by omega)
                  have hrs : (s.extract (1 + n) s.size).data.toList = u := by
                    rw [to_end, ← htl, HRS.out, Nat.add_comm]
                    rfl
                  have hrz : (s.extract (1 + n) s.size).size = u.length := by rw [← hrs, len_str]
                  have hn1i : ((n : Int) == 0) = false := by rw [beq_eq_false_iff_ne]; omega
                  have hni : (1 : Int) + n ≤ s.size := by omega
                  have HPR := Lib.hid hpr
                  obtain ⟨o0, o1, o2, o3, o4, o5, o6, o7⟩ := y
                  unfold PB.agg
                  simp only [PB.op, PB.s, PB.num, PB.n, PB.vs, PB.a, PB.c, PB.l]
                  have HX6 := Lib.hid (HX5.out.grow (balloc (.cells #[.string o0, .string o1, .bool o2, .int .i64 o3, .string o4, .slice o5 o7.length o6] 26) (.refl _ _)))
                  have HO6 := Lib.hid (hown.grow (S' := fun b => w.heap.size < b) (balloc (.cells #[.string o0, .string o1, .bool o2, .int .i64 o3, .string o4, .slice o5 o7.length o6] 26) (.refl _ _)) (fun b hb => by omega))
                  have HB6 := Lib.hid (BX.new w5 o0 o1 o2 o3 o4 (.slice o5 o7.length o6))
                  have hAz : w.heap.size < w5.heap.size := HX5.out.facts.2.2
                  clear hn0 hy hb5 HX4 hF hpr hown HX5 htl HI hrl
                  go_upto_region 29 with fail
                  generalize w5.heap.size = A at HB6 hAz ⊢
                  revert HX6 HO6 HB6
                  generalize w5.alloc (.cells #[.string o0, .string o1, .bool o2, .int .i64 o3, .string o4, .slice o5 o7.length o6] 26) = X6
                  intro HX6 HO6 HB6
                  go_upto_region 33 with fail
                  generalize s.extract (1 + n) s.size = rs at hrs hrz ⊢
                  have hru : rs.size ≤ 100000 := by omega
                  have HOR := Lib.hid (fun W => starts_c rs ⟨#[32, 111, 114, 32]⟩ (by omega) (by decide) W)
                  have HAN := Lib.hid (fun W => starts_c rs ⟨#[32, 97, 110, 100, 32]⟩ (by omega) (by decide) W)
                  rw [hrs, show (⟨#[32, 111, 114, 32]⟩ : ByteArray).data.toList = [32, 111, 114, 32] from rfl] at HOR
                  rw [hrs, show (⟨#[32, 97, 110, 100, 32]⟩ : ByteArray).data.toList = [32, 97, 110, 100, 32] from rfl] at HAN
                  obtain ⟨ob, hob⟩ : ∃ ob, Lib.hasPrefix u [32, 111, 114, 32] = ob := ⟨_, rfl⟩
                  obtain ⟨ab, hab⟩ : ∃ ab, Lib.hasPrefix u [32, 97, 110, 100, 32] = ab := ⟨_, rfl⟩
                  rw [hob] at HOR
                  rw [hab] at HAN
                  have HJ : Hid (joinP u = if ob = true then some (.or, u.drop 4) else if ab = true then some (.and, u.drop 5) else none) := by
                    show _ = _
                    rw [← hob, ← hab]
                    exact join_or u
                  have HLO : Hid (ob = true → 4 ≤ u.length) := Lib.hid (fun h => by
                    obtain ⟨z, hz⟩ := pre_iff.1 (hob.trans h)
                    rw [hz, List.length_append]
                    simp)
                  have HLA : Hid (ab = true → 5 ≤ u.length) := Lib.hid (fun h => by
                    obtain ⟨z, hz⟩ := pre_iff.1 (hab.trans h)
                    rw [hz, List.length_append]
                    simp)
                  have HRU := Lib.hid hrs
                  have HRZ := Lib.hid hrz
                  clear hob hab hrs hrz
                  go_wp2_with fail
                  refine (HOR.out _).mono ?_
                  rintro e w7 ⟨rfl, hw7⟩
                  rw [hw7]
                  clear hw7
                  go_upto_if 133 with fail
                  go_cut [17, 18] from 132 to 137 (fun v17 v18 wx => ∃ (kk : Opk) (L : Nat), v17 = .string kk.text ∧ v18 = .int .i64 (L : Int) ∧ L ≤ 5 ∧ L ≤ List.length u ∧ Hid (joinP u = some (kk, List.drop L u)) ∧ wx = X6)
                  case first =>
                    cases ob with
                    | true =>
                      rw [if_pos rfl] at HJ
                      have hl := HLO.out rfl
                      go_wp2_with fail
                      go_meet
                      exact ⟨.or, 4, rfl, rfl, by omega, hl, HJ, rfl⟩
                    | false =>
                      rw [if_neg (by decide)] at HJ
                      go_wp2_with fail
                      refine (HAN.out _).mono ?_
                      rintro e w7 ⟨rfl, hw7⟩
                      rw [hw7]
                      clear hw7
                      cases ab with
                      | true =>
                        rw [if_pos rfl] at HJ
                        have hl := HLA.out rfl
                        go_wp2_with fail
                        go_meet
                        exact ⟨.and, 5, rfl, rfl, by omega, hl, HJ, rfl⟩
                      | false =>
                        rw [if_neg (by decide)] at HJ
                        rw [HJ.out] at HRI
                        have HN : Hid (R = none) := Lib.hid HRI.out.symm
                        obtain ⟨⟨x0, x1, x2, x3, x4, x5⟩, ⟨z0, z1, z2, z3, z4, z5⟩, zz⟩ := HX6.out.facts
                        go_wp2_with fail
                        refine bodyPost_ret (v := .tuple #[(leafB ⟨#[]⟩ ⟨#[]⟩ ⟨false, 0, []⟩).agg, .int .i64 0]) (by simp [results, Tryz.results22, go_sem, leafB, PB.agg, PB.op, PB.s, PB.num, PB.n, PB.vs, PB.a, PB.c, PB.l, *]) rfl ⟨leafB ⟨#[]⟩ ⟨#[]⟩ ⟨false, 0, []⟩, 0, rfl, by omega, fun _ => rfl, (fun p u e => by rw [HN.out] at e; cases e), ?_⟩
                        (repeat (first | with_reducible exact HX6.out.b | with_reducible apply bdrew | with_reducible apply balloc | with_reducible refine bset _ (Nat.le_refl _) ?_))
                  case rest =>
                  obtain ⟨kk, L, rfl, rfl, hL5, hLu, HJ2, rfl⟩ := hcut
                  rw [HJ2.out] at HRI
                  have HRI : Hid (secondP (firstP d) p (kk, u.drop L) = R) := HRI
                  unfold secondP at HRI
                  simp only at HRI
                  clear HJ HJ2 HOR HAN HLO HLA
                  have HI := Lib.hid (HIH.out (rs.extract L rs.size) (by simp; omega) wc)
                  rw [to_end, show (rs.extract L rs.size).size = u.length - L by have := HRZ.out; simp; omega, HRU.out] at HI
                  have hLi : (L : Int) ≤ rs.size := by have := HRZ.out; omega
                  have hz6 := HX6.out.facts.2.2
                  go_wp2_with fail
                  refine HI.out.mono ?_
                  rintro e w8 ⟨x, m, rfl, hm, hm0, hx, hb8⟩
                  have HX8 := Lib.hid (HX6.out.grow hb8)
                  have HO8 := Lib.hid (HO6.out.grow hb8 (fun _ h => h))
                  have HB8 := Lib.hid (HB6.out.grow hb8)
                  clear HX6 HO6 HB6 HI
                  rcases hF : firstP d (u.drop L) with _ | ⟨q, z⟩
                  · obtain rfl : m = 0 := hm0 hF
                    rw [hF] at HRI
                    have HN : Hid (R = none) := Lib.hid HRI.out.symm
                    clear hm0 hx hb8 hF hm hz6
                    obtain ⟨s0, s1, s2, s3, s4, s5, s6, s7⟩ := x
                    unfold PB.agg
                    simp only [PB.op, PB.s, PB.num, PB.n, PB.vs, PB.a, PB.c, PB.l]
                    have HX9 := Lib.hid (HX8.out.grow (balloc (.cells #[.string s0, .string s1, .bool s2, .int .i64 s3, .string s4, .slice s5 s7.length s6] 26) (.refl _ _)))
                    go_upto_region 38 with fail
                    revert HX9
                    generalize w8.alloc (.cells #[.string s0, .string s1, .bool s2, .int .i64 s3, .string s4, .slice s5 s7.length s6] 26) = X9
                    intro HX9
                    obtain ⟨⟨x0, x1, x2, x3, x4, x5⟩, ⟨z0, z1, z2, z3, z4, z5⟩, zz⟩ := HX9.out.facts
                    go_wp2_with fail
                    refine bodyPost_ret (v := .tuple #[(leafB ⟨#[]⟩ ⟨#[]⟩ ⟨false, 0, []⟩).agg, .int .i64 0]) (by simp [results, Tryz.results22, go_sem, leafB, PB.agg, PB.op, PB.s, PB.num, PB.n, PB.vs, PB.a, PB.c, PB.l, *]) rfl ⟨leafB ⟨#[]⟩ ⟨#[]⟩ ⟨false, 0, []⟩, 0, rfl, by omega, fun _ => rfl, (fun p u e => by rw [HN.out] at e; cases e), ?_⟩
                    (repeat (first | with_reducible exact HX9.out.b | with_reducible apply bdrew | with_reducible apply balloc | with_reducible refine bset _ (Nat.le_refl _) ?_))
                  · obtain ⟨hqr, hm1, hmz, hxo⟩ := hx q z hF
                    rw [hF] at HRI
                    have HRI : Hid (closeP kk [p, q] z = R) := HRI
                    rw [close_eq] at HRI
                    obtain ⟨-, htl⟩ := first_tail hF
                    have htl := htl m (by rw [List.length_drop]; omega)
                    rw [List.drop_drop] at htl
                    have HC2 := Lib.hid (fun W => starts_c (rs.extract (L + m) rs.size) ⟨#[41]⟩ (by simp; omega) (by decide) W)
                    rw [to_end, show (⟨#[41]⟩ : ByteArray).data.toList = [41] from rfl, HRU.out, htl] at HC2
                    obtain ⟨cb, hcb⟩ : ∃ cb, Lib.hasPrefix z [41] = cb := ⟨_, rfl⟩
                    rw [hcb] at HC2 HRI
                    have HUL := Lib.hid (fun (h : cb = true) => show 1 ≤ z.length by
                      obtain ⟨z', hz⟩ := pre_iff.1 (hcb.trans h)
                      rw [hz]
                      simp)
                    have hm1i : ((m : Int) == 0) = false := by rw [beq_eq_false_iff_ne]; omega
                    have hmi : (L : Int) + m ≤ rs.size := by have := HRZ.out; omega
                    have HQR := Lib.hid hqr
                    obtain ⟨s0, s1, s2, s3, s4, s5, s6, s7⟩ := x
                    unfold PB.agg
                    simp only [PB.op, PB.s, PB.num, PB.n, PB.vs, PB.a, PB.c, PB.l]
                    have HX9 := Lib.hid (HX8.out.grow (balloc (.cells #[.string s0, .string s1, .bool s2, .int .i64 s3, .string s4, .slice s5 s7.length s6] 26) (.refl _ _)))
                    have HO9 := Lib.hid (HO8.out.grow (balloc (.cells #[.string s0, .string s1, .bool s2, .int .i64 s3, .string s4, .slice s5 s7.length s6] 26) (.refl _ _)) (fun _ h => h))
                    have HB9 := Lib.hid (HB8.out.grow (balloc (.cells #[.string s0, .string s1, .bool s2, .int .i64 s3, .string s4, .slice s5 s7.length s6] 26) (.refl _ _)))
                    have HQ9 := Lib.hid (hxo.grow (S' := fun b => w.heap.size < b) (balloc (.cells #[.string s0, .string s1, .bool s2, .int .i64 s3, .string s4, .slice s5 s7.length s6] 26) (.refl _ _)) (fun b hb => by omega))
                    have HS9 := Lib.hid (BX.new w8 s0 s1 s2 s3 s4 (.slice s5 s7.length s6))
                    clear hm0 hx hb8 hF hqr hxo HX8 HO8 HB8 htl hcb
                    go_upto_region 38 with fail
                    revert HX9 HO9 HB9 HQ9 HS9
                    generalize w8.alloc (.cells #[.string s0, .string s1, .bool s2, .int .i64 s3, .string s4, .slice s5 s7.length s6] 26) = X9
                    intro HX9 HO9 HB9 HQ9 HS9
                    go_wp2_with fail
                    refine (HC2.out _).mono ?_
                    rintro e w7 ⟨rfl, hw7⟩
                    rw [hw7]
                    clear hw7
                    cases cb with
                    | false =>
                      rw [if_neg (by decide)] at HRI
                      have HN : Hid (R = none) := Lib.hid HRI.out.symm
                      obtain ⟨⟨x0, x1, x2, x3, x4, x5⟩, ⟨z0, z1, z2, z3, z4, z5⟩, zz⟩ := HX9.out.facts
                      go_wp2_with fail
                      refine bodyPost_ret (v := .tuple #[(leafB ⟨#[]⟩ ⟨#[]⟩ ⟨false, 0, []⟩).agg, .int .i64 0]) (by simp [results, Tryz.results22, go_sem, leafB, PB.agg, PB.op, PB.s, PB.num, PB.n, PB.vs, PB.a, PB.c, PB.l, *]) rfl ⟨leafB ⟨#[]⟩ ⟨#[]⟩ ⟨false, 0, []⟩, 0, rfl, by omega, fun _ => rfl, (fun p u e => by rw [HN.out] at e; cases e), ?_⟩
                      (repeat (first | with_reducible exact HX9.out.b | with_reducible apply bdrew | with_reducible apply balloc | with_reducible refine bset _ (Nat.le_refl _) ?_))
                    | true =>
                      rw [if_pos rfl] at HRI
                      have HN := Lib.hid HRI.out.symm
                      have hul := HUL.out rfl
                      have hdec : kk.text.size ≤ 100000 := by cases kk <;> decide
                      have HNG : Hid ((PB.mk kk.text ⟨#[]⟩ false 0 ⟨#[]⟩ none 2 [PB.mk o0 o1 o2 o3 o4 o5 o6 o7, PB.mk s0 s1 s2 s3 s4 s5 s6 s7]).pr = nodeP kk [p, q]) := by
                        show _ = _
                        rw [← HPR.out, ← HQR.out]
                        rfl
                      obtain ⟨v0, v1, v2, v3, v4, v5, v6⟩ := HB9.out.box
                      obtain ⟨t0, t1, t2, t3, t4, t5, t6⟩ := HS9.out.box
                      obtain ⟨⟨x0, x1, x2, x3, x4, x5⟩, ⟨z0, z1, z2, z3, z4, z5⟩, zz⟩ := HX9.out.facts
                      go_wp2_with fail
                      refine bodyPost_ret (v := .tuple #[(PB.mk kk.text ⟨#[]⟩ false 0 ⟨#[]⟩ (some ⟨X9.heap.size, 0, none⟩) 2 [PB.mk o0 o1 o2 o3 o4 o5 o6 o7, PB.mk s0 s1 s2 s3 s4 s5 s6 s7]).agg, .int .i64 ((1 + n + L + m + 1 : Nat) : Int)]) (by simp [results, Tryz.results22, go_sem, PB.agg, PB.op, PB.s, PB.num, PB.n, PB.vs, PB.a, PB.c, PB.l, *]) rfl ⟨PB.mk kk.text ⟨#[]⟩ false 0 ⟨#[]⟩ (some ⟨X9.heap.size, 0, none⟩) 2 [PB.mk o0 o1 o2 o3 o4 o5 o6 o7, PB.mk s0 s1 s2 s3 s4 s5 s6 s7], 1 + n + L + m + 1, rfl, by omega, (fun e => by rw [HN.out] at e; cases e), (fun p' u' e => ?_), ?_⟩
                      · rw [HN.out] at e
                        cases e
                        refine ⟨HNG.out, by omega, by rw [List.length_drop]; omega, ?_⟩
                        with_reducible exact finC2 zz hdec HO9.out HQ9.out
                      · (repeat (first | with_reducible exact HX9.out.b | with_reducible apply bdrew | with_reducible apply balloc | with_reducible refine bset _ (Nat.le_refl _) ?_))
            · obtain ⟨hpr, hn1, hnu, hown⟩ := hy p u hcm
              rw [hcm] at HRI
              simp only at HRI
              have HN : Hid (R = some (p, u)) := Lib.hid HRI.out.symm
              have hn1i : (0 : Int) < n := by omega
              have HPR := Lib.hid hpr
              obtain ⟨y0, y1, y2, y3, y4, y5, y6, y7⟩ := y
              unfold PB.agg
              simp only [PB.op, PB.s, PB.num, PB.n, PB.vs, PB.a, PB.c, PB.l]
              have HX4 := Lib.hid (HX3.out.grow (balloc (.cells #[.string y0, .string y1, .bool y2, .int .i64 y3, .string y4, .slice y5 y7.length y6] 26) (.refl _ _)))
              have HO4 := Lib.hid (hown.grow (S' := fun b => w.heap.size < b) (balloc (.cells #[.string y0, .string y1, .bool y2, .int .i64 y3, .string y4, .slice y5 y7.length y6] 26) (.refl _ _)) (fun b hb => by omega))
              have HB4 := Lib.hid (BX.new w3 y0 y1 y2 y3 y4 (.slice y5 y7.length y6))
              clear hn0 hy hb3 HX2 hcm hpr hown HX3
              go_upto_region 19 with fail
              revert HX4 HO4 HB4
              generalize w3.alloc (.cells #[.string y0, .string y1, .bool y2, .int .i64 y3, .string y4, .slice y5 y7.length y6] 26) = X4
              intro HX4 HO4 HB4
              obtain ⟨v0, v1, v2, v3, v4, v5, v6⟩ := HB4.out.box
              obtain ⟨⟨x0, x1, x2, x3, x4, x5⟩, ⟨z0, z1, z2, z3, z4, z5⟩, zz⟩ := HX4.out.facts
              go_wp2_with fail
              refine bodyPost_ret (v := .tuple #[(PB.mk y0 y1 y2 y3 y4 y5 y6 y7).agg, .int .i64 (n : Int)]) (by simp [results, Tryz.results22, go_sem, PB.agg, PB.op, PB.s, PB.num, PB.n, PB.vs, PB.a, PB.c, PB.l, *]) rfl ⟨PB.mk y0 y1 y2 y3 y4 y5 y6 y7, n, rfl, hn, (fun e => by rw [HN.out] at e; cases e), (fun p' u' e => ?_), ?_⟩
              · rw [HN.out] at e
                cases e
                exact ⟨HPR.out, hn1, hnu, keepD HO4.out⟩
              · (repeat (first | with_reducible exact HX4.out.b | with_reducible apply bdrew | with_reducible apply balloc | with_reducible refine bset _ (Nat.le_refl _) ?_))
end Go.Proofs.YtmmdblpoecidaaaGreatDoor
