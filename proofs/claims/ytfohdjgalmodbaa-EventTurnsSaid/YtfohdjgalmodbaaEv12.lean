/- The walk of the document s Put. -/
import Derived.Test.YtfohdjgalmodbaaProg
import Derived.WalkKit
import Derived.WalkSpells
import Derived.WalkLawsBesides
import Derived.Lib.Hide
import Derived.Deep.RegionWith
import Derived.Deep.Cut
import Derived.Test.YtfohdjgalmodbaaEv1
import Derived.Test.YtfohdjgalmodbaaEv3
import Derived.Test.YtfohdjgalmodbaaPutB
import Derived.Test.YtfohdjgalmodbaaOwnG
set_option linter.unusedVariables false
set_option linter.unusedSimpArgs false
namespace Go.Proofs.Ytfohdjgalmodbaa
open Go.RowKit Tryst
set_option maxHeartbeats 400000
set_option maxRecDepth 20000
/-- what is still to come of fields, behind those that were gone through -/
def restF (there done : Bool) (l : List FB) (f : FB) : List FB := if done then l else if there then setB l f else insB l f
structure RPut (there done : Bool) (acc rest : List FB) (l : List FB) (f : FB) : Prop where
  all : acc ++ restF there done rest f = putB l f
  is : there = true → done = false → (findB rest f.name).isSome = true
theorem RPut.start (l : List FB) (f : FB) : RPut (findB l f.name).isSome false [] l l f := by
  refine ⟨?_, fun h _ => h⟩
  unfold restF putB
  rfl
theorem RPut.step {there done : Bool} {acc l : List FB} {x : FB} {r : List FB} {f : FB} (h : RPut there done acc (x :: r) l f) :
    (done = true → RPut there true (acc ++ [x]) r l f) ∧
    (done = false → there = true → x.name.data.toList = f.name.data.toList → RPut true true (acc ++ [f]) r l f) ∧
    (done = false → there = true → x.name.data.toList ≠ f.name.data.toList → RPut true false (acc ++ [x]) r l f) ∧
    (done = false → there = false → Op.bytesLess f.name.data.toList x.name.data.toList = true → RPut false true (acc ++ [f] ++ [x]) r l f) ∧
    (done = false → there = false → Op.bytesLess f.name.data.toList x.name.data.toList = false → RPut false false (acc ++ [x]) r l f) := by
  obtain ⟨h1, h2⟩ := h
  refine ⟨?_, ?_, ?_, ?_, ?_⟩
  · rintro rfl
    refine ⟨?_, fun _ h => by cases h⟩
    rw [← h1]; simp [restF]
  · rintro rfl rfl e
    refine ⟨?_, fun _ h => by cases h⟩
    rw [← h1]; simp [restF, setB_cons, e]
  · rintro rfl rfl e
    refine ⟨?_, fun _ _ => ?_⟩
    · rw [← h1]; simp [restF, setB_cons, e]
    · have := h2 rfl rfl
      rwa [findB_cons, if_neg e] at this
  · rintro rfl rfl e
    refine ⟨?_, fun h => by cases h⟩
    rw [← h1]; simp [restF, insB_cons, e]
  · rintro rfl rfl e
    refine ⟨?_, fun h => by cases h⟩
    rw [← h1]; simp [restF, insB_cons, e]
theorem RPut.done {there done : Bool} {acc l : List FB} {f : FB} (h : RPut there done acc [] l f) : (done = true → acc = putB l f) ∧ (done = false → there = false ∧ acc ++ [f] = putB l f) := by
  obtain ⟨h1, h2⟩ := h
  refine ⟨?_, ?_⟩
  · rintro rfl; rw [← h1]; simp [restF]
  · rintro rfl
    cases there with
    | true => have := h2 rfl rfl; simp [findB] at this
    | false => exact ⟨rfl, by rw [← h1]; simp [restF, insB]⟩
structure RW (w : World) (B : Nat) (t p : ByteArray) (q : Int) (v : Value) (f : FB) (X : World) : Prop where
  e : EAt X w.heap.size t p q v
  z : EAt X (w.heap.size + 1 + 1) ⟨#[]⟩ ⟨#[]⟩ 0 (.slice none 0 0)
  v0 : X.cell? ⟨w.heap.size + 1, 0, none⟩ = some (.bool f.num)
  v1 : X.cell? ⟨w.heap.size + 1, 1, none⟩ = some (.int .i64 f.n)
  v2 : X.cell? ⟨w.heap.size + 1, 2, none⟩ = some (.string f.s)
  b : Below w.heap.size w X
  lo : w.heap.size + 3 ≤ B
  hi : B ≤ X.heap.size
theorem RW.grow {w X Y : World} {B C : Nat} {t p : ByteArray} {q : Int} {v : Value} {f : FB} (h : RW w B t p q v f X) (hC : B ≤ C) (hb : Below C X Y) : RW w B t p q v f Y := by
  have h1 := h.lo
  have h2 := hb.size
  have h3 := h.hi
  exact ⟨h.e.growB (by omega) hb, h.z.growB (by omega) hb, by rw [hb.cell (p := ⟨w.heap.size + 1, 0, none⟩) (by show w.heap.size + 1 < _; omega)]; exact h.v0, by rw [hb.cell (p := ⟨w.heap.size + 1, 1, none⟩) (by show w.heap.size + 1 < _; omega)]; exact h.v1, by rw [hb.cell (p := ⟨w.heap.size + 1, 2, none⟩) (by show w.heap.size + 1 < _; omega)]; exact h.v2, h.b.trans (hb.mono (by omega)), h.lo, by omega⟩
def RPutRel (w : World) (B : Nat) (t p : ByteArray) (q : Int) (sv : Value) (l : List FB) (f : FB) (there : Bool) (v d i : Value) (wr : World) : Prop :=
  ∃ (k : Nat) (acc : List FB) (done : Bool), k ≤ l.length ∧ i = .int .i64 k ∧ d = .bool done ∧ Hid (FOwn 42 wr B v acc) ∧ acc.length ≤ k + 1 ∧ Hid (done = false → acc.length ≤ k) ∧ Hid (RPut there done acc (l.drop k) l f) ∧ Hid (RW w B t p q sv f wr)
set_option maxHeartbeats 2000000 in
theorem rput_c (t p : ByteArray) (q : Int) (a : Option Addr) (c : Nat) (l : List FB) (hl : l.length ≤ 1000000000) (f : FB) (w : World) (hF : Flds w a l) :
    Calls Try.prog 16 #[.agg #[.string t, .string p, .int .u64 q, .slice a l.length c], .string f.name, .agg #[.bool f.num, .int .i64 f.n, .string f.s]] w fun e w' => EvR w t p q (putB l f) e w' := by
  have HF := Lib.hid hF
  clear hF
  go_enter Try.func16, Try.ntmps16
  go_wp2_with fail
  obtain ⟨X, hX⟩ : ∃ X, ((w.alloc (.cells #[.string t, .string p, .int .u64 q, .slice a l.length c] 25)).alloc (.cells #[.bool f.num, .int .i64 f.n, .string f.s] 27)).alloc (.cells #[.string ⟨#[]⟩, .string ⟨#[]⟩, .int .u64 0, .slice none 0 0] 25) = X := ⟨_, rfl⟩
  have hR : RW w (w.heap.size + 3) t p q (.slice a l.length c) f X := by
    rw [← hX]
    refine ⟨?_, ?_, ?_, ?_, ?_, balloc _ (balloc _ (balloc _ (.refl _ _))), by omega, by simp⟩
    · constructor <;> simp [go_sem]
    · constructor <;> simp [go_sem]
    · simp [go_sem]
    · simp [go_sem]
    · simp [go_sem]
  rw [hX]
  clear hX
  refine (rget_c t p q a c l hl f.name X (HF.out.grow hR.b)).mono ?_
  rintro e w1 ⟨rfl, hb1⟩
  unfold vV
  obtain ⟨there, hth⟩ : ∃ b, (findB l f.name).isSome = b := ⟨_, rfl⟩
  rw [hth]
  have hst := RPut.start l f
  rw [hth] at hst
  have HST := Lib.hid hst
  have hR1 := hR.grow hR.hi hb1
  have hs1 : w.heap.size + 3 ≤ w1.heap.size := hR1.hi
  clear hth hst hR
  cases there with
  | true =>
    go_upto_region 5 with fail
    have hR2 := hR1.grow hR1.hi (balloc (.cells #[.bool ((findB l f.name).getD FB.zero).num, .int .i64 ((findB l f.name).getD FB.zero).n, .string ((findB l f.name).getD FB.zero).s] 27) (.refl w1.heap.size w1))
    have HR2 := Lib.hid hR2
    clear hR1 hR2 hb1 hs1
    go_loopw [9, 10, 11] (fun v d i wr => RPutRel w (w.heap.size + 3) t p q (.slice a l.length c) l f true v d i wr) (fun _ _ i _ => l.length - (intOf i).toNat)
    case atStart => exact ⟨0, [], false, by omega, rfl, rfl, FOwn.nil _ _ _, by simp, fun _ => by simp, HST.out, HR2.out⟩
    case round =>
      obtain ⟨k, acc, done, hk, rfl, rfl, HO, hacc, HAC, HRP, HW⟩ := hrel
      obtain ⟨wo, rfl⟩ : ∃ wo, wo = wr := ⟨_, rfl⟩
      have e3 := HW.out.e.c3
      have hhi := HW.out.hi
      have hw1 : w.heap.size < wo.heap.size := by omega
      have hw2 : w.heap.size + 1 < wo.heap.size := by omega
      by_cases hlt : k < l.length
      · have HF2 := Lib.hid (HF.out.grow HW.out.b)
        obtain ⟨b, o, ha, hb⟩ := HF2.out.head hlt
        subst ha
        obtain ⟨_, f0, f1, f2, f3⟩ := HF2.out.at hlt
        have hs := HRP.out
        rw [List.drop_eq_getElem_cons hlt] at hs
        obtain ⟨s1, s2, s3, s4, s5⟩ := hs.step
        have v0 := HW.out.v0
        have v1 := HW.out.v1
        have v2 := HW.out.v2
        cases done with
        | true =>
          have HS := Lib.hid (s1 rfl)
          clear s1 s2 s3 s4 s5 hs HRP
          go_wp2_with (at_builtin; refine wpList_appG fldT rfl _ _ rfl (w.heap.size + 3) _ acc rfl ((HO.out.alloc _).alloc _) (l[k]) _ rfl (FAt.new' (l[k]) _ _ _ (by simp)) (by omega) (by simp; omega) ?_; intro vv w3 O3 hb3 hk3; have HB3 := Lib.hid hb3; have HO3 := Lib.hid O3; clear O3 hb3 hk3)
          go_roundw
          case rel => exact ⟨k + 1, (acc ++ [l[k]]), true, by omega, by go_num, rfl, HO3, by simp; omega, fun h => (by cases h), HS, (HW.out.grow HW.out.hi (balloc _ (balloc _ (.refl _ _)))).grow (Nat.le_refl _) HB3.out⟩
          case measure => simp [intOf] <;> omega
        | false =>
          have hac := HAC.out rfl
          clear HAC
          by_cases hn : l[k].name.data.toList = f.name.data.toList
          · have HS := Lib.hid (s2 rfl rfl hn)
            have hne : l[k].name = f.name := str_ext hn
            rw [hne] at f0
            clear s1 s2 s3 s4 s5 hs HRP hn hne
            go_wp2_with (at_builtin; refine wpList_appG fldT rfl _ _ rfl (w.heap.size + 3) _ acc rfl ((HO.out.alloc _).alloc _) (f) _ rfl (FAt.new' (f) _ _ _ (by simp)) (by omega) (by simp; omega) ?_; intro vv w3 O3 hb3 hk3; have HB3 := Lib.hid hb3; have HO3 := Lib.hid O3; clear O3 hb3 hk3)
            go_roundw
            case rel => exact ⟨k + 1, (acc ++ [f]), true, by omega, by go_num, rfl, HO3, by simp; omega, fun h => (by cases h), HS, (HW.out.grow HW.out.hi (balloc _ (balloc _ (.refl _ _)))).grow (Nat.le_refl _) HB3.out⟩
            case measure => simp [intOf] <;> omega
          · have HS := Lib.hid (s3 rfl rfl hn)
            have d1 : (l[k].name.toList == f.name.toList) = false := strNe hn
            clear s1 s2 s3 s4 s5 hs HRP hn
            go_wp2_with (at_builtin; refine wpList_appG fldT rfl _ _ rfl (w.heap.size + 3) _ acc rfl ((HO.out.alloc _).alloc _) (l[k]) _ rfl (FAt.new' (l[k]) _ _ _ (by simp)) (by omega) (by simp; omega) ?_; intro vv w3 O3 hb3 hk3; have HB3 := Lib.hid hb3; have HO3 := Lib.hid O3; clear O3 hb3 hk3)
            go_roundw
            case rel => exact ⟨k + 1, (acc ++ [l[k]]), false, by omega, by go_num, rfl, HO3, by simp; omega, fun _ => (by simp; omega), HS, (HW.out.grow HW.out.hi (balloc _ (balloc _ (.refl _ _)))).grow (Nat.le_refl _) HB3.out⟩
            case measure => simp [intOf] <;> omega
      · have hs := HRP.out
        rw [List.drop_eq_nil_of_le (by omega)] at hs
        obtain ⟨z0, z1, z2, z3, z4, z5, z6, z7⟩ := HW.out.z
        obtain ⟨d0, d1, d2, d3, d4, d5, d6, d7⟩ := HW.out.e
        have v0 := HW.out.v0
        have v1 := HW.out.v1
        have v2 := HW.out.v2
        cases done with
        | true =>
          have HL := Lib.hid (hs.done.1 rfl)
          have O2 := HO.out
          clear hs HRP HO
          obtain ⟨av, cv, hv, _, _, _, hS⟩ := O2.flds
          subst hv
          have O5 := (((O2.set (b := w.heap.size + 1 + 1) (o := 0) (by omega) (.string t)).set (b := w.heap.size + 1 + 1) (o := 1) (by omega) (.string p)).set (b := w.heap.size + 1 + 1) (o := 2) (by omega) (.int .u64 q)).set (b := w.heap.size + 1 + 1) (o := 3) (by omega) (.slice av (acc).length cv)
          obtain ⟨av2, cv2, hv2, hfl, _, _, hS2⟩ := O5.flds
          obtain ⟨rfl, rfl⟩ : av = av2 ∧ cv = cv2 := by simpa using hv2
          rw [HL.out] at hfl hS2
          have HFL := Lib.hid hfl
          have HLL := Lib.hid (congrArg List.length HL.out)
          clear hS hfl O5 O2 hv2
          go_wp2_with fail
          refine bodyPost_ret (v := .agg #[.string t, .string p, .int .u64 q, .slice av (acc).length cv]) (by simp [results, Try.results16, go_sem, *]) rfl ⟨av, cv, by rw [← HLL.out], ?_, hS2, ?_⟩
          · rw [← HLL.out] at HFL; exact HFL.out
          · exact bset _ (by show w.heap.size ≤ w.heap.size + 1 + 1; omega) (bset _ (by show w.heap.size ≤ w.heap.size + 1 + 1; omega) (bset _ (by show w.heap.size ≤ w.heap.size + 1 + 1; omega) (bset _ (by show w.heap.size ≤ w.heap.size + 1 + 1; omega) HW.out.b)))
        | false =>
          exact absurd (hs.done.2 rfl).1 (by simp)
  | false =>
    go_upto_region 5 with fail
    have hR2 := hR1.grow hR1.hi (balloc (.cells #[.bool ((findB l f.name).getD FB.zero).num, .int .i64 ((findB l f.name).getD FB.zero).n, .string ((findB l f.name).getD FB.zero).s] 27) (.refl w1.heap.size w1))
    have HR2 := Lib.hid hR2
    clear hR1 hR2 hb1 hs1
    go_loopw [9, 10, 11] (fun v d i wr => RPutRel w (w.heap.size + 3) t p q (.slice a l.length c) l f false v d i wr) (fun _ _ i _ => l.length - (intOf i).toNat)
    case atStart => exact ⟨0, [], false, by omega, rfl, rfl, FOwn.nil _ _ _, by simp, fun _ => by simp, HST.out, HR2.out⟩
    case round =>
      obtain ⟨k, acc, done, hk, rfl, rfl, HO, hacc, HAC, HRP, HW⟩ := hrel
      obtain ⟨wo, rfl⟩ : ∃ wo, wo = wr := ⟨_, rfl⟩
      have e3 := HW.out.e.c3
      have hhi := HW.out.hi
      have hw1 : w.heap.size < wo.heap.size := by omega
      have hw2 : w.heap.size + 1 < wo.heap.size := by omega
      by_cases hlt : k < l.length
      · have HF2 := Lib.hid (HF.out.grow HW.out.b)
        obtain ⟨b, o, ha, hb⟩ := HF2.out.head hlt
        subst ha
        obtain ⟨_, f0, f1, f2, f3⟩ := HF2.out.at hlt
        have hs := HRP.out
        rw [List.drop_eq_getElem_cons hlt] at hs
        obtain ⟨s1, s2, s3, s4, s5⟩ := hs.step
        have v0 := HW.out.v0
        have v1 := HW.out.v1
        have v2 := HW.out.v2
        cases done with
        | true =>
          have HS := Lib.hid (s1 rfl)
          clear s1 s2 s3 s4 s5 hs HRP
          go_wp2_with (at_builtin; refine wpList_appG fldT rfl _ _ rfl (w.heap.size + 3) _ acc rfl ((HO.out.alloc _).alloc _) (l[k]) _ rfl (FAt.new' (l[k]) _ _ _ (by simp)) (by omega) (by simp; omega) ?_; intro vv w3 O3 hb3 hk3; have HB3 := Lib.hid hb3; have HO3 := Lib.hid O3; clear O3 hb3 hk3)
          go_roundw
          case rel => exact ⟨k + 1, (acc ++ [l[k]]), true, by omega, by go_num, rfl, HO3, by simp; omega, fun h => (by cases h), HS, (HW.out.grow HW.out.hi (balloc _ (balloc _ (.refl _ _)))).grow (Nat.le_refl _) HB3.out⟩
          case measure => simp [intOf] <;> omega
        | false =>
          have hac := HAC.out rfl
          clear HAC
          rcases less_total l[k].name.data.toList f.name.data.toList with hl1 | hl1 | hl1
          · have hl2 := less_asymm hl1
            have HS := Lib.hid (s5 rfl rfl hl2)
            have d1 : Op.bytesLess l[k].name.toList f.name.toList = true := by rw [str_toList, str_toList]; exact hl1
            clear s1 s2 s3 s4 s5 hs HRP hl1 hl2
            go_wp2_with (at_builtin; refine wpList_appG fldT rfl _ _ rfl (w.heap.size + 3) _ acc rfl ((HO.out.alloc _).alloc _) (l[k]) _ rfl (FAt.new' (l[k]) _ _ _ (by simp)) (by omega) (by simp; omega) ?_; intro vv w3 O3 hb3 hk3; have HB3 := Lib.hid hb3; have HO3 := Lib.hid O3; clear O3 hb3 hk3)
            go_roundw
            case rel => exact ⟨k + 1, (acc ++ [l[k]]), false, by omega, by go_num, rfl, HO3, by simp; omega, fun _ => (by simp; omega), HS, (HW.out.grow HW.out.hi (balloc _ (balloc _ (.refl _ _)))).grow (Nat.le_refl _) HB3.out⟩
            case measure => simp [intOf] <;> omega
          · have hl2 : Op.bytesLess f.name.data.toList l[k].name.data.toList = false := by rw [hl1]; exact less_irrefl _
            have HS := Lib.hid (s5 rfl rfl hl2)
            have hne : l[k].name = f.name := str_ext hl1
            have d1 : Op.bytesLess l[k].name.toList f.name.toList = false := by rw [str_toList, str_toList, hl1]; exact less_irrefl _
            have d2 : (l[k].name.toList == f.name.toList) = true := strEq hl1
            clear s1 s2 s3 s4 s5 hs HRP hl1 hl2 hne
            go_wp2_with (at_builtin; refine wpList_appG fldT rfl _ _ rfl (w.heap.size + 3) _ acc rfl ((HO.out.alloc _).alloc _) (l[k]) _ rfl (FAt.new' (l[k]) _ _ _ (by simp)) (by omega) (by simp; omega) ?_; intro vv w3 O3 hb3 hk3; have HB3 := Lib.hid hb3; have HO3 := Lib.hid O3; clear O3 hb3 hk3)
            go_roundw
            case rel => exact ⟨k + 1, (acc ++ [l[k]]), false, by omega, by go_num, rfl, HO3, by simp; omega, fun _ => (by simp; omega), HS, (HW.out.grow HW.out.hi (balloc _ (balloc _ (.refl _ _)))).grow (Nat.le_refl _) HB3.out⟩
            case measure => simp [intOf] <;> omega
          · have HS := Lib.hid (s4 rfl rfl hl1)
            have d1 : Op.bytesLess l[k].name.toList f.name.toList = false := by rw [str_toList, str_toList]; exact less_asymm hl1
            have d2 : (l[k].name.toList == f.name.toList) = false := strNe (fun e => by rw [e, less_irrefl] at hl1; cases hl1)
            clear s1 s2 s3 s4 s5 hs HRP hl1
            go_wp2_with (first | (at_builtin; refine wpList_appG fldT rfl (.tmp 56) (.tmp 60) rfl (w.heap.size + 3) _ acc rfl ((HO.out.alloc _).alloc _) f _ rfl (FAt.new' f _ _ _ (by simp)) (by omega) (by simp; omega) ?_; intro vv w3 O3 hb3 hk3; have FX := ((FAt.new l[k] wo 42).grow (by simp) (balloc _ (.refl _ _))).of_block (hk3 wo.heap.size (by simp; omega) (Away.of HO.out (Nat.le_refl _))); obtain ⟨g0, g1, g2, g3⟩ := FX; simp only [Nat.zero_add] at g1 g2 g3; have hz3 : wo.heap.size < w3.heap.size := (by have := hb3.size; simp at this; omega); have HB3 := Lib.hid hb3; have HO3 := Lib.hid O3; clear O3 hb3 hk3) | (at_builtin; refine wpList_appG fldT rfl (.tmp 62) (.tmp 64) rfl (w.heap.size + 3) _ (acc ++ [f]) rfl (HO3.out.alloc _) l[k] _ rfl (FAt.new' l[k] _ _ _ (by simp)) (by simp; omega) (by simp; omega) ?_; intro vv2 w4 O4 hb4 hk4; have HB4 := Lib.hid hb4; have HO4 := Lib.hid O4; clear O4 hb4 hk4))
            go_roundw
            case rel => exact ⟨k + 1, acc ++ [f] ++ [l[k]], true, by omega, by go_num, rfl, HO4, by simp; omega, fun h => (by cases h), HS, ((((HW.out.grow HW.out.hi (balloc _ (balloc _ (.refl _ _)))).grow (Nat.le_refl _) HB3.out).grow (by omega : w.heap.size + 3 ≤ w3.heap.size) (balloc _ (.refl _ _)))).grow (Nat.le_refl _) HB4.out⟩
            case measure => simp [intOf] <;> omega
      · have hs := HRP.out
        rw [List.drop_eq_nil_of_le (by omega)] at hs
        obtain ⟨z0, z1, z2, z3, z4, z5, z6, z7⟩ := HW.out.z
        obtain ⟨d0, d1, d2, d3, d4, d5, d6, d7⟩ := HW.out.e
        have v0 := HW.out.v0
        have v1 := HW.out.v1
        have v2 := HW.out.v2
        cases done with
        | true =>
          have HL := Lib.hid (hs.done.1 rfl)
          have O2 := HO.out
          clear hs HRP HO
          obtain ⟨av, cv, hv, _, _, _, hS⟩ := O2.flds
          subst hv
          have O5 := (((O2.set (b := w.heap.size + 1 + 1) (o := 0) (by omega) (.string t)).set (b := w.heap.size + 1 + 1) (o := 1) (by omega) (.string p)).set (b := w.heap.size + 1 + 1) (o := 2) (by omega) (.int .u64 q)).set (b := w.heap.size + 1 + 1) (o := 3) (by omega) (.slice av (acc).length cv)
          obtain ⟨av2, cv2, hv2, hfl, _, _, hS2⟩ := O5.flds
          obtain ⟨rfl, rfl⟩ : av = av2 ∧ cv = cv2 := by simpa using hv2
          rw [HL.out] at hfl hS2
          have HFL := Lib.hid hfl
          have HLL := Lib.hid (congrArg List.length HL.out)
          clear hS hfl O5 O2 hv2
          go_wp2_with fail
          refine bodyPost_ret (v := .agg #[.string t, .string p, .int .u64 q, .slice av (acc).length cv]) (by simp [results, Try.results16, go_sem, *]) rfl ⟨av, cv, by rw [← HLL.out], ?_, hS2, ?_⟩
          · rw [← HLL.out] at HFL; exact HFL.out
          · exact bset _ (by show w.heap.size ≤ w.heap.size + 1 + 1; omega) (bset _ (by show w.heap.size ≤ w.heap.size + 1 + 1; omega) (bset _ (by show w.heap.size ≤ w.heap.size + 1 + 1; omega) (bset _ (by show w.heap.size ≤ w.heap.size + 1 + 1; omega) HW.out.b)))
        | false =>
          have HL0 := Lib.hid (hs.done.2 rfl).2
          clear hs HRP z0 z1 z2 z3 z4 z5 z6 z7 d0 d1 d2 d3 d4 d5 d6 d7
          obtain ⟨L, hLL⟩ : ∃ L, acc ++ [f] = L := ⟨_, rfl⟩
          have HLL0 := Lib.hid hLL
          have HL := Lib.hid (hLL.symm.trans HL0.out)
          clear hLL
          go_wp2_with (at_builtin; refine wpList_appG fldT rfl _ _ rfl (w.heap.size + 3) _ acc rfl (HO.out.alloc _) f _ rfl (FAt.new' f _ _ _ (by simp)) (by omega) (by simp; omega) ?_; intro vv w3 O2 hb3 hk3; rw [HLL0.out] at O2; have HW3 := Lib.hid ((HW.out.grow HW.out.hi (balloc _ (.refl _ _))).grow (Nat.le_refl _) hb3); obtain ⟨z0, z1, z2, z3, z4, z5, z6, z7⟩ := HW3.out.z; obtain ⟨d0, d1, d2, d3, d4, d5, d6, d7⟩ := HW3.out.e; have hhi3 := HW3.out.hi; have hw13 : w.heap.size < w3.heap.size := (by omega); obtain ⟨av, cv, hv, _, _, _, hS⟩ := O2.flds; subst hv; have OO := Lib.hid O2; clear O2 hb3 hk3)
          have O5 := (((OO.out.set (b := w.heap.size + 1 + 1) (o := 0) (by omega) (.string t)).set (b := w.heap.size + 1 + 1) (o := 1) (by omega) (.string p)).set (b := w.heap.size + 1 + 1) (o := 2) (by omega) (.int .u64 q)).set (b := w.heap.size + 1 + 1) (o := 3) (by omega) (.slice av L.length cv)
          obtain ⟨av2, cv2, hv2, hfl, _, _, hS2⟩ := O5.flds
          obtain ⟨rfl, rfl⟩ : av = av2 ∧ cv = cv2 := by simpa using hv2
          rw [HL.out] at hfl hS2
          have HFL := Lib.hid hfl
          have HLL := Lib.hid (congrArg List.length HL.out)
          clear hS hfl O5 hv2
          refine bodyPost_ret (v := .agg #[.string t, .string p, .int .u64 q, .slice av L.length cv]) (by simp [results, Try.results16, go_sem, *]) rfl ⟨av, cv, by rw [← HLL.out], ?_, hS2, ?_⟩
          · rw [← HLL.out] at HFL; exact HFL.out
          · exact bset _ (by show w.heap.size ≤ w.heap.size + 1 + 1; omega) (bset _ (by show w.heap.size ≤ w.heap.size + 1 + 1; omega) (bset _ (by show w.heap.size ≤ w.heap.size + 1 + 1; omega) (bset _ (by show w.heap.size ≤ w.heap.size + 1 + 1; omega) HW3.out.b)))
end Go.Proofs.Ytfohdjgalmodbaa
