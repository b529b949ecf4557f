/- the law OffsReads -/
/- The law OffsReads. -/
import Derived.Test.YtmlbdblnmbmnpaaGreatDoorProg
import Derived.WalkKit
import Derived.WalkSpells
import Derived.WalkLawsBesides
import Derived.Lib.Hide
import Derived.Deep.RegionWith
import Derived.Deep.Cut
import Derived.IntWalk
import Derived.Test.YtmlbdblnmbmnpaaGreatDoorPuts14
import Derived.Test.YtmlbdblnmbmnpaaGreatDoorRNextP14
import Derived.Test.YtmlbdblnmbmnpaaGreatDoorFewDB14
import Derived.Test.YtmlbdblnmbmnpaaGreatDoorTopOC
import Derived.Test.YtmlbdblnmbmnpaaGreatDoorROffA
import Derived.Test.YtmlbdblnmbmnpaaGreatDoorR12
set_option linter.unusedVariables false
set_option linter.unusedSimpArgs false

namespace Go.Proofs.YtmlbdblnmbmnpaaGreatDoor
open Go.RowKit Tryst
set_option maxHeartbeats 16000000
set_option maxRecDepth 20000
theorem DOB.lowr {base base' : Nat} {w : World} {d : DB} (h : DOB base w d) (hb : base' ≤ base) : DOB base' w d :=
 ⟨h.o, fun b o e => Nat.le_trans hb (h.ga b o e), fun b o e => Nat.le_trans hb (h.wa b o e), fun p hp => ⟨(h.ps p hp).1.grow (.refl _ _) (fun b h => Nat.le_trans hb h), (h.ps p hp).2⟩⟩
def RdO (want : ByteArray → Bool) (T : List Tp) (W1 : World) (s m i : Value) (wr : World) : Prop := ∃ (k many : Nat) (a : Option Addr) (c : Nat) (L : List OB), s = .slice a L.length c ∧ L = readO want T k 0 ∧ k ≤ T.length ∧ many ≤ 60 ∧ i = .int .i64 k ∧ m = .int .i64 many ∧ Hid (OL wr a c L) ∧ Hid (Below W1.heap.size W1 wr)
def RdI (R : Nat → List OB) (n : Nat) (Z : World) (s m i : Value) (wr : World) : Prop := ∃ (j many : Nat) (a : Option Addr) (c : Nat), s = .slice a (R j).length c ∧ j ≤ n ∧ many ≤ 60 ∧ i = .int .i64 j ∧ m = .int .i64 many ∧ Hid (OL wr a c (R j)) ∧ Hid (Below Z.heap.size Z wr)
theorem fewT_of {T tl : List TB} (h : T.map TB.tp = fewTs (tl.map TB.tp)) (hJ : ∀ t ∈ tl, -9223372036854775808 ≤ t.first ∧ t.first ≤ 9223372036854775807) : T.length ≤ 21 ∧ ∀ t ∈ T, t.name.size ≤ 60 ∧ (∀ s ∈ t.log, s.size ≤ 900) ∧ t.log.length ≤ 101 ∧ -9223372036854775808 ≤ t.first ∧ t.first ≤ 9223372036854775807 := by
 constructor
 ·
  have := congrArg List.length h
  simp [fewTs] at this; omega
 ·
  intro t ht
  have h1 : t.tp ∈ fewTs (tl.map TB.tp) := by rw [← h]; exact List.mem_map.2 ⟨t, ht, rfl⟩
  obtain ⟨u, hu, he⟩ := List.mem_map.1 h1
  obtain ⟨v, hv, rfl⟩ := List.mem_map.1 (List.mem_of_mem_take hu)
  have e1 : few60 v.name = t.name := congrArg Tp.name he
  have e2 : v.first = t.first := congrArg Tp.first he
  have e3 : (v.log.take 101).map few9 = t.log := congrArg Tp.log he
  have hb := hJ v hv
  rw [← e1, ← e2, ← e3]
  refine ⟨few60_le _, fun s hs => ?_, by simp; omega, hb⟩
  obtain ⟨s', _, rfl⟩ := List.mem_map.1 hs
  exact few9_le s'
theorem readO_size {want : ByteArray → Bool} {T : List Tp} {i k N : Nat} (h : ∀ t ∈ T, t.name.size ≤ N) : ∀ x ∈ readO want T i k, x.topic.size ≤ N := by
 intro x hx
 unfold readO at hx
 rcases List.mem_append.1 hx with h1 | h1
 ·
  obtain ⟨j, hj, h2, _⟩ := seen_mem h1
  rw [h2]
  exact h _ (List.mem_of_mem_take (List.getElem_mem hj))
 ·
  cases k with
  | zero => cases hT : T[i]? <;> simp [hT] at h1
  | succ k =>
   cases hT : T[i]? with
   | none => simp [hT] at h1
   | some t =>
    simp [hT] at h1
    rw [h1]
    exact h t (List.mem_of_getElem? hT)
theorem readO_len (want : ByteArray → Bool) (T : List Tp) (i k : Nat) : (readO want T i k).length ≤ i + 1 := by
 unfold readO
 have := seen_len want T i
 rw [List.length_append]
 have h2 : ∀ (o : Option Tp), (match o, k with | some t, k + 1 => [(⟨t.name, t.first + ((k : Int) + 1)⟩ : OB)] | _, _ => []).length ≤ 1 := by
  intro o
  cases o with
  | none => simp
  | some t => cases k <;> simp
 have h3 := h2 T[i]?
 have h4 : (seenT want (T.take i)).length + (match T[i]?, k with | some t, k + 1 => [(⟨t.name, t.first + ((k : Int) + 1)⟩ : OB)] | _, _ => []).length ≤ i + 1 := Nat.add_le_add this h3
 exact h4
/-- one step of the reading: what offs.Next and offs.Put tell -/
def RStep (dv : Value) (a2 : Option Addr) (c2 n2 : Nat) (tn : ByteArray) (x : Int) (L L' : List OB) (a : Option Addr) (c : Nat) (W : World) : Prop :=
 Calls Tryz.prog 15 #[dv, .slice a L.length c, .slice a2 n2 c2] W (fun e w' => e = .returned (.tuple #[.string tn, .int .i64 x, .int .i64 0]) ∧ Below W.heap.size W w') ∧
 ∀ W', Below W.heap.size W W' → Calls Tryz.prog 13 #[.slice a L.length c, .string tn, .int .i64 (x + 1)] W' (fun e w' => ∃ a' c', e = .returned (.tuple #[.slice a' L'.length c', .int .i64 0]) ∧ OL w' a' c' L' ∧ Below W'.heap.size W' w')
theorem nextV_at {d : DB} {l : List OB} {T : List Tp} {x : ByteArray × Int} (h1 : mayD d = true) (h2 : checkO l = true) (h3 : topsMay T = true) (h : nextP (wantsD d) l T = some x) : nextV d l T = (x.1, x.2, 0) := by
 unfold nextV
 rw [if_pos ⟨h1, h2, h3⟩, h]
 rfl
theorem nextV_end {d : DB} {l : List OB} {T : List Tp} (h1 : mayD d = true) (h2 : checkO l = true) (h3 : topsMay T = true) (h : nextP (wantsD d) l T = none) : nextV d l T = (⟨#[]⟩, 0, 4) := by
 unfold nextV
 rw [if_pos ⟨h1, h2, h3⟩, h]
 rfl
theorem offsReads_c (d : DB) (ta : Option Addr) (tl : List TB) (tc : Nat) (w : World) (hM : MaxW w) (hD : DArg w d) (hT : TopsA w ta tl) (hJ : TArg tl) (hn : tl.length ≤ 9223372036854775807) :
  Calls Tryz.prog 4 #[d.agg, .slice ta tl.length tc] w fun e w' => e = .returned (.bool true) ∧ Below w.heap.size w w' := by
 have CD := Lib.hid (fun W (hb : Below w.heap.size w W) => fewDB_c d W (hD.grow hb))
 have CT := Lib.hid (fun W (hb : Below w.heap.size w W) => few12o_c ta tc tl hn (fun t ht => ⟨(hJ t ht).1, (hJ t ht).2.1, (hJ t ht).2.2.1⟩) W (hT.grow hb))
 have HM := Lib.hid (fun W (hb : Below w.heap.size w W) => hM.grow hb)
 have CA := Lib.hid (fun W (hb : Below w.heap.size w W) => awake14_c W (hM.grow hb))
 have HJ := Lib.hid (fun t ht => And.intro (hJ t ht).2.2.2.1 (hJ t ht).2.2.2.2)
 clear hM hD hT hJ
 obtain ⟨nm, ga, gl, gc, wa, wl, wc, ky, ⟨kd, n0, n1, n2⟩⟩ := d
 unfold DB.agg at CD ⊢
 simp only at CD ⊢
 go_enter Tryz.func4, Tryz.ntmps4
 go_upto_region 1 with fail
 refine wp_genC (fun v => Hid (DX v w.heap.size nm (.slice ga gl.length gc) (.slice wa wl.length wc) ky kd n0 n1 n2) ∧ Hid (Below w.heap.size w v)) ⟨DX.new _ _ _ _ _ _ _ _ _, balloc _ (.refl _ _)⟩ ?_
 rintro Y ⟨HX, HY⟩
 obtain ⟨x0, x1, x2, x3, x4, x5, x6, x7, x8⟩ := HX.out.box
 go_wp2_with fail
 refine (CD.out _ HY.out).mono ?_
 rintro e w1 ⟨d, rfl, hd, hb1⟩
 have HX1 := Lib.hid (HX.out.grow hb1)
 have HY1 := Lib.hid (bstep hb1 HY.out)
 have HD1 := Lib.hid (hd.lowr (show w.heap.size + 1 ≤ Y.heap.size by omega))
 clear hb1 hd HX HY CD x0 x1 x2 x3 x4 x5 x6 x7 x8
 obtain ⟨x0, x1, x2, x3, x4, x5, x6, x7, x8⟩ := HX1.out.box
 go_wp2_with fail
 refine (CT.out _ HY1.out).mono ?_
 rintro e w2 ⟨tv, rfl, ⟨a2, c2, T, rfl, hT1, hT2, hT3⟩, hb2⟩
 have HX2 := Lib.hid (HX1.out.grow hb2)
 have HY2 := Lib.hid (bstep hb2 HY1.out)
 have HD2 := Lib.hid (HD1.out.grow hb2)
 have hz1 : w.heap.size + 1 ≤ w1.heap.size := by have := HX1.out.box.lt; omega
 have HT2 := Lib.hid hT2
 have HT3 := Lib.hid hT3
 have HTP := Lib.hid hT1
 clear hb2 hT1 hT2 hT3 HX1 HY1 HD1 CT x0 x1 x2 x3 x4 x5 x6 x7 x8
 obtain ⟨x0, x1, x2, x3, x4, x5, x6, x7, x8⟩ := HX2.out.box
 have z0 := HX2.out.fz 0
 have z1 := HX2.out.fz 1
 have z2 := HX2.out.fz 2
 have z3 := HX2.out.fz 3
 have z4 := HX2.out.fz 4
 have z5 := HX2.out.fz 5
 have z6 := HX2.out.fz 6
 have z7 := HX2.out.fz 7
 obtain ⟨nm, ga, gl, gc, wa, wl, wc, ky, ⟨kd, n0, n1, n2⟩⟩ := d
 simp only
 go_upto_region 2 with fail
 refine wp_genC (fun v => Hid (DX v w.heap.size nm (.slice ga gl.length gc) (.slice wa wl.length wc) ky kd n0 n1 n2) ∧ Hid (Below w.heap.size w v) ∧ Hid (DO v ⟨nm, ga, gl, gc, wa, wl, wc, ky, ⟨kd, n0, n1, n2⟩⟩) ∧ Hid (Tops v a2 T)) ?_ ?_
 ·
  show Hid (DX (DS8 w2 w.heap.size nm (.slice ga gl.length gc) (.slice wa wl.length wc) ky kd n0 n1 n2) w.heap.size nm (.slice ga gl.length gc) (.slice wa wl.length wc) ky kd n0 n1 n2) ∧ _ ∧ _ ∧ _
  have hk : ∀ b, w.heap.size + 1 ≤ b → (DS8 w2 w.heap.size nm (.slice ga gl.length gc) (.slice wa wl.length wc) ky kd n0 n1 n2).heap[b]? = w2.heap[b]? := fun b hb => DS8.away (by omega)
  have hz : w2.heap.size ≤ (DS8 w2 w.heap.size nm (.slice ga gl.length gc) (.slice wa wl.length wc) ky kd n0 n1 n2).heap.size := by rw [DS8.size]; exact Nat.le_refl _
  have h5 : TOwn (DS8 w2 w.heap.size nm (.slice ga gl.length gc) (.slice wa wl.length wc) ky kd n0 n1 n2) w1.heap.size (.slice a2 T.length c2) T := own_stays HT2.out (fun A n c hv => hk _ (by
   have := (World.ownsRow.lt HT2.out A.block (by rw [hv]; rfl)).1
   omega))
  have h6 : TLogO (DS8 w2 w.heap.size nm (.slice ga gl.length gc) (.slice wa wl.length wc) ky kd n0 n1 n2) w1.heap.size T T.length := fun i hi hik => own_stays (HT3.out i hi hik) (fun A n c hv => hk _ (by
   have := (World.ownsRow.lt (HT3.out i hi hik) A.block (by rw [hv]; rfl)).1
   omega))
  exact ⟨DS8.box HX2.out, DS8.below (Nat.le_refl _) HY2.out, (HD2.out.keep hk hz).o, (TOwn.tops h5 (h6.logs (Nat.le_refl _))).1⟩
 rintro Z ⟨HX, HB, HD, HT⟩
 clear x0 x1 x2 x3 x4 x5 x6 x7 x8 z0 z1 z2 z3 z4 z5 z6 z7 HX2 HY2 HD2 HT2 HT3 hz1
 obtain ⟨hTn, hTa⟩ := fewT_of HTP.out HJ.out
 have HTA := Lib.hid hTa
 have hTI : TIn T := fun t ht => by
  obtain ⟨r1, r2, r3, r4, r5⟩ := HTA.out t ht
  exact ⟨by omega, fun s hs => by have := r2 s hs; omega, by omega, r4, r5⟩
 have HTI := Lib.hid hTI
 have HMZ := Lib.hid (fun W (hb : Below Z.heap.size Z W) => HM.out W (bstep hb HB.out))
 have CM := Lib.hid (fun W (hb : Below Z.heap.size Z W) => rdmay_c ⟨nm, ga, gl, gc, wa, wl, wc, ky, ⟨kd, n0, n1, n2⟩⟩ W (HD.out.grow hb))
 have CR := Lib.hid (fun W (hb : Below Z.heap.size Z W) => rmay12_c a2 c2 T (by omega) HTI.out (fun t ht => by have := (HTA.out t ht).1; omega) W ((Tops.a HT.out).grow hb))
 have CA2 := Lib.hid (fun W (hb : Below Z.heap.size Z W) => CA.out W (bstep hb HB.out))
 have CW := Lib.hid (fun (k : Nat) (hk : k < T.length) W (hb : Below Z.heap.size Z W) => rdwants_c ⟨nm, ga, gl, gc, wa, wl, wc, ky, ⟨kd, n0, n1, n2⟩⟩ T[k].name (by have := (HTA.out _ (List.getElem_mem hk)).1; omega) W (HD.out.grow hb))
 have CN := Lib.hid (fun (a : Option Addr) (c : Nat) (L : List OB) W (hb : Below Z.heap.size Z W) (hL : OL W a c L) => onext_c ⟨nm, ga, gl, gc, wa, wl, wc, ky, ⟨kd, n0, n1, n2⟩⟩ a c L a2 c2 T (by have := hL.n; omega) (fun x hx => Nat.le_trans (hL.z x hx) (by decide)) (by omega) HTI.out (fun t ht => by have := (HTA.out t ht).1; omega) W (HMZ.out W hb) (HD.out.grow hb) hL.r.r ((Tops.a HT.out).grow hb))
 have HF := Lib.hid (fun W (hb : Below Z.heap.size Z W) => (Tops.a HT.out).grow hb)
 have HTS : Hid (∀ t ∈ T.map TB.tp, t.name.size ≤ 100000) := Lib.hid (fun t ht => by
  obtain ⟨u, hu, rfl⟩ := List.mem_map.1 ht
  exact Nat.le_trans (HTA.out u hu).1 (by decide))
 have HZB := Lib.hid HB.out
 obtain ⟨D, hD⟩ : ∃ D : DB, D = ⟨nm, ga, gl, gc, wa, wl, wc, ky, ⟨kd, n0, n1, n2⟩⟩ := ⟨_, rfl⟩
 have HDA : Hid (D.agg = .agg #[.string nm, .slice ga gl.length gc, .slice wa wl.length wc, .string ky, .string kd, .int .i64 n0, .int .i64 n1, .int .i64 n2]) := Lib.hid (by rw [hD]; rfl)
 rw [← hD] at CM CW CN
 obtain ⟨want, hwant⟩ : ∃ f, wantsD D = f := ⟨_, rfl⟩
 obtain ⟨mb, hmb⟩ : ∃ b, mayD D = b := ⟨_, rfl⟩
 obtain ⟨tb, htb⟩ : ∃ b, topsMay (T.map TB.tp) = b := ⟨_, rfl⟩
 rw [hmb] at CM CW
 rw [hwant] at CW
 rw [htb] at CR
 rw [HDA.out] at CM CW CN
 have HMB := Lib.hid hmb
 have HTB := Lib.hid htb
 have HWA := Lib.hid hwant
 clear hD hmb htb hwant HTI HTA hTI hTa HM CA HJ HTP HB HD HT
 have HXZ := Lib.hid (fun W (hb : Below Z.heap.size Z W) => HX.out.grow hb)
 generalize w.heap.size = g at HX HXZ ⊢
 obtain ⟨x0, x1, x2, x3, x4, x5, x6, x7, x8⟩ := HX.out.box
 go_wp2_with fail
 refine (CM.out _ (.refl _ _)).mono ?_
 rintro e w3 ⟨rfl, hb3⟩
 have HB3 := Lib.hid hb3
 clear hb3 CM x0 x1 x2 x3 x4 x5 x6 x7 x8
 cases mb with
 | false =>
  go_wp2_with fail
  refine (CA2.out _ HB3.out).mono ?_
  rintro e w4 ⟨rfl, hb4⟩
  go_wp2_with fail
  go_ret
  exact ⟨rfl, bstep hb4 (bstep HB3.out HZB.out)⟩
 | true =>
  go_wp2_with fail
  refine (CR.out _ HB3.out).mono ?_
  rintro e w4 ⟨rfl, hb4⟩
  have HB4 := Lib.hid (bstep hb4 HB3.out)
  clear hb4 CR HB3
  cases tb with
  | false =>
   go_wp2_with fail
   refine (CA2.out _ HB4.out).mono ?_
   rintro e w5 ⟨rfl, hb5⟩
   go_wp2_with fail
   go_ret
   exact ⟨rfl, bstep hb5 (bstep HB4.out HZB.out)⟩
  | true =>
   go_wp2_with fail
   go_loopw [5, 6, 7] (fun s m i wr => RdO want (T.map TB.tp) Z s m i wr) (fun _ _ i _ => T.length - (intOf i).toNat)
   case atStart => exact ⟨0, 0, none, 0, [], rfl, (by rw [readO_zero]; rfl), by omega, by omega, rfl, rfl, Lib.hid ⟨⟨Row.nil _ _ _⟩, ⟨by simp, fun A h => (by cases h), fun _ => rfl⟩, by simp, by simp⟩, HB4⟩
   case round =>
    obtain ⟨k, many, a, c, L, rfl, hL, hk, hmany, rfl, rfl, HO, HW⟩ := hrel
    obtain ⟨wo, rfl⟩ : ∃ wo, wo = wr := ⟨_, rfl⟩
    rw [List.length_map] at hk
    have HXo := Lib.hid (HXZ.out wo HW.out)
    have HLL := Lib.hid hL
    clear HB4 hL HX
    by_cases hlt : k < T.length
    ·
     obtain ⟨b, o, ha, hb⟩ := (HF.out wo HW.out).head hlt
     subst ha
     have hfat := Lib.hid (fun W (hb : Below Z.heap.size Z W) => ((HF.out W hb).at hlt).2.1)
     have HCW := Lib.hid (CW.out k hlt)
     have hnm : ((T.map TB.tp)[k]'(by simpa using hlt)).name = T[k].name := by rw [List.getElem_map]; rfl
     have hfi : ((T.map TB.tp)[k]'(by simpa using hlt)).first = T[k].first := by rw [List.getElem_map]; rfl
     have hlo : ((T.map TB.tp)[k]'(by simpa using hlt)).log.length = T[k].log.length := by rw [List.getElem_map]; rfl
     obtain ⟨_, q1, q2, q3⟩ := topic_may (topsMay_ok HTB.out).1 (i := k) (by simpa using hlt)
     have hnext : want T[k].name = true → readO want (T.map TB.tp) k T[k].log.length = readO want (T.map TB.tp) (k + 1) 0 := fun h => by
      have := readO_next (want := want) (T := T.map TB.tp) (i := k) (by simpa using hlt) (by rw [hnm]; exact h)
      rwa [hlo] at this
     have hskip : want T[k].name = false → readO want (T.map TB.tp) k 0 = readO want (T.map TB.tp) (k + 1) 0 := fun h => readO_skip (want := want) (T := T.map TB.tp) (i := k) (by simpa using hlt) (by rw [hnm]; exact h)
     have hns : T[k].name.size ≤ 100000 := by rw [← hnm]; exact HTS.out _ (List.getElem_mem _)
     have hstep : want T[k].name = true → ∀ (j : Nat), j < T[k].log.length → ∀ (a : Option Addr) (c : Nat) (W : World), Below Z.heap.size Z W → OL W a c (readO want (T.map TB.tp) k j) → RStep (.agg #[.string nm, .slice ga gl.length gc, .slice wa wl.length wc, .string ky, .string kd, .int .i64 n0, .int .i64 n1, .int .i64 n2]) (some ⟨b, o, none⟩) c2 T.length T[k].name (T[k].first + (j : Int)) (readO want (T.map TB.tp) k j) (readO want (T.map TB.tp) k (j + 1)) a c W := by
      intro hw j hj a c W hb hL
      have h1 := read_next (want := want) HTB.out (i := k) (k := j) (by simpa using hlt) (by rw [hnm]; exact hw) (by rw [hlo]; exact hj)
      have h2 := read_put (want := want) HTB.out (i := k) (k := j) (by simpa using hlt) (by rw [hlo]; exact hj)
      rw [hnm, hfi] at h1 h2
      have h3 : nextV D (readO want (T.map TB.tp) k j) (T.map TB.tp) = (T[k].name, T[k].first + (j : Int), 0) := nextV_at HMB.out (readO_check HTB.out (by simpa using hlt)) HTB.out (by rw [HWA.out]; exact h1)
      have hln := readO_len want (T.map TB.tp) k j
      refine ⟨?_, fun W' hb' => ?_⟩
      ·
       have := CN.out a c _ W hb hL
       rw [h3] at this
       exact this
      ·
       refine (put_ol (hL.grow hb') (N := 100) (by omega) (by omega) ⟨T[k].name, T[k].first + (j : Int) + 1⟩ hns (HMZ.out W' (bstep hb' hb))).mono ?_
       rintro e w' ⟨a', c', lo, ee, o', rfl, hp, rfl, ho, _, hb2⟩
       rw [h2] at hp
       cases hp
       exact ⟨a', c', rfl, ho, hb2⟩
     have hget : ∀ j : Nat, j < T[k].log.length → getO (readO want (T.map TB.tp) k (j + 1)) T[k].name = T[k].first + (j : Int) + 1 := by
      intro j hj
      have h1 := readO_get (want := want) (k := j + 1) HTB.out (i := k) (by simpa using hlt)
      rw [hnm, hfi, if_neg (by omega)] at h1
      rw [h1]
      omega
     obtain ⟨R, hR⟩ : ∃ R : Nat → List OB, R = fun j => readO want (T.map TB.tp) k j := ⟨_, rfl⟩
     have hR0 : ∀ j, readO want (T.map TB.tp) k j = R j := fun j => by rw [hR]
     obtain ⟨R', hR'⟩ : ∃ R', R' = readO want (T.map TB.tp) (k + 1) 0 := ⟨_, rfl⟩
     have HR' := Lib.hid hR'
     have hLL := HLL.out
     simp only [hR0] at hstep hnext hskip hLL hget
     rw [← hR'] at hnext hskip
     rw [Bool.true_and] at HCW
     have hn1 : T[k].log.length ≤ 100 := by rw [← hlo]; exact q2
     have hf1 : T[k].first ≤ 1099511627775 - T[k].log.length := by rw [← hfi, ← hlo]; exact q3
     have hf0 : 0 ≤ T[k].first := by rw [← hfi]; exact q1
     subst hLL
     clear hR hR0 hR' HLL hnm hfi hlo q1 q2 q3 hns HXo CW
     generalize T[k] = tk at hfat HCW hstep hnext hskip hf0 hf1 hn1 hget
     obtain ⟨tn, tf, tla, lg, tlc⟩ := tk
     simp only at HCW hstep hnext hskip hf0 hf1 hn1 hget
     generalize want tn = wb at HCW hstep hnext hskip
     have HFT := Lib.hid (fun W (hb : Below Z.heap.size Z W) => (⟨(hfat.out W hb).1, (hfat.out W hb).2, (hfat.out W hb).3⟩ : W.cell? ⟨b, o + k * 3, none⟩ = some (.string tn) ∧ W.cell? ⟨b, o + k * 3 + 1, none⟩ = some (.int .i64 tf) ∧ W.cell? ⟨b, o + k * 3 + 2, none⟩ = some (.slice tla lg.length tlc)))
     generalize lg.length = n at HFT hstep hnext hn1 hf1 hget
     have HGT := Lib.hid hget
     have HST := Lib.hid hstep
     have HNX := Lib.hid hnext
     have HSK := Lib.hid hskip
     have HN1 : Hid (n ≤ 100 ∧ 0 ≤ tf ∧ tf ≤ 1099511627775 - (n : Int)) := ⟨hn1, hf0, hf1⟩
     clear hstep hnext hskip hn1 hf0 hf1 hfat CN hget
     obtain ⟨f0, f1, f2⟩ := HFT.out wo HW.out
     obtain ⟨x0, x1, x2, x3, x4, x5, x6, x7, x8⟩ := (HXZ.out wo HW.out).box
     go_upto_region 9 with fail
     refine Tryst2.wp_region_grows [.is (.agg #[.string nm, .slice ga gl.length gc, .slice wa wl.length wc, .string ky, .string kd, .int .i64 n0, .int .i64 n1, .int .i64 n2]), .is (.slice (some ⟨b, o, none⟩) T.length c2), .is (.int .i64 k), .is (.pointer (some ⟨b, o + k * 3, none⟩)), .is (.pointer (some ⟨b, o + k * 3, none⟩)), .is (.string tn), .is (.bool wb), .is (.bool (!wb))] (by kernel_rfl) (by kernel_rfl) ?obl ?fin
     case obl =>
      simp only [Tryst2.AllObl, Tryst2.dstL, Tryst2.Obl, Tryst2.depsOf, Y00, Y01, Y02, Y03, Y04, Y05, Y06, Y07, Y08, Y09, Tryst2.depsR, Tryst2.holdR, Tryst2.tmpsOf, Op.operands, Call.operands, Tryst2.Rsp.pred, Y10, Y11, Y12, Y13, Y14, Y15, Y16, Y17, Y18, Y19, Y20, Y21, Y22, id, Y23, Y24, Tryst2.isDst, Y25, Y26, Y33]
      repeat' apply And.intro
      any_goals trivial
      all_goals (intro tv w' hg hold hd; (try simp at hold); obtain ⟨hcg, hfg⟩ := Tryst2.Grow.cells hg; have hsg := Tryst2.Grow.le hg)
      all_goals first | (go_simp; done) | (go_simp; rw [if_neg (by omega)]; exact ⟨.refl _, rfl⟩) | (obtain ⟨⟨g, hvg, hgg, hcell⟩, _⟩ := hd; have hcell0 := hcell 0 (by decide); simp at hcell0; go_simp; done) | (go_simp; go_at_call 25; (with_reducible refine (HCW.out _ ?_).mono ?_); (exact bstep (Tryst2.Grow.below hg (.refl _ _)) HW.out); rintro e w5 ⟨rfl, hb5⟩; exact ⟨hb5, rfl⟩)
     case fin =>
      intro tv w' hg hR
      simp only [Tryst2.allR, Tryst2.dstL, Tryst2.Rsp.pred, Y13, Y14, Y16, Y17, Y18, Y19, Y27, Y33] at hR
      obtain ⟨hcg, hfg⟩ := Tryst2.Grow.cells hg
      have hsg := Tryst2.Grow.le hg
      simp only [Tryst2.putAll, Tryst2.dstL, Y13, Y14, Y16, Y17, Y18, Y19, Y33, Y28, Y29, Act.put, Y30, Y31, Y32, hR]
      have HW1 := Lib.hid (bstep (Tryst2.Grow.below hg (.refl wo.heap.size wo)) HW.out)
      have HO1 := Lib.hid (HO.out.grow (Tryst2.Grow.below hg (.refl wo.heap.size wo)))
      clear hg hR hcg hfg hsg x0 x1 x2 x3 x4 x5 x6 x7 x8 f0 f1 f2 HO HW HCW
      cases wb with
      | false =>
       have HQ : Hid (R 0 = R') := Lib.hid (HSK.out rfl)
       clear HST HNX HSK
       go_wp2_with fail
       go_roundw
       case rel => exact ⟨k + 1, many, a, c, R 0, rfl, HQ.out.trans HR'.out, by rw [List.length_map]; omega, hmany, by go_num, rfl, HO1, HW1⟩
       case measure => simp [intOf] <;> omega
      | true =>
       have HQ : Hid (R n = R') := Lib.hid (HNX.out rfl)
       have HSS := Lib.hid (HST.out rfl)
       clear HST HNX HSK
       rw [Bool.not_true]
       go_wp2_with fail
       go_loopw [5, 6, 8] (fun s m i wr => RdI R n Z s m i wr) (fun _ _ i _ => n - (intOf i).toNat)
       case atStart => exact ⟨0, many, a, c, rfl, by omega, hmany, rfl, rfl, HO1, HW1⟩
       case round =>
        clear HO1 HW1
        obtain ⟨j, many, a, c, rfl, hj, hmany, rfl, rfl, HO, HW⟩ := hrel
        obtain ⟨wi, rfl⟩ : ∃ wi, wi = wr := ⟨_, rfl⟩
        obtain ⟨f0, f1, f2⟩ := HFT.out wi HW.out
        by_cases hjn : j < n
        ·
         obtain ⟨hc1, hc2⟩ := HSS.out j hjn a c wi HW.out HO.out
         have HC1 := Lib.hid hc1
         have HC2 := Lib.hid hc2
         obtain ⟨L1, hL1⟩ : ∃ L1, L1 = R (j + 1) := ⟨_, rfl⟩
         have HL1 := Lib.hid hL1
         rw [← hL1] at HC2
         clear hc1 hc2 hL1
         generalize R j = L0 at HC1 HC2 HO ⊢
         obtain ⟨x0, x1, x2, x3, x4, x5, x6, x7, x8⟩ := (HXZ.out wi HW.out).box
         have HG := Lib.hid (HGT.out j hjn)
         rw [← HL1.out] at HG
         go_wp2_with fail
         refine HC1.out.mono ?_
         rintro e w5 ⟨rfl, hb5⟩
         have HW5 := Lib.hid (bstep hb5 HW.out)
         have HC3 := Lib.hid (HC2.out _ hb5)
         clear hb5 HO HC1 HC2 x0 x1 x2 x3 x4 x5 x6 x7 x8 f0 f1 f2
         obtain ⟨f0, f1, f2⟩ := HFT.out w5 HW5.out
         obtain ⟨m1, m2, m3⟩ := HN1.out
         go_wp2_with fail
         refine HC3.out.mono ?_
         rintro e w6 ⟨a6, c6, rfl, hO6, hb6⟩
         have HW6 := Lib.hid (bstep hb6 HW5.out)
         have HO6 := Lib.hid hO6
         have HC4 := Lib.hid (oget_c tn a6 c6 L1 (by have := hO6.n; omega) w6 hO6.r.r)
         rw [HG.out] at HC4
         clear hb6 hO6 HC3 HW5 f0 f1 f2 HG
         go_wp2_with fail
         refine HC4.out.mono ?_
         rintro e w7 ⟨rfl, hb7⟩
         have HW7 := Lib.hid (bstep hb7 HW6.out)
         have HO7 := Lib.hid (HO6.out.grow hb7)
         clear hb7 HC4 HW6 HO6
         by_cases hmy : many + 1 ≤ 60
         ·
          go_wp2_with fail
          go_roundw
          case rel => exact ⟨j + 1, many + 1, a6, c6, by rw [HL1.out], by omega, hmy, by go_num, by go_num, by rw [← HL1.out]; exact HO7, HW7⟩
          case measure => simp [intOf] <;> omega
         ·
          go_wp2_with fail
          refine (CA2.out _ HW7.out).mono ?_
          rintro e w8 ⟨rfl, hb8⟩
          go_wp2_with fail
          go_ret
          exact ⟨rfl, bstep hb8 (bstep HW7.out HZB.out)⟩
        ·
         obtain rfl : j = n := by omega
         go_wp2_with fail
         go_roundw
         case rel => exact ⟨k + 1, many, a, c, R j, rfl, HQ.out.trans HR'.out, by rw [List.length_map]; omega, hmany, by go_num, rfl, HO, HW⟩
         case measure => simp [intOf] <;> omega
    ·
     obtain rfl : k = T.length := by omega
     have hce := CN.out a c L wo HW.out HO.out
     have hv : nextV D L (T.map TB.tp) = (⟨#[]⟩, 0, 4) := by
      rw [HLL.out]
      have h1 := readO_check_end (want := want) HTB.out
      have h2 := read_end (want := want) HTB.out
      rw [List.length_map] at h1 h2
      exact nextV_end HMB.out h1 HTB.out (by rw [HWA.out]; exact h2)
     rw [hv] at hce
     simp only at hce
     have HCE := Lib.hid hce
     clear hce hv
     obtain ⟨x0, x1, x2, x3, x4, x5, x6, x7, x8⟩ := HXo.out.box
     go_wp2_with fail
     refine HCE.out.mono ?_
     rintro e w5 ⟨rfl, hb5⟩
     have HW5 := Lib.hid (bstep hb5 HW.out)
     clear hb5 HCE x0 x1 x2 x3 x4 x5 x6 x7 x8
     go_wp2_with fail
     refine (CA2.out _ HW5.out).mono ?_
     rintro e w6 ⟨rfl, hb6⟩
     go_wp2_with fail
     go_ret
     exact ⟨rfl, bstep hb6 (bstep HW5.out HZB.out)⟩
end Go.Proofs.YtmlbdblnmbmnpaaGreatDoor
