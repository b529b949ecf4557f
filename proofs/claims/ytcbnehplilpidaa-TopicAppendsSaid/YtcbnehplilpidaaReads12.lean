/- The walk of the law TopicReads. -/
import Derived.Test.YtcbnehplilpidaaProg
import Derived.WalkKit
import Derived.WalkSpells
import Derived.WalkLawsBesides
import Derived.Lib.Hide
import Derived.Deep.RegionWith
import Derived.Deep.Cut
import Derived.IntWalk
import Derived.Test.YtcbnehplilpidaaRRead12
import Derived.Test.YtcbnehplilpidaaRTrim12
import Derived.Test.YtcbnehplilpidaaRSame12
import Derived.Test.YtcbnehplilpidaaBounds12
import Derived.Test.YtcbnehplilpidaaEvC
set_option linter.unusedVariables false
set_option linter.unusedSimpArgs false
namespace Go.Proofs.Ytcbnehplilpidaa
open Go.RowKit Tryst
set_option maxHeartbeats 400000
set_option maxRecDepth 20000
theorem few_names {l : List TB} {L : List Tp} (h : l.map TB.tp = fewTs L) : ∀ t ∈ l, t.name.size ≤ 1000000 := by
  intro t ht
  have h1 : t.tp ∈ fewTs L := by rw [← h]; exact List.mem_map.2 ⟨t, ht, rfl⟩
  obtain ⟨u, hu, hu2⟩ := List.mem_map.1 h1
  have : t.name = few60 u.name := congrArg Tp.name hu2.symm
  rw [this]
  have := few60_le u.name
  omega
theorem takeE_len (l : List UInt8) : (takeE l).1.l.length ≤ 8 := by
  unfold takeE
  split
  · exact Nat.zero_le _
  · split
    · exact Nat.zero_le _
    · rename_i h
      have hm : (rE l).may = true := by
        cases h2 : (rE l).may with
        | true => rfl
        | false => exact absurd (.inr h2) h
      unfold Ev.may at hm
      simp only [Bool.and_eq_true, decide_eq_true_eq] at hm
      exact hm.1.2
theorem readP_len (L : List Tp) (n : ByteArray) (x : Int) : (readP L n x).1.l.length ≤ 8 := by
  unfold readP
  split
  · split
    · exact Nat.zero_le _
    · split
      · exact Nat.zero_le _
      · split
        · exact Nat.zero_le _
        · split
          · exact Nat.zero_le _
          · split
            · exact Nat.zero_le _
            · rename_i s _
              have h := takeE_len s.data.toList
              generalize takeE s.data.toList = q at h ⊢
              exact h
  · exact Nat.zero_le _
set_option maxHeartbeats 2000000 in
theorem topicReads_c (a : Option Addr) (l : List TB) (c : Nat) (n : ByteArray) (hn : n.size ≤ 9223372036854775807) (x : Int) (hx1 : -9223372036854775808 ≤ x) (hx2 : x ≤ 9223372036854775807) (w : World) (hM : MaxW w) (hF : TopsA w a l) (hI : ∀ t ∈ l, t.name.size ≤ 9223372036854775807 ∧ (∀ s ∈ t.log, s.size ≤ 9223372036854775807) ∧ t.log.length ≤ 9223372036854775807 ∧ -9223372036854775808 ≤ t.first ∧ t.first ≤ 9223372036854775807) (hl : l.length ≤ 9223372036854775807) :
    Calls Try.prog 5 #[.slice a l.length c, .string n, .int .i64 x] w fun e w' => e = .returned (.bool true) ∧ Below w.heap.size w w' := by
  have HM := Lib.hid hM
  have HFW := Lib.hid (few12_c a c l hl (fun t ht => ⟨(hI t ht).1, (hI t ht).2.1, (hI t ht).2.2.1⟩) w hF)
  have HFI := Lib.hid (fun (t : Tp) (ht : t ∈ l.map TB.tp) => show -9223372036854775808 ≤ t.first ∧ t.first ≤ 9223372036854775807 by
    obtain ⟨u, hu, rfl⟩ := List.mem_map.1 ht
    exact (hI u hu).2.2.2)
  generalize l.map TB.tp = L0 at HFW HFI
  clear hM hI hF
  go_enter Try.func5, Try.ntmps5
  go_wp2_with fail
  refine HFW.out.mono ?_
  rintro e w1 ⟨a1, c1, l1, rfl, hm1, hF1, hS1, hb1⟩
  go_wp2_with fail
  refine (few60_c n hn w1).mono ?_
  rintro e w1' ⟨rfl, rfl⟩
  obtain ⟨hl1, hI1⟩ := few_TIn hm1 HFI.out
  have hN1 := few_names hm1
  have HF1 := Lib.hid hF1
  have HB1 := Lib.hid hb1
  obtain ⟨N, hNN⟩ : ∃ N, few60 n = N := ⟨_, rfl⟩
  rw [hNN]
  have HAW := Lib.hid (fun (W : World) (hb : Below w.heap.size w W) => awake12_c W (HM.out.grow hb))
  have HRD := Lib.hid (fun (W : World) (hb : Below w.heap.size w W) (hF : Tops W a1 l1) => tread_c N x hx1 hx2 a1 c1 l1 (by omega) hI1 W (HM.out.grow hb) hF)
  have HRR := Lib.hid (fun (W : World) (hF : Tops W a1 l1) => rread12_c N x hx1 hx2 a1 c1 l1 (by omega) hI1 hN1 W (Tops.a hF))
  have HTR := Lib.hid (fun (W : World) (hb : Below w.heap.size w W) (hF : Tops W a1 l1) => ttrim_c N x hx1 hx2 a1 c1 l1 (by omega) hI1 W (HM.out.grow hb) hF hS1)
  have HRT := Lib.hid (fun (W : World) (hF : Tops W a1 l1) => rtrim12_c N x hx1 hx2 a1 c1 l1 (by omega) hI1 hN1 W (Tops.a hF))
  have hTL : (trimP (l1.map TB.tp) N x).1.length ≤ 21 ∧ ∀ t ∈ (trimP (l1.map TB.tp) N x).1, t.log.length ≤ 1000000000 := by
    have hll : ∀ t ∈ l1.map TB.tp, t.log.length ≤ 1000000000 := fun t ht => by
      obtain ⟨u, hu, rfl⟩ := List.mem_map.1 ht
      exact (hI1 u hu).2.2.1
    unfold trimP
    split
    · split
      · exact ⟨by simp, fun t h => by cases h⟩
      · split
        · exact ⟨by simp, fun t h => by cases h⟩
        · rename_i i _ t ht
          split
          · exact ⟨by simp, fun t h => by cases h⟩
          · refine ⟨by simp; omega, fun y hy => ?_⟩
            rcases List.mem_or_eq_of_mem_set hy with h | h
            · exact hll y h
            · subst h
              have hm := hll t (List.mem_of_getElem? ht)
              unfold trimT
              split
              · show (t.log.drop _).length ≤ _
                rw [List.length_drop]; omega
              · exact hm
    · exact ⟨by simp, fun t h => by cases h⟩
  have hEL := readP_len (l1.map TB.tp) N x
  generalize readP (l1.map TB.tp) N x = p at HRD HRR hEL
  generalize trimP (l1.map TB.tp) N x = q at HTR HRT hTL
  obtain ⟨E, k⟩ := p
  obtain ⟨T, j⟩ := q
  dsimp only at HRD HRR HTR HRT hTL hEL
  have HTL := Lib.hid hTL
  clear hm1 hF1 hS1 hb1 hI1 hN1 hNN hTL HFW HFI HM
  go_wp2_with fail
  refine (HRD.out w1 HB1.out HF1.out).mono ?_
  rintro e w2 ⟨a2, c2, rfl, hf2, hs2, hb2⟩
  have HB2 := Lib.hid (bstep hb2 HB1.out)
  have HF2 := Lib.hid (HF1.out.grow hb2)
  have HFL2 := Lib.hid hf2
  generalize hT : (⟨E.topic.toArray⟩ : ByteArray) = T1
  generalize hP : (⟨E.prod.toArray⟩ : ByteArray) = P1
  have HT := Lib.hid hT
  have HP := Lib.hid hP
  clear hf2 hs2 hb2 hT hP HRD HF1 HB1
  go_upto_region 3 with fail
  refine wp_genC (fun v => Hid (EAt v w2.heap.size T1 P1 E.seq (.slice a2 E.l.length c2)) ∧ Hid (Tops v a1 l1) ∧ Hid (Flds v a2 (E.l.map fbOf)) ∧ Hid (Below w.heap.size w v) ∧ w2.heap.size < v.heap.size) ⟨EAt.of (new_box w2 #[.string T1, .string P1, .int .u64 E.seq, .slice a2 E.l.length c2] 25), HF2.out.grow (balloc _ (.refl _ _)), HFL2.out.grow (balloc _ (.refl _ _)), balloc _ HB2.out, by simp⟩ ?_
  clear HB2 HF2 HFL2
  rintro w3 ⟨HX3, HF3, HFL3, HB3, hz3⟩
  generalize w2.heap.size = G2 at HX3 hz3 ⊢
  go_wp2_with fail
  refine (HRR.out w3 HF3.out).mono ?_
  rintro e w4 ⟨a4, c4, rfl, hf4, hs4, hb4⟩
  rw [HT.out, HP.out]
  have HB4 := Lib.hid (bstep hb4 HB3.out)
  have HF4 := Lib.hid (HF3.out.grow hb4)
  have HFL4 := Lib.hid (HFL3.out.grow hb4)
  have HX4 := Lib.hid (HX3.out.grow hz3 hb4)
  have HFM4 := Lib.hid hf4
  have hz4 : G2 < w4.heap.size := Nat.lt_of_lt_of_le hz3 hb4.size
  clear hf4 hs4 hb4 HB3 HF3 HFL3 HX3 hz3 HRR
  go_upto_region 4 with fail
  refine wp_genC (fun v => Hid (EAt v w4.heap.size T1 P1 E.seq (.slice a4 E.l.length c4)) ∧ Hid (EAt v G2 T1 P1 E.seq (.slice a2 E.l.length c2)) ∧ Hid (Tops v a1 l1) ∧ Hid (Flds v a2 (E.l.map fbOf)) ∧ Hid (Flds v a4 (E.l.map fbOf)) ∧ Hid (Below w.heap.size w v) ∧ w4.heap.size < v.heap.size) ⟨EAt.of (new_box w4 #[.string T1, .string P1, .int .u64 E.seq, .slice a4 E.l.length c4] 25), HX4.out.grow hz4 (balloc _ (.refl _ _)), HF4.out.grow (balloc _ (.refl _ _)), HFL4.out.grow (balloc _ (.refl _ _)), HFM4.out.grow (balloc _ (.refl _ _)), balloc _ HB4.out, by simp⟩ ?_
  clear HB4 HF4 HFL4 HX4 HFM4
  rintro w5 ⟨HY5, HX5, HF5, HFL5, HFM5, HB5, hz5⟩
  generalize w4.heap.size = G4 at HY5 hz5 hz4 ⊢
  go_wp2_with fail
  refine (HTR.out w5 HB5.out HF5.out).mono ?_
  rintro e w6 h6
  obtain ⟨a6, c6, l6, rfl, hl6, hF6, hS6, hb6⟩ := tops_at h6
  have HB6 := Lib.hid (bstep hb6 HB5.out)
  have HF6 := Lib.hid (HF5.out.grow hb6)
  have HFL6 := Lib.hid (HFL5.out.grow hb6)
  have HFM6 := Lib.hid (HFM5.out.grow hb6)
  have HX6 := Lib.hid (HX5.out.grow (by omega) hb6)
  have HY6 := Lib.hid (HY5.out.grow hz5 hb6)
  have HTA6 := Lib.hid (Tops.a hF6)
  have HL6 := Lib.hid hl6
  have hz6 : G4 < w6.heap.size := Nat.lt_of_lt_of_le hz5 hb6.size
  clear h6 hl6 hF6 hS6 hb6 HB5 HF5 HFL5 HFM5 HX5 HY5 hz5 HTR
  go_wp2_with fail
  refine (HRT.out w6 HF6.out).mono ?_
  rintro e w7 ⟨a7, c7, l7, rfl, hl7, hF7, hb7⟩
  have HB7 := Lib.hid (bstep hb7 HB6.out)
  have HFL7 := Lib.hid (HFL6.out.grow hb7)
  have HFM7 := Lib.hid (HFM6.out.grow hb7)
  have HX7 := Lib.hid (HX6.out.grow (by omega) hb7)
  have HY7 := Lib.hid (HY6.out.grow hz6 hb7)
  have HTA7 := Lib.hid (HTA6.out.grow hb7)
  have HTB7 := Lib.hid hF7
  have HL7 := Lib.hid hl7
  have hz7 : G4 < w7.heap.size := Nat.lt_of_lt_of_le hz6 hb7.size
  clear hl7 hF7 hb7 HB6 HF6 HFL6 HFM6 HX6 HY6 hz6 HRT HTA6
  obtain ⟨x0, x1, x2, x3, x4, x5, x6, x7⟩ := HX7.out
  obtain ⟨y0, y1, y2, y3, y4, y5, y6, y7⟩ := HY7.out
  have hel : (E.l.map fbOf).length = E.l.length := List.length_map ..
  have hsm := fun (W : World) (h1 : Flds W a2 (E.l.map fbOf)) (h2 : Flds W a4 (E.l.map fbOf)) => rsame_c T1 T1 P1 P1 E.seq E.seq a2 a4 c2 c4 (E.l.map fbOf) (E.l.map fbOf) (by rw [hel]; omega) (by rw [hel]; omega) W h1 h2
  rw [hel] at hsm
  have HSM := Lib.hid hsm
  have hs12 := fun (W : World) (h1 : TopsA W a6 l6) (h2 : TopsA W a7 l7) => rsame12_c a6 a7 c6 c7 l6 l7 (HL6.out.trans HL7.out.symm) (by have := congrArg List.length HL6.out; have h3 := HTL.out.1; rw [List.length_map] at this; omega) (fun t ht => HTL.out.2 t.tp (by rw [← HL6.out]; exact List.mem_map.2 ⟨t, ht, rfl⟩)) W h1 h2
  have HS12 := Lib.hid hs12
  clear hsm hs12 hel
  go_wp2_with fail
  refine (HSM.out w7 HFL7.out HFM7.out).mono ?_
  rintro e w8 ⟨r8, rfl, hr8, hb8⟩
  obtain rfl : r8 = true := hr8.2 ⟨rfl, rfl, rfl, rfl⟩
  have HB8 := Lib.hid (bstep hb8 HB7.out)
  have HTA8 := Lib.hid (HTA7.out.grow hb8)
  have HTB8 := Lib.hid (HTB7.out.grow hb8)
  clear hr8 hb8 x0 x1 x2 x3 x4 x5 x6 x7 y0 y1 y2 y3 y4 y5 y6 y7 HX7 HY7 HFL7 HFM7 HB7 HTA7 HTB7 HSM
  go_wp2_with fail
  refine (HS12.out w8 HTA8.out HTB8.out).mono ?_
  rintro e w9 ⟨rfl, hb9⟩
  have HB9 := Lib.hid (bstep hb9 HB8.out)
  clear hb9 HB8 HTA8 HTB8 HS12
  go_wp2_with fail
  refine (HAW.out w9 HB9.out).mono ?_
  rintro e w10 ⟨rfl, hb10⟩
  have HB10 := Lib.hid (bstep hb10 HB9.out)
  clear hb10
  go_wp2_with fail
  go_ret
  exact ⟨rfl, HB10.out⟩
end Go.Proofs.Ytcbnehplilpidaa
