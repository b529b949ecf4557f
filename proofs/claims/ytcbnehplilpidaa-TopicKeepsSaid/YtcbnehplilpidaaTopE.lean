/- The walk of topic.Read. -/
import Derived.Test.YtcbnehplilpidaaProg
import Derived.WalkKit
import Derived.WalkSpells
import Derived.WalkLawsBesides
import Derived.Lib.Hide
import Derived.Deep.RegionWith
import Derived.Deep.Cut
import Derived.Test.YtcbnehplilpidaaTopD
import Derived.Test.YtcbnehplilpidaaAw4s
set_option linter.unusedVariables false
set_option linter.unusedSimpArgs false
namespace Go.Proofs.Ytcbnehplilpidaa
open Go.RowKit Tryst
set_option maxHeartbeats 400000
set_option maxRecDepth 20000
def readP (L : List Tp) (n : ByteArray) (x : Int) : Ev × Nat :=
  if topsMay L = true then match findT L n with
    | none => (Ev.zero, 4)
    | some i => match L[i]? with
      | none => (Ev.zero, 4)
      | some t => if x < t.first then (Ev.zero, 8) else if t.first + (t.log.length : Int) ≤ x then (Ev.zero, 9) else match t.log[(x - t.first).toNat]? with
        | none => (Ev.zero, 9)
        | some s => ((takeE s.data.toList).1, 0)
  else (Ev.zero, 1)
def RdR (w : World) (E : Ev) (k : Nat) (x : Ending) (w' : World) : Prop :=
  ∃ a c, x = .returned (.tuple #[.agg #[.string ⟨E.topic.toArray⟩, .string ⟨E.prod.toArray⟩, .int .u64 E.seq, .slice a E.l.length c], .int .i64 k]) ∧ Flds w' a (E.l.map fbOf) ∧ Sl a c E.l.length ∧ Below w.heap.size w w'
theorem RdR.zero {w w' : World} {k : Nat} {x : Ending} (hx : x = .returned (.tuple #[.agg #[.string ⟨#[]⟩, .string ⟨#[]⟩, .int .u64 0, .slice none 0 0], .int .i64 k])) (hb : Below w.heap.size w w') : RdR w Ev.zero k x w' :=
  ⟨none, 0, hx, Flds.nil _ _, ⟨Nat.le_refl _, fun A h => (by cases h), fun _ => rfl⟩, hb⟩
set_option maxHeartbeats 1000000 in
theorem tread_c (n : ByteArray) (x : Int) (hx1 : -9223372036854775808 ≤ x) (hx2 : x ≤ 9223372036854775807) (a : Option Addr) (c : Nat) (l : List TB) (hl : l.length ≤ 1000000000) (hI : TIn l) (w : World) (hM : MaxW w) (hF : Tops w a l) :
    Calls Try.prog 25 #[.slice a l.length c, .string n, .int .i64 x] w fun e w' => RdR w (readP (l.map TB.tp) n x).1 (readP (l.map TB.tp) n x).2 e w' := by
  have HC := Lib.hid (fun (W : World) (hM : MaxW W) (hF : Tops W a l) => task_c n a c l hl hI W hM hF)
  have HF := Lib.hid hF
  have HM := Lib.hid hM
  have HI := Lib.hid hI
  obtain ⟨p, hp⟩ : ∃ p, readP (l.map TB.tp) n x = p := ⟨_, rfl⟩
  rw [hp]
  have HP := Lib.hid hp
  clear hM hF hI hp
  have HH := Lib.hid (new_box w #[.string ⟨#[]⟩, .string ⟨#[]⟩, .int .u64 0, .slice none 0 0] 25)
  have HE := Lib.hid (EAt.of (new_box w #[.string ⟨#[]⟩, .string ⟨#[]⟩, .int .u64 0, .slice none 0 0] 25))
  have HBX := Lib.hid (balloc (.cells #[.string ⟨#[]⟩, .string ⟨#[]⟩, .int .u64 0, .slice none 0 0] 25) (.refl w.heap.size w))
  cases hm : topsMay (l.map TB.tp) with
  | false =>
    obtain rfl : p = (Ev.zero, 1) := HP.out.symm.trans (by unfold readP; rw [hm]; rfl)
    have HC2 := Lib.hid (fun W hM hF => askP_bad (n := n) hm ▸ HC.out W hM hF)
    clear hm HC HP
    go_enter Try.func25, Try.ntmps25
    go_wp2_with fail
    refine (HC2.out _ (HM.out.grow HBX.out) (HF.out.grow HBX.out)).mono ?_
    rintro e w1 ⟨rfl, hb1⟩
    have HE1 := Lib.hid (HE.out.grow (by simp) hb1)
    have HB1 := Lib.hid (bstep hb1 HBX.out)
    have hz0 : w.heap.size < w1.heap.size := (by have := hb1.size; simp at this; omega)
    clear hb1 HF HE HBX HC2
    obtain ⟨x0, x1, x2, x3, x4, x5, x6, x7⟩ := HE1.out
    go_wp2_with fail
    refine bodyPost_ret (by simp [results, Try.results25, go_sem, *]) rfl (RdR.zero rfl ?_)
    (repeat (first | with_reducible exact HB1.out | with_reducible refine balloc _ ?_ | with_reducible refine bset _ (by simp <;> omega) ?_))
  | true =>
    cases hf : findT (l.map TB.tp) n with
    | none =>
      obtain rfl : p = (Ev.zero, 4) := HP.out.symm.trans (by unfold readP; rw [if_pos hm, hf])
      have HC2 := Lib.hid (fun W hM hF => askP_none hm hf ▸ HC.out W hM hF)
      clear hm hf HC HP
      go_enter Try.func25, Try.ntmps25
      go_wp2_with fail
      refine (HC2.out _ (HM.out.grow HBX.out) (HF.out.grow HBX.out)).mono ?_
      rintro e w1 ⟨rfl, hb1⟩
      have HE1 := Lib.hid (HE.out.grow (by simp) hb1)
      have HB1 := Lib.hid (bstep hb1 HBX.out)
      have hz0 : w.heap.size < w1.heap.size := (by have := hb1.size; simp at this; omega)
      clear hb1 HF HE HBX HC2
      obtain ⟨x0, x1, x2, x3, x4, x5, x6, x7⟩ := HE1.out
      go_wp2_with fail
      refine bodyPost_ret (by simp [results, Try.results25, go_sem, *]) rfl (RdR.zero rfl ?_)
      (repeat (first | with_reducible exact HB1.out | with_reducible refine balloc _ ?_ | with_reducible refine bset _ (by simp <;> omega) ?_))
    | some i =>
      obtain ⟨hi, hn, ht⟩ := find_at hm hf
      obtain ⟨q1, q2, q3, q4⟩ := tmay_parts ht
      have HP2 : Hid ((if x < l[i].first then (Ev.zero, 8) else if l[i].first + (l[i].log.length : Int) ≤ x then (Ev.zero, 9) else match l[i].log[(x - l[i].first).toNat]? with | none => (Ev.zero, 9) | some s => ((takeE s.data.toList).1, 0)) = p) := Lib.hid (by
        rw [← HP.out]
        unfold readP
        rw [if_pos hm, hf]
        show _ = (match (l.map TB.tp)[i]? with | none => (Ev.zero, 4) | some t => _)
        rw [List.getElem?_map, List.getElem?_eq_getElem hi]
        rfl)
      have HC2 := Lib.hid (fun W hM hF => askP_ok hm hf ▸ HC.out W hM hF)
      have HQ4 := Lib.hid q4
      have HIN := Lib.hid (HI.out l[i] (List.getElem_mem hi))
      clear hm hf HC HP hn ht q4 HI
      obtain ⟨b, o, ha, hb⟩ := HF.out.head hi
      subst ha
      go_enter Try.func25, Try.ntmps25
      go_wp2_with fail
      refine (HC2.out _ (HM.out.grow HBX.out) (HF.out.grow HBX.out)).mono ?_
      rintro e w1 ⟨rfl, hb1⟩
      have HF1 := Lib.hid (HF.out.grow (bstep hb1 HBX.out))
      have HE1 := Lib.hid (HE.out.grow (by simp) hb1)
      have HH1 := Lib.hid ((hb1.block w.heap.size (by simp)).trans HH.out)
      have HB1 := Lib.hid (bstep hb1 HBX.out)
      have hz : b < w1.heap.size := Nat.lt_of_lt_of_le hb HB1.out.size
      have hz0 : w.heap.size < w1.heap.size := (by have := hb1.size; simp at this; omega)
      clear hb1 HF HE HBX HC2
      obtain ⟨_, ⟨f0, f1, f2⟩, hS, _⟩ := HF1.out.at hi
      have HS := Lib.hid hS
      obtain ⟨x0, x1, x2, x3, x4, x5, x6, x7⟩ := HE1.out
      have y1 : ¬ ((i : Int) < 0) := by omega
      clear hS
      generalize hti : l[i] = t at f0 f1 f2 HS q1 q2 q3 HP2 HQ4 HIN
      clear hti
      obtain ⟨nm, fs, la, lg, lc⟩ := t
      dsimp only at f0 f1 f2 q1 q2 q3
      have HP3 : Hid ((if x < fs then (Ev.zero, 8) else if fs + (lg.length : Int) ≤ x then (Ev.zero, 9) else match lg[(x - fs).toNat]? with | none => (Ev.zero, 9) | some s => ((takeE s.data.toList).1, 0)) = p) := HP2
      have HS2 : Hid (Strs w1 la lg) := HS
      have HIN2 : Hid (∀ s ∈ lg, s.size ≤ 1000000000) := Lib.hid HIN.out.2.1
      have HQ5 : Hid (∀ s ∈ lg, ofB s nm = true) := HQ4
      clear HP2 HS HIN HQ4
      by_cases g1 : x < fs
      · obtain rfl : p = (Ev.zero, 8) := HP3.out.symm.trans (by rw [if_pos g1])
        clear HP3
        go_wp2_with fail
        refine bodyPost_ret (v := .tuple #[.agg #[.string ⟨#[]⟩, .string ⟨#[]⟩, .int .u64 0, .slice none 0 0], .int .i64 8]) (by simp [results, Try.results25, go_sem, *]) rfl (RdR.zero rfl ?_)
        (repeat (first | with_reducible exact HB1.out | with_reducible refine balloc _ ?_ | with_reducible refine bset _ (by simp <;> omega) ?_))
      · go_wp2_with fail
        have HX := Lib.hid (TBox.new w1 nm fs (.slice la lg.length lc) 74)
        have hba := balloc (.cells #[.string nm, .int .i64 fs, .slice la lg.length lc] 74) (.refl w1.heap.size w1)
        refine (tend_c ⟨nm, fs, la, lg, lc⟩ q1 (by show fs ≤ _; omega) (by show lg.length ≤ _; omega) _).mono ?_
        rintro e w2 ⟨rfl, hb2⟩
        have hbb := bstep hb2 hba
        have HX2 := Lib.hid (HX.out.grow hb2)
        have HE2 := Lib.hid (HE1.out.grow hz0 hbb)
        have HH2 := Lib.hid ((hbb.block w.heap.size hz0).trans HH1.out)
        have HB2 := Lib.hid (bstep hbb HB1.out)
        have HS3 := Lib.hid (HS2.out.grow hbb)
        have hz2 : w.heap.size < w2.heap.size := Nat.lt_of_lt_of_le hz0 hbb.size
        clear hba hb2 hbb HX x0 x1 x2 x3 x4 x5 x6 x7 f0 f1 f2 HE1 HB1 HS2
        obtain ⟨x0, x1, x2, x3, x4, x5, x6, x7⟩ := HE2.out
        obtain ⟨u0, u1, u2, u3, u4, u5, u6⟩ := HX2.out
        by_cases g2 : fs + (lg.length : Int) ≤ x
        · obtain rfl : p = (Ev.zero, 9) := HP3.out.symm.trans (by rw [if_neg (by omega), if_pos (by omega)])
          clear HP3
          go_wp2_with fail
          refine bodyPost_ret (v := .tuple #[.agg #[.string ⟨#[]⟩, .string ⟨#[]⟩, .int .u64 0, .slice none 0 0], .int .i64 9]) (by simp [results, Try.results25, go_sem, *]) rfl (RdR.zero rfl ?_)
          (repeat (first | with_reducible exact HB2.out | with_reducible refine balloc _ ?_ | with_reducible refine bset _ (by simp <;> omega) ?_))
        · obtain ⟨m, hm⟩ : ∃ m : Nat, x = fs + m := ⟨(x - fs).toNat, by omega⟩
          subst hm
          have hlt : m < lg.length := by omega
          have hd : (fs + (m : Int) - fs).toNat = m := by omega
          rcases hr : takeE lg[m].data.toList with ⟨E, kk, ee⟩
          have hp3 := HP3.out
          rw [if_neg (by omega), if_neg (by omega), hd, List.getElem?_eq_getElem hlt] at hp3
          simp only [hr] at hp3
          obtain rfl : p = (E, 0) := hp3.symm
          clear hp3
          have hob := HQ5.out lg[m] (List.getElem_mem hlt)
          have h0 : (takeE lg[m].data.toList).2.2 = 0 := by
            unfold ofB at hob
            rw [Bool.and_eq_true, decide_eq_true_eq] at hob
            exact hob.1
          have hct := fun W hM => etake_c lg[m] (HIN2.out _ (List.getElem_mem hlt)) W hM
          rw [hr] at hct h0
          obtain rfl : ee = 0 := h0
          have HCT := Lib.hid hct
          obtain ⟨b', o', ha', hb'⟩ := HS3.out.head hlt
          subst ha'
          obtain ⟨_, s0⟩ := HS3.out.at hlt
          have HS4 := Lib.hid s0
          clear hct hob hr HP3 HQ5 hd
          have y3 : fs + (m : Int) - fs = m := by omega
          go_wp2_with fail
          refine (HCT.out w2 (HM.out.grow HB2.out)).mono ?_
          rintro e w3 ⟨aE, cE, rfl, fE, sE, hb3⟩
          have HE3 := Lib.hid (HE2.out.grow hz2 hb3)
          have HB3 := Lib.hid (bstep hb3 HB2.out)
          have FE := Lib.hid (flds_box (B := w.heap.size) (T := 25) ((hb3.block w.heap.size hz2).trans HH2.out) fE (.string ⟨E.topic.toArray⟩) (.string ⟨E.prod.toArray⟩) (.int .u64 E.seq) (.slice aE E.l.length cE))
          have SE := Lib.hid sE
          have hz3 : w.heap.size < w3.heap.size := Nat.lt_of_lt_of_le hz2 hb3.size
          clear hb3 fE sE x0 x1 x2 x3 x4 x5 x6 x7 u0 u1 u2 u3 u4 u5 u6 HE2 HB2 HH1 HH2 HX2 s0
          obtain ⟨x0, x1, x2, x3, x4, x5, x6, x7⟩ := HE3.out
          go_wp2_with fail
          refine bodyPost_ret (v := .tuple #[.agg #[.string ⟨E.topic.toArray⟩, .string ⟨E.prod.toArray⟩, .int .u64 E.seq, .slice aE E.l.length cE], .int .i64 0]) (by simp [results, Try.results25, go_sem, *]) rfl ⟨aE, cE, rfl, FE.out.grow (balloc _ (.refl _ _)), SE.out, ?_⟩
          (repeat (first | with_reducible exact HB3.out | with_reducible refine balloc _ ?_ | with_reducible refine bset _ (by simp <;> omega) ?_))
end Go.Proofs.Ytcbnehplilpidaa
