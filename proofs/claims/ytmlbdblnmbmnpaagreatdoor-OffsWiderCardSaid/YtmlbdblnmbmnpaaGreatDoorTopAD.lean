/- joined: topic.of, Find, end; may; Check; ask, End. -/
import Derived.Test.YtmlbdblnmbmnpaaGreatDoorProg
import Derived.WalkKit
import Derived.WalkSpells
import Derived.WalkLawsBesides
import Derived.Lib.Hide
import Derived.Deep.RegionWith
import Derived.Deep.Cut
import Derived.Test.YtmlbdblnmbmnpaaGreatDoorRdAB
import Derived.Test.YtmlbdblnmbmnpaaGreatDoorRowK
import Derived.Test.YtmlbdblnmbmnpaaGreatDoorNmA
import Derived.IntWalk
set_option linter.unusedVariables false
set_option linter.unusedSimpArgs false
namespace Go.Proofs.YtmlbdblnmbmnpaaGreatDoor
open Go.RowKit Tryst
set_option maxHeartbeats 400000
set_option maxRecDepth 20000
theorem of_c (s n : ByteArray) (hs : s.size ≤ 1000000000) (w : World) (hM : MaxW w) :
  Calls Tryz.prog 105 #[.string s, .string n] w fun e w' => e = .returned (.bool (ofB s n)) ∧ Below w.heap.size w w' := by
 have ht := etake_c s hs w hM
 obtain ⟨r, hr⟩ : ∃ r, takeE s.data.toList = r := ⟨_, rfl⟩
 have hof : ofB s n = (decide (r.2.2 = 0) && (decide (r.2.1 = s.size) && decide (r.1.topic = n.data.toList))) := by unfold ofB; rw [hr]
 rw [hr] at ht
 rw [hof]
 clear hr hof hM
 obtain ⟨E, k, ee⟩ := r
 have HT := Lib.hid ht
 clear ht
 go_enter Tryz.func105, Tryz.ntmps105
 go_wp2_with fail
 refine HT.out.mono ?_
 rintro e w1 ⟨a, c, rfl, hF, hS, hb⟩
 clear hF hS
 obtain ⟨T, hT⟩ : ∃ T : ByteArray, (⟨E.topic.toArray⟩ : ByteArray) = T := ⟨_, rfl⟩
 have hTd : E.topic = T.data.toList := by rw [← hT]
 rw [hT]
 by_cases he : ee = 0
 ·
  subst he
  by_cases hk : k = s.size
  ·
   subst hk
   by_cases hn : T.data.toList = n.data.toList
   ·
    have h1 : (T.toList == n.toList) = true := strEq hn
    have HR := Lib.hid (show (decide ((0 : Nat) = 0) && (decide (s.size = s.size) && decide (E.topic = n.data.toList))) = true by rw [hTd]; simp [hn])
    clear hTd hn
    go_wp2_with fail
    go_ret
    exact ⟨ret_bool HR.out.symm, balloc _ hb⟩
   ·
    have h1 : (T.toList == n.toList) = false := strNe hn
    have HR := Lib.hid (show (decide ((0 : Nat) = 0) && (decide (s.size = s.size) && decide (E.topic = n.data.toList))) = false by rw [hTd]; simp [hn])
    clear hTd hn
    go_wp2_with fail
    go_ret
    exact ⟨ret_bool HR.out.symm, balloc _ hb⟩
  ·
   have h1 : ((k : Int) == (s.size : Int)) = false := beq_false_of_ne (by omega)
   have HR := Lib.hid (show (decide ((0 : Nat) = 0) && (decide (k = s.size) && decide (E.topic = n.data.toList))) = false by simp [hk])
   clear hTd hk
   go_wp2_with fail
   go_ret
   exact ⟨ret_bool HR.out.symm, balloc _ hb⟩
 ·
  have h1 : ((ee : Int) == 0) = false := beq_false_of_ne (by omega)
  have HR := Lib.hid (show (decide (ee = 0) && (decide (k = s.size) && decide (E.topic = n.data.toList))) = false by simp [he])
  clear hTd he
  go_wp2_with fail
  go_ret
  exact ⟨ret_bool HR.out.symm, balloc _ hb⟩
def tV (t : TB) : Value := .agg #[.string t.name, .int .i64 t.first, .slice t.la t.log.length t.lc]
def findR (o : Option Nat) : Value := .tuple #[.int .i64 (o.getD 0 : Nat), .bool o.isSome]
end Go.Proofs.YtmlbdblnmbmnpaaGreatDoor
namespace Go.Proofs.YtmlbdblnmbmnpaaGreatDoor
open Go.RowKit Tryst
set_option maxHeartbeats 400000
set_option maxRecDepth 20000
/-- a topic in a box -/
structure TBox (w : World) (b : Nat) (n : ByteArray) (x : Int) (v : Value) : Prop where
 c0 : w.cell? ⟨b, 0, none⟩ = some (.string n)
 c1 : w.cell? ⟨b, 1, none⟩ = some (.int .i64 x)
 c2 : w.cell? ⟨b, 2, none⟩ = some v
 f0 : w.frozen? ⟨b, 0, none⟩ = false
 f1 : w.frozen? ⟨b, 1, none⟩ = false
 f2 : w.frozen? ⟨b, 2, none⟩ = false
 hz : b < w.heap.size
theorem TBox.grow {v w : World} {b : Nat} {n : ByteArray} {x : Int} {u : Value} (h : TBox v b n x u) (hw : Below v.heap.size v w) : TBox w b n x u := by
 obtain ⟨h0, h1, h2, h3, h4, h5, h6⟩ := h
 exact ⟨by rw [hw.cell (p := ⟨b, 0, none⟩) h6]; exact h0, by rw [hw.cell (p := ⟨b, 1, none⟩) h6]; exact h1, by rw [hw.cell (p := ⟨b, 2, none⟩) h6]; exact h2, by rw [hw.frozen (p := ⟨b, 0, none⟩) h6]; exact h3, by rw [hw.frozen (p := ⟨b, 1, none⟩) h6]; exact h4, by rw [hw.frozen (p := ⟨b, 2, none⟩) h6]; exact h5, Nat.lt_of_lt_of_le h6 hw.size⟩
theorem TBox.new (w : World) (n : ByteArray) (x : Int) (v : Value) (T : TypeId) : TBox (w.alloc (.cells #[.string n, .int .i64 x, v] T)) w.heap.size n x v := by
 constructor <;> simp [go_sem]
def TMayRel (w W : World) (B : Nat) (nm : ByteArray) (fst : Int) (la : Option Addr) (lg : List ByteArray) (lc : Nat) (i : Value) (wr : World) : Prop := ∃ k : Nat, k ≤ lg.length ∧ i = .int .i64 k ∧ Hid (∀ (j : Nat) (h : j < lg.length), j < k → ofB lg[j] nm = true) ∧ Hid (TBox wr B nm fst (.slice la lg.length lc)) ∧ Hid (Below W.heap.size W wr) ∧ Hid (Below w.heap.size w wr)
theorem all_of {l : List ByteArray} {n : ByteArray} (h : ∀ (j : Nat) (h : j < l.length), ofB l[j] n = true) : l.all (fun s => ofB s n) = true := by
 rw [List.all_eq_true]
 intro x hx
 obtain ⟨j, hj, rfl⟩ := List.getElem_of_mem hx
 exact h j hj
theorem not_all_of {l : List ByteArray} {n : ByteArray} {k : Nat} (hk : k < l.length) (h : ofB l[k] n = false) : l.all (fun s => ofB s n) = false := by
 rw [List.all_eq_false]
 exact ⟨l[k], List.getElem_mem hk, by rw [h]; simp⟩
theorem tMay_eq (nm : ByteArray) (fst : Int) (lg : List ByteArray) : tMay ⟨nm, fst, lg⟩ = (topicB nm.data.toList && (decide (0 ≤ fst) && (decide (lg.length ≤ 100) && (decide (fst ≤ 1099511627775 - lg.length) && lg.all (fun s => ofB s nm))))) := rfl
set_option maxHeartbeats 1000000 in
theorem tmay_x (nm : ByteArray) (fst : Int) (la : Option Addr) (lg : List ByteArray) (lc : Nat) (hn : nm.size ≤ 1000000000) (hs : ∀ s ∈ lg, s.size ≤ 1000000000) (hl : lg.length ≤ 1000000000) (h1 : -9223372036854775808 ≤ fst) (h2 : fst ≤ 9223372036854775807) (w : World) (hM : MaxW w) (hS : Strs w la lg) :
  Calls Tryz.prog 81 #[.agg #[.string nm, .int .i64 fst, .slice la lg.length lc]] w fun e w' => e = .returned (.bool (tMay ⟨nm, fst, lg⟩)) ∧ Below w.heap.size w w' := by
 obtain ⟨R, hR⟩ : ∃ R, tMay ⟨nm, fst, lg⟩ = R := ⟨_, rfl⟩
 rw [hR]
 rw [tMay_eq] at hR
 have HR := Lib.hid hR
 have HM := Lib.hid hM
 have HS := Lib.hid hS
 have HSZ := Lib.hid hs
 clear hM hS hs hR
 go_enter Tryz.func81, Tryz.ntmps81
 go_wp2_with fail
 have HX := Lib.hid (TBox.new w nm fst (.slice la lg.length lc) 57)
 have hbx := balloc (.cells #[.string nm, .int .i64 fst, .slice la lg.length lc] 57) (.refl w.heap.size w)
 refine (topic_c nm hn _ (HM.out.grow hbx)).mono ?_
 rintro e w1 ⟨rfl, hb1⟩
 have HX1 := Lib.hid (HX.out.grow hb1)
 have KB := Lib.hid (bstep hb1 hbx)
 clear hb1 hbx HX
 obtain ⟨x0, x1, x2, x3, x4, x5, x6⟩ := HX1.out
 cases htb : topicB nm.data.toList with
 | false =>
  have HQ : Hid (R = false) := Lib.hid (by rw [← HR.out, htb]; rfl)
  clear htb
  go_wp2_with fail
  go_ret
  exact ⟨ret_bool HQ.out.symm, KB.out⟩
 | true =>
  have HR1 : Hid ((decide (0 ≤ fst) && (decide (lg.length ≤ 100) && (decide (fst ≤ 1099511627775 - lg.length) && lg.all (fun s => ofB s nm)))) = R) := Lib.hid (by rw [← HR.out, htb]; rfl)
  clear htb HR
  by_cases g1 : 0 ≤ fst
  ·
   by_cases g2 : lg.length ≤ 100
   ·
    by_cases g3 : fst ≤ 1099511627775 - lg.length
    ·
     have HR2 : Hid (lg.all (fun s => ofB s nm) = R) := Lib.hid (by rw [← HR1.out, decide_eq_true g1, decide_eq_true g2, decide_eq_true g3]; rfl)
     clear HR1
     have y1 : ¬ fst < 0 := by omega
     have y2 : ¬ (100 : Int) < lg.length := by omega
     have y3 : ¬ (1099511627775 - (lg.length : Int)) < fst := by omega
     go_wp2_with fail
     go_loopw [32] (fun i wr => TMayRel w w1 w.heap.size nm fst la lg lc i wr) (fun i _ => lg.length - (intOf i).toNat)
     case atStart => exact ⟨0, by omega, rfl, fun _ _ h => by omega, HX1, .refl _ _, KB⟩
     case round =>
      obtain ⟨k, hk, rfl, HP, HXR, HW, HK⟩ := hrel
      obtain ⟨wo, rfl⟩ : ∃ wo, wo = wr := ⟨_, rfl⟩
      clear x0 x1 x2 x3 x4 x5 x6 HX1 KB
      obtain ⟨x0, x1, x2, x3, x4, x5, x6⟩ := HXR.out
      by_cases hlt : k < lg.length
      ·
       have HS2 := Lib.hid ((HS.out.grow HK.out))
       obtain ⟨b, o, ha, hbz⟩ := HS2.out.head hlt
       have hsz := HSZ.out lg[k] (List.getElem_mem hlt)
       subst ha
       obtain ⟨_, hs1⟩ := HS2.out.at hlt
       go_wp2_with fail
       refine (of_c lg[k] nm hsz wo (HM.out.grow HK.out)).mono ?_
       rintro e w2 ⟨rfl, hb2⟩
       have HXR2 := Lib.hid (HXR.out.grow hb2)
       have HW2 := Lib.hid (bstep hb2 HW.out)
       have HK2 := Lib.hid (bstep hb2 HK.out)
       clear hb2 x0 x1 x2 x3 x4 x5 x6 hs1
       cases hof : ofB lg[k] nm with
       | false =>
        have HQ : Hid (R = false) := Lib.hid (by rw [← HR2.out]; exact not_all_of hlt hof)
        clear hof
        go_wp2_with fail
        go_ret
        exact ⟨ret_bool HQ.out.symm, HK2.out⟩
       | true =>
        have HP2 : Hid (∀ (j : Nat) (h : j < lg.length), j < k + 1 → ofB lg[j] nm = true) := Lib.hid (fun j h hj => by
         by_cases e : j = k
         ·
          subst e; exact hof
         ·
          exact HP.out j h (by omega))
        clear hof
        go_wp2_with fail
        go_roundw
        case rel => exact ⟨k + 1, by omega, by go_num, HP2, HXR2, HW2, HK2⟩
        case measure => simp [intOf] <;> omega
      ·
       have HQ : Hid (R = true) := Lib.hid (by rw [← HR2.out]; exact all_of (fun j h => HP.out j h (by omega)))
       go_wp2_with fail
       go_ret
       exact ⟨ret_bool HQ.out.symm, HK.out⟩
    ·
     have HQ : Hid (R = false) := Lib.hid (by rw [← HR1.out, decide_eq_true g1, decide_eq_true g2, decide_eq_false g3]; rfl)
     have y1 : ¬ fst < 0 := by omega
     have y2 : ¬ (100 : Int) < lg.length := by omega
     have y3 : (1099511627775 - (lg.length : Int)) < fst := by omega
     go_wp2_with fail
     go_ret
     exact ⟨ret_bool HQ.out.symm, KB.out⟩
   ·
    have HQ : Hid (R = false) := Lib.hid (by rw [← HR1.out, decide_eq_true g1, decide_eq_false g2]; rfl)
    have y1 : ¬ fst < 0 := by omega
    have y2 : (100 : Int) < lg.length := by omega
    go_wp2_with fail
    go_ret
    exact ⟨ret_bool HQ.out.symm, KB.out⟩
  ·
   have HQ : Hid (R = false) := Lib.hid (by rw [← HR1.out, decide_eq_false g1]; rfl)
   have y1 : fst < 0 := by omega
   go_wp2_with fail
   go_ret
   exact ⟨ret_bool HQ.out.symm, KB.out⟩
theorem tmay_c (t : TB) (hn : t.name.size ≤ 1000000000) (hs : ∀ s ∈ t.log, s.size ≤ 1000000000) (hl : t.log.length ≤ 1000000000) (h1 : -9223372036854775808 ≤ t.first) (h2 : t.first ≤ 9223372036854775807) (w : World) (hM : MaxW w) (hS : Strs w t.la t.log) :
  Calls Tryz.prog 81 #[tV t] w fun e w' => e = .returned (.bool (tMay t.tp)) ∧ Below w.heap.size w w' := tmay_x t.name t.first t.la t.log t.lc hn hs hl h1 h2 w hM hS
end Go.Proofs.YtmlbdblnmbmnpaaGreatDoor
namespace Go.Proofs.YtmlbdblnmbmnpaaGreatDoor
open Go.RowKit Tryst
set_option maxHeartbeats 400000
set_option maxRecDepth 20000
/-- topics of which each text has some length -/
def TIn (l : List TB) : Prop := ∀ t ∈ l, t.name.size ≤ 1000000000 ∧ (∀ s ∈ t.log, s.size ≤ 1000000000) ∧ t.log.length ≤ 1000000000 ∧ -9223372036854775808 ≤ t.first ∧ t.first ≤ 9223372036854775807
def prevT (L : List Tp) : Nat → Option ByteArray
 | 0 => none
 | k + 1 => (L[k]?).map Tp.name
theorem okT_step {L : List Tp} {k : Nat} (hk : k < L.length) : okT (prevT L k) (L.drop k) = (tMay L[k] && ((match prevT L k with | none => true | some q => lessB q L[k].name) && okT (prevT L (k + 1)) (L.drop (k + 1)))) := by
 rw [List.drop_eq_getElem_cons hk]
 have e : prevT L (k + 1) = some L[k].name := by show (L[k]?).map Tp.name = _; rw [List.getElem?_eq_getElem hk]; rfl
 rw [e]
 cases prevT L k <;> rfl
theorem okT_end {L : List Tp} {k : Nat} (hk : L.length ≤ k) : okT (prevT L k) (L.drop k) = true := by
 rw [List.drop_eq_nil_of_le hk]
 cases prevT L k <;> rfl
theorem prevT_succ {L : List Tp} {k : Nat} (hk : k < L.length) : prevT L (k + 1) = some L[k].name := by
 show (L[k]?).map Tp.name = _; rw [List.getElem?_eq_getElem hk]; rfl
def errV (b : Bool) : Int := if b = true then 0 else 1
def TChkRel (w : World) (l : List TB) (R : Bool) (i : Value) (wr : World) : Prop := ∃ k : Nat, k ≤ l.length ∧ i = .int .i64 k ∧ Hid (R = okT (prevT (l.map TB.tp) k) ((l.map TB.tp).drop k)) ∧ Hid (Below w.heap.size w wr) ∧ w.heap.size ≤ wr.heap.size
theorem geB (a b : ByteArray) : (!Op.bytesLess a.toList b.toList) = !lessB a b := by unfold lessB; rw [str_toList, str_toList]
end Go.Proofs.YtmlbdblnmbmnpaaGreatDoor
namespace Go.Proofs.YtmlbdblnmbmnpaaGreatDoor
open Go.RowKit Tryst
set_option maxHeartbeats 400000
set_option maxRecDepth 20000
/-- of topics that may be: the place of one of a name -/
theorem find_at {l : List TB} {n : ByteArray} {i : Nat} (hm : topsMay (l.map TB.tp) = true) (hf : findT (l.map TB.tp) n = some i) : ∃ hi : i < l.length, l[i].name = n ∧ tMay l[i].tp = true := by
 obtain ⟨hi, hn⟩ := findT_some hf
 have hi2 : i < l.length := by simpa using hi
 refine ⟨hi2, by rw [List.getElem_map] at hn; exact hn, ?_⟩
 unfold topsMay at hm
 rw [Bool.and_eq_true] at hm
 have := okT_mem hm.2 (l.map TB.tp)[i] (List.getElem_mem hi)
 rw [List.getElem_map] at this
 exact this
theorem tmay_parts {t : TB} (h : tMay t.tp = true) : 0 ≤ t.first ∧ t.log.length ≤ 100 ∧ t.first ≤ 1099511627775 - t.log.length ∧ ∀ s ∈ t.log, ofB s t.name = true := by
 rw [show tMay t.tp = _ from tMay_eq t.name t.first t.log] at h
 simp only [Bool.and_eq_true, decide_eq_true_eq, List.all_eq_true] at h
 exact ⟨h.2.1, h.2.2.1, h.2.2.2.1, h.2.2.2.2⟩
end Go.Proofs.YtmlbdblnmbmnpaaGreatDoor
