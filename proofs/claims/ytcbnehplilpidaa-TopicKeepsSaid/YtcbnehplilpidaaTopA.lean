/- The walks of topic.of, topic.Find and topic.end. -/
import Derived.Test.YtcbnehplilpidaaProg
import Derived.WalkKit
import Derived.WalkSpells
import Derived.WalkLawsBesides
import Derived.Lib.Hide
import Derived.Deep.RegionWith
import Derived.Deep.Cut
import Derived.Test.YtcbnehplilpidaaRdB
import Derived.Test.YtcbnehplilpidaaRowK
set_option linter.unusedVariables false
set_option linter.unusedSimpArgs false
namespace Go.Proofs.Ytcbnehplilpidaa
open Go.RowKit Tryst
set_option maxHeartbeats 400000
set_option maxRecDepth 20000
theorem of_c (s n : ByteArray) (hs : s.size ≤ 1000000000) (w : World) (hM : MaxW w) :
    Calls Try.prog 87 #[.string s, .string n] w fun e w' => e = .returned (.bool (ofB s n)) ∧ Below w.heap.size w w' := by
  have ht := etake_c s hs w hM
  obtain ⟨r, hr⟩ : ∃ r, takeE s.data.toList = r := ⟨_, rfl⟩
  have hof : ofB s n = (decide (r.2.2 = 0) && (decide (r.2.1 = s.size) && decide (r.1.topic = n.data.toList))) := by unfold ofB; rw [hr]
  rw [hr] at ht
  rw [hof]
  clear hr hof hM
  obtain ⟨E, k, ee⟩ := r
  have HT := Lib.hid ht
  clear ht
  go_enter Try.func87, Try.ntmps87
  go_wp2_with fail
  refine HT.out.mono ?_
  rintro e w1 ⟨a, c, rfl, hF, hS, hb⟩
  clear hF hS
  obtain ⟨T, hT⟩ : ∃ T : ByteArray, (⟨E.topic.toArray⟩ : ByteArray) = T := ⟨_, rfl⟩
  have hTd : E.topic = T.data.toList := by rw [← hT]
  rw [hT]
  by_cases he : ee = 0
  · subst he
    by_cases hk : k = s.size
    · subst hk
      by_cases hn : T.data.toList = n.data.toList
      · have h1 : (T.toList == n.toList) = true := strEq hn
        have HR := Lib.hid (show (decide ((0 : Nat) = 0) && (decide (s.size = s.size) && decide (E.topic = n.data.toList))) = true by rw [hTd]; simp [hn])
        clear hTd hn
        go_wp2_with fail
        go_ret
        exact ⟨ret_bool HR.out.symm, balloc _ hb⟩
      · have h1 : (T.toList == n.toList) = false := strNe hn
        have HR := Lib.hid (show (decide ((0 : Nat) = 0) && (decide (s.size = s.size) && decide (E.topic = n.data.toList))) = false by rw [hTd]; simp [hn])
        clear hTd hn
        go_wp2_with fail
        go_ret
        exact ⟨ret_bool HR.out.symm, balloc _ hb⟩
    · have h1 : ((k : Int) == (s.size : Int)) = false := beq_false_of_ne (by omega)
      have HR := Lib.hid (show (decide ((0 : Nat) = 0) && (decide (k = s.size) && decide (E.topic = n.data.toList))) = false by simp [hk])
      clear hTd hk
      go_wp2_with fail
      go_ret
      exact ⟨ret_bool HR.out.symm, balloc _ hb⟩
  · have h1 : ((ee : Int) == 0) = false := beq_false_of_ne (by omega)
    have HR := Lib.hid (show (decide (ee = 0) && (decide (k = s.size) && decide (E.topic = n.data.toList))) = false by simp [he])
    clear hTd he
    go_wp2_with fail
    go_ret
    exact ⟨ret_bool HR.out.symm, balloc _ hb⟩
def tV (t : TB) : Value := .agg #[.string t.name, .int .i64 t.first, .slice t.la t.log.length t.lc]
theorem tfind1_c (t : TB) (n : ByteArray) (a : Addr) (w : World) (hc : w.cell? a = some (.string n)) (hb : a.block < w.heap.size) :
    Calls Try.prog 68 #[tV t, .pointer (some a)] w fun e w' => e = .returned (.bool (t.name.toList == n.toList)) ∧ Below w.heap.size w w' := by
  obtain ⟨b, o, x⟩ := a
  unfold tV
  go_enter Try.func68, Try.ntmps68
  go_wp2_with fail
  go_ret
  exact ⟨rfl, balloc _ (.refl _ _)⟩
/-- the first place at which p holds, or -1 -/
def idxT (p : TB → Bool) (l : List TB) : Int := match l.findIdx? p with | some i => (i : Int) | none => -1
theorem idxT_yes {p : TB → Bool} {l : List TB} {k : Nat} (hlt : k < l.length) (h : ∀ (j : Nat) (h : j < l.length), j < k → p l[j] = false) (hp : p l[k] = true) : idxT p l = k := by
  unfold idxT
  rw [List.findIdx?_eq_some_iff_getElem.2 ⟨hlt, hp, fun j hj => by rw [h j (by omega) hj]; simp⟩]
theorem idxT_next {p : TB → Bool} {l : List TB} {k : Nat} (hlt : k < l.length) (h : ∀ (j : Nat) (h : j < l.length), j < k → p l[j] = false) (hp : p l[k] = false) : ∀ (j : Nat) (h : j < l.length), j < k + 1 → p l[j] = false := by
  intro j hj hk
  by_cases e : j = k
  · subst e; exact hp
  · exact h j hj (by omega)
theorem idxT_no {p : TB → Bool} {l : List TB} {k : Nat} (hk : l.length ≤ k) (h : ∀ (j : Nat) (h : j < l.length), j < k → p l[j] = false) : idxT p l = -1 := by
  unfold idxT
  rw [List.findIdx?_eq_none_iff.2 fun x hx => by
    obtain ⟨j, hj, rfl⟩ := List.getElem_of_mem hx
    exact h j hj (by omega)]
def IdxRelT (p : TB → Bool) (l : List TB) (w : World) (i : Value) (wr : World) : Prop := ∃ k : Nat, k ≤ l.length ∧ i = .int .i64 k ∧ Hid (∀ (j : Nat) (h : j < l.length), j < k → p l[j] = false) ∧ Hid (Below w.heap.size w wr) ∧ w.heap.size ≤ wr.heap.size
theorem tindex_c (n : ByteArray) (A : Addr) (a : Option Addr) (c : Nat) (l : List TB) (hl : l.length ≤ 1000000000) (w : World) (hF : Tops w a l) (hA : w.cell? A = some (.string n)) (hAb : A.block < w.heap.size) :
    Calls Try.prog 67 #[.slice a l.length c, .func (.func 68) #[] #[.pointer (some A)]] w fun e w' => e = .returned (.int .i64 (idxT (fun t => t.name.toList == n.toList) l)) ∧ Below w.heap.size w w' := by
  have HF := Lib.hid hF
  have HA := Lib.hid hA
  clear hF hA
  go_enter Try.func67, Try.ntmps67
  go_wp2_with fail
  go_loopw [8] (fun i wr => IdxRelT (fun t => t.name.toList == n.toList) l w i wr) (fun i _ => l.length - (intOf i).toNat)
  case atStart => exact ⟨0, by omega, rfl, fun _ _ h => by omega, .refl _ _, by omega⟩
  case round =>
    obtain ⟨k, hk, rfl, HR, HW, hz⟩ := hrel
    obtain ⟨wo, rfl⟩ : ∃ wo, wo = wr := ⟨_, rfl⟩
    by_cases hlt : k < l.length
    · have HF2 := Lib.hid (HF.out.grow HW.out)
      have HA2 := Lib.hid ((HW.out.cell hAb).trans HA.out)
      clear HF HA
      obtain ⟨b, o, ha, hb⟩ := HF2.out.head hlt
      subst ha
      obtain ⟨_, ⟨f0, f1, f2⟩, _⟩ := HF2.out.at hlt
      cases hpk : (l[k].name.toList == n.toList) with
      | true =>
        have HK := Lib.hid hpk
        have HI := Lib.hid (idxT_yes (p := fun t => t.name.toList == n.toList) hlt HR.out hpk)
        clear hpk HR
        go_wp2_with fail
        refine (tfind1_c l[k] n A _ HA2.out (by omega)).mono ?_
        rintro e w2 ⟨rfl, hb2⟩
        rw [HK.out]
        go_wp2_with fail
        go_ret
        refine ⟨ret_int HI.out.symm, ?_⟩
        exact HW.out.trans (hb2.mono HW.out.size)
      | false =>
        have HK := Lib.hid hpk
        have HI := Lib.hid (idxT_next (p := fun t => t.name.toList == n.toList) hlt HR.out hpk)
        clear hpk HR
        go_wp2_with fail
        refine (tfind1_c l[k] n A _ HA2.out (by omega)).mono ?_
        rintro e w2 ⟨rfl, hb2⟩
        rw [HK.out]
        have hz2 := hb2.size
        have HB2 := Lib.hid (HW.out.trans (hb2.mono HW.out.size))
        clear hb2
        go_wp2_with fail
        go_roundw
        case rel => exact ⟨k + 1, by omega, by go_num, HI.out, HB2.out, by omega⟩
        case measure => simp [intOf] <;> omega
    · have HI := Lib.hid (idxT_no (p := fun t => t.name.toList == n.toList) (by omega : l.length ≤ k) HR.out)
      clear HR
      go_wp2_with fail
      go_ret
      exact ⟨ret_int HI.out.symm, HW.out⟩
theorem idxT_find (l : List TB) (n : ByteArray) : idxT (fun t => t.name.toList == n.toList) l = match findT (l.map TB.tp) n with | some i => (i : Int) | none => -1 := by
  unfold idxT findT
  rw [List.findIdx?_map]
  have e : (isT n ∘ TB.tp) = fun t : TB => t.name.toList == n.toList := by
    funext t
    show decide (t.name.data.toList = n.data.toList) = _
    by_cases h : t.name.data.toList = n.data.toList
    · rw [strEq h, decide_eq_true h]
    · rw [strNe h, decide_eq_false h]
  rw [e]
def findR (o : Option Nat) : Value := .tuple #[.int .i64 (o.getD 0 : Nat), .bool o.isSome]
theorem tfind_c (n : ByteArray) (a : Option Addr) (c : Nat) (l : List TB) (hl : l.length ≤ 1000000000) (w : World) (hF : Tops w a l) :
    Calls Try.prog 33 #[.slice a l.length c, .string n] w fun e w' => e = .returned (findR (findT (l.map TB.tp) n)) ∧ Below w.heap.size w w' := by
  have HF := Lib.hid hF
  clear hF
  have hi := idxT_find l n
  have HC := Lib.hid (fun A W h1 h2 h3 => tindex_c n A a c l hl W h1 h2 h3)
  rw [hi] at HC
  clear hi
  generalize findT (l.map TB.tp) n = o at HC ⊢
  unfold findR
  go_enter Try.func33, Try.ntmps33
  go_wp2_with fail
  have HF2 := HF.out.grow (balloc (.cells #[.string n] 9) (.refl w.heap.size w))
  refine (HC.out ⟨w.heap.size, 0, none⟩ _ HF2 (by simp [go_sem]) (by simp)).mono ?_
  rintro e w1 ⟨rfl, hb⟩
  clear HF2
  have hb2 := Lib.hid (bstep hb (balloc (.cells #[.string n] 9) (.refl w.heap.size w)))
  clear hb
  cases o with
  | none =>
    go_wp2_with fail
    go_ret2
    exact ⟨rfl, hb2.out⟩
  | some i =>
    have h1 : ¬ ((i : Int) < 0) := by omega
    go_wp2_with fail
    go_ret2
    exact ⟨rfl, hb2.out⟩
theorem tend_c (t : TB) (h1 : 0 ≤ t.first) (h2 : t.first ≤ 1000000000000000) (hl : t.log.length ≤ 1000000000) (w : World) :
    Calls Try.prog 60 #[tV t] w fun e w' => e = .returned (.int .i64 (t.first + t.log.length)) ∧ Below w.heap.size w w' := by
  unfold tV
  go_enter Try.func60, Try.ntmps60
  go_wp2_with fail
  go_ret
  exact ⟨rfl, balloc _ (.refl _ _)⟩
end Go.Proofs.Ytcbnehplilpidaa
