/- The walks of the closures that look for a field, and of slices.IndexFunc at them. -/
import Derived.Test.YtfohdjgalmodbaaProg
import Derived.WalkKit
import Derived.WalkSpells
import Derived.WalkLawsBesides
import Derived.Lib.Hide
import Derived.Deep.RegionWith
import Derived.Deep.Cut
import Derived.Test.YtfohdjgalmodbaaFlds
set_option linter.unusedVariables false
set_option linter.unusedSimpArgs false
namespace Go.Proofs.Ytfohdjgalmodbaa
open Go.RowKit Tryst
set_option maxHeartbeats 400000
set_option maxRecDepth 20000
def fV (f : FB) : Value := .agg #[.string f.name, .bool f.num, .int .i64 f.n, .string f.s]
/-- the first place at which p holds, or -1 -/
def idxB (p : FB → Bool) (l : List FB) : Int := match l.findIdx? p with | some i => (i : Int) | none => -1
theorem idxB_yes {p : FB → Bool} {l : List FB} {k : Nat} (hlt : k < l.length) (h : ∀ (j : Nat) (h : j < l.length), j < k → p l[j] = false) (hp : p l[k] = true) : idxB p l = k := by
  unfold idxB
  rw [List.findIdx?_eq_some_iff_getElem.2 ⟨hlt, hp, fun j hj => by rw [h j (by omega) hj]; simp⟩]
theorem idxB_next {p : FB → Bool} {l : List FB} {k : Nat} (hlt : k < l.length) (h : ∀ (j : Nat) (h : j < l.length), j < k → p l[j] = false) (hp : p l[k] = false) : ∀ (j : Nat) (h : j < l.length), j < k + 1 → p l[j] = false := by
  intro j hj hk
  by_cases e : j = k
  · subst e; exact hp
  · exact h j hj (by omega)
theorem idxB_no {p : FB → Bool} {l : List FB} {k : Nat} (hk : l.length ≤ k) (h : ∀ (j : Nat) (h : j < l.length), j < k → p l[j] = false) : idxB p l = -1 := by
  unfold idxB
  rw [List.findIdx?_eq_none_iff.2 fun x hx => by
    obtain ⟨j, hj, rfl⟩ := List.getElem_of_mem hx
    exact h j hj (by omega)]
theorem gtr_eq (a b : List UInt8) : (!Op.bytesLess a b && !(a == b)) = Op.bytesLess b a := by
  rcases less_total a b with h | h | h
  · rw [h, less_asymm h]; rfl
  · subst h; rw [less_irrefl]; simp
  · rw [less_asymm h, h]
    have : (a == b) = false := by
      rw [beq_eq_false_iff_ne]; rintro rfl; rw [less_irrefl] at h; cases h
    rw [this]; rfl
theorem find1_c (f : FB) (n : ByteArray) (a : Addr) (w : World) (hc : w.cell? a = some (.string n)) (hb : a.block < w.heap.size) :
    Calls Try.prog 47 #[fV f, .pointer (some a)] w fun e w' => e = .returned (.bool (f.name.toList == n.toList)) ∧ Below w.heap.size w w' := by
  obtain ⟨b, o, x⟩ := a
  unfold fV
  go_enter Try.func47, Try.ntmps47
  go_wp2_with fail
  go_ret
  exact ⟨rfl, balloc _ (.refl _ _)⟩
theorem put1_c (f : FB) (n : ByteArray) (a : Addr) (w : World) (hc : w.cell? a = some (.string n)) (hb : a.block < w.heap.size) :
    Calls Try.prog 29 #[fV f, .pointer (some a)] w fun e w' => e = .returned (.bool (Op.bytesLess n.toList f.name.toList)) ∧ Below w.heap.size w w' := by
  obtain ⟨b, o, x⟩ := a
  unfold fV
  go_enter Try.func29, Try.ntmps29
  go_wp2_with fail
  go_ret
  exact ⟨ret_bool (gtr_eq _ _), balloc _ (.refl _ _)⟩
def IdxRel (p : FB → Bool) (l : List FB) (w : World) (i : Value) (wr : World) : Prop := ∃ k : Nat, k ≤ l.length ∧ i = .int .i64 k ∧ Hid (∀ (j : Nat) (h : j < l.length), j < k → p l[j] = false) ∧ Hid (Below w.heap.size w wr) ∧ w.heap.size ≤ wr.heap.size
theorem indexName_c (n : ByteArray) (A : Addr) (a : Option Addr) (c : Nat) (l : List FB) (hl : l.length ≤ 1000000000) (w : World) (hF : Flds w a l) (hA : w.cell? A = some (.string n)) (hAb : A.block < w.heap.size) :
    Calls Try.prog 28 #[.slice a l.length c, .func (.func 47) #[] #[.pointer (some A)]] w fun e w' => e = .returned (.int .i64 (idxB (fun f => f.name.toList == n.toList) l)) ∧ Below w.heap.size w w' := by
  have HF := Lib.hid hF
  have HA := Lib.hid hA
  clear hF hA
  go_enter Try.func28, Try.ntmps28
  go_wp2_with fail
  go_loopw [8] (fun i wr => IdxRel (fun f => f.name.toList == n.toList) l w i wr) (fun i _ => l.length - (intOf i).toNat)
  case atStart => exact ⟨0, by omega, rfl, fun _ _ h => by omega, .refl _ _, by omega⟩
  case round =>
    obtain ⟨k, hk, rfl, HR, HW, hz⟩ := hrel
    obtain ⟨wo, rfl⟩ : ∃ wo, wo = wr := ⟨_, rfl⟩
    by_cases hlt : k < l.length
    · have HF2 := Lib.hid (HF.out.grow HW.out)
      have HA2 := Lib.hid ((HW.out.cell hAb).trans HA.out)
      clear HF HA
      obtain ⟨b, o, ha, hb⟩ := HF2.out.head hlt
      subst ha
      obtain ⟨_, f0, f1, f2, f3⟩ := HF2.out.at hlt
      cases hpk : (fun (f : FB) => f.name.toList == n.toList) l[k] with
      | true =>
        have HK := Lib.hid hpk
        have HI := Lib.hid (idxB_yes (p := fun f => f.name.toList == n.toList) hlt HR.out hpk)
        clear hpk HR
        go_wp2_with fail
        refine (find1_c l[k] n A _ HA2.out (by omega)).mono ?_
        rintro e w2 ⟨rfl, hb2⟩
        rw [show (l[k].name.toList == n.toList) = true from HK.out]
        go_wp2_with fail
        go_ret
        refine ⟨ret_int HI.out.symm, ?_⟩
        exact HW.out.trans (hb2.mono HW.out.size)
      | false =>
        have HK := Lib.hid hpk
        have HI := Lib.hid (idxB_next (p := fun f => f.name.toList == n.toList) hlt HR.out hpk)
        clear hpk HR
        go_wp2_with fail
        refine (find1_c l[k] n A _ HA2.out (by omega)).mono ?_
        rintro e w2 ⟨rfl, hb2⟩
        rw [show (l[k].name.toList == n.toList) = false from HK.out]
        have hz2 := hb2.size
        have HB2 := Lib.hid (HW.out.trans (hb2.mono HW.out.size))
        clear hb2
        go_wp2_with fail
        go_roundw
        case rel => exact ⟨k + 1, by omega, by go_num, HI.out, HB2.out, by omega⟩
        case measure => simp [intOf] <;> omega
    · have HI := Lib.hid (idxB_no (p := fun f => f.name.toList == n.toList) (by omega : l.length ≤ k) HR.out)
      clear HR
      go_wp2_with fail
      go_ret
      exact ⟨ret_int HI.out.symm, HW.out⟩
theorem indexAbove_c (n : ByteArray) (A : Addr) (a : Option Addr) (c : Nat) (l : List FB) (hl : l.length ≤ 1000000000) (w : World) (hF : Flds w a l) (hA : w.cell? A = some (.string n)) (hAb : A.block < w.heap.size) :
    Calls Try.prog 28 #[.slice a l.length c, .func (.func 29) #[] #[.pointer (some A)]] w fun e w' => e = .returned (.int .i64 (idxB (fun f => Op.bytesLess n.toList f.name.toList) l)) ∧ Below w.heap.size w w' := by
  have HF := Lib.hid hF
  have HA := Lib.hid hA
  clear hF hA
  go_enter Try.func28, Try.ntmps28
  go_wp2_with fail
  go_loopw [8] (fun i wr => IdxRel (fun f => Op.bytesLess n.toList f.name.toList) l w i wr) (fun i _ => l.length - (intOf i).toNat)
  case atStart => exact ⟨0, by omega, rfl, fun _ _ h => by omega, .refl _ _, by omega⟩
  case round =>
    obtain ⟨k, hk, rfl, HR, HW, hz⟩ := hrel
    obtain ⟨wo, rfl⟩ : ∃ wo, wo = wr := ⟨_, rfl⟩
    by_cases hlt : k < l.length
    · have HF2 := Lib.hid (HF.out.grow HW.out)
      have HA2 := Lib.hid ((HW.out.cell hAb).trans HA.out)
      clear HF HA
      obtain ⟨b, o, ha, hb⟩ := HF2.out.head hlt
      subst ha
      obtain ⟨_, f0, f1, f2, f3⟩ := HF2.out.at hlt
      cases hpk : (fun (f : FB) => Op.bytesLess n.toList f.name.toList) l[k] with
      | true =>
        have HK := Lib.hid hpk
        have HI := Lib.hid (idxB_yes (p := fun f => Op.bytesLess n.toList f.name.toList) hlt HR.out hpk)
        clear hpk HR
        go_wp2_with fail
        refine (put1_c l[k] n A _ HA2.out (by omega)).mono ?_
        rintro e w2 ⟨rfl, hb2⟩
        rw [show (Op.bytesLess n.toList l[k].name.toList) = true from HK.out]
        go_wp2_with fail
        go_ret
        refine ⟨ret_int HI.out.symm, ?_⟩
        exact HW.out.trans (hb2.mono HW.out.size)
      | false =>
        have HK := Lib.hid hpk
        have HI := Lib.hid (idxB_next (p := fun f => Op.bytesLess n.toList f.name.toList) hlt HR.out hpk)
        clear hpk HR
        go_wp2_with fail
        refine (put1_c l[k] n A _ HA2.out (by omega)).mono ?_
        rintro e w2 ⟨rfl, hb2⟩
        rw [show (Op.bytesLess n.toList l[k].name.toList) = false from HK.out]
        have hz2 := hb2.size
        have HB2 := Lib.hid (HW.out.trans (hb2.mono HW.out.size))
        clear hb2
        go_wp2_with fail
        go_roundw
        case rel => exact ⟨k + 1, by omega, by go_num, HI.out, HB2.out, by omega⟩
        case measure => simp [intOf] <;> omega
    · have HI := Lib.hid (idxB_no (p := fun f => Op.bytesLess n.toList f.name.toList) (by omega : l.length ≤ k) HR.out)
      clear HR
      go_wp2_with fail
      go_ret
      exact ⟨ret_int HI.out.symm, HW.out⟩
end Go.Proofs.Ytfohdjgalmodbaa
