/- The walk of the document s way to have a field. -/
import Derived.Test.YtfohdjgalmodbaaProg
import Derived.WalkKit
import Derived.WalkSpells
import Derived.WalkLawsBesides
import Derived.Lib.Hide
import Derived.Deep.RegionWith
import Derived.Deep.Cut
import Derived.Test.YtfohdjgalmodbaaFlds
set_option linter.unusedVariables false
set_option linter.unusedSimpArgs false
namespace Go.Proofs.Ytfohdjgalmodbaa
open Go.RowKit Tryst
set_option maxHeartbeats 400000
set_option maxRecDepth 20000
def GetRel (l : List FB) (n : ByteArray) (i : Value) : Prop := ∃ k : Nat, k ≤ l.length ∧ i = .int .i64 k ∧ Hid (findB (l.drop k) n = findB l n)
def vV (f : FB) : Value := .agg #[.bool f.num, .int .i64 f.n, .string f.s]
theorem findB_at {l : List FB} {n : ByteArray} {k : Nat} (hlt : k < l.length) (h : findB (l.drop k) n = findB l n) :
    ((l[k].name.toList == n.toList) = true ∧ Hid (findB l n = some l[k])) ∨ ((l[k].name.toList == n.toList) = false ∧ Hid (findB (l.drop (k + 1)) n = findB l n)) := by
  rw [List.drop_eq_getElem_cons hlt, findB_cons] at h
  by_cases e : l[k].name.data.toList = n.data.toList
  · rw [if_pos e] at h
    exact .inl ⟨strEq e, h.symm⟩
  · rw [if_neg e] at h
    exact .inr ⟨strNe e, h⟩
theorem rget_c (t p : ByteArray) (q : Int) (a : Option Addr) (c : Nat) (l : List FB) (hl : l.length ≤ 1000000000) (n : ByteArray) (w : World) (hF : Flds w a l) :
    Calls Try.prog 13 #[.agg #[.string t, .string p, .int .u64 q, .slice a l.length c], .string n] w fun e w' =>
      e = .returned (.tuple #[vV ((findB l n).getD FB.zero), .bool (findB l n).isSome]) ∧ Below w.heap.size w w' := by
  have HF := Lib.hid hF
  clear hF
  go_enter Try.func13, Try.ntmps13
  go_wp2_with fail
  go_loop [6] (fun i => GetRel l n i) (fun i => l.length - (intOf i).toNat)
  case atStart => exact ⟨0, by omega, rfl, rfl⟩
  case round =>
    obtain ⟨k, hk, rfl, HR⟩ := hrel
    by_cases hlt : k < l.length
    · obtain ⟨b, o, ha, hb⟩ := HF.out.head hlt
      subst ha
      obtain ⟨_, f0, f1, f2, f3⟩ := HF.out.at hlt
      rcases findB_at hlt HR.out with ⟨e1, HS⟩ | ⟨e1, HS⟩
      · clear HR
        go_wp2_with fail
        exact bodyPost_ret (v := .tuple #[.agg #[.bool l[k].num, .int .i64 l[k].n, .string l[k].s], .bool true]) (by simp [results, Try.results13, go_sem, *]) rfl ⟨ret_eq (by rw [HS.out]; rfl), balloc _ (balloc _ (.refl _ _))⟩
      · clear HR
        go_wp2_with fail
        go_round
        case rel => exact ⟨k + 1, by omega, by go_num, HS.out⟩
        case measure => simp [intOf] <;> omega
    · have HS : Hid (findB l n = none) := by
        have := HR.out
        rw [List.drop_eq_nil_of_le (by omega)] at this
        exact this.symm
      clear HR
      go_wp2_with fail
      exact bodyPost_ret (v := .tuple #[.agg #[.bool false, .int .i64 0, .string ⟨#[]⟩], .bool false]) (by simp [results, Try.results13, go_sem, *]) rfl ⟨ret_eq (by rw [HS.out]; rfl), balloc _ (balloc _ (.refl _ _))⟩
end Go.Proofs.Ytfohdjgalmodbaa
