/- joined: events. -/
import Derived.Test.YtmlbdblnmbmnpaaGreatDoorProg
import Derived.WalkKit
import Derived.WalkSpells
import Derived.WalkLawsBesides
import Derived.Lib.Hide
import Derived.Deep.RegionWith
import Derived.Deep.Cut
import Derived.Test.YtmlbdblnmbmnpaaGreatDoorFldG
import Derived.Test.YtmlbdblnmbmnpaaGreatDoorEv3U
import Derived.Test.YtmlbdblnmbmnpaaGreatDoorDraws
set_option linter.unusedVariables false
set_option linter.unusedSimpArgs false
namespace Go.Proofs.YtmlbdblnmbmnpaaGreatDoor
open Go.RowKit Tryst
set_option maxHeartbeats 400000
set_option maxRecDepth 20000
def GetRel (l : List FB) (n : ByteArray) (i : Value) : Prop := ∃ k : Nat, k ≤ l.length ∧ i = .int .i64 k ∧ Hid (findB (l.drop k) n = findB l n)
def vV (f : FB) : Value := .agg #[.bool f.num, .int .i64 f.n, .string f.s]
theorem findB_at {l : List FB} {n : ByteArray} {k : Nat} (hlt : k < l.length) (h : findB (l.drop k) n = findB l n) :
  ((l[k].name.toList == n.toList) = true ∧ Hid (findB l n = some l[k])) ∨ ((l[k].name.toList == n.toList) = false ∧ Hid (findB (l.drop (k + 1)) n = findB l n)) := by
 rw [List.drop_eq_getElem_cons hlt, findB_cons] at h
 by_cases e : l[k].name.data.toList = n.data.toList
 ·
  rw [if_pos e] at h
  exact .inl ⟨strEq e, h.symm⟩
 ·
  rw [if_neg e] at h
  exact .inr ⟨strNe e, h⟩
theorem rget_c (t p : ByteArray) (q : Int) (a : Option Addr) (c : Nat) (l : List FB) (hl : l.length ≤ 1000000000) (n : ByteArray) (w : World) (hF : Flds w a l) :
  Calls Tryz.prog 32 #[.agg #[.string t, .string p, .int .u64 q, .slice a l.length c], .string n] w fun e w' =>
   e = .returned (.tuple #[vV ((findB l n).getD FB.zero), .bool (findB l n).isSome]) ∧ Below w.heap.size w w' := by
 have HF := Lib.hid hF
 clear hF
 go_enter Tryz.func32, Tryz.ntmps32
 go_wp2_with fail
 go_loop [6] (fun i => GetRel l n i) (fun i => l.length - (intOf i).toNat)
 case atStart => exact ⟨0, by omega, rfl, rfl⟩
 case round =>
  obtain ⟨k, hk, rfl, HR⟩ := hrel
  by_cases hlt : k < l.length
  ·
   obtain ⟨b, o, ha, hb⟩ := HF.out.head hlt
   subst ha
   obtain ⟨_, f0, f1, f2, f3⟩ := HF.out.at hlt
   rcases findB_at hlt HR.out with ⟨e1, HS⟩ | ⟨e1, HS⟩
   ·
    clear HR
    go_wp2_with fail
    exact bodyPost_ret (v := .tuple #[.agg #[.bool l[k].num, .int .i64 l[k].n, .string l[k].s], .bool true]) (by simp [results, Tryz.results32, go_sem, *]) rfl ⟨ret_eq (by rw [HS.out]; rfl), balloc _ (balloc _ (.refl _ _))⟩
   ·
    clear HR
    go_wp2_with fail
    go_round
    case rel => exact ⟨k + 1, by omega, by go_num, HS.out⟩
    case measure => simp [intOf] <;> omega
  ·
   have HS : Hid (findB l n = none) := by
    have := HR.out
    rw [List.drop_eq_nil_of_le (by omega)] at this
    exact this.symm
   clear HR
   go_wp2_with fail
   exact bodyPost_ret (v := .tuple #[.agg #[.bool false, .int .i64 0, .string ⟨#[]⟩], .bool false]) (by simp [results, Tryz.results32, go_sem, *]) rfl ⟨ret_eq (by rw [HS.out]; rfl), balloc _ (balloc _ (.refl _ _))⟩
end Go.Proofs.YtmlbdblnmbmnpaaGreatDoor
namespace Go.Proofs.YtmlbdblnmbmnpaaGreatDoor
open Go.RowKit Tryst
set_option maxHeartbeats 400000
set_option maxRecDepth 20000
def fV (f : FB) : Value := .agg #[.string f.name, .bool f.num, .int .i64 f.n, .string f.s]
/-- the first place at which p holds, or -1 -/
def idxB (p : FB → Bool) (l : List FB) : Int := match l.findIdx? p with | some i => (i : Int) | none => -1
theorem idxB_yes {p : FB → Bool} {l : List FB} {k : Nat} (hlt : k < l.length) (h : ∀ (j : Nat) (h : j < l.length), j < k → p l[j] = false) (hp : p l[k] = true) : idxB p l = k := by
 unfold idxB
 rw [List.findIdx?_eq_some_iff_getElem.2 ⟨hlt, hp, fun j hj => by rw [h j (by omega) hj]; simp⟩]
theorem idxB_next {p : FB → Bool} {l : List FB} {k : Nat} (hlt : k < l.length) (h : ∀ (j : Nat) (h : j < l.length), j < k → p l[j] = false) (hp : p l[k] = false) : ∀ (j : Nat) (h : j < l.length), j < k + 1 → p l[j] = false := by
 intro j hj hk
 by_cases e : j = k
 ·
  subst e; exact hp
 ·
  exact h j hj (by omega)
theorem idxB_no {p : FB → Bool} {l : List FB} {k : Nat} (hk : l.length ≤ k) (h : ∀ (j : Nat) (h : j < l.length), j < k → p l[j] = false) : idxB p l = -1 := by
 unfold idxB
 rw [List.findIdx?_eq_none_iff.2 fun x hx => by
  obtain ⟨j, hj, rfl⟩ := List.getElem_of_mem hx
  exact h j hj (by omega)]
theorem find1_c (f : FB) (n : ByteArray) (a : Addr) (w : World) (hc : w.cell? a = some (.string n)) (hb : a.block < w.heap.size) :
  Calls Tryz.prog 127 #[fV f, .pointer (some a)] w fun e w' => e = .returned (.bool (f.name.toList == n.toList)) ∧ Below w.heap.size w w' := by
 obtain ⟨b, o, x⟩ := a
 unfold fV
 go_enter Tryz.func127, Tryz.ntmps127
 go_wp2_with fail
 go_ret
 exact ⟨rfl, balloc _ (.refl _ _)⟩
def IdxRel (p : FB → Bool) (l : List FB) (w : World) (i : Value) (wr : World) : Prop := ∃ k : Nat, k ≤ l.length ∧ i = .int .i64 k ∧ Hid (∀ (j : Nat) (h : j < l.length), j < k → p l[j] = false) ∧ Hid (Below w.heap.size w wr) ∧ w.heap.size ≤ wr.heap.size
theorem indexName_c (n : ByteArray) (A : Addr) (a : Option Addr) (c : Nat) (l : List FB) (hl : l.length ≤ 1000000000) (w : World) (hF : Flds w a l) (hA : w.cell? A = some (.string n)) (hAb : A.block < w.heap.size) :
  Calls Tryz.prog 126 #[.slice a l.length c, .func (.func 127) #[] #[.pointer (some A)]] w fun e w' => e = .returned (.int .i64 (idxB (fun f => f.name.toList == n.toList) l)) ∧ Below w.heap.size w w' := by
 have HF := Lib.hid hF
 have HA := Lib.hid hA
 clear hF hA
 go_enter Tryz.func126, Tryz.ntmps126
 go_wp2_with fail
 go_loopw [8] (fun i wr => IdxRel (fun f => f.name.toList == n.toList) l w i wr) (fun i _ => l.length - (intOf i).toNat)
 case atStart => exact ⟨0, by omega, rfl, fun _ _ h => by omega, .refl _ _, by omega⟩
 case round =>
  obtain ⟨k, hk, rfl, HR, HW, hz⟩ := hrel
  obtain ⟨wo, rfl⟩ : ∃ wo, wo = wr := ⟨_, rfl⟩
  by_cases hlt : k < l.length
  ·
   have HF2 := Lib.hid (HF.out.grow HW.out)
   have HA2 := Lib.hid ((HW.out.cell hAb).trans HA.out)
   clear HF HA
   obtain ⟨b, o, ha, hb⟩ := HF2.out.head hlt
   subst ha
   obtain ⟨_, f0, f1, f2, f3⟩ := HF2.out.at hlt
   cases hpk : (fun (f : FB) => f.name.toList == n.toList) l[k] with
   | true =>
    have HK := Lib.hid hpk
    have HI := Lib.hid (idxB_yes (p := fun f => f.name.toList == n.toList) hlt HR.out hpk)
    clear hpk HR
    go_wp2_with fail
    refine (find1_c l[k] n A _ HA2.out (by omega)).mono ?_
    rintro e w2 ⟨rfl, hb2⟩
    rw [show (l[k].name.toList == n.toList) = true from HK.out]
    go_wp2_with fail
    go_ret
    refine ⟨ret_int HI.out.symm, ?_⟩
    exact HW.out.trans (hb2.mono HW.out.size)
   | false =>
    have HK := Lib.hid hpk
    have HI := Lib.hid (idxB_next (p := fun f => f.name.toList == n.toList) hlt HR.out hpk)
    clear hpk HR
    go_wp2_with fail
    refine (find1_c l[k] n A _ HA2.out (by omega)).mono ?_
    rintro e w2 ⟨rfl, hb2⟩
    rw [show (l[k].name.toList == n.toList) = false from HK.out]
    have hz2 := hb2.size
    have HB2 := Lib.hid (HW.out.trans (hb2.mono HW.out.size))
    clear hb2
    go_wp2_with fail
    go_roundw
    case rel => exact ⟨k + 1, by omega, by go_num, HI.out, HB2.out, by omega⟩
    case measure => simp [intOf] <;> omega
  ·
   have HI := Lib.hid (idxB_no (p := fun f => f.name.toList == n.toList) (by omega : l.length ≤ k) HR.out)
   clear HR
   go_wp2_with fail
   go_ret
   exact ⟨ret_int HI.out.symm, HW.out⟩
end Go.Proofs.YtmlbdblnmbmnpaaGreatDoor
namespace Go.Proofs.YtmlbdblnmbmnpaaGreatDoor
open Go.RowKit Tryst
set_option maxHeartbeats 400000
set_option maxRecDepth 20000
theorem idx_cases (l : List FB) (n : ByteArray) : (∃ (k : Nat) (h : k < l.length), idxB (fun f => f.name.toList == n.toList) l = k ∧ findB l n = some l[k]) ∨ (idxB (fun f => f.name.toList == n.toList) l = -1 ∧ findB l n = none) := by
 have e : ∀ f : FB, (f.name.toList == n.toList) = decide (f.name.data.toList = n.data.toList) := fun f => by
  by_cases h : f.name.data.toList = n.data.toList
  ·
   rw [strEq h, decide_eq_true h]
  ·
   rw [strNe h, decide_eq_false h]
 unfold idxB findB
 simp only [e]
 cases h : l.findIdx? (fun f => decide (f.name.data.toList = n.data.toList)) with
 | none =>
  refine .inr ⟨rfl, ?_⟩
  rw [List.find?_eq_none]
  intro x hx
  have := List.findIdx?_eq_none_iff.1 h x hx
  simpa using this
 | some k =>
  obtain ⟨hk, h1, h2⟩ := List.findIdx?_eq_some_iff_getElem.1 h
  refine .inl ⟨k, hk, rfl, ?_⟩
  rw [List.find?_eq_some_iff_getElem]
  exact ⟨h1, k, hk, rfl, fun j hj => by simpa using h2 j hj⟩
theorem find_c (t p : ByteArray) (q : Int) (a : Option Addr) (c : Nat) (l : List FB) (hl : l.length ≤ 1000000000) (n : ByteArray) (w : World) (hF : Flds w a l) :
  Calls Tryz.prog 102 #[.agg #[.string t, .string p, .int .u64 q, .slice a l.length c], .string n] w fun e w' =>
   e = .returned (.int .i64 (idxB (fun f => f.name.toList == n.toList) l)) ∧ Below w.heap.size w w' := by
 have HF := Lib.hid hF
 clear hF
 go_enter Tryz.func102, Tryz.ntmps102
 go_wp2_with fail
 have HF2 := HF.out.grow (balloc (.cells #[.string n] 9) (balloc (.cells #[.string t, .string p, .int .u64 q, .slice a l.length c] 63) (.refl w.heap.size w)))
 refine (indexName_c n ⟨w.heap.size + 1, 0, none⟩ a c l hl _ HF2 (by simp [go_sem]) (by simp)).mono ?_
 rintro e w1 ⟨rfl, hb1⟩
 go_wp2_with fail
 go_ret
 refine ⟨rfl, ?_⟩
 (repeat (first | exact Below.refl _ _ | assumption | refine bdrew ?_ | refine balloc _ ?_ | refine bset _ (by simp) ?_ | refine bstep (by assumption) ?_ | refine Grow.below (by assumption) ?_ | refine Tryst2.Grow.below (by assumption) ?_))
theorem get_c (t p : ByteArray) (q : Int) (a : Option Addr) (c : Nat) (l : List FB) (hl : l.length ≤ 1000000000) (n : ByteArray) (w : World) (hF : Flds w a l) :
  Calls Tryz.prog 69 #[.agg #[.string t, .string p, .int .u64 q, .slice a l.length c], .string n] w fun e w' =>
   e = .returned (.tuple #[vV ((findB l n).getD FB.zero), .bool (findB l n).isSome]) ∧ Below w.heap.size w w' := by
 have HF := Lib.hid hF
 clear hF
 rcases idx_cases l n with ⟨k, hk, h1, h2⟩ | ⟨h1, h2⟩
 ·
  obtain ⟨b, o, ha, hb⟩ := HF.out.head hk
  subst ha
  have HFA := Lib.hid (HF.out.at hk).2
  have H1 := Lib.hid h1
  have H2 := Lib.hid h2
  clear h1 h2
  go_enter Tryz.func69, Tryz.ntmps69
  go_wp2_with fail
  have HF2 := HF.out.grow (balloc (.cells #[.bool false, .int .i64 0, .string ⟨#[]⟩] 67) (balloc (.cells #[.string t, .string p, .int .u64 q, .slice (some ⟨b, o, none⟩) l.length c] 63) (.refl w.heap.size w)))
  refine (find_c t p q _ c l hl n _ HF2).mono ?_
  rintro e w1 ⟨rfl, hb1⟩
  rw [H1.out]
  obtain ⟨hc1, hf1⟩ := bcell hb1
  have hz1 : w.heap.size + 1 < w1.heap.size := (by have := hb1.size; simp at this; omega)
  have hbw := bstep hb1 (balloc (.cells #[.bool false, .int .i64 0, .string ⟨#[]⟩] 67) (balloc (.cells #[.string t, .string p, .int .u64 q, .slice (some ⟨b, o, none⟩) l.length c] 63) (.refl w.heap.size w)))
  obtain ⟨f0, f1, f2, f3⟩ := HFA.out.grow hb hbw
  have x1 : (0 : Int) ≤ k := by omega
  have hb' : b < w1.heap.size := by omega
  have HB := Lib.hid hbw
  clear hb1 hbw
  go_wp2_with fail
  exact bodyPost_ret (v := .tuple #[.agg #[.bool l[k].num, .int .i64 l[k].n, .string l[k].s], .bool true]) (by simp [results, Tryz.results69, go_sem, *]) rfl ⟨ret_eq (by rw [H2.out]; rfl), bset _ (by simp) (bset _ (by simp) (bset _ (by simp) HB.out))⟩
 ·
  have H1 := Lib.hid h1
  have H2 := Lib.hid h2
  clear h1 h2
  go_enter Tryz.func69, Tryz.ntmps69
  go_wp2_with fail
  have HF2 := HF.out.grow (balloc (.cells #[.bool false, .int .i64 0, .string ⟨#[]⟩] 67) (balloc (.cells #[.string t, .string p, .int .u64 q, .slice a l.length c] 63) (.refl w.heap.size w)))
  refine (find_c t p q _ c l hl n _ HF2).mono ?_
  rintro e w1 ⟨rfl, hb1⟩
  rw [H1.out]
  obtain ⟨hc1, hf1⟩ := bcell hb1
  have hz1 : w.heap.size + 1 < w1.heap.size := (by have := hb1.size; simp at this; omega)
  have HB := Lib.hid (bstep hb1 (balloc (.cells #[.bool false, .int .i64 0, .string ⟨#[]⟩] 67) (balloc (.cells #[.string t, .string p, .int .u64 q, .slice a l.length c] 63) (.refl w.heap.size w))))
  clear hb1
  go_wp2_with fail
  exact bodyPost_ret (v := .tuple #[.agg #[.bool false, .int .i64 0, .string ⟨#[]⟩], .bool false]) (by simp [results, Tryz.results69, go_sem, *]) rfl ⟨ret_eq (by rw [H2.out]; rfl), bset _ (by simp) (bset _ (by simp) (bset _ (by simp) HB.out))⟩
end Go.Proofs.YtmlbdblnmbmnpaaGreatDoor
namespace Go.Proofs.YtmlbdblnmbmnpaaGreatDoor
open Go.RowKit Tryst
set_option maxHeartbeats 400000
set_option maxRecDepth 20000
theorem _root_.Tryst.FOwn.empty (e : TypeId) (w : World) (base : Nat) (h : base ≤ w.heap.size) : FOwn e (w.alloc (.cells #[] e)) base (.slice (some ⟨w.heap.size, 0, none⟩) 0 0) [] := by
 refine ⟨rfl, .inr ⟨w.heap.size, 0, #[], rfl, h, ?_, Nat.le_refl _, by unfold maxLen; omega, rfl, rfl⟩⟩
 show (w.heap.push _)[w.heap.size]? = _; simp
theorem cells_one (l : List FB) : ∀ u ∈ l.flatMap FB.cells, u.oneCell' = true := by
 intro u hu
 obtain ⟨f, _, hf⟩ := List.mem_flatMap.1 hu
 simp [FB.cells] at hf
 rcases hf with rfl | rfl | rfl | rfl <;> rfl
end Go.Proofs.YtmlbdblnmbmnpaaGreatDoor
namespace Go.Proofs.YtmlbdblnmbmnpaaGreatDoor
open Go.RowKit Tryst
set_option maxHeartbeats 400000
set_option maxRecDepth 20000
end Go.Proofs.YtmlbdblnmbmnpaaGreatDoor
namespace Go.Proofs.YtmlbdblnmbmnpaaGreatDoor
open Go.RowKit Tryst
set_option maxHeartbeats 400000
set_option maxRecDepth 20000
end Go.Proofs.YtmlbdblnmbmnpaaGreatDoor
namespace Go.Proofs.YtmlbdblnmbmnpaaGreatDoor
open Go.RowKit Tryst
set_option maxHeartbeats 400000
set_option maxRecDepth 20000
end Go.Proofs.YtmlbdblnmbmnpaaGreatDoor
namespace Go.Proofs.YtmlbdblnmbmnpaaGreatDoor
open Go.RowKit Tryst
set_option maxHeartbeats 400000
set_option maxRecDepth 20000
end Go.Proofs.YtmlbdblnmbmnpaaGreatDoor
namespace Go.Proofs.YtmlbdblnmbmnpaaGreatDoor
open Go.RowKit Tryst
set_option maxHeartbeats 400000
set_option maxRecDepth 20000
end Go.Proofs.YtmlbdblnmbmnpaaGreatDoor
namespace Go.Proofs.YtmlbdblnmbmnpaaGreatDoor
open Go.RowKit Tryst
set_option maxHeartbeats 400000
set_option maxRecDepth 20000
end Go.Proofs.YtmlbdblnmbmnpaaGreatDoor
namespace Go.Proofs.YtmlbdblnmbmnpaaGreatDoor
open Go.RowKit Tryst
set_option maxHeartbeats 400000
set_option maxRecDepth 20000
end Go.Proofs.YtmlbdblnmbmnpaaGreatDoor
