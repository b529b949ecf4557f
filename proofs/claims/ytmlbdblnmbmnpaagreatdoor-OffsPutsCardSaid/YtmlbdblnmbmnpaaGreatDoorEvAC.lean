/- joined: events. -/
import Derived.Test.YtmlbdblnmbmnpaaGreatDoorProg
import Derived.WalkKit
import Derived.WalkSpells
import Derived.WalkLawsBesides
import Derived.Lib.Hide
import Derived.Deep.RegionWith
import Derived.Deep.Cut
import Derived.Test.YtmlbdblnmbmnpaaGreatDoorFldG
import Derived.Test.YtmlbdblnmbmnpaaGreatDoorEv3U
import Derived.Test.YtmlbdblnmbmnpaaGreatDoorDraws
set_option linter.unusedVariables false
set_option linter.unusedSimpArgs false
namespace Go.Proofs.YtmlbdblnmbmnpaaGreatDoor
open Go.RowKit Tryst
set_option maxHeartbeats 400000
set_option maxRecDepth 20000
def GetRel (l : List FB) (n : ByteArray) (i : Value) : Prop := ∃ k : Nat, k ≤ l.length ∧ i = .int .i64 k ∧ Hid (findB (l.drop k) n = findB l n)
def vV (f : FB) : Value := .agg #[.bool f.num, .int .i64 f.n, .string f.s]
theorem findB_at {l : List FB} {n : ByteArray} {k : Nat} (hlt : k < l.length) (h : findB (l.drop k) n = findB l n) :
  ((l[k].name.toList == n.toList) = true ∧ Hid (findB l n = some l[k])) ∨ ((l[k].name.toList == n.toList) = false ∧ Hid (findB (l.drop (k + 1)) n = findB l n)) := by
 rw [List.drop_eq_getElem_cons hlt, findB_cons] at h
 by_cases e : l[k].name.data.toList = n.data.toList
 ·
  rw [if_pos e] at h
  exact .inl ⟨strEq e, h.symm⟩
 ·
  rw [if_neg e] at h
  exact .inr ⟨strNe e, h⟩
theorem rget_c (t p : ByteArray) (q : Int) (a : Option Addr) (c : Nat) (l : List FB) (hl : l.length ≤ 1000000000) (n : ByteArray) (w : World) (hF : Flds w a l) :
  Calls Tryz.prog 32 #[.agg #[.string t, .string p, .int .u64 q, .slice a l.length c], .string n] w fun e w' =>
   e = .returned (.tuple #[vV ((findB l n).getD FB.zero), .bool (findB l n).isSome]) ∧ Below w.heap.size w w' := by
 have HF := Lib.hid hF
 clear hF
 go_enter Tryz.func32, Tryz.ntmps32
 go_wp2_with fail
 go_loop [6] (fun i => GetRel l n i) (fun i => l.length - (intOf i).toNat)
 case atStart => exact ⟨0, by omega, rfl, rfl⟩
 case round =>
  obtain ⟨k, hk, rfl, HR⟩ := hrel
  by_cases hlt : k < l.length
  ·
   obtain ⟨b, o, ha, hb⟩ := HF.out.head hlt
   subst ha
   obtain ⟨_, f0, f1, f2, f3⟩ := HF.out.at hlt
   rcases findB_at hlt HR.out with ⟨e1, HS⟩ | ⟨e1, HS⟩
   ·
    clear HR
    go_wp2_with fail
    exact bodyPost_ret (v := .tuple #[.agg #[.bool l[k].num, .int .i64 l[k].n, .string l[k].s], .bool true]) (by simp [results, Tryz.results32, go_sem, *]) rfl ⟨ret_eq (by rw [HS.out]; rfl), balloc _ (balloc _ (.refl _ _))⟩
   ·
    clear HR
    go_wp2_with fail
    go_round
    case rel => exact ⟨k + 1, by omega, by go_num, HS.out⟩
    case measure => simp [intOf] <;> omega
  ·
   have HS : Hid (findB l n = none) := by
    have := HR.out
    rw [List.drop_eq_nil_of_le (by omega)] at this
    exact this.symm
   clear HR
   go_wp2_with fail
   exact bodyPost_ret (v := .tuple #[.agg #[.bool false, .int .i64 0, .string ⟨#[]⟩], .bool false]) (by simp [results, Tryz.results32, go_sem, *]) rfl ⟨ret_eq (by rw [HS.out]; rfl), balloc _ (balloc _ (.refl _ _))⟩
end Go.Proofs.YtmlbdblnmbmnpaaGreatDoor
namespace Go.Proofs.YtmlbdblnmbmnpaaGreatDoor
open Go.RowKit Tryst
set_option maxHeartbeats 400000
set_option maxRecDepth 20000
def fV (f : FB) : Value := .agg #[.string f.name, .bool f.num, .int .i64 f.n, .string f.s]
/-- the first place at which p holds, or -1 -/
def idxB (p : FB → Bool) (l : List FB) : Int := match l.findIdx? p with | some i => (i : Int) | none => -1
theorem idxB_yes {p : FB → Bool} {l : List FB} {k : Nat} (hlt : k < l.length) (h : ∀ (j : Nat) (h : j < l.length), j < k → p l[j] = false) (hp : p l[k] = true) : idxB p l = k := by
 unfold idxB
 rw [List.findIdx?_eq_some_iff_getElem.2 ⟨hlt, hp, fun j hj => by rw [h j (by omega) hj]; simp⟩]
theorem idxB_next {p : FB → Bool} {l : List FB} {k : Nat} (hlt : k < l.length) (h : ∀ (j : Nat) (h : j < l.length), j < k → p l[j] = false) (hp : p l[k] = false) : ∀ (j : Nat) (h : j < l.length), j < k + 1 → p l[j] = false := by
 intro j hj hk
 by_cases e : j = k
 ·
  subst e; exact hp
 ·
  exact h j hj (by omega)
theorem idxB_no {p : FB → Bool} {l : List FB} {k : Nat} (hk : l.length ≤ k) (h : ∀ (j : Nat) (h : j < l.length), j < k → p l[j] = false) : idxB p l = -1 := by
 unfold idxB
 rw [List.findIdx?_eq_none_iff.2 fun x hx => by
  obtain ⟨j, hj, rfl⟩ := List.getElem_of_mem hx
  exact h j hj (by omega)]
theorem gtr_eq (a b : List UInt8) : (!Op.bytesLess a b && !(a == b)) = Op.bytesLess b a := by
 rcases less_total a b with h | h | h
 ·
  rw [h, less_asymm h]; rfl
 ·
  subst h; rw [less_irrefl]; simp
 ·
  rw [less_asymm h, h]
  have : (a == b) = false := by
   rw [beq_eq_false_iff_ne]; rintro rfl; rw [less_irrefl] at h; cases h
  rw [this]; rfl
theorem find1_c (f : FB) (n : ByteArray) (a : Addr) (w : World) (hc : w.cell? a = some (.string n)) (hb : a.block < w.heap.size) :
  Calls Tryz.prog 127 #[fV f, .pointer (some a)] w fun e w' => e = .returned (.bool (f.name.toList == n.toList)) ∧ Below w.heap.size w w' := by
 obtain ⟨b, o, x⟩ := a
 unfold fV
 go_enter Tryz.func127, Tryz.ntmps127
 go_wp2_with fail
 go_ret
 exact ⟨rfl, balloc _ (.refl _ _)⟩
def IdxRel (p : FB → Bool) (l : List FB) (w : World) (i : Value) (wr : World) : Prop := ∃ k : Nat, k ≤ l.length ∧ i = .int .i64 k ∧ Hid (∀ (j : Nat) (h : j < l.length), j < k → p l[j] = false) ∧ Hid (Below w.heap.size w wr) ∧ w.heap.size ≤ wr.heap.size
theorem indexName_c (n : ByteArray) (A : Addr) (a : Option Addr) (c : Nat) (l : List FB) (hl : l.length ≤ 1000000000) (w : World) (hF : Flds w a l) (hA : w.cell? A = some (.string n)) (hAb : A.block < w.heap.size) :
  Calls Tryz.prog 126 #[.slice a l.length c, .func (.func 127) #[] #[.pointer (some A)]] w fun e w' => e = .returned (.int .i64 (idxB (fun f => f.name.toList == n.toList) l)) ∧ Below w.heap.size w w' := by
 have HF := Lib.hid hF
 have HA := Lib.hid hA
 clear hF hA
 go_enter Tryz.func126, Tryz.ntmps126
 go_wp2_with fail
 go_loopw [8] (fun i wr => IdxRel (fun f => f.name.toList == n.toList) l w i wr) (fun i _ => l.length - (intOf i).toNat)
 case atStart => exact ⟨0, by omega, rfl, fun _ _ h => by omega, .refl _ _, by omega⟩
 case round =>
  obtain ⟨k, hk, rfl, HR, HW, hz⟩ := hrel
  obtain ⟨wo, rfl⟩ : ∃ wo, wo = wr := ⟨_, rfl⟩
  by_cases hlt : k < l.length
  ·
   have HF2 := Lib.hid (HF.out.grow HW.out)
   have HA2 := Lib.hid ((HW.out.cell hAb).trans HA.out)
   clear HF HA
   obtain ⟨b, o, ha, hb⟩ := HF2.out.head hlt
   subst ha
   obtain ⟨_, f0, f1, f2, f3⟩ := HF2.out.at hlt
   cases hpk : (fun (f : FB) => f.name.toList == n.toList) l[k] with
   | true =>
    have HK := Lib.hid hpk
    have HI := Lib.hid (idxB_yes (p := fun f => f.name.toList == n.toList) hlt HR.out hpk)
    clear hpk HR
    go_wp2_with fail
    refine (find1_c l[k] n A _ HA2.out (by omega)).mono ?_
    rintro e w2 ⟨rfl, hb2⟩
    rw [show (l[k].name.toList == n.toList) = true from HK.out]
    go_wp2_with fail
    go_ret
    refine ⟨ret_int HI.out.symm, ?_⟩
    exact HW.out.trans (hb2.mono HW.out.size)
   | false =>
    have HK := Lib.hid hpk
    have HI := Lib.hid (idxB_next (p := fun f => f.name.toList == n.toList) hlt HR.out hpk)
    clear hpk HR
    go_wp2_with fail
    refine (find1_c l[k] n A _ HA2.out (by omega)).mono ?_
    rintro e w2 ⟨rfl, hb2⟩
    rw [show (l[k].name.toList == n.toList) = false from HK.out]
    have hz2 := hb2.size
    have HB2 := Lib.hid (HW.out.trans (hb2.mono HW.out.size))
    clear hb2
    go_wp2_with fail
    go_roundw
    case rel => exact ⟨k + 1, by omega, by go_num, HI.out, HB2.out, by omega⟩
    case measure => simp [intOf] <;> omega
  ·
   have HI := Lib.hid (idxB_no (p := fun f => f.name.toList == n.toList) (by omega : l.length ≤ k) HR.out)
   clear HR
   go_wp2_with fail
   go_ret
   exact ⟨ret_int HI.out.symm, HW.out⟩
end Go.Proofs.YtmlbdblnmbmnpaaGreatDoor
namespace Go.Proofs.YtmlbdblnmbmnpaaGreatDoor
open Go.RowKit Tryst
set_option maxHeartbeats 400000
set_option maxRecDepth 20000
theorem idx_cases (l : List FB) (n : ByteArray) : (∃ (k : Nat) (h : k < l.length), idxB (fun f => f.name.toList == n.toList) l = k ∧ findB l n = some l[k]) ∨ (idxB (fun f => f.name.toList == n.toList) l = -1 ∧ findB l n = none) := by
 have e : ∀ f : FB, (f.name.toList == n.toList) = decide (f.name.data.toList = n.data.toList) := fun f => by
  by_cases h : f.name.data.toList = n.data.toList
  ·
   rw [strEq h, decide_eq_true h]
  ·
   rw [strNe h, decide_eq_false h]
 unfold idxB findB
 simp only [e]
 cases h : l.findIdx? (fun f => decide (f.name.data.toList = n.data.toList)) with
 | none =>
  refine .inr ⟨rfl, ?_⟩
  rw [List.find?_eq_none]
  intro x hx
  have := List.findIdx?_eq_none_iff.1 h x hx
  simpa using this
 | some k =>
  obtain ⟨hk, h1, h2⟩ := List.findIdx?_eq_some_iff_getElem.1 h
  refine .inl ⟨k, hk, rfl, ?_⟩
  rw [List.find?_eq_some_iff_getElem]
  exact ⟨h1, k, hk, rfl, fun j hj => by simpa using h2 j hj⟩
theorem find_c (t p : ByteArray) (q : Int) (a : Option Addr) (c : Nat) (l : List FB) (hl : l.length ≤ 1000000000) (n : ByteArray) (w : World) (hF : Flds w a l) :
  Calls Tryz.prog 102 #[.agg #[.string t, .string p, .int .u64 q, .slice a l.length c], .string n] w fun e w' =>
   e = .returned (.int .i64 (idxB (fun f => f.name.toList == n.toList) l)) ∧ Below w.heap.size w w' := by
 have HF := Lib.hid hF
 clear hF
 go_enter Tryz.func102, Tryz.ntmps102
 go_wp2_with fail
 have HF2 := HF.out.grow (balloc (.cells #[.string n] 9) (balloc (.cells #[.string t, .string p, .int .u64 q, .slice a l.length c] 63) (.refl w.heap.size w)))
 refine (indexName_c n ⟨w.heap.size + 1, 0, none⟩ a c l hl _ HF2 (by simp [go_sem]) (by simp)).mono ?_
 rintro e w1 ⟨rfl, hb1⟩
 go_wp2_with fail
 go_ret
 refine ⟨rfl, ?_⟩
 (repeat (first | exact Below.refl _ _ | assumption | refine bdrew ?_ | refine balloc _ ?_ | refine bset _ (by simp) ?_ | refine bstep (by assumption) ?_ | refine Grow.below (by assumption) ?_ | refine Tryst2.Grow.below (by assumption) ?_))
theorem get_c (t p : ByteArray) (q : Int) (a : Option Addr) (c : Nat) (l : List FB) (hl : l.length ≤ 1000000000) (n : ByteArray) (w : World) (hF : Flds w a l) :
  Calls Tryz.prog 69 #[.agg #[.string t, .string p, .int .u64 q, .slice a l.length c], .string n] w fun e w' =>
   e = .returned (.tuple #[vV ((findB l n).getD FB.zero), .bool (findB l n).isSome]) ∧ Below w.heap.size w w' := by
 have HF := Lib.hid hF
 clear hF
 rcases idx_cases l n with ⟨k, hk, h1, h2⟩ | ⟨h1, h2⟩
 ·
  obtain ⟨b, o, ha, hb⟩ := HF.out.head hk
  subst ha
  have HFA := Lib.hid (HF.out.at hk).2
  have H1 := Lib.hid h1
  have H2 := Lib.hid h2
  clear h1 h2
  go_enter Tryz.func69, Tryz.ntmps69
  go_wp2_with fail
  have HF2 := HF.out.grow (balloc (.cells #[.bool false, .int .i64 0, .string ⟨#[]⟩] 67) (balloc (.cells #[.string t, .string p, .int .u64 q, .slice (some ⟨b, o, none⟩) l.length c] 63) (.refl w.heap.size w)))
  refine (find_c t p q _ c l hl n _ HF2).mono ?_
  rintro e w1 ⟨rfl, hb1⟩
  rw [H1.out]
  obtain ⟨hc1, hf1⟩ := bcell hb1
  have hz1 : w.heap.size + 1 < w1.heap.size := (by have := hb1.size; simp at this; omega)
  have hbw := bstep hb1 (balloc (.cells #[.bool false, .int .i64 0, .string ⟨#[]⟩] 67) (balloc (.cells #[.string t, .string p, .int .u64 q, .slice (some ⟨b, o, none⟩) l.length c] 63) (.refl w.heap.size w)))
  obtain ⟨f0, f1, f2, f3⟩ := HFA.out.grow hb hbw
  have x1 : (0 : Int) ≤ k := by omega
  have hb' : b < w1.heap.size := by omega
  have HB := Lib.hid hbw
  clear hb1 hbw
  go_wp2_with fail
  exact bodyPost_ret (v := .tuple #[.agg #[.bool l[k].num, .int .i64 l[k].n, .string l[k].s], .bool true]) (by simp [results, Tryz.results69, go_sem, *]) rfl ⟨ret_eq (by rw [H2.out]; rfl), bset _ (by simp) (bset _ (by simp) (bset _ (by simp) HB.out))⟩
 ·
  have H1 := Lib.hid h1
  have H2 := Lib.hid h2
  clear h1 h2
  go_enter Tryz.func69, Tryz.ntmps69
  go_wp2_with fail
  have HF2 := HF.out.grow (balloc (.cells #[.bool false, .int .i64 0, .string ⟨#[]⟩] 67) (balloc (.cells #[.string t, .string p, .int .u64 q, .slice a l.length c] 63) (.refl w.heap.size w)))
  refine (find_c t p q _ c l hl n _ HF2).mono ?_
  rintro e w1 ⟨rfl, hb1⟩
  rw [H1.out]
  obtain ⟨hc1, hf1⟩ := bcell hb1
  have hz1 : w.heap.size + 1 < w1.heap.size := (by have := hb1.size; simp at this; omega)
  have HB := Lib.hid (bstep hb1 (balloc (.cells #[.bool false, .int .i64 0, .string ⟨#[]⟩] 67) (balloc (.cells #[.string t, .string p, .int .u64 q, .slice a l.length c] 63) (.refl w.heap.size w))))
  clear hb1
  go_wp2_with fail
  exact bodyPost_ret (v := .tuple #[.agg #[.bool false, .int .i64 0, .string ⟨#[]⟩], .bool false]) (by simp [results, Tryz.results69, go_sem, *]) rfl ⟨ret_eq (by rw [H2.out]; rfl), bset _ (by simp) (bset _ (by simp) (bset _ (by simp) HB.out))⟩
end Go.Proofs.YtmlbdblnmbmnpaaGreatDoor
namespace Go.Proofs.YtmlbdblnmbmnpaaGreatDoor
open Go.RowKit Tryst
set_option maxHeartbeats 400000
set_option maxRecDepth 20000
def CloneR (w : World) (l : List FB) (e : Ending) (w' : World) : Prop := ∃ a c, e = .returned (.slice a l.length c) ∧ FOwn 96 w' w.heap.size (.slice a l.length c) l ∧ Below w.heap.size w w'
theorem flds_cells {w : World} {b o : Nat} {l : List FB} (h : Flds w (some ⟨b, o, none⟩) l) : ∀ (j : Nat) u, (l.flatMap FB.cells)[j]? = some u → w.cell? ((⟨b, o, none⟩ : Addr).add j) = some u := by
 intro j u hj
 have hjl : j < l.length * 4 := by rw [← flat_len]; exact (List.getElem?_eq_some_iff.1 hj).1
 have hi : j / 4 < l.length := by omega
 obtain ⟨_, f0, f1, f2, f3⟩ := h.at hi
 have e := flat_at l (j / 4) hi (j % 4) (by omega)
 rw [show j / 4 * 4 + j % 4 = j by omega, hj] at e
 rw [Addr.add_lit]
 have hm : j % 4 = 0 ∨ j % 4 = 1 ∨ j % 4 = 2 ∨ j % 4 = 3 := by omega
 rcases hm with hm | hm | hm | hm <;> rw [hm] at e <;> simp [FB.cells] at e <;> subst e
 ·
  rw [show o + j = o + j / 4 * 4 by omega]; exact f0
 ·
  rw [show o + j = o + j / 4 * 4 + 1 by omega]; exact f1
 ·
  rw [show o + j = o + j / 4 * 4 + 2 by omega]; exact f2
 ·
  rw [show o + j = o + j / 4 * 4 + 3 by omega]; exact f3
theorem _root_.Tryst.FOwn.empty (e : TypeId) (w : World) (base : Nat) (h : base ≤ w.heap.size) : FOwn e (w.alloc (.cells #[] e)) base (.slice (some ⟨w.heap.size, 0, none⟩) 0 0) [] := by
 refine ⟨rfl, .inr ⟨w.heap.size, 0, #[], rfl, h, ?_, Nat.le_refl _, by unfold maxLen; omega, rfl, rfl⟩⟩
 show (w.heap.push _)[w.heap.size]? = _; simp
theorem cells_one (l : List FB) : ∀ u ∈ l.flatMap FB.cells, u.oneCell' = true := by
 intro u hu
 obtain ⟨f, _, hf⟩ := List.mem_flatMap.1 hu
 simp [FB.cells] at hf
 rcases hf with rfl | rfl | rfl | rfl <;> rfl
end Go.Proofs.YtmlbdblnmbmnpaaGreatDoor
namespace Go.Proofs.YtmlbdblnmbmnpaaGreatDoor
open Go.RowKit Tryst
set_option maxHeartbeats 400000
set_option maxRecDepth 20000
theorem findB_idx {l : List FB} {n : ByteArray} {k : Nat} (hk : k < l.length) (h : idxB (fun f => f.name.toList == n.toList) l = k) : l[k].name.data.toList = n.data.toList ∧ ∀ (j : Nat) (h : j < l.length), j < k → l[j].name.data.toList ≠ n.data.toList := by
 unfold idxB at h
 cases e : l.findIdx? (fun f => f.name.toList == n.toList) with
 | none => rw [e] at h; simp at h
 | some i =>
  rw [e] at h
  have h' : i = k := by
   have h3 : (i : Int) = k := by simpa using h
   omega
  subst h'
  obtain ⟨_, h1, h2⟩ := List.findIdx?_eq_some_iff_getElem.1 e
  refine ⟨?_, fun j hj hlt hne => h2 j hlt (strEq hne)⟩
  have := beq_iff_eq.1 h1
  rwa [str_toList, str_toList] at this
theorem setAt {w : World} {b o : Nat} {l : List FB} {k : Nat} (hk : k < l.length) (h : Flds w (some ⟨b, o, none⟩) l) (f : FB) :
  Flds ((((w.setCell ⟨b, o + k * 4, none⟩ (.string f.name)).setCell ⟨b, o + k * 4 + 1, none⟩ (.bool f.num)).setCell ⟨b, o + k * 4 + 2, none⟩ (.int .i64 f.n)).setCell ⟨b, o + k * 4 + 3, none⟩ (.string f.s)) (some ⟨b, o, none⟩) (l.set k f) := by
 intro i hi
 have hi' : i < l.length := by simpa using hi
 obtain ⟨hb, f0, f1, f2, f3⟩ := h.at hi'
 obtain ⟨_, g0, g1, g2, g3⟩ := h.at hk
 refine ⟨b, o, rfl, by simpa using hb, ?_⟩
 by_cases e : k = i
 ·
  subst e
  rw [List.getElem_set_self]
  constructor <;> simp [cell_setCell, g0, g1, g2, g3]
 ·
  rw [List.getElem_set_ne e]
  have e0 : ∀ x y, x < 4 → y < 4 → ¬ o + k * 4 + x = o + i * 4 + y := fun x y hx hy => by omega
  have q00 := e0 0 0 (by omega) (by omega); have q01 := e0 0 1 (by omega) (by omega); have q02 := e0 0 2 (by omega) (by omega); have q03 := e0 0 3 (by omega) (by omega)
  have q10 := e0 1 0 (by omega) (by omega); have q11 := e0 1 1 (by omega) (by omega); have q12 := e0 1 2 (by omega) (by omega); have q13 := e0 1 3 (by omega) (by omega)
  have q20 := e0 2 0 (by omega) (by omega); have q21 := e0 2 1 (by omega) (by omega); have q22 := e0 2 2 (by omega) (by omega); have q23 := e0 2 3 (by omega) (by omega)
  have q30 := e0 3 0 (by omega) (by omega); have q31 := e0 3 1 (by omega) (by omega); have q32 := e0 3 2 (by omega) (by omega); have q33 := e0 3 3 (by omega) (by omega)
  simp only [Nat.add_zero] at q00 q01 q02 q03 q10 q20 q30
  constructor
  ·
   rw [cell_setCell, if_neg (fun h => q30 h.2), cell_setCell, if_neg (fun h => q20 h.2), cell_setCell, if_neg (fun h => q10 h.2), cell_setCell, if_neg (fun h => q00 h.2)]; exact f0
  ·
   rw [cell_setCell, if_neg (fun h => q31 h.2), cell_setCell, if_neg (fun h => q21 h.2), cell_setCell, if_neg (fun h => q11 h.2), cell_setCell, if_neg (fun h => q01 h.2)]; exact f1
  ·
   rw [cell_setCell, if_neg (fun h => q32 h.2), cell_setCell, if_neg (fun h => q22 h.2), cell_setCell, if_neg (fun h => q12 h.2), cell_setCell, if_neg (fun h => q02 h.2)]; exact f2
  ·
   rw [cell_setCell, if_neg (fun h => q33 h.2), cell_setCell, if_neg (fun h => q23 h.2), cell_setCell, if_neg (fun h => q13 h.2), cell_setCell, if_neg (fun h => q03 h.2)]; exact f3
end Go.Proofs.YtmlbdblnmbmnpaaGreatDoor
namespace Go.Proofs.YtmlbdblnmbmnpaaGreatDoor
open Go.RowKit Tryst
set_option maxHeartbeats 400000
set_option maxRecDepth 20000
theorem aboveB_idx {l : List FB} {n : ByteArray} {k : Nat} (hk : k < l.length) (h : idxB (fun f => Op.bytesLess n.toList f.name.toList) l = k) : Op.bytesLess n.data.toList l[k].name.data.toList = true ∧ ∀ (j : Nat) (h : j < l.length), j < k → Op.bytesLess n.data.toList l[j].name.data.toList = false := by
 unfold idxB at h
 cases e : l.findIdx? (fun f => Op.bytesLess n.toList f.name.toList) with
 | none => rw [e] at h; simp at h
 | some i =>
  rw [e] at h
  have h' : i = k := by
   have h3 : (i : Int) = k := by simpa using h
   omega
  subst h'
  obtain ⟨_, h1, h2⟩ := List.findIdx?_eq_some_iff_getElem.1 e
  refine ⟨by rwa [str_toList, str_toList] at h1, fun j hj hlt => ?_⟩
  have := h2 j hlt
  rw [str_toList, str_toList] at this
  simpa using this
theorem above_cases (l : List FB) (f : FB) : (∃ (k : Nat), k < l.length ∧ idxB (fun x => Op.bytesLess f.name.toList x.name.toList) l = k ∧ insB l f = l.take k ++ [f] ++ l.drop k) ∨ (idxB (fun x => Op.bytesLess f.name.toList x.name.toList) l = -1 ∧ insB l f = l ++ [f]) := by
 cases e : l.findIdx? (fun x => Op.bytesLess f.name.toList x.name.toList) with
 | none =>
  refine .inr ⟨by unfold idxB; rw [e], ?_⟩
  have h := List.findIdx?_eq_none_iff.1 e
  have := insB_at l f l.length (Nat.le_refl _) (fun h => by omega) (fun j hj _ => by
   have := h l[j] (List.getElem_mem hj)
   rwa [str_toList, str_toList] at this)
  rw [this]; simp
 | some k =>
  obtain ⟨hk, _, _⟩ := List.findIdx?_eq_some_iff_getElem.1 e
  have hi : idxB (fun x => Op.bytesLess f.name.toList x.name.toList) l = k := by unfold idxB; rw [e]
  obtain ⟨h1, h2⟩ := aboveB_idx hk hi
  exact .inl ⟨k, hk, hi, insB_at l f k (by omega) (fun _ => h1) h2⟩
theorem infoF : (Tryz.prog.info? 96).map (fun i => (i.zero, i.size, i.bytes)) = some (some (.agg #[.string ⟨#[]⟩, .bool false, .int .i64 0, .string ⟨#[]⟩]), 4, 48) := by kernel_rfl
theorem makeF (n : Nat) (hn : n ≤ 1000000001) : ∃ M : Array Value, M.size = n * 4 ∧ ∀ w : World, (Instr.makeSlice 61 (.int .i64 0) (.int .i64 (n : Int))).run Tryz.prog w = .ok (.slice (some ⟨w.heap.size, 0, none⟩) 0 n) (w.alloc (.cells M 96)) := by
 obtain ⟨i, hi, hz, h2, h3⟩ := info_parts infoF
 refine ⟨madeCells (Value.agg #[.string ⟨#[]⟩, .bool false, .int .i64 0, .string ⟨#[]⟩]).cells (n * 4), size_madeCells _ _, fun w => ?_⟩
 have hr := run_make (P := Tryz.prog) w 61 96 i _ Tryz.underlying61 hi hz .i64 .i64 0 n (Int.le_refl _) (by omega) (by rw [h3]; omega) (by omega)
 rw [h2] at hr
 simpa using hr
end Go.Proofs.YtmlbdblnmbmnpaaGreatDoor
namespace Go.Proofs.YtmlbdblnmbmnpaaGreatDoor
open Go.RowKit Tryst
set_option maxHeartbeats 400000
set_option maxRecDepth 20000
end Go.Proofs.YtmlbdblnmbmnpaaGreatDoor
namespace Go.Proofs.YtmlbdblnmbmnpaaGreatDoor
open Go.RowKit Tryst
set_option maxHeartbeats 400000
set_option maxRecDepth 20000
end Go.Proofs.YtmlbdblnmbmnpaaGreatDoor
namespace Go.Proofs.YtmlbdblnmbmnpaaGreatDoor
open Go.RowKit Tryst
set_option maxHeartbeats 400000
set_option maxRecDepth 20000
theorem idx_find {l : List FB} {n : ByteArray} (h : idxB (fun f => f.name.toList == n.toList) l = -1) : findB l n = none := by
 rcases idx_cases l n with ⟨k, _, h1, _⟩ | ⟨_, h2⟩
 ·
  rw [h1] at h; omega
 ·
  exact h2
end Go.Proofs.YtmlbdblnmbmnpaaGreatDoor
namespace Go.Proofs.YtmlbdblnmbmnpaaGreatDoor
open Go.RowKit Tryst
set_option maxHeartbeats 400000
set_option maxRecDepth 20000
def fV2 (f : FB) : Value := .agg #[.string f.name, .bool f.num, .int .i64 f.n, .string f.s]
def SameR (w : World) (t1 t2 p1 p2 : ByteArray) (q1 q2 : Int) (l1 l2 : List FB) (e : Ending) (w' : World) : Prop := ∃ r : Bool, e = .returned (.bool r) ∧ (r = true ↔ t1 = t2 ∧ p1 = p2 ∧ q1 = q2 ∧ l1 = l2) ∧ Below w.heap.size w w'
theorem fb_cases (x y : FB) : x = y ∨ (x ≠ y ∧ (((x.name.toList == y.name.toList) = false) ∨ ((x.name.toList == y.name.toList) = true ∧ (x.num == y.num) = false) ∨ ((x.name.toList == y.name.toList) = true ∧ (x.num == y.num) = true ∧ (x.n == y.n) = false) ∨ ((x.name.toList == y.name.toList) = true ∧ (x.num == y.num) = true ∧ (x.n == y.n) = true ∧ (x.s.toList == y.s.toList) = false))) := by
 by_cases h : x = y
 ·
  exact .inl h
 ·
  refine .inr ⟨h, ?_⟩
  by_cases h1 : x.name.data.toList = y.name.data.toList
  ·
   by_cases h2 : x.num = y.num
   ·
    by_cases h3 : x.n = y.n
    ·
     have h4 : ¬ x.s.data.toList = y.s.data.toList := fun h4 => h (FB.ext' (by simp only [FB.fld, h1, h2, h3, h4]))
     exact .inr (.inr (.inr ⟨strEq h1, by simpa using h2, by simpa using h3, strNe h4⟩))
    ·
     exact .inr (.inr (.inl ⟨strEq h1, by simpa using h2, by simpa using h3⟩))
   ·
    exact .inr (.inl ⟨strEq h1, by simpa using h2⟩)
  ·
   exact .inl (strNe h1)
theorem ba_cases (s t : ByteArray) : (s = t) ∨ (s ≠ t ∧ (s.toList == t.toList) = false ∧ (s.toList != t.toList) = true) := by
 by_cases h : s = t
 ·
  exact .inl h
 ·
  have h1 : (s.toList == t.toList) = false := strNe (fun e => h (str_ext e))
  exact .inr ⟨h, h1, by rw [bne, h1]; rfl⟩
def SameRel (w W : World) (l1 l2 : List FB) (i : Value) (wr : World) : Prop := ∃ k : Nat, k ≤ l1.length ∧ i = .int .i64 k ∧ Hid (∀ (j : Nat) (h1 : j < l1.length) (h2 : j < l2.length), j < k → l1[j] = l2[j]) ∧ Hid (Below W.heap.size W wr) ∧ W.heap.size ≤ wr.heap.size
end Go.Proofs.YtmlbdblnmbmnpaaGreatDoor
namespace Go.Proofs.YtmlbdblnmbmnpaaGreatDoor
open Go.RowKit Tryst
set_option maxHeartbeats 400000
set_option maxRecDepth 20000
def EqR (w : World) (l1 l2 : List FB) (e : Ending) (w' : World) : Prop := ∃ r : Bool, e = .returned (.bool r) ∧ (r = true ↔ l1 = l2) ∧ Below w.heap.size w w'
end Go.Proofs.YtmlbdblnmbmnpaaGreatDoor
