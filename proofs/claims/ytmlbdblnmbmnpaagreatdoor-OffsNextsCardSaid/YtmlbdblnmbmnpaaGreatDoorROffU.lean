/- joined: ref14.Check, Get, Put, SameOffs; law14.Offs. -/
import Derived.Test.YtmlbdblnmbmnpaaGreatDoorProg
import Derived.WalkKit
import Derived.WalkSpells
import Derived.WalkLawsBesides
import Derived.Lib.Hide
import Derived.Deep.RegionWith
import Derived.Deep.Cut
import Derived.IntWalk
import Derived.Test.YtmlbdblnmbmnpaaGreatDoorOffU
import Derived.Test.YtmlbdblnmbmnpaaGreatDoorNmB
import Derived.Test.YtmlbdblnmbmnpaaGreatDoorEv3U
set_option linter.unusedVariables false
set_option linter.unusedSimpArgs false
namespace Tryst
open Go Go.Lib
theorem getO_drop {l : List OB} {n : ByteArray} {k : Nat} (hk : k < l.length) : getO (l.drop k) n = if isO n l[k] = true then l[k].next else getO (l.drop (k + 1)) n := by
 rw [getO_eq, getO_eq, List.drop_eq_getElem_cons hk, List.find?_cons]
 cases isO n l[k] <;> simp
def prevO (l : List OB) : Nat → Option ByteArray
 | 0 => none
 | k + 1 => (l[k]?).map OB.topic
theorem prevO_succ {l : List OB} {k : Nat} (hk : k < l.length) : prevO l (k + 1) = some l[k].topic := by
 show (l[k]?).map OB.topic = _; rw [List.getElem?_eq_getElem hk]; rfl
theorem okO_step {l : List OB} {k : Nat} (hk : k < l.length) : okO (prevO l k) (l.drop k) = (oMay l[k] && ((match prevO l k with | none => true | some q => lessB q l[k].topic) && okO (prevO l (k + 1)) (l.drop (k + 1)))) := by
 rw [List.drop_eq_getElem_cons hk, prevO_succ hk]
 cases prevO l k <;> rfl
theorem okO_end {l : List OB} {k : Nat} (hk : l.length ≤ k) : okO (prevO l k) (l.drop k) = true := by
 rw [List.drop_eq_nil_of_le hk]
 cases prevO l k <;> rfl
def eqO (a b : OB) : Bool := decide (a.topic = b.topic) && decide (a.next = b.next)
def sameO (l m : List OB) : Bool := decide (l.length = m.length) && (l.zip m).all (fun x => eqO x.1 x.2)
theorem zip_lenO {l m : List OB} (h : l.length = m.length) : (l.zip m).length = l.length := by rw [List.length_zip, ← h, Nat.min_self]
theorem sameO_self (l : List OB) : sameO l l = true := by
 unfold sameO
 rw [decide_eq_true rfl, Bool.true_and, List.all_eq_true]
 intro x hx
 obtain ⟨i, hi, rfl⟩ := List.getElem_of_mem hx
 rw [List.getElem_zip]
 simp [eqO]
end Tryst
namespace Go.Proofs.YtmlbdblnmbmnpaaGreatDoor
open Go.RowKit Tryst
set_option maxHeartbeats 2000000
set_option maxRecDepth 20000
def RGetRel (w : World) (l : List OB) (n : ByteArray) (R : Int) (i : Value) (wr : World) : Prop := ∃ k : Nat, k ≤ l.length ∧ i = .int .i64 k ∧ Hid (R = getO (l.drop k) n) ∧ Hid (Below w.heap.size w wr)
theorem roget_c (n : ByteArray) (a : Option Addr) (c : Nat) (l : List OB) (hl : l.length ≤ 1000000) (w : World) (hO : Offs w a l) :
  Calls Tryz.prog 19 #[.slice a l.length c, .string n] w fun e w' => e = .returned (.int .i64 (getO l n)) ∧ Below w.heap.size w w' := by
 have HF := Lib.hid (fun W (hb : Below w.heap.size w W) => OfR.mk (Row.grow hO hb))
 obtain ⟨R, hR⟩ : ∃ R, getO l n = R := ⟨_, rfl⟩
 have HR : Hid (R = getO (l.drop 0) n) := Lib.hid hR.symm
 rw [hR]
 clear hO hR
 go_enter Tryz.func19, Tryz.ntmps19
 go_wp2_with fail
 go_loopw [5] (fun i wr => RGetRel w l n R i wr) (fun i _ => l.length - (intOf i).toNat)
 case atStart => exact ⟨0, by omega, rfl, HR, .refl _ _⟩
 case round =>
  clear HR
  obtain ⟨k, hk, rfl, HP, HW⟩ := hrel
  obtain ⟨wo, rfl⟩ : ∃ wo, wo = wr := ⟨_, rfl⟩
  by_cases hlt : k < l.length
  ·
   obtain ⟨b, o, ha, hb⟩ := (HF.out wo HW.out).head hlt
   subst ha
   obtain ⟨_, f0, f1⟩ := (HF.out wo HW.out).r.at hlt
   have hst := getO_drop (n := n) hlt
   rw [← HP.out] at hst
   by_cases he : l[k].topic.data.toList = n.data.toList
   ·
    have h1 : (l[k].topic.toList == n.toList) = true := strEq he
    have HN := Lib.hid (show R = l[k].next by rw [hst, if_pos (by unfold isO; exact decide_eq_true he)])
    clear he hst HP
    go_wp2_with fail
    go_ret
    exact ⟨ret_int HN.out.symm, HW.out⟩
   ·
    have h1 : (l[k].topic.toList == n.toList) = false := strNe he
    have HN := Lib.hid (show R = getO (l.drop (k + 1)) n by rw [hst, if_neg (by unfold isO; rw [decide_eq_false he]; simp)])
    clear he hst HP
    go_wp2_with fail
    go_roundw
    case rel => exact ⟨k + 1, by omega, by go_num, HN, HW⟩
    case measure => simp [intOf] <;> omega
  ·
   have HN := Lib.hid (show R = 0 by rw [HP.out, List.drop_eq_nil_of_le (by omega)]; rfl)
   go_wp2_with fail
   go_ret
   exact ⟨ret_int HN.out.symm, HW.out⟩
def RChkRel (w : World) (l : List OB) (R : Bool) (i : Value) (wr : World) : Prop := ∃ k : Nat, k ≤ l.length ∧ i = .int .i64 k ∧ Hid (R = okO (prevO l k) (l.drop k)) ∧ Hid (Below w.heap.size w wr)
theorem rocheck_c (a : Option Addr) (c : Nat) (l : List OB) (hl : l.length ≤ 1000000) (hs : ∀ x ∈ l, x.topic.size ≤ 1000000) (w : World) (hO : Offs w a l) :
  Calls Tryz.prog 21 #[.slice a l.length c] w fun e w' => e = .returned (.bool (checkO l)) ∧ Below w.heap.size w w' := by
 have HF := Lib.hid (fun W (hb : Below w.heap.size w W) => OfR.mk (Row.grow hO hb))
 have HC := Lib.hid (fun (k : Nat) (hk : k < l.length) W => rtopic_c l[k].topic (hs _ (List.getElem_mem hk)) W)
 obtain ⟨R, hR⟩ : ∃ R, okO none l = R := ⟨_, rfl⟩
 unfold checkO
 rw [hR]
 have HR : Hid (R = okO (prevO l 0) (l.drop 0)) := Lib.hid (by rw [← hR]; rfl)
 clear hO hR hs
 go_enter Tryz.func21, Tryz.ntmps21
 go_wp2_with fail
 go_loopw [3] (fun i wr => RChkRel w l R i wr) (fun i _ => l.length - (intOf i).toNat)
 case atStart => exact ⟨0, by omega, rfl, HR, .refl _ _⟩
 case round =>
  clear HR
  obtain ⟨k, hk, rfl, HP, HW⟩ := hrel
  obtain ⟨wo, rfl⟩ : ∃ wo, wo = wr := ⟨_, rfl⟩
  by_cases hlt : k < l.length
  ·
   obtain ⟨b, o, ha, hb⟩ := (HF.out wo HW.out).head hlt
   subst ha
   obtain ⟨_, f0, f1⟩ := (HF.out wo HW.out).r.at hlt
   have hst := okO_step hlt
   rw [← HP.out] at hst
   have HCC := Lib.hid (HC.out k hlt)
   have hmy : oMay l[k] = (topicB l[k].topic.data.toList && decide (0 ≤ l[k].next)) := rfl
   rw [hmy] at hst
   obtain ⟨tb, htb⟩ : ∃ b, topicB l[k].topic.data.toList = b := ⟨_, rfl⟩
   rw [htb] at hst HCC
   have HST := Lib.hid hst
   clear hst hmy htb HP
   go_upto_region 4 with fail
   cases tb with
   | false =>
    have HN : Hid (R = false) := Lib.hid (by rw [HST.out]; rfl)
    clear HST
    refine Tryst2.wp_region_grows [.is (.slice (some ⟨b, o, none⟩) l.length c), .is (.int .i64 (k : Int)), .is (.pointer (some ⟨b, o + k * 2, none⟩)), .is (.pointer (some ⟨b, o + k * 2, none⟩)), .is (.string l[k].topic), .is (.bool false), .is (.bool true), .is (.bool true), .is undef, .is undef, .is undef, .is undef, .is undef, .is undef, .is (.bool true), .is (.bool true), .is undef, .is undef, .is undef, .is undef, .is undef, .is undef, .is undef, .is undef, .is undef, .is undef, .is undef, .is undef, .is undef, .is undef, .is undef, .is undef, .is (.bool true)] (by kernel_rfl) (by kernel_rfl) ?obl ?fin
    case obl =>
     simp only [Tryst2.AllObl, Tryst2.dstL, Tryst2.Obl, Tryst2.depsOf, Y00, Y01, Y02, Y03, Y04, Y05, Y06, Y07, Y08, Y09, Tryst2.depsR, Tryst2.holdR, Tryst2.tmpsOf, Op.operands, Call.operands, Tryst2.Rsp.pred, Y10, Y11, Y12, Y13, Y14, Y15, Y16, Y17, Y18, Y19, Y20, Y21, Y22, id, Y23, Y24, Tryst2.isDst, Y25, Y26, Y33]
     repeat' apply And.intro
     any_goals trivial
     all_goals (intro tv w' hg hold hd; (try simp at hold); obtain ⟨hcg, hfg⟩ := Tryst2.Grow.cells hg; have hsg := Tryst2.Grow.le hg)
     all_goals first | (go_simp; done) | (go_simp; rw [if_neg (by omega)]; exact ⟨.refl _, rfl⟩) | (obtain ⟨⟨g, hvg, hgg, hcell⟩, _⟩ := hd; have hcell0 := hcell 0 (by decide); simp at hcell0; go_simp; done) | (go_simp; go_at_call 43; (with_reducible refine (HCC.out _).mono ?_); rintro e w5 ⟨rfl, hb5⟩; exact ⟨hb5, rfl⟩)
    case fin =>
     intro tv w' hg hR
     simp only [Tryst2.allR, Tryst2.dstL, Tryst2.Rsp.pred, Y13, Y14, Y16, Y17, Y18, Y19, Y27, Y33] at hR
     obtain ⟨hcg, hfg⟩ := Tryst2.Grow.cells hg
     have hsg := Tryst2.Grow.le hg
     simp only [Tryst2.putAll, Tryst2.dstL, Y13, Y14, Y16, Y17, Y18, Y19, Y33, Y28, Y29, Act.put, Y30, Y31, Y32, hR]
     have HB9 := Lib.hid (bstep (Tryst2.Grow.below hg (.refl _ _)) HW.out)
     clear hg hR hcg hfg hsg
     go_wp2_with fail
     go_ret
     exact ⟨ret_bool (by rw [HN.out, Bool.and_false]), HB9.out⟩
   | true =>
    by_cases hnx : l[k].next < 0
    ·
     have HN : Hid (R = false) := Lib.hid (by rw [HST.out, decide_eq_false (by omega)]; rfl)
     clear HST
     refine Tryst2.wp_region_grows [.is (.slice (some ⟨b, o, none⟩) l.length c), .is (.int .i64 (k : Int)), .is (.pointer (some ⟨b, o + k * 2, none⟩)), .is (.pointer (some ⟨b, o + k * 2, none⟩)), .is (.string l[k].topic), .is (.bool true), .is (.bool false), .is (.bool false), .is (.slice (some ⟨b, o, none⟩) l.length c), .is (.int .i64 (k : Int)), .is (.pointer (some ⟨b, o + k * 2, none⟩)), .is (.pointer (some ⟨b, o + k * 2 + 1, none⟩)), .is (.int .i64 l[k].next), .is (.bool true), .is (.bool true), .is (.bool true), .is undef, .is undef, .is undef, .is undef, .is undef, .is undef, .is undef, .is undef, .is undef, .is undef, .is undef, .is undef, .is undef, .is undef, .is undef, .is undef, .is (.bool true)] (by kernel_rfl) (by kernel_rfl) ?obl ?fin
     case obl =>
      simp only [Tryst2.AllObl, Tryst2.dstL, Tryst2.Obl, Tryst2.depsOf, Y00, Y01, Y02, Y03, Y04, Y05, Y06, Y07, Y08, Y09, Tryst2.depsR, Tryst2.holdR, Tryst2.tmpsOf, Op.operands, Call.operands, Tryst2.Rsp.pred, Y10, Y11, Y12, Y13, Y14, Y15, Y16, Y17, Y18, Y19, Y20, Y21, Y22, id, Y23, Y24, Tryst2.isDst, Y25, Y26, Y33]
      repeat' apply And.intro
      any_goals trivial
      all_goals (intro tv w' hg hold hd; (try simp at hold); obtain ⟨hcg, hfg⟩ := Tryst2.Grow.cells hg; have hsg := Tryst2.Grow.le hg)
      all_goals first | (go_simp; done) | (go_simp; rw [if_neg (by omega)]; exact ⟨.refl _, rfl⟩) | (obtain ⟨⟨g, hvg, hgg, hcell⟩, _⟩ := hd; have hcell0 := hcell 0 (by decide); simp at hcell0; go_simp; done) | (go_simp; go_at_call 43; (with_reducible refine (HCC.out _).mono ?_); rintro e w5 ⟨rfl, hb5⟩; exact ⟨hb5, rfl⟩)
     case fin =>
      intro tv w' hg hR
      simp only [Tryst2.allR, Tryst2.dstL, Tryst2.Rsp.pred, Y13, Y14, Y16, Y17, Y18, Y19, Y27, Y33] at hR
      obtain ⟨hcg, hfg⟩ := Tryst2.Grow.cells hg
      have hsg := Tryst2.Grow.le hg
      simp only [Tryst2.putAll, Tryst2.dstL, Y13, Y14, Y16, Y17, Y18, Y19, Y33, Y28, Y29, Act.put, Y30, Y31, Y32, hR]
      have HB9 := Lib.hid (bstep (Tryst2.Grow.below hg (.refl _ _)) HW.out)
      clear hg hR hcg hfg hsg
      go_wp2_with fail
      go_ret
      exact ⟨ret_bool (by rw [HN.out, Bool.and_false]), HB9.out⟩
    ·
     have HS2 : Hid (R = ((match prevO l k with | none => true | some q => lessB q l[k].topic) && okO (prevO l (k + 1)) (l.drop (k + 1)))) := Lib.hid (by
      have := HST.out
      rwa [decide_eq_true (show 0 ≤ l[k].next by omega), Bool.true_and, Bool.true_and] at this)
     clear HST
     by_cases hk0 : k = 0
     ·
      subst hk0
      have q0 : (0 : Int) < (l.length : Int) := by omega
      simp only [Nat.zero_mul, Nat.add_zero] at f0 f1
      have HN : Hid (R = okO (prevO l (0 + 1)) (l.drop (0 + 1))) := Lib.hid (by have := HS2.out; exact this.trans (Bool.true_and _))
      clear HS2
      refine Tryst2.wp_region_grows [.is (.slice (some ⟨b, o, none⟩) l.length c), .is (.int .i64 0), .is (.pointer (some ⟨b, o, none⟩)), .is (.pointer (some ⟨b, o, none⟩)), .is (.string l[0].topic), .is (.bool true), .is (.bool false), .is (.bool false), .is (.slice (some ⟨b, o, none⟩) l.length c), .is (.int .i64 0), .is (.pointer (some ⟨b, o, none⟩)), .is (.pointer (some ⟨b, o + 1, none⟩)), .is (.int .i64 l[0].next), .is (.bool false), .is (.bool false), .is (.bool false), .is (.int .i64 0), .is (.bool false), .is (.bool false), .is undef, .is undef, .is undef, .is undef, .is undef, .is undef, .is undef, .is undef, .is undef, .is undef, .is undef, .is undef, .is (.bool false), .is (.bool false)] (by kernel_rfl) (by kernel_rfl) ?obl ?fin
      case obl =>
       simp only [Tryst2.AllObl, Tryst2.dstL, Tryst2.Obl, Tryst2.depsOf, Y00, Y01, Y02, Y03, Y04, Y05, Y06, Y07, Y08, Y09, Tryst2.depsR, Tryst2.holdR, Tryst2.tmpsOf, Op.operands, Call.operands, Tryst2.Rsp.pred, Y10, Y11, Y12, Y13, Y14, Y15, Y16, Y17, Y18, Y19, Y20, Y21, Y22, id, Y23, Y24, Tryst2.isDst, Y25, Y26, Y33]
       repeat' apply And.intro
       any_goals trivial
       all_goals (intro tv w' hg hold hd; (try simp at hold); obtain ⟨hcg, hfg⟩ := Tryst2.Grow.cells hg; have hsg := Tryst2.Grow.le hg)
       all_goals first | (go_simp; done) | (go_simp; rw [if_neg (by omega)]; exact ⟨.refl _, rfl⟩) | (obtain ⟨⟨g, hvg, hgg, hcell⟩, _⟩ := hd; have hcell0 := hcell 0 (by decide); simp at hcell0; go_simp; done) | (go_simp; go_at_call 43; (with_reducible refine (HCC.out _).mono ?_); rintro e w5 ⟨rfl, hb5⟩; exact ⟨hb5, rfl⟩)
      case fin =>
       intro tv w' hg hR
       simp only [Tryst2.allR, Tryst2.dstL, Tryst2.Rsp.pred, Y13, Y14, Y16, Y17, Y18, Y19, Y27, Y33] at hR
       obtain ⟨hcg, hfg⟩ := Tryst2.Grow.cells hg
       have hsg := Tryst2.Grow.le hg
       simp only [Tryst2.putAll, Tryst2.dstL, Y13, Y14, Y16, Y17, Y18, Y19, Y33, Y28, Y29, Act.put, Y30, Y31, Y32, hR]
       have HB9 := Lib.hid (bstep (Tryst2.Grow.below hg (.refl _ _)) HW.out)
       clear hg hR hcg hfg hsg
       go_wp2_with fail
       go_roundw
       case rel => exact ⟨0 + 1, by omega, by go_num, HN, HB9⟩
       case measure => simp [intOf] <;> omega
     ·
      obtain ⟨m, hm⟩ : ∃ m, k = m + 1 := ⟨k - 1, by omega⟩
      have hlm : m < l.length := by omega
      have y1 : (0 : Int) < (k : Int) := by omega
      have y4 : (m : Int) < (l.length : Int) := by omega
      have y5 : (0 : Int) ≤ (m : Int) := by omega
      have y6 : 0 < k := by omega
      have HM := Lib.hid hm
      obtain ⟨_, g0, g1⟩ := (HF.out wo HW.out).r.at hlm
      have HGE := geB l[m].topic l[k].topic
      have hpv := prevO_succ hlm
      rw [← hm] at hpv
      clear hm hk0
      have HS3 : Hid (R = (lessB l[m].topic l[k].topic && okO (prevO l (k + 1)) (l.drop (k + 1)))) := Lib.hid (by have := HS2.out; rw [hpv] at this; exact this)
      clear hpv HS2
      generalize lessB l[m].topic l[k].topic = lb at HS3 HGE
      cases lb with
      | false =>
       have HN : Hid (R = false) := Lib.hid (HS3.out.trans (Bool.false_and _))
       have hge : (!Op.bytesLess l[m].topic.toList l[k].topic.toList) = true := HGE
       clear HGE HS3
       refine Tryst2.wp_region_grows [.is (.slice (some ⟨b, o, none⟩) l.length c), .is (.int .i64 (k : Int)), .is (.pointer (some ⟨b, o + k * 2, none⟩)), .is (.pointer (some ⟨b, o + k * 2, none⟩)), .is (.string l[k].topic), .is (.bool true), .is (.bool false), .is (.bool false), .is (.slice (some ⟨b, o, none⟩) l.length c), .is (.int .i64 (k : Int)), .is (.pointer (some ⟨b, o + k * 2, none⟩)), .is (.pointer (some ⟨b, o + k * 2 + 1, none⟩)), .is (.int .i64 l[k].next), .is (.bool false), .is (.bool false), .is (.bool false), .is (.int .i64 (k : Int)), .is (.bool true), .is (.bool true), .is (.slice (some ⟨b, o, none⟩) l.length c), .is (.int .i64 (k : Int)), .is (.int .i64 (m : Int)), .is (.pointer (some ⟨b, o + m * 2, none⟩)), .is (.pointer (some ⟨b, o + m * 2, none⟩)), .is (.string l[m].topic), .is (.slice (some ⟨b, o, none⟩) l.length c), .is (.int .i64 (k : Int)), .is (.pointer (some ⟨b, o + k * 2, none⟩)), .is (.pointer (some ⟨b, o + k * 2, none⟩)), .is (.string l[k].topic), .is (.bool true), .is (.bool true), .is (.bool true)] (by kernel_rfl) (by kernel_rfl) ?obl ?fin
       case obl =>
        simp only [Tryst2.AllObl, Tryst2.dstL, Tryst2.Obl, Tryst2.depsOf, Y00, Y01, Y02, Y03, Y04, Y05, Y06, Y07, Y08, Y09, Tryst2.depsR, Tryst2.holdR, Tryst2.tmpsOf, Op.operands, Call.operands, Tryst2.Rsp.pred, Y10, Y11, Y12, Y13, Y14, Y15, Y16, Y17, Y18, Y19, Y20, Y21, Y22, id, Y23, Y24, Tryst2.isDst, Y25, Y26, Y33]
        repeat' apply And.intro
        any_goals trivial
        all_goals (intro tv w' hg hold hd; (try simp at hold); obtain ⟨hcg, hfg⟩ := Tryst2.Grow.cells hg; have hsg := Tryst2.Grow.le hg)
        all_goals first | (go_simp; done) | (go_simp; rw [if_neg (by omega)]; exact ⟨.refl _, rfl⟩) | (obtain ⟨⟨g, hvg, hgg, hcell⟩, _⟩ := hd; have hcell0 := hcell 0 (by decide); simp at hcell0; go_simp; done) | (go_simp; go_at_call 43; (with_reducible refine (HCC.out _).mono ?_); rintro e w5 ⟨rfl, hb5⟩; exact ⟨hb5, rfl⟩) | (go_simp; have hm := HM.out; first | omega | (rw [IntWalk.i64_in _ (by omega)]; omega))
       case fin =>
        intro tv w' hg hR
        simp only [Tryst2.allR, Tryst2.dstL, Tryst2.Rsp.pred, Y13, Y14, Y16, Y17, Y18, Y19, Y27, Y33] at hR
        obtain ⟨hcg, hfg⟩ := Tryst2.Grow.cells hg
        have hsg := Tryst2.Grow.le hg
        simp only [Tryst2.putAll, Tryst2.dstL, Y13, Y14, Y16, Y17, Y18, Y19, Y33, Y28, Y29, Act.put, Y30, Y31, Y32, hR]
        have HB9 := Lib.hid (bstep (Tryst2.Grow.below hg (.refl _ _)) HW.out)
        clear hg hR hcg hfg hsg
        go_wp2_with fail
        go_ret
        exact ⟨ret_bool (by rw [HN.out, Bool.and_false]), HB9.out⟩
      | true =>
       have HN : Hid (R = okO (prevO l (k + 1)) (l.drop (k + 1))) := Lib.hid (HS3.out.trans (Bool.true_and _))
       have hge : (!Op.bytesLess l[m].topic.toList l[k].topic.toList) = false := HGE
       clear HGE HS3
       refine Tryst2.wp_region_grows [.is (.slice (some ⟨b, o, none⟩) l.length c), .is (.int .i64 (k : Int)), .is (.pointer (some ⟨b, o + k * 2, none⟩)), .is (.pointer (some ⟨b, o + k * 2, none⟩)), .is (.string l[k].topic), .is (.bool true), .is (.bool false), .is (.bool false), .is (.slice (some ⟨b, o, none⟩) l.length c), .is (.int .i64 (k : Int)), .is (.pointer (some ⟨b, o + k * 2, none⟩)), .is (.pointer (some ⟨b, o + k * 2 + 1, none⟩)), .is (.int .i64 l[k].next), .is (.bool false), .is (.bool false), .is (.bool false), .is (.int .i64 (k : Int)), .is (.bool true), .is (.bool true), .is (.slice (some ⟨b, o, none⟩) l.length c), .is (.int .i64 (k : Int)), .is (.int .i64 (m : Int)), .is (.pointer (some ⟨b, o + m * 2, none⟩)), .is (.pointer (some ⟨b, o + m * 2, none⟩)), .is (.string l[m].topic), .is (.slice (some ⟨b, o, none⟩) l.length c), .is (.int .i64 (k : Int)), .is (.pointer (some ⟨b, o + k * 2, none⟩)), .is (.pointer (some ⟨b, o + k * 2, none⟩)), .is (.string l[k].topic), .is (.bool false), .is (.bool false), .is (.bool false)] (by kernel_rfl) (by kernel_rfl) ?obl ?fin
       case obl =>
        simp only [Tryst2.AllObl, Tryst2.dstL, Tryst2.Obl, Tryst2.depsOf, Y00, Y01, Y02, Y03, Y04, Y05, Y06, Y07, Y08, Y09, Tryst2.depsR, Tryst2.holdR, Tryst2.tmpsOf, Op.operands, Call.operands, Tryst2.Rsp.pred, Y10, Y11, Y12, Y13, Y14, Y15, Y16, Y17, Y18, Y19, Y20, Y21, Y22, id, Y23, Y24, Tryst2.isDst, Y25, Y26, Y33]
        repeat' apply And.intro
        any_goals trivial
        all_goals (intro tv w' hg hold hd; (try simp at hold); obtain ⟨hcg, hfg⟩ := Tryst2.Grow.cells hg; have hsg := Tryst2.Grow.le hg)
        all_goals first | (go_simp; done) | (go_simp; rw [if_neg (by omega)]; exact ⟨.refl _, rfl⟩) | (obtain ⟨⟨g, hvg, hgg, hcell⟩, _⟩ := hd; have hcell0 := hcell 0 (by decide); simp at hcell0; go_simp; done) | (go_simp; go_at_call 43; (with_reducible refine (HCC.out _).mono ?_); rintro e w5 ⟨rfl, hb5⟩; exact ⟨hb5, rfl⟩) | (go_simp; have hm := HM.out; first | omega | (rw [IntWalk.i64_in _ (by omega)]; omega))
       case fin =>
        intro tv w' hg hR
        simp only [Tryst2.allR, Tryst2.dstL, Tryst2.Rsp.pred, Y13, Y14, Y16, Y17, Y18, Y19, Y27, Y33] at hR
        obtain ⟨hcg, hfg⟩ := Tryst2.Grow.cells hg
        have hsg := Tryst2.Grow.le hg
        simp only [Tryst2.putAll, Tryst2.dstL, Y13, Y14, Y16, Y17, Y18, Y19, Y33, Y28, Y29, Act.put, Y30, Y31, Y32, hR]
        have HB9 := Lib.hid (bstep (Tryst2.Grow.below hg (.refl _ _)) HW.out)
        clear hg hR hcg hfg hsg
        go_wp2_with fail
        go_roundw
        case rel => exact ⟨k + 1, by omega, by go_num, HN, HB9⟩
        case measure => simp [intOf] <;> omega
  ·
   have HN := Lib.hid (HP.out.trans (okO_end (by omega : l.length ≤ k)))
   have HLE : Hid (decide (l.length ≤ 20) = decide ((l.length : Int) ≤ 20)) := Lib.hid (by
    by_cases h : l.length ≤ 20
    ·
     rw [decide_eq_true h, decide_eq_true (by omega)]
    ·
     rw [decide_eq_false h, decide_eq_false (by omega)])
   go_wp2_with fail
   go_ret
   exact ⟨ret_bool (by rw [HN.out, Bool.and_true, HLE.out]), HW.out⟩
end Go.Proofs.YtmlbdblnmbmnpaaGreatDoor
namespace Tryst
open Go Go.Lib
theorem any_find (l : List OB) (n : ByteArray) : (findO l n).isNone = !(l.any (isO n)) := by
 unfold findO
 cases h : l.findIdx? (isO n) with
 | none =>
  rw [List.findIdx?_eq_none_iff] at h
  have : l.any (isO n) = false := by
   rw [List.any_eq_false]
   intro x hx
   rw [h x hx]; simp
  rw [this]; rfl
 | some i =>
  rw [List.findIdx?_eq_some_iff_getElem] at h
  obtain ⟨hi, h1, _⟩ := h
  have : l.any (isO n) = true := List.any_eq_true.2 ⟨_, List.getElem_mem hi, h1⟩
  rw [this]; rfl
theorem any_take {l : List OB} {n : ByteArray} {k : Nat} (hk : k < l.length) : (l.take (k + 1)).any (isO n) = ((l.take k).any (isO n) || isO n l[k]) := by
 rw [List.take_succ_eq_append_getElem hk, List.any_append]
 simp
end Tryst
namespace Go.Proofs.YtmlbdblnmbmnpaaGreatDoor
open Go.RowKit Tryst
set_option maxHeartbeats 4000000
set_option maxRecDepth 20000
def RP1 (w : World) (l : List OB) (tp : ByteArray) (s th i : Value) (wr : World) : Prop := ∃ (k : Nat) (tb : Bool) (v : Value), v = s ∧ k ≤ l.length ∧ i = .int .i64 k ∧ th = .bool tb ∧ Hid (tb = (l.take k).any (isO tp)) ∧ Hid (OOwn wr w.heap.size v ((l.take k).filter (fun x => lessB x.topic tp))) ∧ Hid (Below w.heap.size w wr)
def RP2 (w : World) (l : List OB) (tp : ByteArray) (pre : List OB) (s i : Value) (wr : World) : Prop := ∃ (k : Nat) (v : Value), v = s ∧ k ≤ l.length ∧ i = .int .i64 k ∧ Hid (OOwn wr w.heap.size v (pre ++ (l.take k).filter (fun x => lessB tp x.topic))) ∧ Hid (Below w.heap.size w wr)
theorem OOwn.len {w : World} {base : Nat} {v : Value} {l : List OB} (h : OOwn w base v l) : (l.map OB.cells).length = l.length := List.length_map ..
theorem OOwn.app {w : World} {base : Nat} {v : Value} {l : List OB} {x : OB} (h : ROwn 31 2 w base v (l.map OB.cells ++ [x.cells])) : OOwn w base v (l ++ [x]) := by
 show ROwn _ _ _ _ _ ((l ++ [x]).map OB.cells)
 rw [List.map_append]
 exact h
set_option maxHeartbeats 8000000 in
theorem roput_c (a : Option Addr) (c : Nat) (l : List OB) (hl : l.length ≤ 100000) (hs : ∀ x ∈ l, x.topic.size ≤ 1000000) (x : OB) (hx : x.topic.size ≤ 1000000) (w : World) (hO : Offs w a l) :
  Calls Tryz.prog 14 #[.slice a l.length c, .string x.topic, .int .i64 x.next] w fun e w' => PutR w (putO l x) e w' := by
 have CC := Lib.hid (rocheck_c a c l (by omega) hs w hO)
 have CT := Lib.hid (fun W => rtopic_c x.topic hx W)
 have HF := Lib.hid (fun W (hb : Below w.heap.size w W) => OfR.mk (Row.grow hO hb))
 obtain ⟨p, hp⟩ : ∃ p, putO l x = p := ⟨_, rfl⟩
 rw [hp]
 unfold putO oMay at hp
 rw [any_find] at hp
 obtain ⟨tp, nx⟩ := x
 simp only at CT hp ⊢
 obtain ⟨cb, hcb⟩ : ∃ b, checkO l = b := ⟨_, rfl⟩
 obtain ⟨tb, htb⟩ : ∃ b, topicB tp.data.toList = b := ⟨_, rfl⟩
 rw [hcb] at CC hp
 rw [htb] at CT hp
 have HP := Lib.hid hp
 clear hp hO hs hcb htb
 go_enter Tryz.func14, Tryz.ntmps14
 go_wp2_with fail
 refine CC.out.mono ?_
 rintro e w1 ⟨rfl, hb1⟩
 have HB1 := Lib.hid hb1
 clear hb1 CC
 cases cb with
 | false =>
  obtain rfl : p = (none, 1) := HP.out.symm.trans (if_neg (by simp))
  go_wp2_with fail
  go_ret2
  exact PutR.bad rfl HB1.out
 | true =>
  go_wp2_with fail
  refine (CT.out _).mono ?_
  rintro e w2 ⟨rfl, hb2⟩
  have HB2 := Lib.hid (bstep hb2 HB1.out)
  clear hb2 HB1 CT
  cases tb with
  | false =>
   obtain rfl : p = (none, 1) := HP.out.symm.trans (if_neg (by simp))
   go_wp2_with fail
   go_ret2
   exact PutR.bad rfl HB2.out
  | true =>
   by_cases hnx : nx < 0
   ·
    obtain rfl : p = (none, 1) := HP.out.symm.trans (if_neg (by simp; omega))
    go_wp2_with fail
    go_ret2
    exact PutR.bad rfl HB2.out
   ·
    have HP2 : Hid (p = if (!(l.any (isO tp))) = true ∧ 20 ≤ l.length then (none, 6) else (some (withO l ⟨tp, nx⟩), 0)) := Lib.hid (HP.out.symm.trans (if_pos (by simp; omega)))
    clear HP
    go_wp2_with fail
    go_loopw [8, 9, 10] (fun v th i wr => RP1 w l tp v th i wr) (fun _ _ i _ => l.length - (intOf i).toNat)
    case atStart => exact ⟨0, false, _, rfl, by omega, rfl, rfl, Lib.hid (by simp), Lib.hid (ROwn.nil _ _ _ _), HB2⟩
    case round =>
     clear HB2
     obtain ⟨k, tb, v, rfl, hk, rfl, rfl, HT, HO, HW⟩ := hrel
     obtain ⟨wo, rfl⟩ : ∃ wo, wo = wr := ⟨_, rfl⟩
     have hbW : w.heap.size ≤ wo.heap.size := HW.out.size
     by_cases hlt : k < l.length
     ·
      obtain ⟨b, o, ha, hb⟩ := (HF.out wo HW.out).head hlt
      subst ha
      obtain ⟨_, f0, f1⟩ := (HF.out wo HW.out).r.at hlt
      have hat := any_take (n := tp) hlt
      rw [← HT.out] at hat
      have hft : (l.take (k + 1)).filter (fun x => lessB x.topic tp) = (l.take k).filter (fun x => lessB x.topic tp) ++ (if lessB l[k].topic tp = true then [l[k]] else []) := by
       rw [List.take_succ_eq_append_getElem hlt, List.filter_append, List.filter_cons, List.filter_nil]
      have HAT := Lib.hid hat
      have HFT := Lib.hid hft
      clear hat hft HT
      obtain ⟨acc, hacc⟩ : ∃ acc, (l.take k).filter (fun x => lessB x.topic tp) = acc := ⟨_, rfl⟩
      rw [hacc] at HFT HO
      have hal : acc.length ≤ 100000 := by
       rw [← hacc]
       exact Nat.le_trans (List.length_filter_le _ _) (by rw [List.length_take]; omega)
      clear hacc
      have hge : Op.bytesLess l[k].topic.toList tp.toList = lessB l[k].topic tp := by unfold lessB; rw [str_toList, str_toList]
      have HGE := Lib.hid hge
      clear hge
      cases hls : lessB l[k].topic tp with
      | true =>
       have hge : Op.bytesLess l[k].topic.toList tp.toList = true := HGE.out.trans hls
       have h1 : (l[k].topic.toList == tp.toList) = false := strNe (fun e => by
        have := str_ext e
        rw [this, lessB_irrefl] at hls
        cases hls)
       have HT2 : Hid (tb = (l.take (k + 1)).any (isO tp)) := Lib.hid (by
        rw [HAT.out]
        have : isO tp l[k] = false := by unfold isO; rw [decide_eq_false (fun e => by
         have := str_ext e
         rw [this, lessB_irrefl] at hls
         cases hls)]
        rw [this, Bool.or_false])
       have HF2 : Hid ((l.take (k + 1)).filter (fun x => lessB x.topic tp) = acc ++ [l[k]]) := Lib.hid (by rw [HFT.out, if_pos hls])
       have HLN := Lib.hid (OOwn.len HO.out)
       clear hls HAT HFT HGE
       go_upto_region 9 with fail
       refine wp_region_lit ?_
       iterate 18 go_step
       refine wpList_appR offT rfl (.tmp 37) (.tmp 42) rfl w.heap.size v (acc.map OB.cells) acc.length HLN.out rfl (ROwn.alloc HO.out _) l[k].cells rfl (fun u hu => OB.cells_one [l[k]] l[k].cells (by simp) u hu) wo.heap.size rfl (by intro j hj; match j, hj with | 0, _ => simp [go_sem, OB.cells] | 1, _ => simp [go_sem, OB.cells]) (by omega) (by simp; omega) ?_
       intro v' w3 ho3 hb3 _
       have HO3 : Hid (OOwn w3 w.heap.size v' ((l.take (k + 1)).filter (fun x => lessB x.topic tp))) := Lib.hid (by rw [HF2.out]; exact OOwn.app ho3)
       have HW3 := Lib.hid ((balloc (.cells #[.string l[k].topic, .int .i64 l[k].next] 31) HW.out).trans hb3)
       have HFC := Lib.hid ((HF.out w3 HW3.out).r.at hlt)
       obtain ⟨_, d0, d1⟩ := HFC.out
       clear ho3 hb3 f0 f1
       cases tb with
       | true =>
        go_wp2_with fail
        go_roundw
        case rel => exact ⟨k + 1, true, _, rfl, by omega, by go_num, rfl, HT2, HO3, HW3⟩
        case measure => simp [intOf] <;> omega
       | false =>
        go_wp2_with fail
        go_roundw
        case rel => exact ⟨k + 1, false, _, rfl, by omega, by go_num, rfl, HT2, HO3, HW3⟩
        case measure => simp [intOf] <;> omega
      | false =>
       have hge : Op.bytesLess l[k].topic.toList tp.toList = false := HGE.out.trans hls
       have HO3 : Hid (OOwn wo w.heap.size v ((l.take (k + 1)).filter (fun x => lessB x.topic tp))) := Lib.hid (by rw [HFT.out, if_neg (by rw [hls]; simp), List.append_nil]; exact HO.out)
       clear hls HFT HGE
       cases tb with
       | true =>
        have HT2 : Hid (true = (l.take (k + 1)).any (isO tp)) := Lib.hid (by rw [HAT.out]; rfl)
        go_wp2_with fail
        go_roundw
        case rel => exact ⟨k + 1, true, _, rfl, by omega, by go_num, rfl, HT2, HO3, HW⟩
        case measure => simp [intOf] <;> omega
       | false =>
        by_cases he : l[k].topic.data.toList = tp.data.toList
        ·
         have h1 : (l[k].topic.toList == tp.toList) = true := strEq he
         have HT2 : Hid (true = (l.take (k + 1)).any (isO tp)) := Lib.hid (by rw [HAT.out]; unfold isO; rw [decide_eq_true he]; rfl)
         clear he
         go_wp2_with fail
         go_roundw
         case rel => exact ⟨k + 1, true, _, rfl, by omega, by go_num, rfl, HT2, HO3, HW⟩
         case measure => simp [intOf] <;> omega
        ·
         have h1 : (l[k].topic.toList == tp.toList) = false := strNe he
         have HT2 : Hid (false = (l.take (k + 1)).any (isO tp)) := Lib.hid (by rw [HAT.out]; unfold isO; rw [decide_eq_false he]; rfl)
         clear he
         go_wp2_with fail
         go_roundw
         case rel => exact ⟨k + 1, false, _, rfl, by omega, by go_num, rfl, HT2, HO3, HW⟩
         case measure => simp [intOf] <;> omega
     ·
      have htk : l.take k = l := List.take_of_length_le (by omega)
      have HT2 : Hid (tb = l.any (isO tp)) := Lib.hid (by rw [HT.out, htk])
      have HO2 : Hid (OOwn wo w.heap.size v (l.filter (fun x => lessB x.topic tp))) := Lib.hid (by have := HO.out; rwa [htk] at this)
      clear HT HO htk
      obtain ⟨acc, hacc⟩ : ∃ acc, l.filter (fun x => lessB x.topic tp) = acc := ⟨_, rfl⟩
      rw [hacc] at HO2
      have hal : acc.length ≤ 100000 := by
       rw [← hacc]
       exact Nat.le_trans (List.length_filter_le _ _) hl
      have HACC := Lib.hid hacc
      have HLN := Lib.hid (OOwn.len HO2.out)
      clear hacc
      go_upto_region 11 with fail
      refine wp_region_lit ?_
      iterate 15 go_step
      refine wpList_appR offT rfl (.tmp 54) (.tmp 58) rfl w.heap.size v (acc.map OB.cells) acc.length HLN.out rfl (ROwn.alloc HO2.out _) [.string tp, .int .i64 nx] rfl (fun u hu => OB.cells_one [⟨tp, nx⟩] [.string tp, .int .i64 nx] (by simp [OB.cells]) u hu) wo.heap.size rfl (by intro j hj; match j, hj with | 0, _ => simp [go_sem] | 1, _ => simp [go_sem]) (by omega) (by simp; omega) ?_
      intro v' w3 ho3 hb3 _
      have HO3 : Hid (OOwn w3 w.heap.size v' ((acc ++ [⟨tp, nx⟩]) ++ (l.take 0).filter (fun x => lessB tp x.topic))) := Lib.hid (by rw [List.take_zero, List.filter_nil, List.append_nil]; exact OOwn.app (x := ⟨tp, nx⟩) ho3)
      have HW3 := Lib.hid ((balloc (.cells #[.string tp, .int .i64 nx] 31) HW.out).trans hb3)
      clear ho3 hb3 HO2 HW
      obtain ⟨pre, hpre⟩ : ∃ pre, acc ++ [(⟨tp, nx⟩ : OB)] = pre := ⟨_, rfl⟩
      rw [hpre] at HO3
      have hpl : pre.length ≤ 100001 := by rw [← hpre, List.length_append]; simp; omega
      have HPRE := Lib.hid hpre
      clear hpre
      go_wp2_with fail
      go_loopw [8, 11] (fun v i wr => RP2 w l tp pre v i wr) (fun _ i _ => l.length - (intOf i).toNat)
      case atStart => exact ⟨0, _, rfl, by omega, rfl, HO3, HW3⟩
      case round =>
       clear HO3 HW3
       obtain ⟨m, v2, rfl, hm, rfl, HO, HW⟩ := hrel
       obtain ⟨wq, rfl⟩ : ∃ wq, wq = wr := ⟨_, rfl⟩
       have hbQ : w.heap.size ≤ wq.heap.size := HW.out.size
       by_cases hlt2 : m < l.length
       ·
        obtain ⟨b, o, ha, hb⟩ := (HF.out wq HW.out).head hlt2
        subst ha
        obtain ⟨_, f0, f1⟩ := (HF.out wq HW.out).r.at hlt2
        have hft : (l.take (m + 1)).filter (fun x => lessB tp x.topic) = (l.take m).filter (fun x => lessB tp x.topic) ++ (if lessB tp l[m].topic = true then [l[m]] else []) := by
         rw [List.take_succ_eq_append_getElem hlt2, List.filter_append, List.filter_cons, List.filter_nil]
        have hpl2 : (pre ++ (l.take m).filter (fun x => lessB tp x.topic)).length ≤ 200001 := by
         have := List.length_filter_le (fun x : OB => lessB tp x.topic) (l.take m)
         rw [List.length_take] at this
         rw [List.length_append]
         omega
        have hge : Op.bytesLess l[m].topic.toList tp.toList = lessB l[m].topic tp := by unfold lessB; rw [str_toList, str_toList]
        have HGE := Lib.hid hge
        have HFT := Lib.hid hft
        clear hge hft
        cases hls : lessB tp l[m].topic with
        | true =>
         have hge : Op.bytesLess l[m].topic.toList tp.toList = false := HGE.out.trans (lessB_asymm hls)
         have heq : (l[m].topic.toList == tp.toList) = false := strNe (fun e => by
          have := str_ext e
          rw [this, lessB_irrefl] at hls
          cases hls)
         have HF2 : Hid (pre ++ (l.take (m + 1)).filter (fun x => lessB tp x.topic) = (pre ++ (l.take m).filter (fun x => lessB tp x.topic)) ++ [l[m]]) := Lib.hid (by rw [HFT.out, if_pos hls, List.append_assoc])
         clear hls HFT HGE
         obtain ⟨ac, hac⟩ : ∃ ac, pre ++ (l.take m).filter (fun x => lessB tp x.topic) = ac := ⟨_, rfl⟩
         rw [hac] at HO HF2 hpl2
         have HLN2 := Lib.hid (OOwn.len HO.out)
         clear hac
         go_wp2_with (at_builtin; refine wpList_appR offT rfl (.tmp 73) (.tmp 78) rfl w.heap.size v2 (ac.map OB.cells) ac.length HLN2.out rfl (ROwn.alloc HO.out _) l[m].cells rfl (fun u hu => OB.cells_one [l[m]] l[m].cells (by simp) u hu) wq.heap.size rfl (by intro j hj; match j, hj with | 0, _ => simp [go_sem, OB.cells] | 1, _ => simp [go_sem, OB.cells]) (by omega) (by simp; omega) ?_; intro v' w3 ho3 hb3 _)
         have HO3 : Hid (OOwn w3 w.heap.size v' (pre ++ (l.take (m + 1)).filter (fun x => lessB tp x.topic))) := Lib.hid (by rw [HF2.out]; exact OOwn.app ho3)
         have HW3 := Lib.hid ((balloc (.cells #[.string l[m].topic, .int .i64 l[m].next] 31) HW.out).trans hb3)
         clear ho3 hb3
         go_roundw
         case rel => exact ⟨m + 1, _, rfl, by omega, by go_num, HO3, HW3⟩
         case measure => simp [intOf] <;> omega
        | false =>
         have HO3 : Hid (OOwn wq w.heap.size v2 (pre ++ (l.take (m + 1)).filter (fun x => lessB tp x.topic))) := Lib.hid (by rw [HFT.out, if_neg (by rw [hls]; simp), List.append_nil]; exact HO.out)
         rcases lessB_total l[m].topic tp with hq | hq | hq
         ·
          have hge : Op.bytesLess l[m].topic.toList tp.toList = true := HGE.out.trans hq
          clear hls HFT HGE hq
          go_wp2_with fail
          go_roundw
          case rel => exact ⟨m + 1, _, rfl, by omega, by go_num, HO3, HW⟩
          case measure => simp [intOf] <;> omega
         ·
          have hge : Op.bytesLess l[m].topic.toList tp.toList = false := HGE.out.trans (by rw [hq]; exact lessB_irrefl _)
          have heq : (l[m].topic.toList == tp.toList) = true := strEq (by rw [hq])
          clear hls HFT HGE hq
          go_wp2_with fail
          go_roundw
          case rel => exact ⟨m + 1, _, rfl, by omega, by go_num, HO3, HW⟩
          case measure => simp [intOf] <;> omega
         ·
          rw [hq] at hls
          cases hls
       ·
        have htk : l.take m = l := List.take_of_length_le (by omega)
        have HO2 : Hid (OOwn wq w.heap.size v2 (withO l ⟨tp, nx⟩)) := Lib.hid (by
         have h5 := HO.out
         rw [htk, ← HPRE.out, ← HACC.out, List.append_assoc] at h5
         exact h5)
        clear HO htk
        obtain ⟨W9, hW9⟩ : ∃ W9, withO l ⟨tp, nx⟩ = W9 := ⟨_, rfl⟩
        rw [hW9] at HO2 HP2
        clear hW9
        obtain ⟨a9, c9, hv9, _⟩ := ROwn.row HO2.out (OB.cells_len _) (by decide)
        rw [List.length_map] at hv9
        subst hv9
        cases tb with
        | true =>
         obtain rfl : p = (some W9, 0) := HP2.out.trans (if_neg (by rw [← HT2.out]; simp))
         clear HP2
         go_wp2_with fail
         go_ret2
         exact ⟨a9, c9, rfl, HO2.out, HW.out⟩
        | false =>
         by_cases h20 : (20 : Int) ≤ l.length
         ·
          obtain rfl : p = (none, 6) := HP2.out.trans (if_pos ⟨by rw [← HT2.out]; rfl, by omega⟩)
          clear HP2
          go_wp2_with fail
          go_ret2
          exact PutR.bad rfl HW.out
         ·
          obtain rfl : p = (some W9, 0) := HP2.out.trans (if_neg (by omega))
          clear HP2
          go_wp2_with fail
          go_ret2
          exact ⟨a9, c9, rfl, HO2.out, HW.out⟩
end Go.Proofs.YtmlbdblnmbmnpaaGreatDoor
namespace Go.Proofs.YtmlbdblnmbmnpaaGreatDoor
open Go.RowKit Tryst
set_option maxHeartbeats 4000000
set_option maxRecDepth 20000
theorem osame_c (a1 a2 : Option Addr) (c1 c2 : Nat) (l m : List OB) (hl : l.length ≤ 1000000) (hm : m.length ≤ 1000000) (w : World) (h1 : Offs w a1 l) (h2 : Offs w a2 m) :
  Calls Tryz.prog 17 #[.slice a1 l.length c1, .slice a2 m.length c2] w fun e w' => e = .returned (.bool (sameO l m)) ∧ Below w.heap.size w w' := by
 have H1 := Lib.hid (fun W (hb : Below w.heap.size w W) => OfR.mk (Row.grow h1 hb))
 have H2 := Lib.hid (fun W (hb : Below w.heap.size w W) => OfR.mk (Row.grow h2 hb))
 clear h1 h2
 by_cases hn : (l.length : Int) = m.length
 ·
  have hn1 : l.length = m.length := by omega
  have hzl := zip_lenO hn1
  obtain ⟨R, hR⟩ : ∃ R, sameO l m = R := ⟨_, rfl⟩
  rw [hR]
  have HR : Hid (R = ((l.zip m).drop 0).all (fun x => eqO x.1 x.2)) := Lib.hid (by rw [← hR, List.drop_zero]; unfold sameO; rw [decide_eq_true hn1]; rfl)
  have HZL := Lib.hid hzl
  have HN := Lib.hid hn1
  clear hR hzl hn hn1
  rw [← HN.out]
  go_enter Tryz.func17, Tryz.ntmps17
  go_wp2_with fail
  go_loopw [5] (fun i wr => AllR R (fun x : OB × OB => eqO x.1 x.2) (l.zip m) w i wr) (fun i _ => l.length - (intOf i).toNat)
  case atStart => exact ⟨0, by omega, rfl, HR, .refl _ _, by omega⟩
  case round =>
   obtain ⟨k, hk, rfl, HP, HW, hz⟩ := hrel
   obtain ⟨wo, rfl⟩ : ∃ wo, wo = wr := ⟨_, rfl⟩
   rw [HZL.out] at hk
   by_cases hlt : k < l.length
   ·
    have hlt2 : k < m.length := by have := HN.out; omega
    have hst := allR_step (by rw [HZL.out]; exact hlt) HP.out
    rw [List.getElem_zip] at hst
    simp only at hst
    have hq : eqO l[k] m[k] = (decide (l[k].topic = m[k].topic) && decide (l[k].next = m[k].next)) := rfl
    rw [hq] at hst
    have HA := Lib.hid (H1.out _ HW.out)
    have HB := Lib.hid (H2.out _ HW.out)
    obtain ⟨b1, o1, ha1, hb1⟩ := HA.out.head hlt
    obtain ⟨b2, o2, ha2, hb2⟩ := HB.out.head hlt2
    subst ha1 ha2
    obtain ⟨_, f1, f2⟩ := HA.out.r.at hlt
    obtain ⟨_, e1, e2⟩ := HB.out.r.at hlt2
    have HST := Lib.hid hst
    clear hst HP hq
    generalize l[k].topic = t at f1 HST
    generalize l[k].next = x at f2 HST
    generalize m[k].topic = t' at e1 HST
    generalize m[k].next = x' at e2 HST
    by_cases hx : t = t' ∧ x = x'
    ·
     obtain ⟨rfl, rfl⟩ := hx
     have HNX : Hid (R = ((l.zip m).drop (k + 1)).all (fun x => eqO x.1 x.2)) := Lib.hid (by have := HST.out; simpa using this)
     clear HST
     go_upto_region 6 with fail
     refine Tryst2.wp_region_grows [.is (.slice (some ⟨b1, o1, none⟩) l.length c1), .is (.int .i64 (k : Int)), .is (.pointer (some ⟨b1, o1 + k * 2, none⟩)), .is (.agg #[.string t, .int .i64 x]), .is (.slice (some ⟨b2, o2, none⟩) l.length c2), .is (.int .i64 (k : Int)), .is (.pointer (some ⟨b2, o2 + k * 2, none⟩)), .is (.agg #[.string t, .int .i64 x]), .is (.bool false)] (by kernel_rfl) (by kernel_rfl) ?obl ?fin
     case obl =>
      simp only [Tryst2.AllObl, Tryst2.dstL, Tryst2.Obl, Tryst2.depsOf, Y00, Y01, Y02, Y03, Y04, Y05, Y06, Y07, Y08, Y09, Tryst2.depsR, Tryst2.holdR, Tryst2.tmpsOf, Op.operands, Call.operands, Tryst2.Rsp.pred, Y10, Y11, Y12, Y13, Y14, Y15, Y16, Y17, Y18, Y19, Y20, Y21, Y22, id, Y23, Y24, Tryst2.isDst, Y25, Y26, Y33]
      repeat' apply And.intro
      any_goals trivial
      all_goals (intro tv w' hg hold hd; (try simp at hold); obtain ⟨hcg, hfg⟩ := Tryst2.Grow.cells hg; have hsg := Tryst2.Grow.le hg)
      all_goals first | (go_simp; done) | (go_simp; rw [if_neg (by omega)]; exact ⟨.refl _, rfl⟩) | (obtain ⟨⟨g, hvg, hgg, hcell⟩, _⟩ := hd; have hcell0 := hcell 0 (by decide); simp at hcell0; go_simp; done) 
     case fin =>
      intro tv w' hg hR
      simp only [Tryst2.allR, Tryst2.dstL, Tryst2.Rsp.pred, Y13, Y14, Y16, Y17, Y18, Y19, Y27, Y33] at hR
      obtain ⟨hcg, hfg⟩ := Tryst2.Grow.cells hg
      have hsg := Tryst2.Grow.le hg
      simp only [Tryst2.putAll, Tryst2.dstL, Y13, Y14, Y16, Y17, Y18, Y19, Y33, Y28, Y29, Act.put, Y30, Y31, Y32, hR]
      have HW9 := Lib.hid (Tryst2.Grow.below hg HW.out)
      clear hg hR hcg hfg hsg
      go_wp2_with fail
      go_roundw
      case rel => exact ⟨k + 1, by rw [HZL.out]; omega, by go_num, HNX, HW9.out, HW9.out.size⟩
      case measure => simp [intOf] <;> omega
    ·
     have HNX : Hid (R = false) := Lib.hid (by
      have := HST.out
      rw [this]
      by_cases a1 : t = t' <;> by_cases a2 : x = x' <;> first | (simp [a1, a2]; done) | exact absurd (And.intro a1 a2) hx)
     clear HST
     go_upto_region 6 with fail
     by_cases a1 : t = t'
     ·
      subst a1
      have b1' : (x == x') = false := by simpa using (fun e : x = x' => hx ⟨rfl, e⟩)
      clear hx
      refine Tryst2.wp_region_grows [.is (.slice (some ⟨b1, o1, none⟩) l.length c1), .is (.int .i64 (k : Int)), .is (.pointer (some ⟨b1, o1 + k * 2, none⟩)), .is (.agg #[.string t, .int .i64 x]), .is (.slice (some ⟨b2, o2, none⟩) l.length c2), .is (.int .i64 (k : Int)), .is (.pointer (some ⟨b2, o2 + k * 2, none⟩)), .is (.agg #[.string t, .int .i64 x']), .is (.bool true)] (by kernel_rfl) (by kernel_rfl) ?obl ?fin
      case obl =>
       simp only [Tryst2.AllObl, Tryst2.dstL, Tryst2.Obl, Tryst2.depsOf, Y00, Y01, Y02, Y03, Y04, Y05, Y06, Y07, Y08, Y09, Tryst2.depsR, Tryst2.holdR, Tryst2.tmpsOf, Op.operands, Call.operands, Tryst2.Rsp.pred, Y10, Y11, Y12, Y13, Y14, Y15, Y16, Y17, Y18, Y19, Y20, Y21, Y22, id, Y23, Y24, Tryst2.isDst, Y25, Y26, Y33]
       repeat' apply And.intro
       any_goals trivial
       all_goals (intro tv w' hg hold hd; (try simp at hold); obtain ⟨hcg, hfg⟩ := Tryst2.Grow.cells hg; have hsg := Tryst2.Grow.le hg)
       all_goals first | (go_simp; done) | (go_simp; rw [if_neg (by omega)]; exact ⟨.refl _, rfl⟩) | (obtain ⟨⟨g, hvg, hgg, hcell⟩, _⟩ := hd; have hcell0 := hcell 0 (by decide); simp at hcell0; go_simp; done) 
      case fin =>
       intro tv w' hg hR
       simp only [Tryst2.allR, Tryst2.dstL, Tryst2.Rsp.pred, Y13, Y14, Y16, Y17, Y18, Y19, Y27, Y33] at hR
       obtain ⟨hcg, hfg⟩ := Tryst2.Grow.cells hg
       have hsg := Tryst2.Grow.le hg
       simp only [Tryst2.putAll, Tryst2.dstL, Y13, Y14, Y16, Y17, Y18, Y19, Y33, Y28, Y29, Act.put, Y30, Y31, Y32, hR]
       have HW9 := Lib.hid (Tryst2.Grow.below hg HW.out)
       clear hg hR hcg hfg hsg
       go_wp2_with fail
       go_ret
       exact ⟨ret_bool HNX.out.symm, HW9.out⟩
     ·
      have b1' : (t.toList == t'.toList) = false := strNe (fun e => a1 (str_ext e))
      clear hx a1
      refine Tryst2.wp_region_grows [.is (.slice (some ⟨b1, o1, none⟩) l.length c1), .is (.int .i64 (k : Int)), .is (.pointer (some ⟨b1, o1 + k * 2, none⟩)), .is (.agg #[.string t, .int .i64 x]), .is (.slice (some ⟨b2, o2, none⟩) l.length c2), .is (.int .i64 (k : Int)), .is (.pointer (some ⟨b2, o2 + k * 2, none⟩)), .is (.agg #[.string t', .int .i64 x']), .is (.bool true)] (by kernel_rfl) (by kernel_rfl) ?obl ?fin
      case obl =>
       simp only [Tryst2.AllObl, Tryst2.dstL, Tryst2.Obl, Tryst2.depsOf, Y00, Y01, Y02, Y03, Y04, Y05, Y06, Y07, Y08, Y09, Tryst2.depsR, Tryst2.holdR, Tryst2.tmpsOf, Op.operands, Call.operands, Tryst2.Rsp.pred, Y10, Y11, Y12, Y13, Y14, Y15, Y16, Y17, Y18, Y19, Y20, Y21, Y22, id, Y23, Y24, Tryst2.isDst, Y25, Y26, Y33]
       repeat' apply And.intro
       any_goals trivial
       all_goals (intro tv w' hg hold hd; (try simp at hold); obtain ⟨hcg, hfg⟩ := Tryst2.Grow.cells hg; have hsg := Tryst2.Grow.le hg)
       all_goals first | (go_simp; done) | (go_simp; rw [if_neg (by omega)]; exact ⟨.refl _, rfl⟩) | (obtain ⟨⟨g, hvg, hgg, hcell⟩, _⟩ := hd; have hcell0 := hcell 0 (by decide); simp at hcell0; go_simp; done) 
      case fin =>
       intro tv w' hg hR
       simp only [Tryst2.allR, Tryst2.dstL, Tryst2.Rsp.pred, Y13, Y14, Y16, Y17, Y18, Y19, Y27, Y33] at hR
       obtain ⟨hcg, hfg⟩ := Tryst2.Grow.cells hg
       have hsg := Tryst2.Grow.le hg
       simp only [Tryst2.putAll, Tryst2.dstL, Y13, Y14, Y16, Y17, Y18, Y19, Y33, Y28, Y29, Act.put, Y30, Y31, Y32, hR]
       have HW9 := Lib.hid (Tryst2.Grow.below hg HW.out)
       clear hg hR hcg hfg hsg
       go_wp2_with fail
       go_ret
       exact ⟨ret_bool HNX.out.symm, HW9.out⟩
   ·
    have HNX := Lib.hid (allR_end (by rw [HZL.out]; omega) HP.out)
    go_wp2_with fail
    go_ret
    exact ⟨ret_bool HNX.out.symm, HW.out⟩
 ·
  have HN : Hid (sameO l m = false) := Lib.hid (by unfold sameO; rw [decide_eq_false (by omega)]; rfl)
  rw [HN.out]
  go_enter Tryz.func17, Tryz.ntmps17
  go_wp2_with fail
  go_ret
  exact ⟨rfl, .refl _ _⟩
theorem OOwn.len' {w : World} {base : Nat} {v : Value} {l : List OB} (h : OOwn w base v l) : (l.map OB.cells).length = l.length := List.length_map ..
/-- no more than is looked at -/
def fewO (x : OB) : OB := ⟨few60 x.topic, x.next⟩
def fewOs (l : List OB) : List OB := (l.take 21).map fewO
theorem few60_idem (s : ByteArray) : few60 (few60 s) = few60 s := by
 have h := few60_le s
 generalize few60 s = r at h ⊢
 unfold few60
 rw [if_neg (by omega)]
theorem fewOs_idem (l : List OB) : fewOs (fewOs l) = fewOs l := by
 unfold fewOs
 rw [← List.map_take, List.take_take, Nat.min_self, List.map_map]
 congr 1
 funext x
 show fewO (fewO x) = fewO x
 unfold fewO
 rw [few60_idem]
theorem fewOs_len (l : List OB) : (fewOs l).length ≤ 21 := by unfold fewOs; simp; omega
theorem fewOs_size (l : List OB) : ∀ x ∈ fewOs l, x.topic.size ≤ 60 := by
 intro x hx
 unfold fewOs at hx
 obtain ⟨y, _, rfl⟩ := List.mem_map.1 hx
 exact few60_le _
def FewOR (w : World) (l : List OB) (e : Ending) (w' : World) : Prop := ∃ a c, e = .returned (.slice a l.length c) ∧ OOwn w' w.heap.size (.slice a l.length c) l ∧ Below w.heap.size w w'
def FO1 (w : World) (l : List OB) (s i : Value) (wr : World) : Prop := ∃ (k : Nat) (v : Value), v = s ∧ k ≤ 21 ∧ k ≤ l.length ∧ i = .int .i64 k ∧ Hid (OOwn wr w.heap.size v ((l.take k).map fewO)) ∧ Hid (Below w.heap.size w wr)
theorem offsF_c (a : Option Addr) (c : Nat) (l : List OB) (hl : l.length ≤ 9223372036854775807) (hs : ∀ x ∈ l, x.topic.size ≤ 9223372036854775807) (w : World) (hO : Offs w a l) :
  Calls Tryz.prog 10 #[.slice a l.length c] w fun e w' => FewOR w (fewOs l) e w' := by
 have HF := Lib.hid (fun W (hb : Below w.heap.size w W) => OfR.mk (Row.grow hO hb))
 have HC := Lib.hid (fun (k : Nat) (hk : k < l.length) W => few60_c l[k].topic (hs _ (List.getElem_mem hk)) W)
 clear hO hs
 go_enter Tryz.func10, Tryz.ntmps10
 go_wp2_with fail
 go_loopw [3, 4] (fun s i wr => FO1 w l s i wr) (fun _ i _ => l.length - (intOf i).toNat)
 case atStart => exact ⟨0, _, rfl, by omega, by omega, rfl, Lib.hid (ROwn.nil _ _ _ _), Lib.hid (.refl _ _)⟩
 case round =>
  obtain ⟨k, v, rfl, hk21, hkl, rfl, HO, HW⟩ := hrel
  obtain ⟨wo, rfl⟩ : ∃ wo, wo = wr := ⟨_, rfl⟩
  have hbW : w.heap.size ≤ wo.heap.size := HW.out.size
  by_cases hlt : k < l.length ∧ k < 21
  ·
   obtain ⟨hl1, hl2⟩ := hlt
   obtain ⟨b, o, ha, hb⟩ := (HF.out wo HW.out).head hl1
   subst ha
   obtain ⟨_, f0, f1⟩ := (HF.out wo HW.out).r.at hl1
   have HCC := Lib.hid (HC.out k hl1)
   have HL2 : Hid ((l.take (k + 1)).map fewO = (l.take k).map fewO ++ [⟨few60 l[k].topic, l[k].next⟩]) := Lib.hid (by rw [List.take_succ_eq_append_getElem hl1, List.map_append]; rfl)
   obtain ⟨L, hL⟩ : ∃ L, (l.take k).map fewO = L := ⟨_, rfl⟩
   rw [hL] at HO HL2
   have hLl : L.length ≤ 21 := by rw [← hL]; simp; omega
   clear hL
   have HLN := Lib.hid (OOwn.len' HO.out)
   generalize l[k].topic = t at f0 HCC HL2
   generalize l[k].next = x at f1 HL2
   generalize few60 t = t1 at HCC HL2
   have x1 : (k : Int) < l.length := by omega
   have x2 : (0 : Int) ≤ k := by omega
   go_upto_region 5 with fail
   refine Tryst2.wp_region_grows [.is v, .is (.slice (some ⟨b, o, none⟩) l.length c), .is (.int .i64 (k : Int)), .is (.pointer (some ⟨b, o + k * 2, none⟩)), .is (.pointer (some ⟨b, o + k * 2, none⟩)), .is (.string t), .is (.string t1), .is (.slice (some ⟨b, o, none⟩) l.length c), .is (.int .i64 (k : Int)), .is (.pointer (some ⟨b, o + k * 2, none⟩)), .is (.pointer (some ⟨b, o + k * 2 + 1, none⟩)), .is (.int .i64 x), .is (.agg #[.string t1, .int .i64 x]), .any (OneO t1 x)] (by kernel_rfl) (by kernel_rfl) ?obl ?fin
   case obl =>
    simp only [Tryst2.AllObl, Tryst2.dstL, Tryst2.Obl, Tryst2.depsOf, Y00, Y01, Y02, Y03, Y04, Y05, Y06, Y07, Y08, Y09, Tryst2.depsR, Tryst2.holdR, Tryst2.tmpsOf, Op.operands, Call.operands, Tryst2.Rsp.pred, Y10, Y11, Y12, Y13, Y14, Y15, Y16, Y17, Y18, Y19, Y20, Y21, Y22, id, Y23, Y24, Tryst2.isDst, Y25, Y26, Y33]
    repeat' apply And.intro
    any_goals trivial
    all_goals (intro tv w' hg hold hd; (try simp at hold); obtain ⟨hcg, hfg⟩ := Tryst2.Grow.cells hg; have hsg := Tryst2.Grow.le hg)
    all_goals first | (go_simp; done) | (go_simp; rw [if_neg (by omega)]; exact ⟨.refl _, rfl⟩) | (obtain ⟨⟨g, hvg, hgg, hcell⟩, _⟩ := hd; have hcell0 := hcell 0 (by decide); simp at hcell0; go_simp; done) | (go_simp; go_at_call 12; refine (HCC.out _).mono ?_; rintro e w5 ⟨rfl, rfl⟩; exact ⟨Tryst2.Grow.refl _, rfl⟩) | (go_simp; exact (OneO.of _ t1 x).2)
   case fin =>
    intro tv w' hg hR
    simp only [Tryst2.allR, Tryst2.dstL, Tryst2.Rsp.pred, Y13, Y14, Y16, Y17, Y18, Y19, Y27, Y33] at hR
    obtain ⟨hcg, hfg⟩ := Tryst2.Grow.cells hg
    have hsg := Tryst2.Grow.le hg
    simp only [Tryst2.putAll, Tryst2.dstL, Y13, Y14, Y16, Y17, Y18, Y19, Y33, Y28, Y29, Act.put, Y30, Y31, Y32, hR]
    obtain ⟨gv, e6, h6⟩ := OneO.at hR.2.2.2.2.2.2.2.2.2.2.2.2.2.1
    simp only [e6]
    have hbw := Tryst2.Grow.below hg (.refl wo.heap.size wo)
    have HO6 := Lib.hid (HO.out.grow hbw)
    have HW6 := Lib.hid (bstep hbw HW.out)
    have H6 := Lib.hid h6
    have hz6 : w.heap.size ≤ w'.heap.size := HW6.out.size
    clear hR hcg hfg hsg e6 hbw h6 hg HO HW f0 f1
    refine wpList_appR offT rfl _ _ rfl w.heap.size v (L.map OB.cells) L.length HLN.out rfl HO6.out [.string t1, .int .i64 x] rfl (fun u hu => OB.cells_one [⟨t1, x⟩] [.string t1, .int .i64 x] (by simp [OB.cells]) u hu) gv rfl (by intro j hj; match j, hj with | 0, _ => exact H6.out.box.2.1 | 1, _ => exact H6.out.box.2.2) (by omega) hz6 ?_
    intro v' w3 ho3 hb3 _
    have HO3 : Hid (OOwn w3 w.heap.size v' ((l.take (k + 1)).map fewO)) := Lib.hid (by
     rw [HL2.out]
     show ROwn _ _ _ _ _ ((L ++ [_]).map OB.cells)
     rw [List.map_append]
     exact ho3)
    have HW3 := Lib.hid (HW6.out.trans hb3)
    clear ho3 hb3
    go_wp2_with fail
    go_roundw
    case rel => exact ⟨k + 1, _, rfl, by omega, by omega, by go_num, HO3, HW3⟩
    case measure => simp [intOf] <;> omega
  ·
   have HL : Hid ((l.take k).map fewO = fewOs l) := Lib.hid (by
    unfold fewOs
    by_cases h : k < l.length
    ·
     have : k = 21 := by omega
     rw [this]
    ·
     rw [List.take_of_length_le (by omega), List.take_of_length_le (by omega)])
   have HO2 : Hid (OOwn wo w.heap.size v (fewOs l)) := Lib.hid (by rw [← HL.out]; exact HO.out)
   clear HO HL
   obtain ⟨L, hL⟩ : ∃ L, fewOs l = L := ⟨_, rfl⟩
   rw [hL] at HO2
   have HLE := Lib.hid hL
   clear hL
   obtain ⟨a9, c9, hv9, _⟩ := ROwn.row HO2.out (OB.cells_len _) (by decide)
   rw [List.length_map] at hv9
   subst hv9
   by_cases hks : k < l.length
   ·
    have h21 : k = 21 := by omega
    subst h21
    go_wp2_with fail
    go_ret
    exact by rw [HLE.out]; exact ⟨a9, c9, rfl, HO2.out, HW.out⟩
   ·
    go_wp2_with fail
    go_ret
    exact by rw [HLE.out]; exact ⟨a9, c9, rfl, HO2.out, HW.out⟩
end Go.Proofs.YtmlbdblnmbmnpaaGreatDoor
