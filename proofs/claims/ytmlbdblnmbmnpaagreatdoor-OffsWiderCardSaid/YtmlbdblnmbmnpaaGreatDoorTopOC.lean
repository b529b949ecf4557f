/- joined: law12.Few; topic.Check of topics as an argument gives them; topics as arguments. -/
import Derived.Test.YtmlbdblnmbmnpaaGreatDoorProg
import Derived.WalkKit
import Derived.WalkSpells
import Derived.WalkLawsBesides
import Derived.Lib.Hide
import Derived.Deep.RegionWith
import Derived.Deep.Cut
import Derived.IntWalk
import Derived.Test.YtmlbdblnmbmnpaaGreatDoorTopFN
import Derived.Test.YtmlbdblnmbmnpaaGreatDoorEv3U
import Derived.Test.YtmlbdblnmbmnpaaGreatDoorOpen4
set_option linter.unusedVariables false
set_option linter.unusedSimpArgs false
namespace Go.Proofs.YtmlbdblnmbmnpaaGreatDoor
open Go.RowKit Tryst
set_option maxHeartbeats 400000
set_option maxRecDepth 20000
theorem TBox.growB {v w : World} {b B : Nat} {n : ByteArray} {x : Int} {u : Value} (h : TBox v b n x u) (hb : b < B) (hB : B ≤ v.heap.size) (hw : Below B v w) : TBox w b n x u := by
 obtain ⟨h0, h1, h2, h3, h4, h5, h6⟩ := h
 exact ⟨by rw [hw.cell (p := ⟨b, 0, none⟩) hb]; exact h0, by rw [hw.cell (p := ⟨b, 1, none⟩) hb]; exact h1, by rw [hw.cell (p := ⟨b, 2, none⟩) hb]; exact h2, by rw [hw.frozen (p := ⟨b, 0, none⟩) hb]; exact h3, by rw [hw.frozen (p := ⟨b, 1, none⟩) hb]; exact h4, by rw [hw.frozen (p := ⟨b, 2, none⟩) hb]; exact h5, Nat.lt_of_lt_of_le h6 hw.size⟩
theorem TBox.put2 {w : World} {b : Nat} {n : ByteArray} {x : Int} {u : Value} (h : TBox w b n x u) (v : Value) : TBox (w.setCell ⟨b, 2, none⟩ v) b n x v := by
 obtain ⟨h0, h1, h2, h3, h4, h5, h6⟩ := h
 constructor <;> simp [cell_setCell, frozen_setCell, h0, h1, h2, h3, h4, h5, h6]
def TopsA (w : World) (a : Option Addr) (l : List TB) : Prop := Row w a 3 (l.map TB.cells) ∧ ∀ t ∈ l, Strs w t.la t.log
theorem TopsA.grow {v w : World} {a : Option Addr} {l : List TB} (h : TopsA v a l) (hw : Below v.heap.size v w) : TopsA w a l := ⟨h.1.grow hw, fun t ht => (h.2 t ht).grow hw⟩
theorem TopsA.head {w : World} {a : Option Addr} {l : List TB} (h : TopsA w a l) {i : Nat} (hi : i < l.length) : ∃ b o, a = some ⟨b, o, none⟩ ∧ b < w.heap.size := h.1.head (by simpa using hi)
theorem TopsA.at {w : World} {b o : Nat} {l : List TB} (h : TopsA w (some ⟨b, o, none⟩) l) {i : Nat} (hi : i < l.length) : b < w.heap.size ∧ TAt w b (o + i * 3) l[i] ∧ Strs w l[i].la l[i].log := by
 obtain ⟨h1, h2⟩ := h.1.at (i := i) (by simpa using hi)
 simp only [List.getElem_map] at h2
 exact ⟨h1, ⟨h2 0 (by omega), h2 1 (by omega), h2 2 (by omega)⟩, h.2 _ (List.getElem_mem hi)⟩
theorem Tops.a {w : World} {a : Option Addr} {l : List TB} (h : Tops w a l) : TopsA w a l := ⟨h.1, fun t ht => (h.2 t ht).1⟩
def sV (l : List ByteArray) : List (List Value) := l.map fun s => [Value.string s]
end Go.Proofs.YtmlbdblnmbmnpaaGreatDoor
namespace Go.Proofs.YtmlbdblnmbmnpaaGreatDoor
open Go.RowKit Tryst
set_option maxHeartbeats 400000
set_option maxRecDepth 20000
set_option maxHeartbeats 2000000 in
theorem tcheckA_c (a : Option Addr) (c : Nat) (l : List TB) (hl : l.length ≤ 1000000000) (hI : TIn l) (w : World) (hM : MaxW w) (hF : TopsA w a l) :
  Calls Tryz.prog 44 #[.slice a l.length c] w fun e w' => e = .returned (.int .i64 (errV (topsMay (l.map TB.tp)))) ∧ Below w.heap.size w w' := by
 obtain ⟨R, hR⟩ : ∃ R, okT none (l.map TB.tp) = R := ⟨_, rfl⟩
 have hT : topsMay (l.map TB.tp) = (decide (l.length ≤ 20) && R) := by unfold topsMay; rw [hR, List.length_map]
 rw [hT]
 have HR := Lib.hid hR
 have HM := Lib.hid hM
 have HF := Lib.hid hF
 have HI := Lib.hid hI
 clear hM hF hR hT hI
 by_cases h20 : l.length ≤ 20
 ·
  have HQ : Hid ((decide (l.length ≤ 20) && R) = R) := Lib.hid (by rw [decide_eq_true h20]; rfl)
  rw [HQ.out]
  have y1 : ¬ (20 : Int) < l.length := by omega
  go_enter Tryz.func44, Tryz.ntmps44
  go_wp2_with fail
  go_loopw [10] (fun i wr => TChkRel w l R i wr) (fun i _ => l.length - (intOf i).toNat)
  case atStart => exact ⟨0, by omega, rfl, HR.out.symm, .refl _ _, by omega⟩
  case round =>
   obtain ⟨k, hk, rfl, HP, HW, hz⟩ := hrel
   obtain ⟨wo, rfl⟩ : ∃ wo, wo = wr := ⟨_, rfl⟩
   by_cases hlt : k < l.length
   ·
    have HF2 := Lib.hid (HF.out.grow HW.out)
    obtain ⟨b, o, ha, hb⟩ := HF2.out.head hlt
    subst ha
    obtain ⟨_, ⟨f0, f1, f2⟩, hS⟩ := HF2.out.at hlt
    have HS := Lib.hid hS
    have hin := HI.out l[k] (List.getElem_mem hlt)
    have hc := (fun (W : World) (hM : MaxW W) (hS : Strs W l[k].la l[k].log) => tmay_c l[k] hin.1 hin.2.1 hin.2.2.1 hin.2.2.2.1 hin.2.2.2.2 W hM hS)
    unfold tV at hc
    have HC := Lib.hid hc
    clear hc
    have hst := okT_step (L := l.map TB.tp) (k := k) (by simpa using hlt)
    rw [← HP.out] at hst
    simp only [List.getElem_map] at hst
    have HST := Lib.hid hst
    clear hst hin hS
    go_upto_region 6 with fail
    have HBX := Lib.hid (balloc (.cells #[.string l[k].name, .int .i64 l[k].first, .slice l[k].la l[k].log.length l[k].lc] 57) (.refl wo.heap.size wo))
    have HK := Lib.hid (bstep HBX.out HW.out)
    generalize tMay l[k].tp = mm at HC HST
    cases mm with
    | false =>
     have HQ2 : Hid (R = false) := Lib.hid (HST.out.trans (Bool.false_and _))
     clear HST
     refine Tryst2.wp_region_grows [.is (.agg #[.string l[k].name, .int .i64 l[k].first, .slice l[k].la l[k].log.length l[k].lc]), .is (.bool false), .is (.bool true), .is (.bool true), .is undef, .is undef, .is undef, .is undef, .is undef, .is undef, .is undef, .is undef, .is undef, .is undef, .is undef, .is undef, .is undef, .is (.bool true)] (by kernel_rfl) (by kernel_rfl) ?obl ?fin
     case obl =>
      simp only [YA, YL, YO, YR, Op.operands, Call.operands]
      repeat' apply And.intro
      any_goals trivial
      all_goals (intro tv w' hg hold hd; (try simp at hold); obtain ⟨hcg, hfg, hsg⟩ := YG hg)
      all_goals first | (go_simp; done) | (go_simp; rw [if_neg (by omega)]; exact ⟨.refl _, rfl⟩) | (obtain ⟨⟨g, hvg, hgg, hcell⟩, _⟩ := hd; have hcell0 := hcell 0 (by decide); simp at hcell0; go_simp; done) | (go_simp; go_at_call 81; (with_reducible refine (HC.out _ ?_ ?_).mono ?_); (exact HM.out.grow (Tryst2.Grow.below hg HK.out)); (exact HS.out.grow (Tryst2.Grow.below hg HBX.out)); rintro e w5 ⟨rfl, hb5⟩; exact ⟨hb5, rfl⟩)
     case fin =>
      intro tv w' hg hR
      simp only [YF, YL, YR] at hR
      obtain ⟨hcg, hfg, hsg⟩ := YG hg
      simp only [YP, YL, Act.put, hR]
      have HK9 := Lib.hid (Tryst2.Grow.below hg HK.out)
      clear hg hR hcg hfg hsg
      go_wp2_with fail
      go_ret
      exact ⟨ret_int (by rw [HQ2.out]; rfl), HK9.out⟩
    | true =>
     rw [Bool.true_and] at HST
     cases k with
     | zero =>
      have HQ2 : Hid (R = okT (prevT (l.map TB.tp) (0 + 1)) ((l.map TB.tp).drop (0 + 1))) := Lib.hid HST.out
      clear HST
      refine Tryst2.wp_region_grows [.is (.agg #[.string l[0].name, .int .i64 l[0].first, .slice l[0].la l[0].log.length l[0].lc]), .is (.bool true), .is (.bool false), .is (.bool false), .is (.int .i64 0), .is (.bool false), .is (.bool false), .is undef, .is undef, .is undef, .is undef, .is undef, .is undef, .is undef, .is undef, .is undef, .is (.bool false), .is (.bool false)] (by kernel_rfl) (by kernel_rfl) ?obl ?fin
      case obl =>
       simp only [YA, YL, YO, YR, Op.operands, Call.operands]
       repeat' apply And.intro
       any_goals trivial
       all_goals (intro tv w' hg hold hd; (try simp at hold); obtain ⟨hcg, hfg, hsg⟩ := YG hg)
       all_goals first | (go_simp; done) | (go_simp; rw [if_neg (by omega)]; exact ⟨.refl _, rfl⟩) | (obtain ⟨⟨g, hvg, hgg, hcell⟩, _⟩ := hd; have hcell0 := hcell 0 (by decide); simp at hcell0; go_simp; done) | (go_simp; go_at_call 81; (with_reducible refine (HC.out _ ?_ ?_).mono ?_); (exact HM.out.grow (Tryst2.Grow.below hg HK.out)); (exact HS.out.grow (Tryst2.Grow.below hg HBX.out)); rintro e w5 ⟨rfl, hb5⟩; exact ⟨hb5, rfl⟩)
      case fin =>
       intro tv w' hg hR
       simp only [YF, YL, YR] at hR
       obtain ⟨hcg, hfg, hsg⟩ := YG hg
       simp only [YP, YL, Act.put, hR]
       have HK9 := Lib.hid (Tryst2.Grow.below hg HK.out)
       clear hg hR hcg hfg hsg
       go_wp2_with fail
       go_roundw
       case rel => exact ⟨0 + 1, by omega, by go_num, HQ2, HK9, HK9.out.size⟩
       case measure => simp [intOf] <;> omega
     | succ m =>
      have hlm : m < l.length := by omega
      obtain ⟨_, ⟨g0, g1, g2⟩, _⟩ := HF2.out.at hlm
      have hpv := prevT_succ (L := l.map TB.tp) (k := m) (by simpa using hlm)
      rw [List.getElem_map] at hpv
      rw [hpv] at HST
      clear hpv
      have HGE := geB l[m].name l[m + 1].name
      have HLS : Hid (R = (lessB l[m].name l[m + 1].name && okT (prevT (l.map TB.tp) (m + 1 + 1)) ((l.map TB.tp).drop (m + 1 + 1)))) := Lib.hid HST.out
      clear HST
      generalize lessB l[m].name l[m + 1].name = lb at HLS HGE
      cases lb with
      | false =>
       have HQ2 : Hid (R = false) := Lib.hid (HLS.out.trans (Bool.false_and _))
       have hge : (!Op.bytesLess l[m].name.toList l[m + 1].name.toList) = true := HGE
       clear HGE HLS
       refine Tryst2.wp_region_grows [.is (.agg #[.string l[m + 1].name, .int .i64 l[m + 1].first, .slice l[m + 1].la l[m + 1].log.length l[m + 1].lc]), .is (.bool true), .is (.bool false), .is (.bool false), .is (.int .i64 ((m + 1 : Nat) : Int)), .is (.bool true), .is (.bool true), .is (.slice (some ⟨b, o, none⟩) l.length c), .is (.int .i64 ((m + 1 : Nat) : Int)), .is (.int .i64 (m : Int)), .is (.pointer (some ⟨b, o + m * 3, none⟩)), .is (.pointer (some ⟨b, o + m * 3, none⟩)), .is (.string l[m].name), .is (.pointer (some ⟨wo.heap.size, 0, none⟩)), .is (.string l[m + 1].name), .is (.bool true), .is (.bool true), .is (.bool true)] (by kernel_rfl) (by kernel_rfl) ?obl ?fin
       case obl =>
        simp only [YA, YL, YO, YR, Op.operands, Call.operands]
        repeat' apply And.intro
        any_goals trivial
        all_goals (intro tv w' hg hold hd; (try simp at hold); obtain ⟨hcg, hfg, hsg⟩ := YG hg)
        all_goals first | (go_simp; done) | (go_simp; rw [if_neg (by omega)]; exact ⟨.refl _, rfl⟩) | (obtain ⟨⟨g, hvg, hgg, hcell⟩, _⟩ := hd; have hcell0 := hcell 0 (by decide); simp at hcell0; go_simp; done) | (go_simp; go_at_call 81; (with_reducible refine (HC.out _ ?_ ?_).mono ?_); (exact HM.out.grow (Tryst2.Grow.below hg HK.out)); (exact HS.out.grow (Tryst2.Grow.below hg HBX.out)); rintro e w5 ⟨rfl, hb5⟩; exact ⟨hb5, rfl⟩) | (go_simp; exact IntWalk.i64_in _ (by omega))
       case fin =>
        intro tv w' hg hR
        simp only [YF, YL, YR] at hR
        obtain ⟨hcg, hfg, hsg⟩ := YG hg
        simp only [YP, YL, Act.put, hR]
        have HK9 := Lib.hid (Tryst2.Grow.below hg HK.out)
        clear hg hR hcg hfg hsg
        go_wp2_with fail
        go_ret
        exact ⟨ret_int (by rw [HQ2.out]; rfl), HK9.out⟩
      | true =>
       have HQ2 : Hid (R = okT (prevT (l.map TB.tp) (m + 1 + 1)) ((l.map TB.tp).drop (m + 1 + 1))) := Lib.hid (HLS.out.trans (Bool.true_and _))
       have hge : (!Op.bytesLess l[m].name.toList l[m + 1].name.toList) = false := HGE
       clear HGE HLS
       refine Tryst2.wp_region_grows [.is (.agg #[.string l[m + 1].name, .int .i64 l[m + 1].first, .slice l[m + 1].la l[m + 1].log.length l[m + 1].lc]), .is (.bool true), .is (.bool false), .is (.bool false), .is (.int .i64 ((m + 1 : Nat) : Int)), .is (.bool true), .is (.bool true), .is (.slice (some ⟨b, o, none⟩) l.length c), .is (.int .i64 ((m + 1 : Nat) : Int)), .is (.int .i64 (m : Int)), .is (.pointer (some ⟨b, o + m * 3, none⟩)), .is (.pointer (some ⟨b, o + m * 3, none⟩)), .is (.string l[m].name), .is (.pointer (some ⟨wo.heap.size, 0, none⟩)), .is (.string l[m + 1].name), .is (.bool false), .is (.bool false), .is (.bool false)] (by kernel_rfl) (by kernel_rfl) ?obl ?fin
       case obl =>
        simp only [YA, YL, YO, YR, Op.operands, Call.operands]
        repeat' apply And.intro
        any_goals trivial
        all_goals (intro tv w' hg hold hd; (try simp at hold); obtain ⟨hcg, hfg, hsg⟩ := YG hg)
        all_goals first | (go_simp; done) | (go_simp; rw [if_neg (by omega)]; exact ⟨.refl _, rfl⟩) | (obtain ⟨⟨g, hvg, hgg, hcell⟩, _⟩ := hd; have hcell0 := hcell 0 (by decide); simp at hcell0; go_simp; done) | (go_simp; go_at_call 81; (with_reducible refine (HC.out _ ?_ ?_).mono ?_); (exact HM.out.grow (Tryst2.Grow.below hg HK.out)); (exact HS.out.grow (Tryst2.Grow.below hg HBX.out)); rintro e w5 ⟨rfl, hb5⟩; exact ⟨hb5, rfl⟩) | (go_simp; exact IntWalk.i64_in _ (by omega))
       case fin =>
        intro tv w' hg hR
        simp only [YF, YL, YR] at hR
        obtain ⟨hcg, hfg, hsg⟩ := YG hg
        simp only [YP, YL, Act.put, hR]
        have HK9 := Lib.hid (Tryst2.Grow.below hg HK.out)
        clear hg hR hcg hfg hsg
        go_wp2_with fail
        go_roundw
        case rel => exact ⟨m + 1 + 1, by omega, by go_num, HQ2, HK9, HK9.out.size⟩
        case measure => simp [intOf] <;> omega
   ·
    have HQ2 : Hid (R = true) := Lib.hid (HP.out.trans (okT_end (by simpa using hlt)))
    go_wp2_with fail
    go_ret
    exact ⟨ret_int (by rw [HQ2.out]; rfl), HW.out⟩
 ·
  have HQ : Hid ((decide (l.length ≤ 20) && R) = false) := Lib.hid (by rw [decide_eq_false h20]; rfl)
  rw [HQ.out]
  have y1 : (20 : Int) < l.length := by omega
  go_enter Tryz.func44, Tryz.ntmps44
  go_wp2_with fail
  go_ret
  exact ⟨ret_int rfl, .refl _ _⟩
end Go.Proofs.YtmlbdblnmbmnpaaGreatDoor
namespace Tryst
open Go Go.RowKit Go.ChangeShapes Go.WideShapes Go.Joins
/-- a slice whose elements take some cells each, read -/
theorem read_slice {H : Type} {enc : TypeId × Value → H} {P : Program} {w : World} {base : Nat} {sp : Nat → Bool} {hd : Bool} {T E : TypeId} {k : Nat} {α : Type} (cells : α → List Value) (p : α → Prop) (zero : α) (hk : 0 < k) (hu : P.underlying T = some (.slice E)) (hc : P.cellsOf E = k) (hlen : ∀ y, (cells y).length = k)
  (hread : ∀ {fuel : Nat} {cs : List Value} {x : DataW H × List MemPlace}, DataW.trod enc P w base sp hd fuel E cs = some x → ∃ y, cs = cells y ∧ p y)
  {fuel : Nat} {cs : List Value} {x : DataW H × List MemPlace} (h : DataW.trod enc P w base sp hd fuel T cs = some x) :
  ∃ (a : Option Addr) (l : List α) (c : Nat), cs = [.slice a l.length c] ∧ Row w a k (l.map cells) ∧ (∀ y ∈ l, p y) ∧ l.length ≤ 9223372036854775807 ∧ l.length ≤ c := by
 rcases Go.Deep.open_slice hu h with ⟨rfl, _⟩ | ⟨ad, len, cap, m, n, D, Pl, rfl, _, hl, hm, hmm, _, hi⟩
 ·
  exact ⟨none, [], 0, rfl, Row.nil _ _ _, (fun f hf => by cases hf), Nat.zero_le _, Nat.le_refl _⟩
 ·
  have hml : len ≤ m := by rw [hmm]; split <;> omega
  have key : ∀ i, i < len → ∃ y : α, (∀ j, j < k → w.cell? ((ad.add (i * k)).add j) = (cells y)[j]?) ∧ p y := fun i hil => by
   obtain ⟨cs', hc', ht⟩ := hi i (by omega)
   rw [hc] at hc'
   obtain ⟨_, _, hcell⟩ := World.cells?_some hc'
   obtain ⟨y, rfl, hy⟩ := hread ht
   exact ⟨y, hcell, hy⟩
  obtain ⟨g, hg⟩ : ∃ g : Nat → α, ∀ i, i < len → (∀ j, j < k → w.cell? ((ad.add (i * k)).add j) = (cells (g i))[j]?) ∧ p (g i) :=
   ⟨fun i => if h : i < len then (key i h).choose else zero, fun i h => by simp only [dif_pos h]; exact (key i h).choose_spec⟩
  refine ⟨some ad, (List.range len).map g, cap, by rw [List.length_map, List.length_range], ?_, ?_, ?_, ?_⟩
  ·
   intro i hil
   rw [List.length_map, List.length_map, List.length_range] at hil
   obtain ⟨hc, _⟩ := hg i hil
   obtain ⟨b, o, sp⟩ := ad
   have hz0 := (hg 0 (by omega)).1 0 hk
   have hk0 : 0 < (cells (g 0)).length := by rw [hlen]; exact hk
   rw [List.getElem?_eq_getElem hk0] at hz0
   obtain ⟨hb, hs⟩ := cell_lt hz0
   have hb' : b < w.heap.size := by simpa [Addr.add] using hb
   have hs' : sp = none := by simpa [Addr.add] using hs
   subst hs'
   refine ⟨b, o, rfl, hb', fun j hj => ?_⟩
   have e : (((List.range len).map g).map cells)[i]'(by simpa using hil) = cells (g i) := by simp
   rw [e, ← hc j hj, Addr.add_lit, Addr.add_lit]
  ·
   intro y hy
   obtain ⟨i, hi', rfl⟩ := List.mem_map.1 hy
   exact (hg i (by simpa using hi')).2
  ·
   rw [List.length_map, List.length_range]; exact Nat.le_trans hl hm
  ·
   rw [List.length_map, List.length_range]; exact hl
end Tryst
namespace Go.Proofs.YtmlbdblnmbmnpaaGreatDoor
set_option maxRecDepth 100000
open Go.RowKit Tryst Go.ChangeShapes Go.WideShapes Go.Joins
section
variable {H : Type} {enc : TypeId × Value → H} {w : World} {base : Nat} {sp : Nat → Bool} {hd : Bool}
theorem read_strs {fuel : Nat} {cs : List Value} {x : DataW H × List MemPlace} (h : DataW.trod enc Tryz.prog w base sp hd fuel 22 cs = some x) : ∃ (a : Option Addr) (l : List ByteArray) (c : Nat), cs = [.slice a l.length c] ∧ Strs w a l ∧ (∀ s ∈ l, s.size ≤ 9223372036854775807) ∧ l.length ≤ 9223372036854775807 := by
 obtain ⟨a, l, c, h1, h2, h3, h4, _⟩ := read_slice (fun s : ByteArray => [Value.string s]) (fun s => s.size ≤ 9223372036854775807) ⟨#[]⟩ (by decide) Tryz.underlying22 kStr (fun _ => rfl) (fun h => read_str h) h
 exact ⟨a, l, c, h1, strs_row.2 h2, h3, h4⟩
theorem kInt : Tryz.prog.cellsOf 3 = 1 := by kernel_rfl
theorem kStrs : Tryz.prog.cellsOf 22 = 1 := by kernel_rfl
end
end Go.Proofs.YtmlbdblnmbmnpaaGreatDoor
