/- ref02.Glob, ref02.meets, ref02.Meets. -/
import Derived.Test.YtmlbdblnmbmnpaaGreatDoorProg
import Derived.WalkKit
import Derived.WalkSpells
import Derived.WalkLawsBesides
import Derived.Lib.Hide
import Derived.Deep.RegionWith
import Derived.Deep.Cut
import Derived.IntWalk
import Derived.Test.YtmlbdblnmbmnpaaGreatDoorNmB
import Derived.Test.YtmlbdblnmbmnpaaGreatDoorMeets5
set_option linter.unusedVariables false
set_option linter.unusedSimpArgs false
namespace Go.Proofs.YtmlbdblnmbmnpaaGreatDoor
open Go.RowKit Tryst
set_option maxHeartbeats 400000
set_option maxRecDepth 20000
def GIsRel (l : List ByteArray) (i : Value) : Prop := ∃ k : Nat, k ≤ l.length ∧ i = .int .i64 k ∧ Hid (∀ (j : Nat) (h : j < l.length), j < k → gpartB l[j].data.toList = true)
set_option maxHeartbeats 4000000 in
theorem risglob_c (s : ByteArray) (hs : s.size ≤ 1000000) (w : World) : Calls Tryz.prog 80 #[.string s, .bool true] w fun e w' => e = .returned (.bool (globB s.data.toList)) ∧ Below w.heap.size w w' := by
 go_enter Tryz.func80, Tryz.ntmps80
 go_wp2_with fail
 refine (rcut_c s hs w).mono ?_
 rintro e w1 ⟨v, l, rfl, ho, hd, hb1⟩
 have hlen : l.length ≤ s.size + 1 := by
  have := (dots_len s.data.toList).1
  rw [← hd, List.length_map, len_str] at this
  exact this
 have hsz : ∀ x ∈ l, x.size ≤ s.size := fun x hx => by
  have := (dots_len s.data.toList).2 x.data.toList (by rw [← hd]; exact List.mem_map.2 ⟨x, hx, rfl⟩)
  rw [len_str, len_str] at this
  exact this
 obtain ⟨a, c, rfl, hst, hsl, _⟩ := ho.strs
 have HST := Lib.hid hst
 have HD := Lib.hid hd
 have KB := Lib.hid hb1
 have HSZ := Lib.hid hsz
 clear ho hst hd hb1 hsl hsz
 go_wp2_with fail
 go_loop [6] (fun i => GIsRel l i) (fun i => l.length - (intOf i).toNat)
 case atStart => exact ⟨0, by omega, rfl, fun j _ h => by omega⟩
 case round =>
  obtain ⟨k, hk, rfl, HA⟩ := hrel
  by_cases hlt : k < l.length
  ·
   obtain ⟨b, o, ha, hb⟩ := HST.out.head hlt
   subst ha
   obtain ⟨_, f0⟩ := HST.out.at hlt
   have x1 : (k : Int) < l.length := by omega
   have x2 : (0 : Int) ≤ k := by omega
   have hls := HSZ.out l[k] (List.getElem_mem hlt)
   cases hp : partB l[k].data.toList with
   | true =>
    skip
    have HP := Lib.hid hp
    have HG : Hid (∀ (j : Nat) (h : j < l.length), j < k + 1 → gpartB l[j].data.toList = true) := fun j hj hjk => by
     by_cases e : j = k
     ·
      subst e; unfold gpartB; simp [HP.out]
     ·
      exact HA.out j hj (by omega)
    clear hp HA
    go_wp2_with fail
    refine (rpart_c l[k] (by omega) _).mono ?_
    rintro e w2 ⟨rfl, rfl⟩
    rw [HP.out]
    go_wp2_with fail
    go_round
    case rel => exact ⟨k + 1, by omega, by go_num, HG.out⟩
    case measure => simp [intOf] <;> omega
   | false =>
    by_cases h1 : l[k].data.toList = [42]
    ·
     skip
     have z1 : (l[k].toList == [42]) = true := by rw [str_toList, h1]; rfl
     have HP := Lib.hid hp
     have HG : Hid (∀ (j : Nat) (h : j < l.length), j < k + 1 → gpartB l[j].data.toList = true) := fun j hj hjk => by
      by_cases e : j = k
      ·
       subst e; unfold gpartB; simp [h1]
      ·
       exact HA.out j hj (by omega)
     clear hp HA
     go_wp2_with fail
     refine (rpart_c l[k] (by omega) _).mono ?_
     rintro e w2 ⟨rfl, rfl⟩
     rw [HP.out]
     go_wp2_with fail
     go_round
     case rel => exact ⟨k + 1, by omega, by go_num, HG.out⟩
     case measure => simp [intOf] <;> omega
    by_cases h2 : l[k].data.toList = [42, 42]
    ·
     skip
     have z1 : (l[k].toList == [42]) = false := by rw [str_toList]; simpa using h1
     have z2 : (l[k].toList == [42, 42]) = true := by rw [str_toList, h2]; rfl
     have HP := Lib.hid hp
     have HG : Hid (∀ (j : Nat) (h : j < l.length), j < k + 1 → gpartB l[j].data.toList = true) := fun j hj hjk => by
      by_cases e : j = k
      ·
       subst e; unfold gpartB; simp [h2]
      ·
       exact HA.out j hj (by omega)
     clear hp HA
     go_wp2_with fail
     refine (rpart_c l[k] (by omega) _).mono ?_
     rintro e w2 ⟨rfl, rfl⟩
     rw [HP.out]
     go_wp2_with fail
     go_round
     case rel => exact ⟨k + 1, by omega, by go_num, HG.out⟩
     case measure => simp [intOf] <;> omega
    have HP := Lib.hid hp
    have HG : Hid (globB s.data.toList = false) := by
     show _ = _
     unfold globB
     rw [← HD.out]
     have : (l.map (fun x => x.data.toList)).all gpartB = false := by
      rw [List.all_eq_false]
      exact ⟨_, List.mem_map.2 ⟨l[k], List.getElem_mem hlt, rfl⟩, by unfold gpartB; rw [hp]; simp [h1, h2]⟩
     rw [this, Bool.and_false]
    have z1 : (l[k].toList == [42]) = false := by rw [str_toList]; simpa using h1
    have z2 : (l[k].toList == [42, 42]) = false := by rw [str_toList]; simpa using h2
    clear hp HA h1 h2
    go_wp2_with fail
    refine (rpart_c l[k] (by omega) _).mono ?_
    rintro e w2 ⟨rfl, rfl⟩
    rw [HP.out]
    go_wp2_with fail
    go_ret
    exact ⟨ret_bool HG.out.symm, KB.out⟩
  ·
   have HG : Hid (globB s.data.toList = (decide (s.size ≤ 40) && decide (l.length ≤ 8))) := by
    show _ = _
    unfold globB
    rw [← HD.out]
    have : (l.map (fun x => x.data.toList)).all gpartB = true := by
     rw [List.all_eq_true]
     intro x hx
     obtain ⟨y, hy, rfl⟩ := List.mem_map.1 hx
     obtain ⟨j, hj, rfl⟩ := List.getElem_of_mem hy
     exact HA.out j hj (by omega)
    rw [this, Bool.and_true, len_str, List.length_map]
   clear HA
   by_cases h8 : l.length ≤ 8
   ·
    by_cases h40 : s.size ≤ 40
    ·
     have HR : Hid (globB s.data.toList = true) := by show _ = _; rw [HG.out, decide_eq_true h8, decide_eq_true h40]; rfl
     go_wp2_with fail
     go_ret
     exact ⟨ret_bool (by rw [HR.out]; simp; omega), KB.out⟩
    ·
     have HR : Hid (globB s.data.toList = false) := by show _ = _; rw [HG.out, decide_eq_false h40]; rfl
     have z1 : decide ((s.size : Int) ≤ 40) = false := by simp; omega
     go_wp2_with fail
     go_ret
     exact ⟨ret_bool HR.out.symm, KB.out⟩
   ·
    have HR : Hid (globB s.data.toList = false) := by show _ = _; rw [HG.out, decide_eq_false h8, Bool.and_false]
    have z1 : decide ((l.length : Int) ≤ 8) = false := by simp; omega
    go_wp2_with fail
    go_ret
    exact ⟨ret_bool HR.out.symm, KB.out⟩
theorem rglob_c (s : ByteArray) (hs : s.size ≤ 1000000) (w : World) : Calls Tryz.prog 50 #[.string s] w fun e w' => e = .returned (.bool (globB s.data.toList)) ∧ Below w.heap.size w w' := by
 go_enter Tryz.func50, Tryz.ntmps50
 go_wp2_with fail
 refine (risglob_c s hs w).mono ?_
 rintro e w1 ⟨rfl, hb1⟩
 go_wp2_with fail
 go_ret
 exact ⟨rfl, hb1⟩
end Go.Proofs.YtmlbdblnmbmnpaaGreatDoor
namespace Go.Proofs.YtmlbdblnmbmnpaaGreatDoor
open Go.RowKit Tryst
set_option maxHeartbeats 20000000
set_option maxRecDepth 20000
def dataL (l : List ByteArray) : List (List UInt8) := l.map fun x => x.data.toList
theorem dataL_drop (l : List ByteArray) (m : Nat) : dataL (l.drop m) = (dataL l).drop m := by
 unfold dataL
 rw [List.map_drop]
/-- the tails from the i-th on: does none meet? -/
def RMRel (g : List (List UInt8)) (t : List (List UInt8)) (w : World) (i : Value) (wr : World) : Prop := ∃ k : Nat, k ≤ t.length + 1 ∧ i = .int .i64 k ∧ Hid (∀ j, j < k → meetsL g (t.drop j) = false) ∧ Hid (Below w.heap.size w wr)
theorem anyTail_iff (f : List (List UInt8) → Bool) : ∀ t : List (List UInt8), anyTail f t = true ↔ ∃ j, j ≤ t.length ∧ f (t.drop j) = true
 | [] => by
  constructor
  ·
   intro h; exact ⟨0, Nat.le_refl _, h⟩
  ·
   rintro ⟨j, hj, h⟩
   obtain rfl : j = 0 := by simpa using hj
   exact h
 | x :: r => by
  unfold anyTail
  rw [Bool.or_eq_true, anyTail_iff f r]
  constructor
  ·
   rintro (h | ⟨j, hj, h⟩)
   ·
    exact ⟨0, Nat.zero_le _, h⟩
   ·
    exact ⟨j + 1, by simp; omega, h⟩
  ·
   rintro ⟨j, hj, h⟩
   cases j with
   | zero => exact .inl h
   | succ j => exact .inr ⟨j, by simpa using hj, h⟩
theorem rmeets_c : ∀ (gl : List ByteArray) (ga : Option Addr) (gc : Nat) (tl : List ByteArray) (ta : Option Addr) (tc : Nat) (w : World), Strs w ga gl → Strs w ta tl → Sl ga gc gl.length → Sl ta tc tl.length → gl.length ≤ 1000000 → tl.length ≤ 1000000 →
  Calls Tryz.prog 93 #[.slice ga gl.length gc, .slice ta tl.length tc] w fun e w' => e = .returned (.bool (meetsL (dataL gl) (dataL tl))) ∧ Below w.heap.size w w' := by
 intro gl
 induction gl with
 | nil =>
  intro ga gc tl ta tc w hG hT sG sT lG lT
  have e : meetsL (dataL []) (dataL tl) = decide (tl.length = 0) := by
   show (dataL tl).isEmpty = _
   cases tl <;> simp [dataL]
  rw [e]
  clear e hG hT sG sT
  by_cases h0 : tl.length = 0
  all_goals
   go_enter Tryz.func93, Tryz.ntmps93
   go_wp2_with fail
   go_ret
   exact ⟨ret_bool (by simp [h0]), .refl _ _⟩
 | cons p gl ih =>
  intro ga gc tl ta tc w hG hT sG sT lG lT
  obtain ⟨b, o, rfl, hb⟩ := hG.head (i := 0) (by simp)
  obtain ⟨_, f0⟩ := hG.at (i := 0) (by simp)
  rw [Nat.add_zero, List.getElem_cons_zero] at f0
  have HG := Lib.hid hG
  have HT := Lib.hid hT
  have IH := Lib.hid ih
  rw [List.length_cons] at lG sG ⊢
  have sg1 := sG.cap
  clear ih hG hT
  by_cases hp : p.data.toList = [42, 42]
  ·
   have y1 : (p.toList == [42, 42]) = true := by rw [str_toList, hp]; rfl
   have HPS : Hid (meetsL (dataL (p :: gl)) (dataL tl) = anyTail (fun u => meetsL (dataL gl) u) (dataL tl)) := Lib.hid (by
    show meetsL (p.data.toList :: dataL gl) (dataL tl) = _
    rw [meetsL_cons, if_pos hp])
   have hlt : (dataL tl).length = tl.length := by simp [dataL]
   go_enter Tryz.func93, Tryz.ntmps93
   go_wp2_with fail
   go_loopw [5] (fun i wr => RMRel (dataL gl) (dataL tl) w i wr) (fun i _ => tl.length + 1 - (intOf i).toNat)
   case atStart => exact ⟨0, by omega, rfl, fun j h => by omega, .refl _ _⟩
   case round =>
    obtain ⟨k, hk, rfl, HN, HW⟩ := hrel
    rw [hlt] at hk
    by_cases hk2 : k ≤ tl.length
    ·
     obtain ⟨X, hX⟩ : ∃ X, meetsL (dataL gl) ((dataL tl).drop k) = X := ⟨_, rfl⟩
     have HXT : Hid (X = true → meetsL (dataL (p :: gl)) (dataL tl) = true) := Lib.hid (fun h => by
      rw [HPS.out, anyTail_iff]
      exact ⟨k, by omega, hX.trans h⟩)
     have HXF : Hid (X = false → ∀ j, j < k + 1 → meetsL (dataL gl) ((dataL tl).drop j) = false) := Lib.hid (fun h j hj => by
      by_cases e : j = k
      ·
       subst e; exact hX.trans h
      ·
       exact HN.out j (by omega))
     rcases ta with _ | ⟨b2, o2, sp2⟩
     ·
      have hz := sT.zero rfl
      have hc := sT.cap
      have t1 : tc = k := by omega
      have HS2 : Hid (∀ W, Below w.heap.size w W → Strs W none (tl.drop k)) := Lib.hid fun W _ => by rw [List.drop_eq_nil_of_le (by omega)]; exact Strs.nil _ _
      have SL2 : Sl none 0 (tl.length - k) := ⟨by omega, fun A h => (by cases h), fun _ => rfl⟩
      clear hz
      have t2 := t1.symm; clear t1; subst t2
      by_cases g1 : gc = 1
      ·
       have HS1 : Hid (∀ W, Below w.heap.size w W → Strs W (some ⟨b, o, none⟩) gl) := Lib.hid fun W _ => by rw [show gl = [] from List.eq_nil_of_length_eq_zero (by omega)]; exact Strs.nil _ _
       have SL1 : Sl (some ⟨b, o, none⟩) 0 gl.length := ⟨by omega, fun A h => (by cases h; rfl), fun h => (by cases h)⟩
       subst g1
       have HIC := Lib.hid (fun (W : World) (hb : Below wr.heap.size wr W) => IH.out (some ⟨b, o, none⟩) 0 (tl.drop k) none 0 W (HS1.out W (bstep hb HW.out)) (HS2.out W (bstep hb HW.out)) SL1 (by rw [List.length_drop]; exact SL2) (by omega) (by rw [List.length_drop]; omega))
       simp only [List.length_drop, dataL_drop] at HIC
       rw [hX] at HIC
       clear hX HN HPS HS1 HS2 SL1 SL2 IH
       have q1 : (1 : Int) ≤ (gl.length : Int) + 1 := by omega
       have q2 : (k : Int) ≤ (tl.length : Int) := by omega
       have q3 : (0 : Int) ≤ (k : Int) := by omega
       clear sg1 hc sG sT
       go_upto_region 7 with fail
       refine Tryst2.wp_region_grows [.is (.slice (some ⟨b, o, none⟩) (gl.length + 1) 1), .is (.slice (some ⟨b, o, none⟩) gl.length 0), .is (.slice none tl.length k), .is (.int .i64 (k : Int)), .is (.slice none (tl.length - k) 0), .is (.bool X)] (by kernel_rfl) (by kernel_rfl) ?obl ?fin
       case obl =>
        simp only [YA, YL, YO, YR, Op.operands, Call.operands]
        repeat' apply And.intro
        any_goals trivial
        all_goals (intro tv w' hg hold hd; (try simp at hold); obtain ⟨hcg, hfg, hsg⟩ := YG hg)
        all_goals first | (go_simp; done) | (go_simp; rw [if_neg (by omega)]; exact ⟨.refl _, rfl⟩) | (obtain ⟨⟨g, hvg, hgg, hcell⟩, _⟩ := hd; have hcell0 := hcell 0 (by decide); simp at hcell0; go_simp; done) | (go_simp; go_at_call 93; (with_reducible refine (HIC.out _ ?_).mono ?_); (exact Tryst2.Grow.below hg (.refl _ _)); rintro e w2 ⟨rfl, hb2⟩; exact ⟨hb2, rfl⟩) | (go_simp; omega)
       case fin =>
        intro tv w' hg hR
        simp only [YF, YL, YR] at hR
        obtain ⟨hcg, hfg, hsg⟩ := YG hg
        simp only [YP, YL, Act.put, hR]
        have HB9 := Lib.hid (bstep (Tryst2.Grow.below hg (.refl wr.heap.size wr)) HW.out)
        clear hg hR hcg hfg hsg HIC
        cases X with
        | true =>
         go_wp2_with fail
         go_ret
         exact ⟨ret_bool (HXT.out (by simp)).symm, HB9.out⟩
        | false =>
         go_wp2_with fail
         go_roundw
         case rel => exact ⟨k + 1, by omega, by go_num, HXF.out (by simp), HB9.out⟩
         case measure => simp [intOf] <;> omega
      ·
       have HS1 : Hid (∀ W, Below w.heap.size w W → Strs W (some ⟨b, o + 1, none⟩) gl) := Lib.hid fun W hb => (HG.out.grow hb).drop 1
       have SL1 : Sl (some ⟨b, o + 1, none⟩) (gc - 1) gl.length := ⟨by omega, fun A h => (by cases h; rfl), fun h => (by cases h)⟩
       have HIC := Lib.hid (fun (W : World) (hb : Below wr.heap.size wr W) => IH.out (some ⟨b, o + 1, none⟩) (gc - 1) (tl.drop k) none 0 W (HS1.out W (bstep hb HW.out)) (HS2.out W (bstep hb HW.out)) SL1 (by rw [List.length_drop]; exact SL2) (by omega) (by rw [List.length_drop]; omega))
       simp only [List.length_drop, dataL_drop] at HIC
       rw [hX] at HIC
       clear hX HN HPS HS1 HS2 SL1 SL2 IH
       have q1 : (1 : Int) ≤ (gl.length : Int) + 1 := by omega
       have q2 : (k : Int) ≤ (tl.length : Int) := by omega
       have q3 : (0 : Int) ≤ (k : Int) := by omega
       clear sg1 hc sG sT
       go_upto_region 7 with fail
       refine Tryst2.wp_region_grows [.is (.slice (some ⟨b, o, none⟩) (gl.length + 1) gc), .is (.slice (some ⟨b, o + 1, none⟩) gl.length (gc - 1)), .is (.slice none tl.length k), .is (.int .i64 (k : Int)), .is (.slice none (tl.length - k) 0), .is (.bool X)] (by kernel_rfl) (by kernel_rfl) ?obl ?fin
       case obl =>
        simp only [YA, YL, YO, YR, Op.operands, Call.operands]
        repeat' apply And.intro
        any_goals trivial
        all_goals (intro tv w' hg hold hd; (try simp at hold); obtain ⟨hcg, hfg, hsg⟩ := YG hg)
        all_goals first | (go_simp; done) | (go_simp; rw [if_neg (by omega)]; exact ⟨.refl _, rfl⟩) | (obtain ⟨⟨g, hvg, hgg, hcell⟩, _⟩ := hd; have hcell0 := hcell 0 (by decide); simp at hcell0; go_simp; done) | (go_simp; go_at_call 93; (with_reducible refine (HIC.out _ ?_).mono ?_); (exact Tryst2.Grow.below hg (.refl _ _)); rintro e w2 ⟨rfl, hb2⟩; exact ⟨hb2, rfl⟩) | (go_simp; omega)
       case fin =>
        intro tv w' hg hR
        simp only [YF, YL, YR] at hR
        obtain ⟨hcg, hfg, hsg⟩ := YG hg
        simp only [YP, YL, Act.put, hR]
        have HB9 := Lib.hid (bstep (Tryst2.Grow.below hg (.refl wr.heap.size wr)) HW.out)
        clear hg hR hcg hfg hsg HIC
        cases X with
        | true =>
         go_wp2_with fail
         go_ret
         exact ⟨ret_bool (HXT.out (by simp)).symm, HB9.out⟩
        | false =>
         go_wp2_with fail
         go_roundw
         case rel => exact ⟨k + 1, by omega, by go_num, HXF.out (by simp), HB9.out⟩
         case measure => simp [intOf] <;> omega
     ·
      obtain rfl : sp2 = none := sT.spot _ rfl
      have hc := sT.cap
      by_cases t1 : tc = k
      ·
       have HS2 : Hid (∀ W, Below w.heap.size w W → Strs W (some ⟨b2, o2, none⟩) (tl.drop k)) := Lib.hid fun W _ => by rw [List.drop_eq_nil_of_le (by omega)]; exact Strs.nil _ _
       have SL2 : Sl (some ⟨b2, o2, none⟩) 0 (tl.length - k) := ⟨by omega, fun A h => (by cases h; rfl), fun h => (by cases h)⟩
       have t2 := t1.symm; clear t1; subst t2
       by_cases g1 : gc = 1
       ·
        have HS1 : Hid (∀ W, Below w.heap.size w W → Strs W (some ⟨b, o, none⟩) gl) := Lib.hid fun W _ => by rw [show gl = [] from List.eq_nil_of_length_eq_zero (by omega)]; exact Strs.nil _ _
        have SL1 : Sl (some ⟨b, o, none⟩) 0 gl.length := ⟨by omega, fun A h => (by cases h; rfl), fun h => (by cases h)⟩
        subst g1
        have HIC := Lib.hid (fun (W : World) (hb : Below wr.heap.size wr W) => IH.out (some ⟨b, o, none⟩) 0 (tl.drop k) (some ⟨b2, o2, none⟩) 0 W (HS1.out W (bstep hb HW.out)) (HS2.out W (bstep hb HW.out)) SL1 (by rw [List.length_drop]; exact SL2) (by omega) (by rw [List.length_drop]; omega))
        simp only [List.length_drop, dataL_drop] at HIC
        rw [hX] at HIC
        clear hX HN HPS HS1 HS2 SL1 SL2 IH
        have q1 : (1 : Int) ≤ (gl.length : Int) + 1 := by omega
        have q2 : (k : Int) ≤ (tl.length : Int) := by omega
        have q3 : (0 : Int) ≤ (k : Int) := by omega
        clear sg1 hc sG sT
        go_upto_region 7 with fail
        refine Tryst2.wp_region_grows [.is (.slice (some ⟨b, o, none⟩) (gl.length + 1) 1), .is (.slice (some ⟨b, o, none⟩) gl.length 0), .is (.slice (some ⟨b2, o2, none⟩) tl.length k), .is (.int .i64 (k : Int)), .is (.slice (some ⟨b2, o2, none⟩) (tl.length - k) 0), .is (.bool X)] (by kernel_rfl) (by kernel_rfl) ?obl ?fin
        case obl =>
         simp only [YA, YL, YO, YR, Op.operands, Call.operands]
         repeat' apply And.intro
         any_goals trivial
         all_goals (intro tv w' hg hold hd; (try simp at hold); obtain ⟨hcg, hfg, hsg⟩ := YG hg)
         all_goals first | (go_simp; done) | (go_simp; rw [if_neg (by omega)]; exact ⟨.refl _, rfl⟩) | (obtain ⟨⟨g, hvg, hgg, hcell⟩, _⟩ := hd; have hcell0 := hcell 0 (by decide); simp at hcell0; go_simp; done) | (go_simp; go_at_call 93; (with_reducible refine (HIC.out _ ?_).mono ?_); (exact Tryst2.Grow.below hg (.refl _ _)); rintro e w2 ⟨rfl, hb2⟩; exact ⟨hb2, rfl⟩) | (go_simp; omega)
        case fin =>
         intro tv w' hg hR
         simp only [YF, YL, YR] at hR
         obtain ⟨hcg, hfg, hsg⟩ := YG hg
         simp only [YP, YL, Act.put, hR]
         have HB9 := Lib.hid (bstep (Tryst2.Grow.below hg (.refl wr.heap.size wr)) HW.out)
         clear hg hR hcg hfg hsg HIC
         cases X with
         | true =>
          go_wp2_with fail
          go_ret
          exact ⟨ret_bool (HXT.out (by simp)).symm, HB9.out⟩
         | false =>
          go_wp2_with fail
          go_roundw
          case rel => exact ⟨k + 1, by omega, by go_num, HXF.out (by simp), HB9.out⟩
          case measure => simp [intOf] <;> omega
       ·
        have HS1 : Hid (∀ W, Below w.heap.size w W → Strs W (some ⟨b, o + 1, none⟩) gl) := Lib.hid fun W hb => (HG.out.grow hb).drop 1
        have SL1 : Sl (some ⟨b, o + 1, none⟩) (gc - 1) gl.length := ⟨by omega, fun A h => (by cases h; rfl), fun h => (by cases h)⟩
        have HIC := Lib.hid (fun (W : World) (hb : Below wr.heap.size wr W) => IH.out (some ⟨b, o + 1, none⟩) (gc - 1) (tl.drop k) (some ⟨b2, o2, none⟩) 0 W (HS1.out W (bstep hb HW.out)) (HS2.out W (bstep hb HW.out)) SL1 (by rw [List.length_drop]; exact SL2) (by omega) (by rw [List.length_drop]; omega))
        simp only [List.length_drop, dataL_drop] at HIC
        rw [hX] at HIC
        clear hX HN HPS HS1 HS2 SL1 SL2 IH
        have q1 : (1 : Int) ≤ (gl.length : Int) + 1 := by omega
        have q2 : (k : Int) ≤ (tl.length : Int) := by omega
        have q3 : (0 : Int) ≤ (k : Int) := by omega
        clear sg1 hc sG sT
        go_upto_region 7 with fail
        refine Tryst2.wp_region_grows [.is (.slice (some ⟨b, o, none⟩) (gl.length + 1) gc), .is (.slice (some ⟨b, o + 1, none⟩) gl.length (gc - 1)), .is (.slice (some ⟨b2, o2, none⟩) tl.length k), .is (.int .i64 (k : Int)), .is (.slice (some ⟨b2, o2, none⟩) (tl.length - k) 0), .is (.bool X)] (by kernel_rfl) (by kernel_rfl) ?obl ?fin
        case obl =>
         simp only [YA, YL, YO, YR, Op.operands, Call.operands]
         repeat' apply And.intro
         any_goals trivial
         all_goals (intro tv w' hg hold hd; (try simp at hold); obtain ⟨hcg, hfg, hsg⟩ := YG hg)
         all_goals first | (go_simp; done) | (go_simp; rw [if_neg (by omega)]; exact ⟨.refl _, rfl⟩) | (obtain ⟨⟨g, hvg, hgg, hcell⟩, _⟩ := hd; have hcell0 := hcell 0 (by decide); simp at hcell0; go_simp; done) | (go_simp; go_at_call 93; (with_reducible refine (HIC.out _ ?_).mono ?_); (exact Tryst2.Grow.below hg (.refl _ _)); rintro e w2 ⟨rfl, hb2⟩; exact ⟨hb2, rfl⟩) | (go_simp; omega)
        case fin =>
         intro tv w' hg hR
         simp only [YF, YL, YR] at hR
         obtain ⟨hcg, hfg, hsg⟩ := YG hg
         simp only [YP, YL, Act.put, hR]
         have HB9 := Lib.hid (bstep (Tryst2.Grow.below hg (.refl wr.heap.size wr)) HW.out)
         clear hg hR hcg hfg hsg HIC
         cases X with
         | true =>
          go_wp2_with fail
          go_ret
          exact ⟨ret_bool (HXT.out (by simp)).symm, HB9.out⟩
         | false =>
          go_wp2_with fail
          go_roundw
          case rel => exact ⟨k + 1, by omega, by go_num, HXF.out (by simp), HB9.out⟩
          case measure => simp [intOf] <;> omega
      ·
       have HS2 : Hid (∀ W, Below w.heap.size w W → Strs W (some ⟨b2, o2 + k, none⟩) (tl.drop k)) := Lib.hid fun W hb => (HT.out.grow hb).drop k
       have SL2 : Sl (some ⟨b2, o2 + k, none⟩) (tc - k) (tl.length - k) := ⟨by omega, fun A h => (by cases h; rfl), fun h => (by cases h)⟩
       by_cases g1 : gc = 1
       ·
        have HS1 : Hid (∀ W, Below w.heap.size w W → Strs W (some ⟨b, o, none⟩) gl) := Lib.hid fun W _ => by rw [show gl = [] from List.eq_nil_of_length_eq_zero (by omega)]; exact Strs.nil _ _
        have SL1 : Sl (some ⟨b, o, none⟩) 0 gl.length := ⟨by omega, fun A h => (by cases h; rfl), fun h => (by cases h)⟩
        subst g1
        have HIC := Lib.hid (fun (W : World) (hb : Below wr.heap.size wr W) => IH.out (some ⟨b, o, none⟩) 0 (tl.drop k) (some ⟨b2, o2 + k, none⟩) (tc - k) W (HS1.out W (bstep hb HW.out)) (HS2.out W (bstep hb HW.out)) SL1 (by rw [List.length_drop]; exact SL2) (by omega) (by rw [List.length_drop]; omega))
        simp only [List.length_drop, dataL_drop] at HIC
        rw [hX] at HIC
        clear hX HN HPS HS1 HS2 SL1 SL2 IH
        have q1 : (1 : Int) ≤ (gl.length : Int) + 1 := by omega
        have q2 : (k : Int) ≤ (tl.length : Int) := by omega
        have q3 : (0 : Int) ≤ (k : Int) := by omega
        clear sg1 hc sG sT
        go_upto_region 7 with fail
        refine Tryst2.wp_region_grows [.is (.slice (some ⟨b, o, none⟩) (gl.length + 1) 1), .is (.slice (some ⟨b, o, none⟩) gl.length 0), .is (.slice (some ⟨b2, o2, none⟩) tl.length tc), .is (.int .i64 (k : Int)), .is (.slice (some ⟨b2, o2 + k, none⟩) (tl.length - k) (tc - k)), .is (.bool X)] (by kernel_rfl) (by kernel_rfl) ?obl ?fin
        case obl =>
         simp only [YA, YL, YO, YR, Op.operands, Call.operands]
         repeat' apply And.intro
         any_goals trivial
         all_goals (intro tv w' hg hold hd; (try simp at hold); obtain ⟨hcg, hfg, hsg⟩ := YG hg)
         all_goals first | (go_simp; done) | (go_simp; rw [if_neg (by omega)]; exact ⟨.refl _, rfl⟩) | (obtain ⟨⟨g, hvg, hgg, hcell⟩, _⟩ := hd; have hcell0 := hcell 0 (by decide); simp at hcell0; go_simp; done) | (go_simp; go_at_call 93; (with_reducible refine (HIC.out _ ?_).mono ?_); (exact Tryst2.Grow.below hg (.refl _ _)); rintro e w2 ⟨rfl, hb2⟩; exact ⟨hb2, rfl⟩) | (go_simp; omega)
        case fin =>
         intro tv w' hg hR
         simp only [YF, YL, YR] at hR
         obtain ⟨hcg, hfg, hsg⟩ := YG hg
         simp only [YP, YL, Act.put, hR]
         have HB9 := Lib.hid (bstep (Tryst2.Grow.below hg (.refl wr.heap.size wr)) HW.out)
         clear hg hR hcg hfg hsg HIC
         cases X with
         | true =>
          go_wp2_with fail
          go_ret
          exact ⟨ret_bool (HXT.out (by simp)).symm, HB9.out⟩
         | false =>
          go_wp2_with fail
          go_roundw
          case rel => exact ⟨k + 1, by omega, by go_num, HXF.out (by simp), HB9.out⟩
          case measure => simp [intOf] <;> omega
       ·
        have HS1 : Hid (∀ W, Below w.heap.size w W → Strs W (some ⟨b, o + 1, none⟩) gl) := Lib.hid fun W hb => (HG.out.grow hb).drop 1
        have SL1 : Sl (some ⟨b, o + 1, none⟩) (gc - 1) gl.length := ⟨by omega, fun A h => (by cases h; rfl), fun h => (by cases h)⟩
        have HIC := Lib.hid (fun (W : World) (hb : Below wr.heap.size wr W) => IH.out (some ⟨b, o + 1, none⟩) (gc - 1) (tl.drop k) (some ⟨b2, o2 + k, none⟩) (tc - k) W (HS1.out W (bstep hb HW.out)) (HS2.out W (bstep hb HW.out)) SL1 (by rw [List.length_drop]; exact SL2) (by omega) (by rw [List.length_drop]; omega))
        simp only [List.length_drop, dataL_drop] at HIC
        rw [hX] at HIC
        clear hX HN HPS HS1 HS2 SL1 SL2 IH
        have q1 : (1 : Int) ≤ (gl.length : Int) + 1 := by omega
        have q2 : (k : Int) ≤ (tl.length : Int) := by omega
        have q3 : (0 : Int) ≤ (k : Int) := by omega
        clear sg1 hc sG sT
        go_upto_region 7 with fail
        refine Tryst2.wp_region_grows [.is (.slice (some ⟨b, o, none⟩) (gl.length + 1) gc), .is (.slice (some ⟨b, o + 1, none⟩) gl.length (gc - 1)), .is (.slice (some ⟨b2, o2, none⟩) tl.length tc), .is (.int .i64 (k : Int)), .is (.slice (some ⟨b2, o2 + k, none⟩) (tl.length - k) (tc - k)), .is (.bool X)] (by kernel_rfl) (by kernel_rfl) ?obl ?fin
        case obl =>
         simp only [YA, YL, YO, YR, Op.operands, Call.operands]
         repeat' apply And.intro
         any_goals trivial
         all_goals (intro tv w' hg hold hd; (try simp at hold); obtain ⟨hcg, hfg, hsg⟩ := YG hg)
         all_goals first | (go_simp; done) | (go_simp; rw [if_neg (by omega)]; exact ⟨.refl _, rfl⟩) | (obtain ⟨⟨g, hvg, hgg, hcell⟩, _⟩ := hd; have hcell0 := hcell 0 (by decide); simp at hcell0; go_simp; done) | (go_simp; go_at_call 93; (with_reducible refine (HIC.out _ ?_).mono ?_); (exact Tryst2.Grow.below hg (.refl _ _)); rintro e w2 ⟨rfl, hb2⟩; exact ⟨hb2, rfl⟩) | (go_simp; omega)
        case fin =>
         intro tv w' hg hR
         simp only [YF, YL, YR] at hR
         obtain ⟨hcg, hfg, hsg⟩ := YG hg
         simp only [YP, YL, Act.put, hR]
         have HB9 := Lib.hid (bstep (Tryst2.Grow.below hg (.refl wr.heap.size wr)) HW.out)
         clear hg hR hcg hfg hsg HIC
         cases X with
         | true =>
          go_wp2_with fail
          go_ret
          exact ⟨ret_bool (HXT.out (by simp)).symm, HB9.out⟩
         | false =>
          go_wp2_with fail
          go_roundw
          case rel => exact ⟨k + 1, by omega, by go_num, HXF.out (by simp), HB9.out⟩
          case measure => simp [intOf] <;> omega
    ·
     have HFF : Hid (meetsL (dataL (p :: gl)) (dataL tl) = false) := Lib.hid (by
      rw [HPS.out, ← Bool.not_eq_true, anyTail_iff]
      rintro ⟨j, hj, h⟩
      rw [HN.out j (by omega)] at h
      cases h)
     clear HN HPS
     go_wp2_with fail
     go_ret
     exact ⟨ret_bool HFF.out.symm, HW.out⟩
  ·
   have y1 : (p.toList == [42, 42]) = false := by rw [str_toList]; simpa using hp
   cases tl with
   | nil =>
    have HPS : Hid (meetsL (dataL (p :: gl)) (dataL []) = false) := Lib.hid (by
     show meetsL (p.data.toList :: dataL gl) [] = _
     rw [meetsL_cons, if_neg hp])
    clear IH sT
    rw [List.length_nil]
    go_enter Tryz.func93, Tryz.ntmps93
    go_upto_region 10 with fail
    refine Tryst2.wp_region_grows [.is (.slice ta 0 tc), .is (.int .i64 0), .is (.bool false), .is (.bool false), .is undef, .is undef, .is undef, .is undef, .is undef, .is undef, .is undef, .is undef, .is undef, .is undef, .is undef, .is undef, .is undef, .is (.bool false), .is (.bool false), .is undef, .is undef, .is undef, .is undef, .is undef, .is (.bool false), .is (.bool false)] (by kernel_rfl) (by kernel_rfl) ?obl ?fin
    case obl =>
     simp only [YA, YL, YO, YR, Op.operands, Call.operands]
     repeat' apply And.intro
     any_goals trivial
     all_goals (intro tv w' hg hold hd; (try simp at hold); obtain ⟨hcg, hfg, hsg⟩ := YG hg)
     all_goals first | (go_simp; done) | (go_simp; rw [if_neg (by omega)]; exact ⟨.refl _, rfl⟩) | (obtain ⟨⟨g, hvg, hgg, hcell⟩, _⟩ := hd; have hcell0 := hcell 0 (by decide); simp at hcell0; go_simp; done) | (go_simp; intro hbo; cases hbo)
    case fin =>
     intro tv w' hg hR
     simp only [YF, YL, YR] at hR
     obtain ⟨hcg, hfg, hsg⟩ := YG hg
     simp only [YP, YL, Act.put, hR]
     have HB9 := Lib.hid (Tryst2.Grow.below hg (.refl w.heap.size w))
     clear hg hR hcg hfg hsg
     go_wp2_with fail
     go_ret
     exact ⟨ret_bool HPS.out.symm, HB9.out⟩
   | cons x tr =>
    obtain ⟨b2, o2, rfl, hb2⟩ := HT.out.head (i := 0) (by simp)
    obtain ⟨_, f2⟩ := HT.out.at (i := 0) (by simp)
    rw [Nat.add_zero, List.getElem_cons_zero] at f2
    have hc := sT.cap
    rw [List.length_cons] at hc lT sT ⊢
    obtain ⟨X, hX⟩ : ∃ X, meetsL (dataL gl) (dataL tr) = X := ⟨_, rfl⟩
    have hms : meetsL (dataL (p :: gl)) (dataL (x :: tr)) = ((decide (p.data.toList = [42]) || decide (p.data.toList = x.data.toList)) && X) := by
     show meetsL (p.data.toList :: dataL gl) (x.data.toList :: dataL tr) = _
     rw [meetsL_cons, if_neg hp, ← hX]
    by_cases h1 : p.data.toList = [42]
    ·
     have y2 : (p.toList == [42]) = true := by rw [str_toList, h1]; rfl
     have HPS : Hid (meetsL (dataL (p :: gl)) (dataL (x :: tr)) = X) := Lib.hid (by rw [hms]; simp [h1])
     clear hms
     by_cases g1 : gc = 1
     ·
      skip
      have HS1 : Hid (∀ W, Below w.heap.size w W → Strs W (some ⟨b, o, none⟩) gl) := Lib.hid fun W _ => by rw [show gl = [] from List.eq_nil_of_length_eq_zero (by omega)]; exact Strs.nil _ _
      have SL1 : Sl (some ⟨b, o, none⟩) 0 gl.length := ⟨by omega, fun A h => (by cases h; rfl), fun h => (by cases h)⟩
      by_cases t1 : tc = 1
      ·
       skip
       have HS2 : Hid (∀ W, Below w.heap.size w W → Strs W (some ⟨b2, o2, none⟩) tr) := Lib.hid fun W _ => by rw [show tr = [] from List.eq_nil_of_length_eq_zero (by omega)]; exact Strs.nil _ _
       have SL2 : Sl (some ⟨b2, o2, none⟩) 0 tr.length := ⟨by omega, fun A h => (by cases h; rfl), fun h => (by cases h)⟩
       subst g1
       subst t1
       go_enter Tryz.func93, Tryz.ntmps93
       have HIC := Lib.hid (fun (W : World) (hb : Below w.heap.size w W) => IH.out (some ⟨b, o, none⟩) 0 tr (some ⟨b2, o2, none⟩) 0 W (HS1.out W hb) (HS2.out W hb) SL1 SL2 (by omega) (by omega))
       rw [hX] at HIC
       have q1 : (1 : Int) ≤ (gl.length : Int) + 1 := by omega
       have q2 : (1 : Int) ≤ (tr.length : Int) + 1 := by omega
       have q4 : (0 : Int) < (tr.length : Int) + 1 := by omega
       clear hX HS1 HS2 SL1 SL2 IH sg1 hc sG sT
       go_upto_region 10 with fail
       refine Tryst2.wp_region_grows [.is (.slice (some ⟨b2, o2, none⟩) (tr.length + 1) 1), .is (.int .i64 ((tr.length : Int) + 1)), .is (.bool true), .is (.bool true), .is (.slice (some ⟨b, o, none⟩) (gl.length + 1) 1), .is (.pointer (some ⟨b, o, none⟩)), .is (.string p), .is (.bool true), .is (.bool true), .is undef, .is undef, .is undef, .is undef, .is undef, .is undef, .is undef, .is (.bool true), .is (.bool true), .is (.bool true), .is (.slice (some ⟨b, o, none⟩) (gl.length + 1) 1), .is (.slice (some ⟨b, o, none⟩) gl.length 0), .is (.slice (some ⟨b2, o2, none⟩) (tr.length + 1) 1), .is (.slice (some ⟨b2, o2, none⟩) tr.length 0), .is (.bool X), .is (.bool X), .is (.bool X)] (by kernel_rfl) (by kernel_rfl) ?obl ?fin
       case obl =>
        simp only [YA, YL, YO, YR, Op.operands, Call.operands]
        repeat' apply And.intro
        any_goals trivial
        all_goals (intro tv w' hg hold hd; (try simp at hold); obtain ⟨hcg, hfg, hsg⟩ := YG hg)
        all_goals first | (go_simp; done) | (go_simp; rw [if_neg (by omega)]; exact ⟨.refl _, rfl⟩) | (obtain ⟨⟨g, hvg, hgg, hcell⟩, _⟩ := hd; have hcell0 := hcell 0 (by decide); simp at hcell0; go_simp; done) | (go_simp; go_at_call 93; (with_reducible refine (HIC.out _ ?_).mono ?_); (exact Tryst2.Grow.below hg (.refl _ _)); rintro e w2 ⟨rfl, hb2⟩; exact ⟨hb2, rfl⟩) | (go_simp; intro hbo; cases hbo) | (go_simp; omega)
       case fin =>
        intro tv w' hg hR
        simp only [YF, YL, YR] at hR
        obtain ⟨hcg, hfg, hsg⟩ := YG hg
        simp only [YP, YL, Act.put, hR]
        have HB9 := Lib.hid (Tryst2.Grow.below hg (.refl w.heap.size w))
        clear hg hR hcg hfg hsg HIC
        go_wp2_with fail
        go_ret
        exact ⟨ret_bool HPS.out.symm, HB9.out⟩
      ·
       skip
       have HS2 : Hid (∀ W, Below w.heap.size w W → Strs W (some ⟨b2, o2 + 1, none⟩) tr) := Lib.hid fun W hb => (HT.out.grow hb).drop 1
       have SL2 : Sl (some ⟨b2, o2 + 1, none⟩) (tc - 1) tr.length := ⟨by omega, fun A h => (by cases h; rfl), fun h => (by cases h)⟩
       subst g1
       go_enter Tryz.func93, Tryz.ntmps93
       have HIC := Lib.hid (fun (W : World) (hb : Below w.heap.size w W) => IH.out (some ⟨b, o, none⟩) 0 tr (some ⟨b2, o2 + 1, none⟩) (tc - 1) W (HS1.out W hb) (HS2.out W hb) SL1 SL2 (by omega) (by omega))
       rw [hX] at HIC
       have q1 : (1 : Int) ≤ (gl.length : Int) + 1 := by omega
       have q2 : (1 : Int) ≤ (tr.length : Int) + 1 := by omega
       have q4 : (0 : Int) < (tr.length : Int) + 1 := by omega
       clear hX HS1 HS2 SL1 SL2 IH sg1 hc sG sT
       go_upto_region 10 with fail
       refine Tryst2.wp_region_grows [.is (.slice (some ⟨b2, o2, none⟩) (tr.length + 1) tc), .is (.int .i64 ((tr.length : Int) + 1)), .is (.bool true), .is (.bool true), .is (.slice (some ⟨b, o, none⟩) (gl.length + 1) 1), .is (.pointer (some ⟨b, o, none⟩)), .is (.string p), .is (.bool true), .is (.bool true), .is undef, .is undef, .is undef, .is undef, .is undef, .is undef, .is undef, .is (.bool true), .is (.bool true), .is (.bool true), .is (.slice (some ⟨b, o, none⟩) (gl.length + 1) 1), .is (.slice (some ⟨b, o, none⟩) gl.length 0), .is (.slice (some ⟨b2, o2, none⟩) (tr.length + 1) tc), .is (.slice (some ⟨b2, o2 + 1, none⟩) tr.length (tc - 1)), .is (.bool X), .is (.bool X), .is (.bool X)] (by kernel_rfl) (by kernel_rfl) ?obl ?fin
       case obl =>
        simp only [YA, YL, YO, YR, Op.operands, Call.operands]
        repeat' apply And.intro
        any_goals trivial
        all_goals (intro tv w' hg hold hd; (try simp at hold); obtain ⟨hcg, hfg, hsg⟩ := YG hg)
        all_goals first | (go_simp; done) | (go_simp; rw [if_neg (by omega)]; exact ⟨.refl _, rfl⟩) | (obtain ⟨⟨g, hvg, hgg, hcell⟩, _⟩ := hd; have hcell0 := hcell 0 (by decide); simp at hcell0; go_simp; done) | (go_simp; go_at_call 93; (with_reducible refine (HIC.out _ ?_).mono ?_); (exact Tryst2.Grow.below hg (.refl _ _)); rintro e w2 ⟨rfl, hb2⟩; exact ⟨hb2, rfl⟩) | (go_simp; intro hbo; cases hbo) | (go_simp; omega)
       case fin =>
        intro tv w' hg hR
        simp only [YF, YL, YR] at hR
        obtain ⟨hcg, hfg, hsg⟩ := YG hg
        simp only [YP, YL, Act.put, hR]
        have HB9 := Lib.hid (Tryst2.Grow.below hg (.refl w.heap.size w))
        clear hg hR hcg hfg hsg HIC
        go_wp2_with fail
        go_ret
        exact ⟨ret_bool HPS.out.symm, HB9.out⟩
     ·
      skip
      have HS1 : Hid (∀ W, Below w.heap.size w W → Strs W (some ⟨b, o + 1, none⟩) gl) := Lib.hid fun W hb => (HG.out.grow hb).drop 1
      have SL1 : Sl (some ⟨b, o + 1, none⟩) (gc - 1) gl.length := ⟨by omega, fun A h => (by cases h; rfl), fun h => (by cases h)⟩
      by_cases t1 : tc = 1
      ·
       skip
       have HS2 : Hid (∀ W, Below w.heap.size w W → Strs W (some ⟨b2, o2, none⟩) tr) := Lib.hid fun W _ => by rw [show tr = [] from List.eq_nil_of_length_eq_zero (by omega)]; exact Strs.nil _ _
       have SL2 : Sl (some ⟨b2, o2, none⟩) 0 tr.length := ⟨by omega, fun A h => (by cases h; rfl), fun h => (by cases h)⟩
       subst t1
       go_enter Tryz.func93, Tryz.ntmps93
       have HIC := Lib.hid (fun (W : World) (hb : Below w.heap.size w W) => IH.out (some ⟨b, o + 1, none⟩) (gc - 1) tr (some ⟨b2, o2, none⟩) 0 W (HS1.out W hb) (HS2.out W hb) SL1 SL2 (by omega) (by omega))
       rw [hX] at HIC
       have q1 : (1 : Int) ≤ (gl.length : Int) + 1 := by omega
       have q2 : (1 : Int) ≤ (tr.length : Int) + 1 := by omega
       have q4 : (0 : Int) < (tr.length : Int) + 1 := by omega
       clear hX HS1 HS2 SL1 SL2 IH sg1 hc sG sT
       go_upto_region 10 with fail
       refine Tryst2.wp_region_grows [.is (.slice (some ⟨b2, o2, none⟩) (tr.length + 1) 1), .is (.int .i64 ((tr.length : Int) + 1)), .is (.bool true), .is (.bool true), .is (.slice (some ⟨b, o, none⟩) (gl.length + 1) gc), .is (.pointer (some ⟨b, o, none⟩)), .is (.string p), .is (.bool true), .is (.bool true), .is undef, .is undef, .is undef, .is undef, .is undef, .is undef, .is undef, .is (.bool true), .is (.bool true), .is (.bool true), .is (.slice (some ⟨b, o, none⟩) (gl.length + 1) gc), .is (.slice (some ⟨b, o + 1, none⟩) gl.length (gc - 1)), .is (.slice (some ⟨b2, o2, none⟩) (tr.length + 1) 1), .is (.slice (some ⟨b2, o2, none⟩) tr.length 0), .is (.bool X), .is (.bool X), .is (.bool X)] (by kernel_rfl) (by kernel_rfl) ?obl ?fin
       case obl =>
        simp only [YA, YL, YO, YR, Op.operands, Call.operands]
        repeat' apply And.intro
        any_goals trivial
        all_goals (intro tv w' hg hold hd; (try simp at hold); obtain ⟨hcg, hfg, hsg⟩ := YG hg)
        all_goals first | (go_simp; done) | (go_simp; rw [if_neg (by omega)]; exact ⟨.refl _, rfl⟩) | (obtain ⟨⟨g, hvg, hgg, hcell⟩, _⟩ := hd; have hcell0 := hcell 0 (by decide); simp at hcell0; go_simp; done) | (go_simp; go_at_call 93; (with_reducible refine (HIC.out _ ?_).mono ?_); (exact Tryst2.Grow.below hg (.refl _ _)); rintro e w2 ⟨rfl, hb2⟩; exact ⟨hb2, rfl⟩) | (go_simp; intro hbo; cases hbo) | (go_simp; omega)
       case fin =>
        intro tv w' hg hR
        simp only [YF, YL, YR] at hR
        obtain ⟨hcg, hfg, hsg⟩ := YG hg
        simp only [YP, YL, Act.put, hR]
        have HB9 := Lib.hid (Tryst2.Grow.below hg (.refl w.heap.size w))
        clear hg hR hcg hfg hsg HIC
        go_wp2_with fail
        go_ret
        exact ⟨ret_bool HPS.out.symm, HB9.out⟩
      ·
       skip
       have HS2 : Hid (∀ W, Below w.heap.size w W → Strs W (some ⟨b2, o2 + 1, none⟩) tr) := Lib.hid fun W hb => (HT.out.grow hb).drop 1
       have SL2 : Sl (some ⟨b2, o2 + 1, none⟩) (tc - 1) tr.length := ⟨by omega, fun A h => (by cases h; rfl), fun h => (by cases h)⟩
       go_enter Tryz.func93, Tryz.ntmps93
       have HIC := Lib.hid (fun (W : World) (hb : Below w.heap.size w W) => IH.out (some ⟨b, o + 1, none⟩) (gc - 1) tr (some ⟨b2, o2 + 1, none⟩) (tc - 1) W (HS1.out W hb) (HS2.out W hb) SL1 SL2 (by omega) (by omega))
       rw [hX] at HIC
       have q1 : (1 : Int) ≤ (gl.length : Int) + 1 := by omega
       have q2 : (1 : Int) ≤ (tr.length : Int) + 1 := by omega
       have q4 : (0 : Int) < (tr.length : Int) + 1 := by omega
       clear hX HS1 HS2 SL1 SL2 IH sg1 hc sG sT
       go_upto_region 10 with fail
       refine Tryst2.wp_region_grows [.is (.slice (some ⟨b2, o2, none⟩) (tr.length + 1) tc), .is (.int .i64 ((tr.length : Int) + 1)), .is (.bool true), .is (.bool true), .is (.slice (some ⟨b, o, none⟩) (gl.length + 1) gc), .is (.pointer (some ⟨b, o, none⟩)), .is (.string p), .is (.bool true), .is (.bool true), .is undef, .is undef, .is undef, .is undef, .is undef, .is undef, .is undef, .is (.bool true), .is (.bool true), .is (.bool true), .is (.slice (some ⟨b, o, none⟩) (gl.length + 1) gc), .is (.slice (some ⟨b, o + 1, none⟩) gl.length (gc - 1)), .is (.slice (some ⟨b2, o2, none⟩) (tr.length + 1) tc), .is (.slice (some ⟨b2, o2 + 1, none⟩) tr.length (tc - 1)), .is (.bool X), .is (.bool X), .is (.bool X)] (by kernel_rfl) (by kernel_rfl) ?obl ?fin
       case obl =>
        simp only [YA, YL, YO, YR, Op.operands, Call.operands]
        repeat' apply And.intro
        any_goals trivial
        all_goals (intro tv w' hg hold hd; (try simp at hold); obtain ⟨hcg, hfg, hsg⟩ := YG hg)
        all_goals first | (go_simp; done) | (go_simp; rw [if_neg (by omega)]; exact ⟨.refl _, rfl⟩) | (obtain ⟨⟨g, hvg, hgg, hcell⟩, _⟩ := hd; have hcell0 := hcell 0 (by decide); simp at hcell0; go_simp; done) | (go_simp; go_at_call 93; (with_reducible refine (HIC.out _ ?_).mono ?_); (exact Tryst2.Grow.below hg (.refl _ _)); rintro e w2 ⟨rfl, hb2⟩; exact ⟨hb2, rfl⟩) | (go_simp; intro hbo; cases hbo) | (go_simp; omega)
       case fin =>
        intro tv w' hg hR
        simp only [YF, YL, YR] at hR
        obtain ⟨hcg, hfg, hsg⟩ := YG hg
        simp only [YP, YL, Act.put, hR]
        have HB9 := Lib.hid (Tryst2.Grow.below hg (.refl w.heap.size w))
        clear hg hR hcg hfg hsg HIC
        go_wp2_with fail
        go_ret
        exact ⟨ret_bool HPS.out.symm, HB9.out⟩
    ·
     have y2 : (p.toList == [42]) = false := by rw [str_toList]; simpa using h1
     by_cases h2 : p.data.toList = x.data.toList
     ·
      have y3 : (p.toList == x.toList) = true := strEq h2
      have HPS : Hid (meetsL (dataL (p :: gl)) (dataL (x :: tr)) = X) := Lib.hid (by rw [hms]; simp [h2])
      clear hms
      by_cases g1 : gc = 1
      ·
       skip
       have HS1 : Hid (∀ W, Below w.heap.size w W → Strs W (some ⟨b, o, none⟩) gl) := Lib.hid fun W _ => by rw [show gl = [] from List.eq_nil_of_length_eq_zero (by omega)]; exact Strs.nil _ _
       have SL1 : Sl (some ⟨b, o, none⟩) 0 gl.length := ⟨by omega, fun A h => (by cases h; rfl), fun h => (by cases h)⟩
       by_cases t1 : tc = 1
       ·
        skip
        have HS2 : Hid (∀ W, Below w.heap.size w W → Strs W (some ⟨b2, o2, none⟩) tr) := Lib.hid fun W _ => by rw [show tr = [] from List.eq_nil_of_length_eq_zero (by omega)]; exact Strs.nil _ _
        have SL2 : Sl (some ⟨b2, o2, none⟩) 0 tr.length := ⟨by omega, fun A h => (by cases h; rfl), fun h => (by cases h)⟩
        subst g1
        subst t1
        go_enter Tryz.func93, Tryz.ntmps93
        have HIC := Lib.hid (fun (W : World) (hb : Below w.heap.size w W) => IH.out (some ⟨b, o, none⟩) 0 tr (some ⟨b2, o2, none⟩) 0 W (HS1.out W hb) (HS2.out W hb) SL1 SL2 (by omega) (by omega))
        rw [hX] at HIC
        have q1 : (1 : Int) ≤ (gl.length : Int) + 1 := by omega
        have q2 : (1 : Int) ≤ (tr.length : Int) + 1 := by omega
        have q4 : (0 : Int) < (tr.length : Int) + 1 := by omega
        clear hX HS1 HS2 SL1 SL2 IH sg1 hc sG sT
        go_upto_region 10 with fail
        refine Tryst2.wp_region_grows [.is (.slice (some ⟨b2, o2, none⟩) (tr.length + 1) 1), .is (.int .i64 ((tr.length : Int) + 1)), .is (.bool true), .is (.bool true), .is (.slice (some ⟨b, o, none⟩) (gl.length + 1) 1), .is (.pointer (some ⟨b, o, none⟩)), .is (.string p), .is (.bool false), .is (.bool false), .is (.slice (some ⟨b, o, none⟩) (gl.length + 1) 1), .is (.pointer (some ⟨b, o, none⟩)), .is (.string p), .is (.slice (some ⟨b2, o2, none⟩) (tr.length + 1) 1), .is (.pointer (some ⟨b2, o2, none⟩)), .is (.string x), .is (.bool true), .is (.bool true), .is (.bool true), .is (.bool true), .is (.slice (some ⟨b, o, none⟩) (gl.length + 1) 1), .is (.slice (some ⟨b, o, none⟩) gl.length 0), .is (.slice (some ⟨b2, o2, none⟩) (tr.length + 1) 1), .is (.slice (some ⟨b2, o2, none⟩) tr.length 0), .is (.bool X), .is (.bool X), .is (.bool X)] (by kernel_rfl) (by kernel_rfl) ?obl ?fin
        case obl =>
         simp only [YA, YL, YO, YR, Op.operands, Call.operands]
         repeat' apply And.intro
         any_goals trivial
         all_goals (intro tv w' hg hold hd; (try simp at hold); obtain ⟨hcg, hfg, hsg⟩ := YG hg)
         all_goals first | (go_simp; done) | (go_simp; rw [if_neg (by omega)]; exact ⟨.refl _, rfl⟩) | (obtain ⟨⟨g, hvg, hgg, hcell⟩, _⟩ := hd; have hcell0 := hcell 0 (by decide); simp at hcell0; go_simp; done) | (go_simp; go_at_call 93; (with_reducible refine (HIC.out _ ?_).mono ?_); (exact Tryst2.Grow.below hg (.refl _ _)); rintro e w2 ⟨rfl, hb2⟩; exact ⟨hb2, rfl⟩) | (go_simp; intro hbo; cases hbo) | (go_simp; omega)
        case fin =>
         intro tv w' hg hR
         simp only [YF, YL, YR] at hR
         obtain ⟨hcg, hfg, hsg⟩ := YG hg
         simp only [YP, YL, Act.put, hR]
         have HB9 := Lib.hid (Tryst2.Grow.below hg (.refl w.heap.size w))
         clear hg hR hcg hfg hsg HIC
         go_wp2_with fail
         go_ret
         exact ⟨ret_bool HPS.out.symm, HB9.out⟩
       ·
        skip
        have HS2 : Hid (∀ W, Below w.heap.size w W → Strs W (some ⟨b2, o2 + 1, none⟩) tr) := Lib.hid fun W hb => (HT.out.grow hb).drop 1
        have SL2 : Sl (some ⟨b2, o2 + 1, none⟩) (tc - 1) tr.length := ⟨by omega, fun A h => (by cases h; rfl), fun h => (by cases h)⟩
        subst g1
        go_enter Tryz.func93, Tryz.ntmps93
        have HIC := Lib.hid (fun (W : World) (hb : Below w.heap.size w W) => IH.out (some ⟨b, o, none⟩) 0 tr (some ⟨b2, o2 + 1, none⟩) (tc - 1) W (HS1.out W hb) (HS2.out W hb) SL1 SL2 (by omega) (by omega))
        rw [hX] at HIC
        have q1 : (1 : Int) ≤ (gl.length : Int) + 1 := by omega
        have q2 : (1 : Int) ≤ (tr.length : Int) + 1 := by omega
        have q4 : (0 : Int) < (tr.length : Int) + 1 := by omega
        clear hX HS1 HS2 SL1 SL2 IH sg1 hc sG sT
        go_upto_region 10 with fail
        refine Tryst2.wp_region_grows [.is (.slice (some ⟨b2, o2, none⟩) (tr.length + 1) tc), .is (.int .i64 ((tr.length : Int) + 1)), .is (.bool true), .is (.bool true), .is (.slice (some ⟨b, o, none⟩) (gl.length + 1) 1), .is (.pointer (some ⟨b, o, none⟩)), .is (.string p), .is (.bool false), .is (.bool false), .is (.slice (some ⟨b, o, none⟩) (gl.length + 1) 1), .is (.pointer (some ⟨b, o, none⟩)), .is (.string p), .is (.slice (some ⟨b2, o2, none⟩) (tr.length + 1) tc), .is (.pointer (some ⟨b2, o2, none⟩)), .is (.string x), .is (.bool true), .is (.bool true), .is (.bool true), .is (.bool true), .is (.slice (some ⟨b, o, none⟩) (gl.length + 1) 1), .is (.slice (some ⟨b, o, none⟩) gl.length 0), .is (.slice (some ⟨b2, o2, none⟩) (tr.length + 1) tc), .is (.slice (some ⟨b2, o2 + 1, none⟩) tr.length (tc - 1)), .is (.bool X), .is (.bool X), .is (.bool X)] (by kernel_rfl) (by kernel_rfl) ?obl ?fin
        case obl =>
         simp only [YA, YL, YO, YR, Op.operands, Call.operands]
         repeat' apply And.intro
         any_goals trivial
         all_goals (intro tv w' hg hold hd; (try simp at hold); obtain ⟨hcg, hfg, hsg⟩ := YG hg)
         all_goals first | (go_simp; done) | (go_simp; rw [if_neg (by omega)]; exact ⟨.refl _, rfl⟩) | (obtain ⟨⟨g, hvg, hgg, hcell⟩, _⟩ := hd; have hcell0 := hcell 0 (by decide); simp at hcell0; go_simp; done) | (go_simp; go_at_call 93; (with_reducible refine (HIC.out _ ?_).mono ?_); (exact Tryst2.Grow.below hg (.refl _ _)); rintro e w2 ⟨rfl, hb2⟩; exact ⟨hb2, rfl⟩) | (go_simp; intro hbo; cases hbo) | (go_simp; omega)
        case fin =>
         intro tv w' hg hR
         simp only [YF, YL, YR] at hR
         obtain ⟨hcg, hfg, hsg⟩ := YG hg
         simp only [YP, YL, Act.put, hR]
         have HB9 := Lib.hid (Tryst2.Grow.below hg (.refl w.heap.size w))
         clear hg hR hcg hfg hsg HIC
         go_wp2_with fail
         go_ret
         exact ⟨ret_bool HPS.out.symm, HB9.out⟩
      ·
       skip
       have HS1 : Hid (∀ W, Below w.heap.size w W → Strs W (some ⟨b, o + 1, none⟩) gl) := Lib.hid fun W hb => (HG.out.grow hb).drop 1
       have SL1 : Sl (some ⟨b, o + 1, none⟩) (gc - 1) gl.length := ⟨by omega, fun A h => (by cases h; rfl), fun h => (by cases h)⟩
       by_cases t1 : tc = 1
       ·
        skip
        have HS2 : Hid (∀ W, Below w.heap.size w W → Strs W (some ⟨b2, o2, none⟩) tr) := Lib.hid fun W _ => by rw [show tr = [] from List.eq_nil_of_length_eq_zero (by omega)]; exact Strs.nil _ _
        have SL2 : Sl (some ⟨b2, o2, none⟩) 0 tr.length := ⟨by omega, fun A h => (by cases h; rfl), fun h => (by cases h)⟩
        subst t1
        go_enter Tryz.func93, Tryz.ntmps93
        have HIC := Lib.hid (fun (W : World) (hb : Below w.heap.size w W) => IH.out (some ⟨b, o + 1, none⟩) (gc - 1) tr (some ⟨b2, o2, none⟩) 0 W (HS1.out W hb) (HS2.out W hb) SL1 SL2 (by omega) (by omega))
        rw [hX] at HIC
        have q1 : (1 : Int) ≤ (gl.length : Int) + 1 := by omega
        have q2 : (1 : Int) ≤ (tr.length : Int) + 1 := by omega
        have q4 : (0 : Int) < (tr.length : Int) + 1 := by omega
        clear hX HS1 HS2 SL1 SL2 IH sg1 hc sG sT
        go_upto_region 10 with fail
        refine Tryst2.wp_region_grows [.is (.slice (some ⟨b2, o2, none⟩) (tr.length + 1) 1), .is (.int .i64 ((tr.length : Int) + 1)), .is (.bool true), .is (.bool true), .is (.slice (some ⟨b, o, none⟩) (gl.length + 1) gc), .is (.pointer (some ⟨b, o, none⟩)), .is (.string p), .is (.bool false), .is (.bool false), .is (.slice (some ⟨b, o, none⟩) (gl.length + 1) gc), .is (.pointer (some ⟨b, o, none⟩)), .is (.string p), .is (.slice (some ⟨b2, o2, none⟩) (tr.length + 1) 1), .is (.pointer (some ⟨b2, o2, none⟩)), .is (.string x), .is (.bool true), .is (.bool true), .is (.bool true), .is (.bool true), .is (.slice (some ⟨b, o, none⟩) (gl.length + 1) gc), .is (.slice (some ⟨b, o + 1, none⟩) gl.length (gc - 1)), .is (.slice (some ⟨b2, o2, none⟩) (tr.length + 1) 1), .is (.slice (some ⟨b2, o2, none⟩) tr.length 0), .is (.bool X), .is (.bool X), .is (.bool X)] (by kernel_rfl) (by kernel_rfl) ?obl ?fin
        case obl =>
         simp only [YA, YL, YO, YR, Op.operands, Call.operands]
         repeat' apply And.intro
         any_goals trivial
         all_goals (intro tv w' hg hold hd; (try simp at hold); obtain ⟨hcg, hfg, hsg⟩ := YG hg)
         all_goals first | (go_simp; done) | (go_simp; rw [if_neg (by omega)]; exact ⟨.refl _, rfl⟩) | (obtain ⟨⟨g, hvg, hgg, hcell⟩, _⟩ := hd; have hcell0 := hcell 0 (by decide); simp at hcell0; go_simp; done) | (go_simp; go_at_call 93; (with_reducible refine (HIC.out _ ?_).mono ?_); (exact Tryst2.Grow.below hg (.refl _ _)); rintro e w2 ⟨rfl, hb2⟩; exact ⟨hb2, rfl⟩) | (go_simp; intro hbo; cases hbo) | (go_simp; omega)
        case fin =>
         intro tv w' hg hR
         simp only [YF, YL, YR] at hR
         obtain ⟨hcg, hfg, hsg⟩ := YG hg
         simp only [YP, YL, Act.put, hR]
         have HB9 := Lib.hid (Tryst2.Grow.below hg (.refl w.heap.size w))
         clear hg hR hcg hfg hsg HIC
         go_wp2_with fail
         go_ret
         exact ⟨ret_bool HPS.out.symm, HB9.out⟩
       ·
        skip
        have HS2 : Hid (∀ W, Below w.heap.size w W → Strs W (some ⟨b2, o2 + 1, none⟩) tr) := Lib.hid fun W hb => (HT.out.grow hb).drop 1
        have SL2 : Sl (some ⟨b2, o2 + 1, none⟩) (tc - 1) tr.length := ⟨by omega, fun A h => (by cases h; rfl), fun h => (by cases h)⟩
        go_enter Tryz.func93, Tryz.ntmps93
        have HIC := Lib.hid (fun (W : World) (hb : Below w.heap.size w W) => IH.out (some ⟨b, o + 1, none⟩) (gc - 1) tr (some ⟨b2, o2 + 1, none⟩) (tc - 1) W (HS1.out W hb) (HS2.out W hb) SL1 SL2 (by omega) (by omega))
        rw [hX] at HIC
        have q1 : (1 : Int) ≤ (gl.length : Int) + 1 := by omega
        have q2 : (1 : Int) ≤ (tr.length : Int) + 1 := by omega
        have q4 : (0 : Int) < (tr.length : Int) + 1 := by omega
        clear hX HS1 HS2 SL1 SL2 IH sg1 hc sG sT
        go_upto_region 10 with fail
        refine Tryst2.wp_region_grows [.is (.slice (some ⟨b2, o2, none⟩) (tr.length + 1) tc), .is (.int .i64 ((tr.length : Int) + 1)), .is (.bool true), .is (.bool true), .is (.slice (some ⟨b, o, none⟩) (gl.length + 1) gc), .is (.pointer (some ⟨b, o, none⟩)), .is (.string p), .is (.bool false), .is (.bool false), .is (.slice (some ⟨b, o, none⟩) (gl.length + 1) gc), .is (.pointer (some ⟨b, o, none⟩)), .is (.string p), .is (.slice (some ⟨b2, o2, none⟩) (tr.length + 1) tc), .is (.pointer (some ⟨b2, o2, none⟩)), .is (.string x), .is (.bool true), .is (.bool true), .is (.bool true), .is (.bool true), .is (.slice (some ⟨b, o, none⟩) (gl.length + 1) gc), .is (.slice (some ⟨b, o + 1, none⟩) gl.length (gc - 1)), .is (.slice (some ⟨b2, o2, none⟩) (tr.length + 1) tc), .is (.slice (some ⟨b2, o2 + 1, none⟩) tr.length (tc - 1)), .is (.bool X), .is (.bool X), .is (.bool X)] (by kernel_rfl) (by kernel_rfl) ?obl ?fin
        case obl =>
         simp only [YA, YL, YO, YR, Op.operands, Call.operands]
         repeat' apply And.intro
         any_goals trivial
         all_goals (intro tv w' hg hold hd; (try simp at hold); obtain ⟨hcg, hfg, hsg⟩ := YG hg)
         all_goals first | (go_simp; done) | (go_simp; rw [if_neg (by omega)]; exact ⟨.refl _, rfl⟩) | (obtain ⟨⟨g, hvg, hgg, hcell⟩, _⟩ := hd; have hcell0 := hcell 0 (by decide); simp at hcell0; go_simp; done) | (go_simp; go_at_call 93; (with_reducible refine (HIC.out _ ?_).mono ?_); (exact Tryst2.Grow.below hg (.refl _ _)); rintro e w2 ⟨rfl, hb2⟩; exact ⟨hb2, rfl⟩) | (go_simp; intro hbo; cases hbo) | (go_simp; omega)
        case fin =>
         intro tv w' hg hR
         simp only [YF, YL, YR] at hR
         obtain ⟨hcg, hfg, hsg⟩ := YG hg
         simp only [YP, YL, Act.put, hR]
         have HB9 := Lib.hid (Tryst2.Grow.below hg (.refl w.heap.size w))
         clear hg hR hcg hfg hsg HIC
         go_wp2_with fail
         go_ret
         exact ⟨ret_bool HPS.out.symm, HB9.out⟩
     ·
      have y3 : (p.toList == x.toList) = false := strNe h2
      have HPS : Hid (meetsL (dataL (p :: gl)) (dataL (x :: tr)) = false) := Lib.hid (by rw [hms]; simp [h1, h2])
      have q4 : (0 : Int) < (tr.length : Int) + 1 := by omega
      clear hms hX IH sg1 hc sG sT
      go_enter Tryz.func93, Tryz.ntmps93
      go_upto_region 10 with fail
      refine Tryst2.wp_region_grows [.is (.slice (some ⟨b2, o2, none⟩) (tr.length + 1) tc), .is (.int .i64 ((tr.length : Int) + 1)), .is (.bool true), .is (.bool true), .is (.slice (some ⟨b, o, none⟩) (gl.length + 1) gc), .is (.pointer (some ⟨b, o, none⟩)), .is (.string p), .is (.bool false), .is (.bool false), .is (.slice (some ⟨b, o, none⟩) (gl.length + 1) gc), .is (.pointer (some ⟨b, o, none⟩)), .is (.string p), .is (.slice (some ⟨b2, o2, none⟩) (tr.length + 1) tc), .is (.pointer (some ⟨b2, o2, none⟩)), .is (.string x), .is (.bool false), .is (.bool false), .is (.bool false), .is (.bool false), .is undef, .is undef, .is undef, .is undef, .is undef, .is (.bool false), .is (.bool false)] (by kernel_rfl) (by kernel_rfl) ?obl ?fin
      case obl =>
       simp only [YA, YL, YO, YR, Op.operands, Call.operands]
       repeat' apply And.intro
       any_goals trivial
       all_goals (intro tv w' hg hold hd; (try simp at hold); obtain ⟨hcg, hfg, hsg⟩ := YG hg)
       all_goals first | (go_simp; done) | (go_simp; rw [if_neg (by omega)]; exact ⟨.refl _, rfl⟩) | (obtain ⟨⟨g, hvg, hgg, hcell⟩, _⟩ := hd; have hcell0 := hcell 0 (by decide); simp at hcell0; go_simp; done) | (go_simp; intro hbo; cases hbo)
      case fin =>
       intro tv w' hg hR
       simp only [YF, YL, YR] at hR
       obtain ⟨hcg, hfg, hsg⟩ := YG hg
       simp only [YP, YL, Act.put, hR]
       have HB9 := Lib.hid (Tryst2.Grow.below hg (.refl w.heap.size w))
       clear hg hR hcg hfg hsg
       go_wp2_with fail
       go_ret
       exact ⟨ret_bool HPS.out.symm, HB9.out⟩
end Go.Proofs.YtmlbdblnmbmnpaaGreatDoor
namespace Go.Proofs.YtmlbdblnmbmnpaaGreatDoor
open Go.RowKit Tryst
set_option maxHeartbeats 2000000
set_option maxRecDepth 20000
theorem rMeets_c (s t : ByteArray) (hs : s.size ≤ 100000) (ht : t.size ≤ 100000) (w : World) : Calls Tryz.prog 55 #[.string s, .string t] w fun e w' => e = .returned (.bool (meetsB s.data.toList t.data.toList)) ∧ Below w.heap.size w w' := by
 have hg1 := rglob_c s (by omega) w
 have HT := Lib.hid (fun (W : World) => rtopic_c t (by omega) W)
 unfold meetsB
 cases hg : globB s.data.toList with
 | false =>
  rw [hg] at hg1
  simp only [Bool.false_and]
  go_enter Tryz.func55, Tryz.ntmps55
  go_wp2_with fail
  refine hg1.mono ?_
  rintro e w1 ⟨rfl, hb1⟩
  go_wp2_with fail
  go_ret
  exact ⟨rfl, hb1⟩
 | true =>
  rw [hg] at hg1
  cases htp : topicB t.data.toList with
  | false =>
   rw [htp] at HT
   simp only [Bool.true_and, Bool.false_and]
   go_enter Tryz.func55, Tryz.ntmps55
   go_wp2_with fail
   refine hg1.mono ?_
   rintro e w1 ⟨rfl, hb1⟩
   go_wp2_with fail
   refine (HT.out _).mono ?_
   rintro e w2 ⟨rfl, hb2⟩
   go_wp2_with fail
   go_ret
   exact ⟨rfl, bstep hb2 hb1⟩
  | true =>
   rw [htp] at HT
   simp only [Bool.true_and]
   go_enter Tryz.func55, Tryz.ntmps55
   go_wp2_with fail
   refine hg1.mono ?_
   rintro e w1 ⟨rfl, hb1⟩
   go_wp2_with fail
   refine (HT.out _).mono ?_
   rintro e w2 ⟨rfl, hb2⟩
   have HB2 := Lib.hid (bstep hb2 hb1)
   clear hb1 hb2 hg1 HT
   go_wp2_with fail
   refine (rcut_c s (by omega) w2).mono ?_
   rintro e w3 ⟨v3, l3, rfl, ho3, hd3, hb3⟩
   obtain ⟨a3, c3, rfl, hs3, sl3, _⟩ := ho3.strs
   have HB3 := Lib.hid (bstep hb3 HB2.out)
   have HS3 := Lib.hid hs3
   have h3 : l3.length ≤ 100001 := by
    have := (dots_len s.data.toList).1
    rw [← hd3, List.length_map, len_str] at this
    omega
   clear hb3 ho3 hs3 HB2
   go_wp2_with fail
   refine (rcut_c t (by omega) w3).mono ?_
   rintro e w4 ⟨v4, l4, rfl, ho4, hd4, hb4⟩
   obtain ⟨a4, c4, rfl, hs4, sl4, _⟩ := ho4.strs
   have HB4 := Lib.hid (bstep hb4 HB3.out)
   have HS4 := Lib.hid (HS3.out.grow hb4)
   have h4 : l4.length ≤ 100001 := by
    have := (dots_len t.data.toList).1
    rw [← hd4, List.length_map, len_str] at this
    omega
   have HM := Lib.hid (rmeets_c l3 a3 c3 l4 a4 c4 w4 HS4.out hs4 sl3 sl4 (by omega) (by omega))
   unfold dataL at HM
   rw [hd3, hd4] at HM
   clear hb4 ho4 hs4 HB3 hd3 hd4 sl3 sl4 h3 h4 HS3 HS4
   go_wp2_with fail
   refine HM.out.mono ?_
   rintro e w5 ⟨rfl, hb5⟩
   have HB5 := Lib.hid (bstep hb5 HB4.out)
   clear hb5
   go_wp2_with fail
   go_ret
   exact ⟨rfl, HB5.out⟩
end Go.Proofs.YtmlbdblnmbmnpaaGreatDoor
