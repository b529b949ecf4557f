/- Values: pictures read and written. -/
import Derived.Test.YtmmdblpoecidaaaGreatDoorProg
import Derived.WalkKit
import Derived.WalkSpells
import Derived.WalkLawsBesides
import Derived.Lib.Hide
import Derived.Deep.RegionWith
import Derived.Test.YtmmdblpoecidaaaGreatDoorFacts
import Derived.Test.YtmmdblpoecidaaaGreatDoorNumV
import Derived.Test.YtmmdblpoecidaaaGreatDoorVal4
import Derived.Test.YtmmdblpoecidaaaGreatDoorVal5
import Derived.Test.YtmmdblpoecidaaaGreatDoorVal6
import Derived.Test.YtmmdblpoecidaaaGreatDoorShelf
import Derived.Test.YtmmdblpoecidaaaGreatDoorDraws
set_option linter.unusedVariables false
set_option linter.unusedSimpArgs false
namespace Go.Proofs.YtmmdblpoecidaaaGreatDoor
open Go.RowKit Tryst
set_option maxHeartbeats 400000
set_option maxRecDepth 20000
theorem make60 (w : World) : (Instr.makeSlice 43 (.int .i64 0) (.int .i64 60)).run Tryz.prog w = .ok (.slice (some ⟨w.heap.size, 0, none⟩) 0 60) (w.alloc (.cells (Array.replicate 60 (.int .u8 0)) 5)) := by kernel_rfl
/-- what val.text answers -/
def textP (l : List UInt8) : List UInt8 × Nat := match txtF (l.drop 1) 0 with | some p => (p.1, p.2 + 1) | none => ([], 0)
theorem byteIs {s : ByteArray} {k : Nat} (h : k < s.size) (d : Nat) (hd : d < 256) : s[k] = UInt8.ofNat d ↔ ((s[k].toNat : Int) == (d : Int)) = true := by
  constructor
  · intro e; rw [e]; simp; omega
  · intro e; apply UInt8.toNat.inj; simp at e ⊢; omega
theorem byteEq {s : ByteArray} {k : Nat} (h : k < s.size) (c : Nat) (hc : s[k].toNat = c) (d : Nat) (hd : d < 256) : (((c : Int) == (d : Int)) = true ∧ s[k] = UInt8.ofNat d) ∨ (((c : Int) == (d : Int)) = false ∧ s[k] ≠ UInt8.ofNat d) := by
  have := byteIs h d hd
  rw [hc] at this
  cases hb : ((c : Int) == (d : Int)) with
  | true => exact .inl ⟨rfl, this.2 hb⟩
  | false => exact .inr ⟨rfl, fun e => by rw [this.1 e] at hb; cases hb⟩
/-- the ways of a round of text -/
theorem text_ways {s : ByteArray} {k : Nat} {t : List UInt8} (h : TxtRel s.data.toList k t) (hlt : k < s.size) : ∃ c : Nat, c < 256 ∧ s[k].toNat = c ∧
    ((((c : Int) == 34) = true ∧ Hid (textP s.data.toList = (t, k + 1))) ∨
    (((c : Int) == 34) = false ∧ ((c : Int) == 92) = true ∧ s.size ≤ k + 1 ∧ Hid (textP s.data.toList = ([], 0))) ∨
    (∃ (h' : k + 1 < s.size) (d : Nat), d < 256 ∧ s[k + 1].toNat = d ∧ ((c : Int) == 34) = false ∧ ((c : Int) == 92) = true ∧
      ((((d : Int) == 34) = false ∧ ((d : Int) == 92) = false ∧ Hid (textP s.data.toList = ([], 0))) ∨
      ((((d : Int) == 34) = true ∨ (((d : Int) == 34) = false ∧ ((d : Int) == 92) = true)) ∧ ((t.length : Int) == 60) = true ∧ Hid (textP s.data.toList = ([], 0))) ∨
      ((((d : Int) == 34) = true ∨ (((d : Int) == 34) = false ∧ ((d : Int) == 92) = true)) ∧ ((t.length : Int) == 60) = false ∧ t.length ≤ 59 ∧ Hid (TxtRel s.data.toList (k + 2) (t ++ [s[k + 1]]))))) ∨
    (((c : Int) == 34) = false ∧ ((c : Int) == 92) = false ∧ ((t.length : Int) == 60) = true ∧ Hid (textP s.data.toList = ([], 0))) ∨
    (((c : Int) == 34) = false ∧ ((c : Int) == 92) = false ∧ ((t.length : Int) == 60) = false ∧ t.length ≤ 59 ∧ Hid (TxtRel s.data.toList (k + 1) (t ++ [s[k]])))) := by
  have hlt' : k < s.data.toList.length := by simpa using hlt
  have hg : s.data.toList[k] = s[k] := rfl
  have h60 := h.2.1
  refine ⟨s[k].toNat, s[k].toNat_lt, rfl, ?_⟩
  have full : ((t.length : Int) == 60) = true ∧ t.length = 60 ∨ ((t.length : Int) == 60) = false ∧ t.length ≠ 60 := by
    by_cases e : t.length = 60
    · left; exact ⟨by simp [e], e⟩
    · right; exact ⟨by simp; omega, e⟩
  rcases byteEq hlt _ rfl 34 (by decide) with ⟨b1, e1⟩ | ⟨b1, e1⟩
  · left
    refine ⟨b1, ?_⟩
    unfold Hid textP
    rw [h.quote hlt' (by rw [hg, e1]; rfl)]
  · have n34 : s.data.toList[k] ≠ 34 := fun e => e1 (by rw [← hg, e]; rfl)
    rcases byteEq hlt _ rfl 92 (by decide) with ⟨b2, e2⟩ | ⟨b2, e2⟩
    · have e92 : s.data.toList[k] = 92 := by rw [hg, e2]; rfl
      by_cases hk1 : k + 1 < s.size
      · have hk1' : k + 1 < s.data.toList.length := by simpa using hk1
        have hg1 : s.data.toList[k + 1] = s[k + 1] := rfl
        right; right; left
        refine ⟨hk1, s[k + 1].toNat, s[k + 1].toNat_lt, rfl, b1, b2, ?_⟩
        have good : (((s[k + 1].toNat : Int) == 34) = true ∨ (((s[k + 1].toNat : Int) == 34) = false ∧ ((s[k + 1].toNat : Int) == 92) = true)) → (s.data.toList[k + 1] = 34 ∨ s.data.toList[k + 1] = 92) := fun hx => by
          rcases hx with hx | ⟨_, hx⟩
          · left; rw [hg1]; exact (byteIs hk1 34 (by decide)).2 hx
          · right; rw [hg1]; exact (byteIs hk1 92 (by decide)).2 hx
        have three : (((s[k + 1].toNat : Int) == 34) = false ∧ ((s[k + 1].toNat : Int) == 92) = false ∧ ¬ (s.data.toList[k + 1] = 34 ∨ s.data.toList[k + 1] = 92)) ∨ (((s[k + 1].toNat : Int) == 34) = true ∨ (((s[k + 1].toNat : Int) == 34) = false ∧ ((s[k + 1].toNat : Int) == 92) = true)) := by
          rcases byteEq hk1 _ rfl 34 (by decide) with ⟨d1, f1⟩ | ⟨d1, f1⟩
          · exact .inr (.inl d1)
          · rcases byteEq hk1 _ rfl 92 (by decide) with ⟨d2, f2⟩ | ⟨d2, f2⟩
            · exact .inr (.inr ⟨d1, d2⟩)
            · exact .inl ⟨d1, d2, fun hx => hx.elim (fun e => f1 (by rw [← hg1, e]; rfl)) (fun e => f2 (by rw [← hg1, e]; rfl))⟩
        rcases three with ⟨d1, d2, nd⟩ | gd
        · left
          refine ⟨d1, d2, ?_⟩
          unfold Hid textP
          rw [h.escBad hk1' e92 nd]
        · right
          rcases full with ⟨q1, q2⟩ | ⟨q1, q2⟩
          · left
            refine ⟨gd, q1, ?_⟩
            unfold Hid textP
            rw [h.escFull hk1' e92 q2]
          · right
            exact ⟨gd, q1, by omega, h.esc hk1' e92 (good gd) q2⟩
      · right; left
        refine ⟨b1, b2, by omega, ?_⟩
        unfold Hid textP
        rw [h.escEnd hlt' e92 (by simp; omega)]
    · have n92 : s.data.toList[k] ≠ 92 := fun e => e2 (by rw [← hg, e]; rfl)
      rcases full with ⟨q1, q2⟩ | ⟨q1, q2⟩
      · right; right; right; left
        refine ⟨b1, b2, q1, ?_⟩
        unfold Hid textP
        rw [h.plainFull hlt' n34 n92 q2]
      · right; right; right; right
        exact ⟨b1, b2, q1, by omega, h.plain hlt' n34 n92 q2⟩
theorem text_c (s : ByteArray) (hs : s.size ≤ 1000000) (w : World) :
    Calls Tryz.prog 88 #[.string s] w fun e w' => e = .returned (.tuple #[.string ⟨(textP s.data.toList).1.toArray⟩, .int .i64 (textP s.data.toList).2]) ∧ Below w.heap.size w w' := by
  have hmk := make60
  go_enter Tryz.func88, Tryz.ntmps88
  go_wp2
  clear hmk
  go_loopw [4, 5] (fun v i wr => ∃ (k : Nat) (t : List UInt8), k ≤ s.size + 1 ∧ i = .int .i64 k ∧ t.length ≤ 60 ∧ wr.ownsRow w.heap.size 5 1 v t.length (t.map byteV) ∧ Hid (TxtRel s.data.toList k t) ∧ Below w.heap.size w wr) (fun _ i _ => s.size + 1 - (intOf i).toNat)
  case atStart => exact ⟨1, [], by omega, rfl, by simp, World.ownsRow_made _ _ _ (Nat.le_refl _) (by decide) rfl, TxtRel.start _, balloc _ (.refl _ _)⟩
  case round =>
    obtain ⟨k, t, hk, rfl, ht, hown, hr, hb⟩ := hrel
    have hB := hb.size
    have hlen : ∃ a cap, u4 = .slice a t.length cap := by
      rcases hown.2 with ⟨h1, h2⟩ | ⟨g, cap, cur, h1, _⟩
      · exact ⟨none, 0, by rw [h1, h2]⟩
      · exact ⟨_, cap, h1⟩
    obtain ⟨adr, cap, rfl⟩ := hlen
    by_cases hlt : k < s.size
    · obtain ⟨c, hc8, hc, hw⟩ := text_ways hr.out hlt
      have hcv := own_string (P := Tryz.prog) (l := t) 43 9 Tryz.underlying43 Tryz.underlying5 Tryz.underlying9 hown
      rcases hw with ⟨b1, Z⟩ | ⟨b1, b2, h1, Z⟩ | ⟨h', d, hd8, hd, b1, b2, ⟨d1, d2, Z⟩ | ⟨d1 | ⟨d1, d2⟩, q, Z⟩ | ⟨d1 | ⟨d1, d2⟩, q, q1, R⟩⟩ | ⟨b1, b2, q, Z⟩ | ⟨b1, b2, q, q1, R⟩
      · go_wp2
        go_ret2
        exact ⟨ret_eq (by rw [Z.out]; rfl), hb⟩
      · go_wp2
        go_ret2
        exact ⟨ret_eq (by rw [Z.out]; rfl), hb⟩
      · have n1 := bne_f d1
        have n2 := bne_f d2
        go_wp2
        go_ret2
        exact ⟨ret_eq (by rw [Z.out]; rfl), hb⟩
      · have n1 := bne_t d1
        go_wp2
        go_ret2
        exact ⟨ret_eq (by rw [Z.out]; rfl), hb⟩
      · have n1 := bne_f d1
        have n2 := bne_t d2
        go_wp2
        go_ret2
        exact ⟨ret_eq (by rw [Z.out]; rfl), hb⟩
      · have n1 := bne_t d1
        go_wp2_with (at_builtin; refine wpList_app1 u8T rfl _ _ rfl w.heap.size _ _ _ rfl hown _ _ rfl rfl (by omega) hB ?_; intro v1 w2 hown1 hb2)
        go_roundw
        case rel => exact ⟨k + 2, t ++ [s[k + 1]], by omega, by go_num, by simp; omega, by rw [List.length_append, List.map_append]; simp only [List.map_cons, List.map_nil, List.length_cons, List.length_nil, Nat.zero_add, byteV, hd]; exact hown1, R, hb.trans hb2⟩
        case measure => simp [intOf] <;> omega
      · have n1 := bne_f d1
        have n2 := bne_t d2
        go_wp2_with (at_builtin; refine wpList_app1 u8T rfl _ _ rfl w.heap.size _ _ _ rfl hown _ _ rfl rfl (by omega) hB ?_; intro v1 w2 hown1 hb2)
        go_roundw
        case rel => exact ⟨k + 2, t ++ [s[k + 1]], by omega, by go_num, by simp; omega, by rw [List.length_append, List.map_append]; simp only [List.map_cons, List.map_nil, List.length_cons, List.length_nil, Nat.zero_add, byteV, hd]; exact hown1, R, hb.trans hb2⟩
        case measure => simp [intOf] <;> omega
      · go_wp2
        go_ret2
        exact ⟨ret_eq (by rw [Z.out]; rfl), hb⟩
      · go_wp2_with (at_builtin; refine wpList_app1 u8T rfl _ _ rfl w.heap.size _ _ _ rfl hown _ _ rfl rfl (by omega) hB ?_; intro v1 w2 hown1 hb2)
        go_roundw
        case rel => exact ⟨k + 1, t ++ [s[k]], by omega, by go_num, by simp; omega, by rw [List.length_append, List.map_append]; simp only [List.map_cons, List.map_nil, List.length_cons, List.length_nil, Nat.zero_add, byteV, hc]; exact hown1, R, hb.trans hb2⟩
        case measure => simp [intOf] <;> omega
    · have hz : textP s.data.toList = ([], 0) := by unfold textP; rw [hr.out.stop (by simp; omega)]
      have HZ := Lib.hid hz
      clear hz
      go_wp2
      go_ret2
      exact ⟨ret_eq (by rw [HZ.out]; rfl), hb⟩
end Go.Proofs.YtmmdblpoecidaaaGreatDoor
namespace Go.Proofs.YtmmdblpoecidaaaGreatDoor
open Go.RowKit Tryst
set_option maxHeartbeats 400000
set_option maxRecDepth 20000
theorem digAt_ge (s : ByteArray) (i : Nat) (h : s.size ≤ i) : digAt s.data.toList i = false := by
  unfold digAt; rw [List.getElem?_eq_none (by simp; omega)]
theorem digAt_at (s : ByteArray) (i : Nat) (h : i < s.size) : digAt s.data.toList i = (decide (48 ≤ s[i].toNat) && decide (s[i].toNat ≤ 57)) := by
  unfold digAt
  rw [List.getElem?_eq_getElem (by simpa using h)]
  rfl
theorem digit_c (s : ByteArray) (hs : s.size ≤ 1000000) (i : Int) (h0 : 0 ≤ i) (h1 : i ≤ 2000000) (a : Addr) (w : World) (hc : w.cell? a = some (.string s)) :
    Calls Tryz.prog 105 #[.int .i64 i, .pointer (some a)] w fun e w' => e = .returned (.bool (digAt s.data.toList i.toNat)) ∧ w = w' := by
  obtain ⟨k, rfl⟩ := Int.eq_ofNat_of_zero_le h0
  rw [Int.toNat_natCast]
  by_cases hlt : k < s.size
  · have hd := digAt_at s k hlt
    have HD := Lib.hid hd
    clear hd
    obtain ⟨c, hcc⟩ : ∃ c, s[k].toNat = c := ⟨_, rfl⟩
    have hcl : c < 256 := hcc ▸ s[k].toNat_lt
    by_cases h48 : 48 ≤ c
    all_goals
      go_enter Tryz.func105, Tryz.ntmps105
      go_wp2
      go_ret
      refine ⟨ret_bool ?_, rfl⟩
      rw [HD.out, hcc]
      first | (simp; done) | (simp; omega) | (rw [Bool.eq_iff_iff]; simp; omega)
  · have hd := digAt_ge s k (by omega)
    have HD := Lib.hid hd
    clear hd
    go_enter Tryz.func105, Tryz.ntmps105
    go_wp2
    go_ret
    exact ⟨ret_bool HD.out.symm, rfl⟩
theorem wrapneg (q : Nat) (h : q ≤ 9223372036854775808) : wrap64 (-wrap64 (q : Int)) = -(q : Int) := by
  unfold wrap64; omega
/-- the ways of number, but for its loop -/
theorem number_ways (s : ByteArray) (h : 1 ≤ s.size) : ∃ c : Nat, c < 256 ∧ s[0].toNat = c ∧
    ((Hid (Lib.hasPrefix s.data.toList [45] = true) ∧ Hid (digAt s.data.toList 1 = false) ∧ Hid (numberL s.data.toList = (0, 0))) ∨
    (Hid (Lib.hasPrefix s.data.toList [45] = true) ∧ Hid (digAt s.data.toList 1 = true) ∧ ∃ (h' : 1 < s.size) (d : Nat), d < 256 ∧ s[1].toNat = d ∧ ((d : Int) == 48) = true ∧ Hid (numberL s.data.toList = (0, 0))) ∨
    (Hid (Lib.hasPrefix s.data.toList [45] = true) ∧ Hid (digAt s.data.toList 1 = true) ∧ ∃ (h' : 1 < s.size) (d : Nat), d < 256 ∧ s[1].toNat = d ∧ ((d : Int) == 48) = false ∧ Hid (∀ v k, scan 9223372036854775808 0 (s.data.toList.drop 1) = (v, k) → numberL s.data.toList = (-(v : Int), k + 1))) ∨
    (Hid (Lib.hasPrefix s.data.toList [45] = false) ∧ Hid (digAt s.data.toList 0 = false) ∧ Hid (numberL s.data.toList = (0, 0))) ∨
    (Hid (Lib.hasPrefix s.data.toList [45] = false) ∧ Hid (digAt s.data.toList 0 = true) ∧ ((c : Int) == 48) = true ∧ Hid (numberL s.data.toList = (0, 1))) ∨
    (Hid (Lib.hasPrefix s.data.toList [45] = false) ∧ Hid (digAt s.data.toList 0 = true) ∧ ((c : Int) == 48) = false ∧ Hid (∀ v k, scan 9223372036854775807 0 (s.data.toList.drop 0) = (v, k) → numberL s.data.toList = ((v : Int), k + 0)))) := by
  have hlen : 0 < s.data.toList.length := by simp; omega
  obtain ⟨r, hr⟩ : ∃ r, s.data.toList = s[0] :: r := ⟨_, by rw [← List.drop_zero (l := s.data.toList), List.drop_eq_getElem_cons hlen]; rfl⟩
  have hg1 : ∀ h' : 1 < s.size, ∃ t, r = s[1] :: t := fun h' => by
    have hlen1 : 1 < s.data.toList.length := by simpa using h'
    have : r = s.data.toList.drop 1 := by rw [hr]; rfl
    rw [this, List.drop_eq_getElem_cons hlen1]
    exact ⟨_, rfl⟩
  have hsz : s.size = r.length + 1 := by rw [← len_str, hr]; rfl
  refine ⟨s[0].toNat, s[0].toNat_lt, rfl, ?_⟩
  generalize hx : s[0] = x at *
  rw [hr]
  by_cases h45 : x.toNat = 45
  · have e45 : x = 45 := UInt8.toNat.inj (by rw [h45]; rfl)
    have hp : Lib.hasPrefix (x :: r) [45] = true := by rw [e45]; rfl
    cases r with
    | nil => exact .inl ⟨hp, rfl, by unfold Hid numberL; simp [h45]⟩
    | cons d r' =>
      have h1 : 1 < s.size := by rw [hsz]; simp
      obtain ⟨t, ht⟩ := hg1 h1
      have hd1 : s[1] = d := (List.cons.inj ht).1.symm
      by_cases hd : isDig d = true
      · have hdg : digAt (x :: d :: r') 1 = true := hd
        by_cases h48 : d.toNat = 48
        · exact .inr (.inl ⟨hp, hdg, h1, d.toNat, d.toNat_lt, by rw [hd1], by rw [h48]; rfl, by unfold Hid numberL; simp [h45, h48]⟩)
        · refine .inr (.inr (.inl ⟨hp, hdg, h1, d.toNat, d.toNat_lt, by rw [hd1], by simp; omega, fun v k hv => ?_⟩))
          unfold numberL
          simp only [h45, if_true]
          rw [if_neg (by simp [hd, h48])]
          have : (x :: d :: r').drop 1 = d :: r' := rfl
          rw [this] at hv
          rw [hv]
      · refine .inl ⟨hp, by unfold Hid digAt; simpa using hd, ?_⟩
        unfold Hid numberL
        simp only [h45, if_true]
        rw [if_pos (.inl hd)]
  · have hp : Lib.hasPrefix (x :: r) [45] = false := by
      have : (45 : UInt8) ≠ x := fun e => h45 (by rw [← e]; rfl)
      simp [Lib.hasPrefix, List.isPrefixOf, this]
    by_cases hd : isDig x = true
    · have hdg : digAt (x :: r) 0 = true := hd
      by_cases h48 : x.toNat = 48
      · refine .inr (.inr (.inr (.inr (.inl ⟨hp, hdg, by rw [h48]; rfl, ?_⟩))))
        unfold Hid numberL
        simp [h48, hd]
      · refine .inr (.inr (.inr (.inr (.inr ⟨hp, hdg, by simp; omega, fun v k hv => ?_⟩))))
        rw [List.drop_zero] at hv
        unfold numberL
        simp [h48, h45, hd, hv]
    · refine .inr (.inr (.inr (.inl ⟨hp, by unfold Hid digAt; simpa using hd, ?_⟩)))
      unfold Hid numberL
      simp [h45, hd]
set_option maxHeartbeats 4000000 in
theorem number_c (s : ByteArray) (hs : s.size ≤ 1000000) (w : World) :
    Calls Tryz.prog 89 #[.string s] w fun e w' => e = .returned (.tuple #[.int .i64 (numberL s.data.toList).1, .int .i64 (numberL s.data.toList).2]) ∧ Below w.heap.size w w' := by
  by_cases h0 : s.size = 0
  · have hl : s.data.toList = [] := (str_nil_iff s).2 h0
    have hz : numberL s.data.toList = (0, 0) := by rw [hl]; rfl
    have HZ := Lib.hid hz
    have hp : Lib.hasPrefix s.data.toList [45] = false := by rw [hl]; rfl
    have hd : digAt s.data.toList 0 = false := by rw [hl]; rfl
    have HP := Lib.hid hp
    have HD := Lib.hid hd
    clear hz hl hp hd
    go_enter Tryz.func89, Tryz.ntmps89
    go_wp2_with (first | (go_at_call 57; refine (Tryz.strings_HasPrefix _ _ _).mono ?_; rintro e w1 ⟨rfl, rfl⟩; rw [mk_str, HP.out]) | (go_at_call 105; refine (digit_c s hs _ (by omega) (by omega) _ _ ?hc).mono ?_; (case hc => simp); rintro e w1 ⟨rfl, rfl⟩; rw [show (0 : Int).toNat = 0 from rfl, HD.out]))
    go_ret2
    refine ⟨ret_eq (by rw [HZ.out]; rfl), ?_⟩
    (repeat (first | exact Below.refl _ _ | assumption | refine bdrew ?_ | refine balloc _ ?_ | refine bset _ (by simp) ?_ | refine bstep (by assumption) ?_ | refine Grow.below (by assumption) ?_ | refine Tryst2.Grow.below (by assumption) ?_))
  · have hpos : 1 ≤ s.size := by omega
    clear h0
    obtain ⟨c, hc8, hc, hw⟩ := number_ways s hpos
    rcases hw with ⟨HP, HD, Z⟩ | ⟨HP, HD, h1, d, hd8, hd, b1, Z⟩ | ⟨HP, HD, h1, d, hd8, hd, b1, HF⟩ | ⟨HP, HD, Z⟩ | ⟨HP, HD, b1, Z⟩ | ⟨HP, HD, b1, HF⟩
    · go_enter Tryz.func89, Tryz.ntmps89
      go_wp2_with (first | (go_at_call 57; refine (Tryz.strings_HasPrefix _ _ _).mono ?_; rintro e w1 ⟨rfl, rfl⟩; rw [mk_str, HP.out]) | (go_at_call 105; refine (digit_c s hs _ (by omega) (by omega) _ _ ?hc).mono ?_; (case hc => simp); rintro e w1 ⟨rfl, rfl⟩; rw [show (1 : Int).toNat = 1 from rfl, HD.out]))
      go_ret2
      refine ⟨ret_eq (by rw [Z.out]; rfl), ?_⟩
      (repeat (first | exact Below.refl _ _ | assumption | refine bdrew ?_ | refine balloc _ ?_ | refine bset _ (by simp) ?_ | refine bstep (by assumption) ?_ | refine Grow.below (by assumption) ?_ | refine Tryst2.Grow.below (by assumption) ?_))
    · go_enter Tryz.func89, Tryz.ntmps89
      go_wp2_with (first | (go_at_call 57; refine (Tryz.strings_HasPrefix _ _ _).mono ?_; rintro e w1 ⟨rfl, rfl⟩; rw [mk_str, HP.out]) | (go_at_call 105; refine (digit_c s hs _ (by omega) (by omega) _ _ ?hc).mono ?_; (case hc => simp); rintro e w1 ⟨rfl, rfl⟩; rw [show (1 : Int).toNat = 1 from rfl, HD.out]))
      go_ret2
      refine ⟨ret_eq (by rw [Z.out]; rfl), ?_⟩
      (repeat (first | exact Below.refl _ _ | assumption | refine bdrew ?_ | refine balloc _ ?_ | refine bset _ (by simp) ?_ | refine bstep (by assumption) ?_ | refine Grow.below (by assumption) ?_ | refine Tryst2.Grow.below (by assumption) ?_))
    · go_enter Tryz.func89, Tryz.ntmps89
      go_wp2_with (first | (go_at_call 57; refine (Tryz.strings_HasPrefix _ _ _).mono ?_; rintro e w1 ⟨rfl, rfl⟩; rw [mk_str, HP.out]) | (go_at_call 105; refine (digit_c s hs _ (by omega) (by omega) _ _ ?hc).mono ?_; (case hc => simp); rintro e w1 ⟨rfl, rfl⟩; rw [show (1 : Int).toNat = 1 from rfl, HD.out]))
      go_loop [6, 8] (fun i n => ∃ (k q : Nat), k ≤ s.size ∧ q ≤ 9223372036854775808 ∧ i = .int .i64 k ∧ n = .int .u64 q ∧ Hid (ScanRel 9223372036854775808 s.data.toList 1 k q)) (fun i _ => s.size - (intOf i).toNat)
      case atStart => exact ⟨1, 0, by omega, by omega, rfl, rfl, .start _ _ _ (by simp <;> omega)⟩
      case round =>
        obtain ⟨k, q, hk, hq, rfl, rfl, hr⟩ := hrel
        have hik : 1 ≤ k := hr.out.1
        by_cases hdg : digAt s.data.toList k = true
        · obtain ⟨hlt', hdd⟩ := digAt_lt hdg
          have hlt : k < s.size := by simpa using hlt'
          have hdd2 : isDig s[k] = true := hdd
          obtain ⟨c, hcc⟩ : ∃ c, s[k].toNat = c := ⟨_, rfl⟩
          have hcb : 48 ≤ c ∧ c ≤ 57 := by
            unfold isDig at hdd2
            rw [hcc] at hdd2
            simpa using hdd2
          obtain ⟨hc48, hc57⟩ := hcb
          have A1 := Lib.hid (hr.out.over hlt')
          have A2 := Lib.hid (hr.out.step (by decide) hlt' hdd)
          have e : s.data.toList[k] = s[k] := rfl
          rw [e, hcc] at A1 A2
          have HG := Lib.hid hdg
          clear e hdd hdd2 hdg hr
          by_cases ho : (9223372036854775808 - (c - 48)) / 10 < q
          · have Z := Lib.hid (A1.out ho)
            have hfin := Lib.hid (HF.out _ _ Z.out)
            clear A1 A2
            have ho' : ((9223372036854775808 : Int) - ((c : Int) - 48)) / 10 < q := by omega
            go_wp2_with (go_at_call 105; refine (digit_c s hs _ (by omega) (by omega) _ _ ?hc).mono ?_; (case hc => simp); rintro e w1 ⟨rfl, rfl⟩; rw [Int.toNat_natCast, HG.out])
            go_ret2
            refine ⟨ret_eq ?_, balloc _ (.refl _ _)⟩
            rw [hfin.out, show k - 1 + 1 = k by omega]
            show Value.tuple #[.int .i64 _, .int .i64 k] = _
            rw [wrapneg q (by omega)]
          · have Z := Lib.hid (A2.out ho)
            clear A1 A2
            have ho' : ¬ ((9223372036854775808 : Int) - ((c : Int) - 48)) / 10 < q := by omega
            have hq2 : (q : Int) * 10 + ((c : Int) - 48) ≤ 9223372036854775808 := by omega
            go_wp2_with (go_at_call 105; refine (digit_c s hs _ (by omega) (by omega) _ _ ?hc).mono ?_; (case hc => simp); rintro e w1 ⟨rfl, rfl⟩; rw [Int.toNat_natCast, HG.out])
            go_round
            case rel => exact ⟨k + 1, q * 10 + (c - 48), by omega, by omega, by go_num, congrArg (Value.int .u64) (by omega), Z.out⟩
            case measure => simp [intOf] <;> omega
        · have hdf : digAt s.data.toList k = false := by simpa using hdg
          have Z := Lib.hid (hr.out.done hdf)
          have hfin := Lib.hid (HF.out _ _ Z.out)
          have HG := Lib.hid hdf
          clear hdf hdg hr
          go_wp2_with (go_at_call 105; refine (digit_c s hs _ (by omega) (by omega) _ _ ?hc).mono ?_; (case hc => simp); rintro e w1 ⟨rfl, rfl⟩; rw [Int.toNat_natCast, HG.out])
          go_ret2
          refine ⟨ret_eq ?_, balloc _ (.refl _ _)⟩
          rw [hfin.out, show k - 1 + 1 = k by omega]
          show Value.tuple #[.int .i64 _, .int .i64 k] = _
          rw [wrapneg q (by omega)]
    · go_enter Tryz.func89, Tryz.ntmps89
      go_wp2_with (first | (go_at_call 57; refine (Tryz.strings_HasPrefix _ _ _).mono ?_; rintro e w1 ⟨rfl, rfl⟩; rw [mk_str, HP.out]) | (go_at_call 105; refine (digit_c s hs _ (by omega) (by omega) _ _ ?hc).mono ?_; (case hc => simp); rintro e w1 ⟨rfl, rfl⟩; rw [show (0 : Int).toNat = 0 from rfl, HD.out]))
      go_ret2
      refine ⟨ret_eq (by rw [Z.out]; rfl), ?_⟩
      (repeat (first | exact Below.refl _ _ | assumption | refine bdrew ?_ | refine balloc _ ?_ | refine bset _ (by simp) ?_ | refine bstep (by assumption) ?_ | refine Grow.below (by assumption) ?_ | refine Tryst2.Grow.below (by assumption) ?_))
    · go_enter Tryz.func89, Tryz.ntmps89
      go_wp2_with (first | (go_at_call 57; refine (Tryz.strings_HasPrefix _ _ _).mono ?_; rintro e w1 ⟨rfl, rfl⟩; rw [mk_str, HP.out]) | (go_at_call 105; refine (digit_c s hs _ (by omega) (by omega) _ _ ?hc).mono ?_; (case hc => simp); rintro e w1 ⟨rfl, rfl⟩; rw [show (0 : Int).toNat = 0 from rfl, HD.out]))
      go_ret2
      refine ⟨ret_eq (by rw [Z.out]; rfl), ?_⟩
      (repeat (first | exact Below.refl _ _ | assumption | refine bdrew ?_ | refine balloc _ ?_ | refine bset _ (by simp) ?_ | refine bstep (by assumption) ?_ | refine Grow.below (by assumption) ?_ | refine Tryst2.Grow.below (by assumption) ?_))
    · go_enter Tryz.func89, Tryz.ntmps89
      go_wp2_with (first | (go_at_call 57; refine (Tryz.strings_HasPrefix _ _ _).mono ?_; rintro e w1 ⟨rfl, rfl⟩; rw [mk_str, HP.out]) | (go_at_call 105; refine (digit_c s hs _ (by omega) (by omega) _ _ ?hc).mono ?_; (case hc => simp); rintro e w1 ⟨rfl, rfl⟩; rw [show (0 : Int).toNat = 0 from rfl, HD.out]))
      go_loop [6, 8] (fun i n => ∃ (k q : Nat), k ≤ s.size ∧ q ≤ 9223372036854775807 ∧ i = .int .i64 k ∧ n = .int .u64 q ∧ Hid (ScanRel 9223372036854775807 s.data.toList 0 k q)) (fun i _ => s.size - (intOf i).toNat)
      case atStart => exact ⟨0, 0, by omega, by omega, rfl, rfl, .start _ _ _ (by simp <;> omega)⟩
      case round =>
        obtain ⟨k, q, hk, hq, rfl, rfl, hr⟩ := hrel
        have hik : 0 ≤ k := hr.out.1
        by_cases hdg : digAt s.data.toList k = true
        · obtain ⟨hlt', hdd⟩ := digAt_lt hdg
          have hlt : k < s.size := by simpa using hlt'
          have hdd2 : isDig s[k] = true := hdd
          obtain ⟨c, hcc⟩ : ∃ c, s[k].toNat = c := ⟨_, rfl⟩
          have hcb : 48 ≤ c ∧ c ≤ 57 := by
            unfold isDig at hdd2
            rw [hcc] at hdd2
            simpa using hdd2
          obtain ⟨hc48, hc57⟩ := hcb
          have A1 := Lib.hid (hr.out.over hlt')
          have A2 := Lib.hid (hr.out.step (by decide) hlt' hdd)
          have e : s.data.toList[k] = s[k] := rfl
          rw [e, hcc] at A1 A2
          have HG := Lib.hid hdg
          clear e hdd hdd2 hdg hr
          by_cases ho : (9223372036854775807 - (c - 48)) / 10 < q
          · have Z := Lib.hid (A1.out ho)
            have hfin := Lib.hid (HF.out _ _ Z.out)
            clear A1 A2
            have ho' : ((9223372036854775807 : Int) - ((c : Int) - 48)) / 10 < q := by omega
            go_wp2_with (go_at_call 105; refine (digit_c s hs _ (by omega) (by omega) _ _ ?hc).mono ?_; (case hc => simp); rintro e w1 ⟨rfl, rfl⟩; rw [Int.toNat_natCast, HG.out])
            go_ret2
            refine ⟨ret_eq ?_, balloc _ (.refl _ _)⟩
            rw [hfin.out, show k - 0 + 0 = k by omega]
            show Value.tuple #[.int .i64 _, .int .i64 k] = _
            rfl
          · have Z := Lib.hid (A2.out ho)
            clear A1 A2
            have ho' : ¬ ((9223372036854775807 : Int) - ((c : Int) - 48)) / 10 < q := by omega
            have hq2 : (q : Int) * 10 + ((c : Int) - 48) ≤ 9223372036854775807 := by omega
            go_wp2_with (go_at_call 105; refine (digit_c s hs _ (by omega) (by omega) _ _ ?hc).mono ?_; (case hc => simp); rintro e w1 ⟨rfl, rfl⟩; rw [Int.toNat_natCast, HG.out])
            go_round
            case rel => exact ⟨k + 1, q * 10 + (c - 48), by omega, by omega, by go_num, congrArg (Value.int .u64) (by omega), Z.out⟩
            case measure => simp [intOf] <;> omega
        · have hdf : digAt s.data.toList k = false := by simpa using hdg
          have Z := Lib.hid (hr.out.done hdf)
          have hfin := Lib.hid (HF.out _ _ Z.out)
          have HG := Lib.hid hdf
          clear hdf hdg hr
          go_wp2_with (go_at_call 105; refine (digit_c s hs _ (by omega) (by omega) _ _ ?hc).mono ?_; (case hc => simp); rintro e w1 ⟨rfl, rfl⟩; rw [Int.toNat_natCast, HG.out])
          go_ret2
          refine ⟨ret_eq ?_, balloc _ (.refl _ _)⟩
          rw [hfin.out, show k - 0 + 0 = k by omega]
          show Value.tuple #[.int .i64 _, .int .i64 k] = _
          rfl
end Go.Proofs.YtmmdblpoecidaaaGreatDoor
namespace Go.Proofs.YtmmdblpoecidaaaGreatDoor
open Go.RowKit Tryst
set_option maxHeartbeats 400000
set_option maxRecDepth 20000
theorem read_ways (s : ByteArray) :
    (Hid (Lib.hasPrefix s.data.toList [34] = true) ∧ ∃ t, Hid (textP s.data.toList = (t, 0)) ∧ Hid (readV s.data.toList = (V.zero, 0))) ∨
    (Hid (Lib.hasPrefix s.data.toList [34] = true) ∧ ∃ t k, Hid (textP s.data.toList = (t, k)) ∧ ((k : Int) == 0) = false ∧ Hid (readV s.data.toList = (⟨false, 0, t⟩, k)) ∧ Hid (k ≠ 0)) ∨
    (Hid (Lib.hasPrefix s.data.toList [34] = false) ∧ ∃ n, Hid (numberL s.data.toList = (n, 0)) ∧ Hid (readV s.data.toList = (V.zero, 0))) ∨
    (Hid (Lib.hasPrefix s.data.toList [34] = false) ∧ ∃ n k, Hid (numberL s.data.toList = (n, k)) ∧ ((k : Int) == 0) = false ∧ Hid (readV s.data.toList = (⟨true, n, []⟩, k)) ∧ Hid (k ≠ 0)) := by
  generalize s.data.toList = l
  cases l with
  | nil => exact .inr (.inr (.inl ⟨rfl, 0, rfl, rfl⟩))
  | cons c r =>
    by_cases h : c = 34
    · have hp : Lib.hasPrefix (c :: r) [34] = true := by rw [h]; rfl
      have hr : readV (c :: r) = (match txtF r 0 with | some p => (⟨false, 0, p.1⟩, p.2 + 1) | none => (V.zero, 0)) := by
        unfold readV; simp only; rw [if_pos h]; rfl
      have ht : textP (c :: r) = (match txtF r 0 with | some p => (p.1, p.2 + 1) | none => ([], 0)) := rfl
      cases hx : txtF r 0 with
      | none =>
        rw [hx] at hr ht
        exact .inl ⟨hp, [], ht, hr⟩
      | some p =>
        rw [hx] at hr ht
        exact .inr (.inl ⟨hp, p.1, p.2 + 1, ht, by simp; omega, hr, by unfold Hid; omega⟩)
    · have hp : Lib.hasPrefix (c :: r) [34] = false := by
        have : (34 : UInt8) ≠ c := fun e => h e.symm
        simp [Lib.hasPrefix, List.isPrefixOf, this]
      have hr : readV (c :: r) = if (numberL (c :: r)).2 = 0 then (V.zero, 0) else (⟨true, (numberL (c :: r)).1, []⟩, (numberL (c :: r)).2) := by
        unfold readV; simp only; rw [if_neg h]
      by_cases hk : (numberL (c :: r)).2 = 0
      · rw [if_pos hk] at hr
        exact .inr (.inr (.inl ⟨hp, (numberL (c :: r)).1, Prod.ext rfl hk, hr⟩))
      · rw [if_neg hk] at hr
        exact .inr (.inr (.inr ⟨hp, _, _, rfl, by rw [beq_eq_false_iff_ne]; exact fun e => hk (Int.natCast_eq_zero.1 e), hr, hk⟩))
/-- what val.Read answers -/
def readE (k : Nat) : Int := if k = 0 then 2 else 0
theorem readE_zero : readE 0 = 2 := rfl
theorem readE_pos {k : Nat} (h : k ≠ 0) : readE k = 0 := by unfold readE; rw [if_neg h]
theorem read_c (s : ByteArray) (hs : s.size ≤ 1000000) (w : World) :
    Calls Tryz.prog 73 #[.string s] w fun e w' => e = .returned (.tuple #[.agg #[.bool (readV s.data.toList).1.num, .int .i64 (readV s.data.toList).1.n, .string ⟨(readV s.data.toList).1.s.toArray⟩], .int .i64 (readV s.data.toList).2, .int .i64 (readE (readV s.data.toList).2)]) ∧ Below w.heap.size w w' := by
  rcases read_ways s with ⟨HP, t, T, R⟩ | ⟨HP, t, k, T, b1, R, hk⟩ | ⟨HP, n, T, R⟩ | ⟨HP, n, k, T, b1, R, hk⟩
  · skip
    go_enter Tryz.func73, Tryz.ntmps73
    go_wp2_with (first | (go_at_call 57; refine (Tryz.strings_HasPrefix _ _ _).mono ?_; rintro e w1 ⟨rfl, rfl⟩; rw [mk_str, HP.out]) | (go_at_call 88; refine (text_c s hs _).mono ?_; rintro e w1 ⟨rfl, hb1⟩; rw [T.out]; obtain ⟨hc1, hf1⟩ := bcell hb1; have hz1 : w.heap.size + 1 < w1.heap.size := (by have := hb1.size; simp at this; omega); have hz2 : w.heap.size < w1.heap.size := (by omega)))
    rw [R.out]
    refine bodyPost_ret (v := .tuple #[.agg #[.bool false, .int .i64 0, .string ⟨#[]⟩], .int .i64 0, .int .i64 2]) (by simp [results, Tryz.results73, go_sem, cell_setCell, *]) rfl ⟨rfl, ?_⟩
    (repeat (first | exact Below.refl _ _ | assumption | refine bdrew ?_ | refine balloc _ ?_ | refine bset _ (by simp) ?_ | refine bstep (by assumption) ?_ | refine Grow.below (by assumption) ?_ | refine Tryst2.Grow.below (by assumption) ?_))
  · have he := readE_pos hk.out
    go_enter Tryz.func73, Tryz.ntmps73
    go_wp2_with (first | (go_at_call 57; refine (Tryz.strings_HasPrefix _ _ _).mono ?_; rintro e w1 ⟨rfl, rfl⟩; rw [mk_str, HP.out]) | (go_at_call 88; refine (text_c s hs _).mono ?_; rintro e w1 ⟨rfl, hb1⟩; rw [T.out]; obtain ⟨hc1, hf1⟩ := bcell hb1; have hz1 : w.heap.size + 1 < w1.heap.size := (by have := hb1.size; simp at this; omega); have hz2 : w.heap.size < w1.heap.size := (by omega)))
    rw [R.out]
    refine bodyPost_ret (v := .tuple #[.agg #[.bool false, .int .i64 0, .string ⟨t.toArray⟩], .int .i64 k, .int .i64 (readE k)]) (by simp [results, Tryz.results73, go_sem, cell_setCell, *]) rfl ⟨rfl, ?_⟩
    (repeat (first | exact Below.refl _ _ | assumption | refine bdrew ?_ | refine balloc _ ?_ | refine bset _ (by simp) ?_ | refine bstep (by assumption) ?_ | refine Grow.below (by assumption) ?_ | refine Tryst2.Grow.below (by assumption) ?_))
  · skip
    go_enter Tryz.func73, Tryz.ntmps73
    go_wp2_with (first | (go_at_call 57; refine (Tryz.strings_HasPrefix _ _ _).mono ?_; rintro e w1 ⟨rfl, rfl⟩; rw [mk_str, HP.out]) | (go_at_call 89; refine (number_c s hs _).mono ?_; rintro e w1 ⟨rfl, hb1⟩; rw [T.out]; obtain ⟨hc1, hf1⟩ := bcell hb1; have hz1 : w.heap.size + 1 < w1.heap.size := (by have := hb1.size; simp at this; omega); have hz2 : w.heap.size < w1.heap.size := (by omega)))
    rw [R.out]
    refine bodyPost_ret (v := .tuple #[.agg #[.bool false, .int .i64 0, .string ⟨#[]⟩], .int .i64 0, .int .i64 2]) (by simp [results, Tryz.results73, go_sem, cell_setCell, *]) rfl ⟨rfl, ?_⟩
    (repeat (first | exact Below.refl _ _ | assumption | refine bdrew ?_ | refine balloc _ ?_ | refine bset _ (by simp) ?_ | refine bstep (by assumption) ?_ | refine Grow.below (by assumption) ?_ | refine Tryst2.Grow.below (by assumption) ?_))
  · have he := readE_pos hk.out
    go_enter Tryz.func73, Tryz.ntmps73
    go_wp2_with (first | (go_at_call 57; refine (Tryz.strings_HasPrefix _ _ _).mono ?_; rintro e w1 ⟨rfl, rfl⟩; rw [mk_str, HP.out]) | (go_at_call 89; refine (number_c s hs _).mono ?_; rintro e w1 ⟨rfl, hb1⟩; rw [T.out]; obtain ⟨hc1, hf1⟩ := bcell hb1; have hz1 : w.heap.size + 1 < w1.heap.size := (by have := hb1.size; simp at this; omega); have hz2 : w.heap.size < w1.heap.size := (by omega)))
    rw [R.out]
    refine bodyPost_ret (v := .tuple #[.agg #[.bool true, .int .i64 n, .string ⟨#[]⟩], .int .i64 k, .int .i64 (readE k)]) (by simp [results, Tryz.results73, go_sem, cell_setCell, *]) rfl ⟨rfl, ?_⟩
    (repeat (first | exact Below.refl _ _ | assumption | refine bdrew ?_ | refine balloc _ ?_ | refine bset _ (by simp) ?_ | refine bstep (by assumption) ?_ | refine Grow.below (by assumption) ?_ | refine Tryst2.Grow.below (by assumption) ?_))
end Go.Proofs.YtmmdblpoecidaaaGreatDoor
