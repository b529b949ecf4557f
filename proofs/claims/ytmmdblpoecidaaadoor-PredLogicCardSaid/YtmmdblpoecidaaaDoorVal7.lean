/- The walk of val.text. -/
import Derived.Test.YtmmdblpoecidaaaDoorProg
import Derived.WalkKit
import Derived.WalkSpells
import Derived.WalkLawsBesides
import Derived.Lib.Hide
import Derived.Deep.RegionWith
import Derived.Test.YtmmdblpoecidaaaDoorFacts
import Derived.Test.YtmmdblpoecidaaaDoorNumV
import Derived.Test.YtmmdblpoecidaaaDoorVal4
import Derived.Test.YtmmdblpoecidaaaDoorVal5
import Derived.Test.YtmmdblpoecidaaaDoorVal6
import Derived.Test.YtmmdblpoecidaaaDoorShelf
import Derived.Test.YtmmdblpoecidaaaDoorDraws
set_option linter.unusedVariables false
set_option linter.unusedSimpArgs false
namespace Go.Proofs.YtmmdblpoecidaaaDoor
open Go.RowKit Tryst
set_option maxHeartbeats 400000
set_option maxRecDepth 20000
theorem make60 (w : World) : (Instr.makeSlice 78 (.int .i64 0) (.int .i64 60)).run Tryd.prog w = .ok (.slice (some ⟨w.heap.size, 0, none⟩) 0 60) (w.alloc (.cells (Array.replicate 60 (.int .u8 0)) 5)) := by kernel_rfl
/-- what val.text answers -/
def textP (l : List UInt8) : List UInt8 × Nat := match txtF (l.drop 1) 0 with | some p => (p.1, p.2 + 1) | none => ([], 0)
theorem byteIs {s : ByteArray} {k : Nat} (h : k < s.size) (d : Nat) (hd : d < 256) : s[k] = UInt8.ofNat d ↔ ((s[k].toNat : Int) == (d : Int)) = true := by
  constructor
  · intro e; rw [e]; simp; omega
  · intro e; apply UInt8.toNat.inj; simp at e ⊢; omega
theorem byteEq {s : ByteArray} {k : Nat} (h : k < s.size) (c : Nat) (hc : s[k].toNat = c) (d : Nat) (hd : d < 256) : (((c : Int) == (d : Int)) = true ∧ s[k] = UInt8.ofNat d) ∨ (((c : Int) == (d : Int)) = false ∧ s[k] ≠ UInt8.ofNat d) := by
  have := byteIs h d hd
  rw [hc] at this
  cases hb : ((c : Int) == (d : Int)) with
  | true => exact .inl ⟨rfl, this.2 hb⟩
  | false => exact .inr ⟨rfl, fun e => by rw [this.1 e] at hb; cases hb⟩
/-- the ways of a round of text -/
theorem text_ways {s : ByteArray} {k : Nat} {t : List UInt8} (h : TxtRel s.data.toList k t) (hlt : k < s.size) : ∃ c : Nat, c < 256 ∧ s[k].toNat = c ∧
    ((((c : Int) == 34) = true ∧ Hid (textP s.data.toList = (t, k + 1))) ∨
    (((c : Int) == 34) = false ∧ ((c : Int) == 92) = true ∧ s.size ≤ k + 1 ∧ Hid (textP s.data.toList = ([], 0))) ∨
    (∃ (h' : k + 1 < s.size) (d : Nat), d < 256 ∧ s[k + 1].toNat = d ∧ ((c : Int) == 34) = false ∧ ((c : Int) == 92) = true ∧
      ((((d : Int) == 34) = false ∧ ((d : Int) == 92) = false ∧ Hid (textP s.data.toList = ([], 0))) ∨
      ((((d : Int) == 34) = true ∨ (((d : Int) == 34) = false ∧ ((d : Int) == 92) = true)) ∧ ((t.length : Int) == 60) = true ∧ Hid (textP s.data.toList = ([], 0))) ∨
      ((((d : Int) == 34) = true ∨ (((d : Int) == 34) = false ∧ ((d : Int) == 92) = true)) ∧ ((t.length : Int) == 60) = false ∧ t.length ≤ 59 ∧ Hid (TxtRel s.data.toList (k + 2) (t ++ [s[k + 1]]))))) ∨
    (((c : Int) == 34) = false ∧ ((c : Int) == 92) = false ∧ ((t.length : Int) == 60) = true ∧ Hid (textP s.data.toList = ([], 0))) ∨
    (((c : Int) == 34) = false ∧ ((c : Int) == 92) = false ∧ ((t.length : Int) == 60) = false ∧ t.length ≤ 59 ∧ Hid (TxtRel s.data.toList (k + 1) (t ++ [s[k]])))) := by
  have hlt' : k < s.data.toList.length := by simpa using hlt
  have hg : s.data.toList[k] = s[k] := rfl
  have h60 := h.2.1
  refine ⟨s[k].toNat, s[k].toNat_lt, rfl, ?_⟩
  have full : ((t.length : Int) == 60) = true ∧ t.length = 60 ∨ ((t.length : Int) == 60) = false ∧ t.length ≠ 60 := by
    by_cases e : t.length = 60
    · left; exact ⟨by simp [e], e⟩
    · right; exact ⟨by simp; omega, e⟩
  rcases byteEq hlt _ rfl 34 (by decide) with ⟨b1, e1⟩ | ⟨b1, e1⟩
  · left
    refine ⟨b1, ?_⟩
    unfold Hid textP
    rw [h.quote hlt' (by rw [hg, e1]; rfl)]
  · have n34 : s.data.toList[k] ≠ 34 := fun e => e1 (by rw [← hg, e]; rfl)
    rcases byteEq hlt _ rfl 92 (by decide) with ⟨b2, e2⟩ | ⟨b2, e2⟩
    · have e92 : s.data.toList[k] = 92 := by rw [hg, e2]; rfl
      by_cases hk1 : k + 1 < s.size
      · have hk1' : k + 1 < s.data.toList.length := by simpa using hk1
        have hg1 : s.data.toList[k + 1] = s[k + 1] := rfl
        right; right; left
        refine ⟨hk1, s[k + 1].toNat, s[k + 1].toNat_lt, rfl, b1, b2, ?_⟩
        have good : (((s[k + 1].toNat : Int) == 34) = true ∨ (((s[k + 1].toNat : Int) == 34) = false ∧ ((s[k + 1].toNat : Int) == 92) = true)) → (s.data.toList[k + 1] = 34 ∨ s.data.toList[k + 1] = 92) := fun hx => by
          rcases hx with hx | ⟨_, hx⟩
          · left; rw [hg1]; exact (byteIs hk1 34 (by decide)).2 hx
          · right; rw [hg1]; exact (byteIs hk1 92 (by decide)).2 hx
        have three : (((s[k + 1].toNat : Int) == 34) = false ∧ ((s[k + 1].toNat : Int) == 92) = false ∧ ¬ (s.data.toList[k + 1] = 34 ∨ s.data.toList[k + 1] = 92)) ∨ (((s[k + 1].toNat : Int) == 34) = true ∨ (((s[k + 1].toNat : Int) == 34) = false ∧ ((s[k + 1].toNat : Int) == 92) = true)) := by
          rcases byteEq hk1 _ rfl 34 (by decide) with ⟨d1, f1⟩ | ⟨d1, f1⟩
          · exact .inr (.inl d1)
          · rcases byteEq hk1 _ rfl 92 (by decide) with ⟨d2, f2⟩ | ⟨d2, f2⟩
            · exact .inr (.inr ⟨d1, d2⟩)
            · exact .inl ⟨d1, d2, fun hx => hx.elim (fun e => f1 (by rw [← hg1, e]; rfl)) (fun e => f2 (by rw [← hg1, e]; rfl))⟩
        rcases three with ⟨d1, d2, nd⟩ | gd
        · left
          refine ⟨d1, d2, ?_⟩
          unfold Hid textP
          rw [h.escBad hk1' e92 nd]
        · right
          rcases full with ⟨q1, q2⟩ | ⟨q1, q2⟩
          · left
            refine ⟨gd, q1, ?_⟩
            unfold Hid textP
            rw [h.escFull hk1' e92 q2]
          · right
            exact ⟨gd, q1, by omega, h.esc hk1' e92 (good gd) q2⟩
      · right; left
        refine ⟨b1, b2, by omega, ?_⟩
        unfold Hid textP
        rw [h.escEnd hlt' e92 (by simp; omega)]
    · have n92 : s.data.toList[k] ≠ 92 := fun e => e2 (by rw [← hg, e]; rfl)
      rcases full with ⟨q1, q2⟩ | ⟨q1, q2⟩
      · right; right; right; left
        refine ⟨b1, b2, q1, ?_⟩
        unfold Hid textP
        rw [h.plainFull hlt' n34 n92 q2]
      · right; right; right; right
        exact ⟨b1, b2, q1, by omega, h.plain hlt' n34 n92 q2⟩
theorem text_c (s : ByteArray) (hs : s.size ≤ 1000000) (w : World) :
    Calls Tryd.prog 100 #[.string s] w fun e w' => e = .returned (.tuple #[.string ⟨(textP s.data.toList).1.toArray⟩, .int .i64 (textP s.data.toList).2]) ∧ Below w.heap.size w w' := by
  have hmk := make60
  go_enter Tryd.func100, Tryd.ntmps100
  go_wp2
  clear hmk
  go_loopw [4, 5] (fun v i wr => ∃ (k : Nat) (t : List UInt8), k ≤ s.size + 1 ∧ i = .int .i64 k ∧ t.length ≤ 60 ∧ wr.ownsRow w.heap.size 5 1 v t.length (t.map byteV) ∧ Hid (TxtRel s.data.toList k t) ∧ Below w.heap.size w wr) (fun _ i _ => s.size + 1 - (intOf i).toNat)
  case atStart => exact ⟨1, [], by omega, rfl, by simp, World.ownsRow_made _ _ _ (Nat.le_refl _) (by decide) rfl, TxtRel.start _, balloc _ (.refl _ _)⟩
  case round =>
    obtain ⟨k, t, hk, rfl, ht, hown, hr, hb⟩ := hrel
    have hB := hb.size
    have hlen : ∃ a cap, u4 = .slice a t.length cap := by
      rcases hown.2 with ⟨h1, h2⟩ | ⟨g, cap, cur, h1, _⟩
      · exact ⟨none, 0, by rw [h1, h2]⟩
      · exact ⟨_, cap, h1⟩
    obtain ⟨adr, cap, rfl⟩ := hlen
    by_cases hlt : k < s.size
    · obtain ⟨c, hc8, hc, hw⟩ := text_ways hr.out hlt
      have hcv := own_string (P := Tryd.prog) (l := t) 78 9 Tryd.underlying78 Tryd.underlying5 Tryd.underlying9 hown
      rcases hw with ⟨b1, Z⟩ | ⟨b1, b2, h1, Z⟩ | ⟨h', d, hd8, hd, b1, b2, ⟨d1, d2, Z⟩ | ⟨d1 | ⟨d1, d2⟩, q, Z⟩ | ⟨d1 | ⟨d1, d2⟩, q, q1, R⟩⟩ | ⟨b1, b2, q, Z⟩ | ⟨b1, b2, q, q1, R⟩
      · go_wp2
        go_ret2
        exact ⟨ret_eq (by rw [Z.out]; rfl), hb⟩
      · go_wp2
        go_ret2
        exact ⟨ret_eq (by rw [Z.out]; rfl), hb⟩
      · have n1 := bne_f d1
        have n2 := bne_f d2
        go_wp2
        go_ret2
        exact ⟨ret_eq (by rw [Z.out]; rfl), hb⟩
      · have n1 := bne_t d1
        go_wp2
        go_ret2
        exact ⟨ret_eq (by rw [Z.out]; rfl), hb⟩
      · have n1 := bne_f d1
        have n2 := bne_t d2
        go_wp2
        go_ret2
        exact ⟨ret_eq (by rw [Z.out]; rfl), hb⟩
      · have n1 := bne_t d1
        go_wp2_with (at_builtin; refine wpList_app1 u8T rfl _ _ rfl w.heap.size _ _ _ rfl hown _ _ rfl rfl (by omega) hB ?_; intro v1 w2 hown1 hb2)
        go_roundw
        case rel => exact ⟨k + 2, t ++ [s[k + 1]], by omega, by go_num, by simp; omega, by rw [List.length_append, List.map_append]; simp only [List.map_cons, List.map_nil, List.length_cons, List.length_nil, Nat.zero_add, byteV, hd]; exact hown1, R, hb.trans hb2⟩
        case measure => simp [intOf] <;> omega
      · have n1 := bne_f d1
        have n2 := bne_t d2
        go_wp2_with (at_builtin; refine wpList_app1 u8T rfl _ _ rfl w.heap.size _ _ _ rfl hown _ _ rfl rfl (by omega) hB ?_; intro v1 w2 hown1 hb2)
        go_roundw
        case rel => exact ⟨k + 2, t ++ [s[k + 1]], by omega, by go_num, by simp; omega, by rw [List.length_append, List.map_append]; simp only [List.map_cons, List.map_nil, List.length_cons, List.length_nil, Nat.zero_add, byteV, hd]; exact hown1, R, hb.trans hb2⟩
        case measure => simp [intOf] <;> omega
      · go_wp2
        go_ret2
        exact ⟨ret_eq (by rw [Z.out]; rfl), hb⟩
      · go_wp2_with (at_builtin; refine wpList_app1 u8T rfl _ _ rfl w.heap.size _ _ _ rfl hown _ _ rfl rfl (by omega) hB ?_; intro v1 w2 hown1 hb2)
        go_roundw
        case rel => exact ⟨k + 1, t ++ [s[k]], by omega, by go_num, by simp; omega, by rw [List.length_append, List.map_append]; simp only [List.map_cons, List.map_nil, List.length_cons, List.length_nil, Nat.zero_add, byteV, hc]; exact hown1, R, hb.trans hb2⟩
        case measure => simp [intOf] <;> omega
    · have hz : textP s.data.toList = ([], 0) := by unfold textP; rw [hr.out.stop (by simp; omega)]
      have HZ := Lib.hid hz
      clear hz
      go_wp2
      go_ret2
      exact ⟨ret_eq (by rw [HZ.out]; rfl), hb⟩
end Go.Proofs.YtmmdblpoecidaaaDoor
