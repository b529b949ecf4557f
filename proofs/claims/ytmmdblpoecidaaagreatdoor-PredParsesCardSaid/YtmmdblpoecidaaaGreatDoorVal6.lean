/- The walks that write a value. -/
import Derived.Test.YtmmdblpoecidaaaGreatDoorProg
import Derived.WalkKit
import Derived.WalkSpells
import Derived.WalkLawsBesides
import Derived.Lib.Hide
import Derived.Deep.RegionWith
import Derived.Test.YtmmdblpoecidaaaGreatDoorFacts
import Derived.Test.YtmmdblpoecidaaaGreatDoorNumV
import Derived.Test.YtmmdblpoecidaaaGreatDoorVal4
import Derived.Test.YtmmdblpoecidaaaGreatDoorVal5
import Derived.Test.YtmmdblpoecidaaaGreatDoorShelf
import Derived.Test.YtmmdblpoecidaaaGreatDoorDraws
set_option linter.unusedVariables false
set_option linter.unusedSimpArgs false
namespace Go.Proofs.YtmmdblpoecidaaaGreatDoor
open Go.RowKit Tryst
set_option maxHeartbeats 400000
set_option maxRecDepth 20000
def Tab (w : World) : Prop := Lib.TabIs Tryz.prog w "internal/strconv.uint64pow10" .u64 Lib.pow10Tab ∧ 0 < w.heap.size
theorem Tab.grow {w w' : World} (h : Tab w) (hb : Below w.heap.size w w') : Tab w' :=
  ⟨var?_below hb (g := 0) (by kernel_rfl) h.2 h.1, Nat.lt_of_lt_of_le h.2 hb.size⟩
theorem formatInt_c (n : Int) (h0 : -9223372036854775808 ≤ n) (h1 : n ≤ 9223372036854775807) (w : World) (hT : Tab w) :
    Calls Tryz.prog 43 #[.int .i64 n, .int .i64 10] w fun e w' => e = .returned (.string ⟨(Lib.itoa n).toArray⟩) ∧ Below w.heap.size w w' :=
  (Tryz.strconv_FormatInt_10 n h0 h1 w hT.1).mono fun e w' ⟨he, k, os, hw⟩ => ⟨he, by
    subst hw
    exact ⟨rfl, rfl, rfl, by simp [Go.Sort.grow], fun i hi => by
      show ((w.drewN k).heap ++ os)[i]? = _
      exact (Array.getElem?_append_left (xs := (w.drewN k).heap) hi).trans rfl⟩⟩
theorem write_no {x : Bool} {n : Int} {s : ByteArray} (hs : s.size ≤ 1000000000) (h : ¬ V.May ⟨x, n, s.data.toList⟩) (w : World) :
    Calls Tryz.prog 27 #[.agg #[.bool x, .int .i64 n, .string s]] w fun e w' => e = .returned (.tuple #[.string ⟨#[]⟩, .int .i64 1]) ∧ Below w.heap.size w w' := by
  have H := Lib.hid h
  clear h
  go_enter Tryz.func27, Tryz.ntmps27
  go_wp2_with (go_at_call 42; refine (may_no hs H.out _).mono ?_; rintro e w1 ⟨rfl, hb1⟩)
  go_ret2
  refine ⟨rfl, ?_⟩
  (repeat (first | exact Below.refl _ _ | assumption | refine bdrew ?_ | refine balloc _ ?_ | refine bset _ (by simp) ?_ | refine bstep (by assumption) ?_ | refine Grow.below (by assumption) ?_ | refine Tryst2.Grow.below (by assumption) ?_))
theorem esc_take_succ {l : List UInt8} {k : Nat} (h : k < l.length) : esc (l.take (k + 1)) = esc (l.take k) ++ esc1 l[k] := by
  rw [List.take_succ_eq_append_getElem h, esc_snoc]
theorem esc_take_len (l : List UInt8) (k : Nat) : (esc (l.take k)).length ≤ 2 * l.length := by
  have h1 := esc_length (l.take k)
  have h2 : (l.take k).length ≤ l.length := by simp; omega
  omega
theorem esc_ways (s : ByteArray) (k : Nat) (hlt : k < s.size) (c : Nat) (hc : s[k].toNat = c) : (((c : Int) == 34) = true ∧ Hid (esc1 s[k] = [92, s[k]])) ∨ (((c : Int) == 34) = false ∧ ((c : Int) == 92) = true ∧ Hid (esc1 s[k] = [92, s[k]])) ∨ (((c : Int) == 34) = false ∧ ((c : Int) == 92) = false ∧ Hid (esc1 s[k] = [s[k]])) := by
  have e34 : s[k] = 34 ↔ c = 34 := ⟨fun h => by rw [← hc, h]; rfl, fun h => UInt8.toNat.inj (by rw [hc, h]; rfl)⟩
  have e92 : s[k] = 92 ↔ c = 92 := ⟨fun h => by rw [← hc, h]; rfl, fun h => UInt8.toNat.inj (by rw [hc, h]; rfl)⟩
  unfold Hid esc1
  by_cases h1 : c = 34
  · left; subst h1; exact ⟨rfl, by rw [if_pos (.inl (e34.2 rfl))]⟩
  · have h1' : ((c : Int) == 34) = false := by simp; omega
    by_cases h2 : c = 92
    · right; left; subst h2; exact ⟨rfl, rfl, by rw [if_pos (.inr (e92.2 rfl))]⟩
    · right; right
      exact ⟨h1', by simp; omega, by rw [if_neg (fun h => h.elim (fun h => h1 (e34.1 h)) (fun h => h2 (e92.1 h)))]⟩
theorem one_str (s : ByteArray) (k : Nat) (hlt : k < s.size) : (s.extract k (k + 1)).data.toList = [s[k]] := by
  have hlt' : k < s.data.toList.length := by simpa using hlt
  rw [sub_str, List.take_succ_eq_append_getElem hlt', List.drop_append_of_le_length (by simp; omega), List.drop_eq_nil_of_le (by simp; omega)]
  rfl
theorem wr_two {s b : ByteArray} {k : Nat} (hlt : k < s.size) (hb : b.data.toList = 34 :: esc (s.data.toList.take k)) (E : esc1 s[k] = [92, s[k]]) :
    (b ++ ⟨#[92]⟩ ++ s.extract k (k + 1)).data.toList = 34 :: esc (s.data.toList.take (k + 1)) := by
  rw [app_str, app_str, hb, one_str s k hlt, esc_take_succ (by simpa using hlt), show esc1 (s.data.toList[k]'(by simpa using hlt)) = [92, s[k]] from E]
  simp
theorem wr_one {s b : ByteArray} {k : Nat} (hlt : k < s.size) (hb : b.data.toList = 34 :: esc (s.data.toList.take k)) (E : esc1 s[k] = [s[k]]) :
    (b ++ s.extract k (k + 1)).data.toList = 34 :: esc (s.data.toList.take (k + 1)) := by
  rw [app_str, hb, one_str s k hlt, esc_take_succ (by simpa using hlt), show esc1 (s.data.toList[k]'(by simpa using hlt)) = [s[k]] from E]
  simp
theorem wr_size {s b : ByteArray} {k : Nat} (hs : s.size ≤ 1000000) (h : b.data.toList = 34 :: esc (s.data.toList.take k)) : b.size ≤ 10000000 := by
  have := congrArg List.length h
  rw [len_str, List.length_cons] at this
  have h2 := esc_take_len s.data.toList k
  rw [len_str] at h2
  omega
theorem write_yes {x : Bool} {n : Int} {s : ByteArray} (hs : s.size ≤ 1000000) (h0 : -9223372036854775808 ≤ n) (h1 : n ≤ 9223372036854775807) (h : V.May ⟨x, n, s.data.toList⟩) (w : World) (hT : Tab w) :
    Calls Tryz.prog 27 #[.agg #[.bool x, .int .i64 n, .string s]] w fun e w' => e = .returned (.tuple #[.string ⟨(V.write ⟨x, n, s.data.toList⟩).toArray⟩, .int .i64 0]) ∧ Below w.heap.size w w' := by
  have H := Lib.hid h
  clear h
  have HT := Lib.hid hT
  clear hT
  cases x with
  | true =>
    go_enter Tryz.func27, Tryz.ntmps27
    go_wp2_with (first | (go_at_call 42; refine (may_yes (by omega) H.out _).mono ?_; rintro e w1 ⟨rfl, hb1⟩; obtain ⟨hc1, hf1⟩ := bcell hb1; have hz1 : w.heap.size < w1.heap.size := by have := hb1.size; simp at this; omega) | (go_at_call 43; refine (formatInt_c n h0 h1 _ (HT.out.grow (bstep hb1 (balloc _ (.refl _ _))))).mono ?_; rintro e w2 ⟨rfl, hb2⟩))
    go_ret2
    refine ⟨rfl, ?_⟩
    (repeat (first | exact Below.refl _ _ | assumption | refine bdrew ?_ | refine balloc _ ?_ | refine bset _ (by simp) ?_ | refine bstep (by assumption) ?_ | refine Grow.below (by assumption) ?_ | refine Tryst2.Grow.below (by assumption) ?_))
  | false =>
    go_enter Tryz.func27, Tryz.ntmps27
    go_wp2_with (go_at_call 42; refine (may_yes (by omega) H.out _).mono ?_; rintro e w1 ⟨rfl, hb1⟩; obtain ⟨hc1, hf1⟩ := bcell hb1; have hz1 : w.heap.size < w1.heap.size := by have := hb1.size; simp at this; omega)
    have hp1 : w1.cell? ⟨w.heap.size, 0, none⟩ = some (.bool false) := by rw [hc1 _ _ (by simp)]; simp
    have hp2 : w1.cell? ⟨w.heap.size, 2, none⟩ = some (.string s) := by rw [hc1 _ _ (by simp)]; simp
    clear hc1 hf1
    go_loopw [4, 18] (fun v i wr => ∃ (k : Nat), k ≤ s.size ∧ i = .int .i64 k ∧ wr.ownsRow (w.heap.size + 1) 5 1 v (34 :: esc (s.data.toList.take k)).length ((34 :: esc (s.data.toList.take k)).map byteV) ∧ Below (w.heap.size + 1) w1 wr) (fun _ i _ => s.size - (intOf i).toNat)
    case atStart => exact ⟨0, by omega, rfl, World.ownsRow_lit w1 _ 1 (by omega) (by decide) rfl, (Below.refl _ _).alloc (by omega) _⟩
    case round =>
      obtain ⟨k, hk, rfl, hown, hb⟩ := hrel
      have hcs : wr.cell? ⟨w.heap.size, 2, none⟩ = some (.string s) := (hb.cell (p := ⟨w.heap.size, 2, none⟩) (by simp)).trans hp2
      have hB : w.heap.size + 1 ≤ wr.heap.size := by have := hb.size; omega
      have hB2 : w.heap.size < wr.heap.size := by omega
      have hlen : (34 :: esc (s.data.toList.take k)).length ≤ 10000000 := by
        have := esc_take_len s.data.toList k
        rw [len_str] at this
        simp only [List.length_cons]; omega
      by_cases hlt : k < s.size
      · obtain ⟨c, hc⟩ : ∃ c, s[k].toNat = c := ⟨_, rfl⟩
        have hcl : c < 256 := hc ▸ s[k].toNat_lt
        have hte : esc (s.data.toList.take (k + 1)) = esc (s.data.toList.take k) ++ esc1 s[k] := esc_take_succ (by simpa using hlt)
        have HE := Lib.hid hte
        have hcb : byteV s[k] = .int .u8 c := by unfold byteV; rw [hc]
        have HC := Lib.hid hcb
        clear hte hcb
        have D := esc_ways s k hlt c hc
        rcases D with ⟨b1, E⟩ | ⟨b1, b2, E⟩ | ⟨b1, b2, E⟩
        iterate 2
          · go_wp2_with (first | (at_builtin; refine wpList_app1 u8T rfl _ _ rfl (w.heap.size + 1) _ _ _ rfl hown _ _ rfl rfl (by omega) hB ?_; intro v1 w2 hown1 hb2; clear hown; have hcs2 : w2.cell? ⟨w.heap.size, 2, none⟩ = some (.string s) := (hb2.cell (p := ⟨w.heap.size, 2, none⟩) (by simp)).trans hcs; have hB3 : w.heap.size + 1 ≤ w2.heap.size := by have := hb2.size; omega) | (at_builtin; refine wpList_app1 u8T rfl _ _ rfl (w.heap.size + 1) _ _ _ rfl hown1 _ _ rfl rfl (by omega) hB3 ?_; intro v2 w3 hown2 hb3))
            go_roundw
            case rel =>
              refine ⟨k + 1, by omega, by go_num, ?_, hb.trans (hb2.trans hb3)⟩
              have e : 34 :: esc (s.data.toList.take (k + 1)) = (34 :: esc (s.data.toList.take k)) ++ [92, s[k]] := by rw [HE.out, E.out]; rfl
              rw [e, List.length_append, List.map_append]
              have e2 : [92, s[k]].map byteV = [.int .u8 92] ++ [.int .u8 c] := by rw [List.map_cons, List.map_cons, HC.out]; rfl
              rw [e2, ← List.append_assoc]
              exact hown2
            case measure => simp [intOf] <;> omega
        · go_wp2_with (at_builtin; refine wpList_app1 u8T rfl _ _ rfl (w.heap.size + 1) _ _ _ rfl hown _ _ rfl rfl (by omega) hB ?_; intro v1 w2 hown1 hb2)
          go_roundw
          case rel =>
            refine ⟨k + 1, by omega, by go_num, ?_, hb.trans hb2⟩
            have e : 34 :: esc (s.data.toList.take (k + 1)) = (34 :: esc (s.data.toList.take k)) ++ [s[k]] := by rw [HE.out, E.out]; rfl
            rw [e, List.length_append, List.map_append]
            have e2 : [s[k]].map byteV = [.int .u8 c] := by rw [List.map_cons, HC.out]; rfl
            rw [e2]
            exact hown1
          case measure => simp [intOf] <;> omega
      · have hke : k = s.data.toList.length := by simp; omega
        have e : 34 :: esc (s.data.toList.take k) ++ [34] = Tryst.wr s.data.toList := by rw [hke, List.take_length]; rfl
        have E := Lib.hid e
        clear e hke
        go_wp2_with (at_builtin; refine wpList_app1 u8T rfl _ _ rfl (w.heap.size + 1) _ _ _ rfl hown _ _ rfl rfl (by omega) hB ?_; intro v1 w2 hown1 hb2; have hcv := own_string (P := Tryz.prog) (l := 34 :: esc (s.data.toList.take k) ++ [34]) 43 9 Tryz.underlying43 Tryz.underlying5 Tryz.underlying9 (by rw [List.map_append]; exact hown1))
        go_ret2
        refine ⟨ret_eq ?_, (bstep hb1 (balloc _ (.refl _ _))).trans ((hb.trans hb2).mono (by omega))⟩
        show Value.tuple #[.string ⟨(34 :: esc (s.data.toList.take k) ++ [34]).toArray⟩, .int .i64 0] = _
        rw [E.out]
        rfl
theorem rwrite_c {x : Bool} {n : Int} {s : ByteArray} (hs : s.size ≤ 1000000) (h0 : -9223372036854775808 ≤ n) (h1 : n ≤ 9223372036854775807) (w : World) :
    Calls Tryz.prog 21 #[.agg #[.bool x, .int .i64 n, .string s]] w fun e w' => e = .returned (.string ⟨(V.write ⟨x, n, s.data.toList⟩).toArray⟩) ∧ Below w.heap.size w w' := by
  cases x with
  | true =>
    go_enter Tryz.func21, Tryz.ntmps21
    go_wp2_with (go_at_call 36; refine (rdigits_c n h0 h1 _).mono ?_; rintro e w1 ⟨rfl, hb1⟩)
    go_ret
    refine ⟨rfl, ?_⟩
    (repeat (first | exact Below.refl _ _ | assumption | refine bdrew ?_ | refine balloc _ ?_ | refine bset _ (by simp) ?_ | refine bstep (by assumption) ?_ | refine Grow.below (by assumption) ?_ | refine Tryst2.Grow.below (by assumption) ?_))
  | false =>
    go_enter Tryz.func21, Tryz.ntmps21
    go_wp2
    obtain ⟨X, hX⟩ : ∃ X, w.alloc (.cells #[.bool false, .int .i64 n, .string s] 23) = X := ⟨_, rfl⟩
    have hp2 : X.cell? ⟨w.heap.size, 2, none⟩ = some (.string s) := by rw [← hX]; simp
    have hbX : Below w.heap.size w X := by rw [← hX]; exact balloc _ (.refl _ _)
    have hzX : w.heap.size < X.heap.size := by rw [← hX]; simp
    rw [hX]
    clear hX
    go_loop [3, 4] (fun v i => ∃ (k : Nat) (b : ByteArray), k ≤ s.size ∧ i = .int .i64 k ∧ v = .string b ∧ b.size ≤ 10000000 ∧ Hid (b.data.toList = 34 :: esc (s.data.toList.take k))) (fun _ i => s.size - (intOf i).toNat)
    case atStart => exact ⟨0, ⟨#[34]⟩, by omega, rfl, rfl, by decide, rfl⟩
    case round =>
      obtain ⟨k, b, hk, rfl, rfl, hbz, hbe⟩ := hrel
      by_cases hlt : k < s.size
      · obtain ⟨c, hc⟩ : ∃ c, s[k].toNat = c := ⟨_, rfl⟩
        have hcl : c < 256 := hc ▸ s[k].toNat_lt
        rcases esc_ways s k hlt c hc with ⟨b1, E⟩ | ⟨b1, b2, E⟩ | ⟨b1, b2, E⟩
        iterate 2
          · have h2 := wr_two hlt hbe.out E.out
            have H2 := Lib.hid h2
            have H3 := Lib.hid (wr_size hs h2)
            clear h2
            go_wp2
            go_round
            case rel => exact ⟨k + 1, _, by omega, by go_num, rfl, H3.out, H2.out⟩
            case measure => simp [intOf] <;> omega
        · have h2 := wr_one hlt hbe.out E.out
          have H2 := Lib.hid h2
          have H3 := Lib.hid (wr_size hs h2)
          clear h2
          go_wp2
          go_round
          case rel => exact ⟨k + 1, _, by omega, by go_num, rfl, H3.out, H2.out⟩
          case measure => simp [intOf] <;> omega
      · have hke : k = s.data.toList.length := by simp; omega
        have e : b ++ ⟨#[34]⟩ = ⟨(Tryst.wr s.data.toList).toArray⟩ := by
          apply str_ext
          rw [app_str, hbe.out, mk_str, hke, List.take_length]
          simp [Tryst.wr]
        have E := Lib.hid e
        clear e hke
        go_wp2
        go_ret
        refine ⟨ret_eq ?_, hbX⟩
        show Value.string (b ++ ⟨#[34]⟩) = _
        rw [E.out]
        rfl
end Go.Proofs.YtmmdblpoecidaaaGreatDoor
