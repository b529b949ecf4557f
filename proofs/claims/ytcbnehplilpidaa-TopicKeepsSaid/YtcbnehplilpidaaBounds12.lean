/- The walk of the law TopicBounds. -/
import Derived.Test.YtcbnehplilpidaaProg
import Derived.WalkKit
import Derived.WalkSpells
import Derived.WalkLawsBesides
import Derived.Lib.Hide
import Derived.Deep.RegionWith
import Derived.Deep.Cut
import Derived.IntWalk
import Derived.Test.YtcbnehplilpidaaTopO
import Derived.Test.YtcbnehplilpidaaTopQ
set_option linter.unusedVariables false
set_option linter.unusedSimpArgs false
namespace Tryst
open Go Go.Lib
theorem okT_get {l : List Tp} : ∀ {p : Option ByteArray} {i j : Nat} (h : okT p l = true) (hi : i < l.length) (hj : j < l.length), i < j → lessB l[i].name l[j].name = true := by
  induction l with
  | nil => intro p i j h hi; simp at hi
  | cons x r ih =>
    intro p i j h hi hj hij
    rw [okT_cons] at h
    cases j with
    | zero => omega
    | succ j =>
      cases i with
      | zero => exact okT_above h.2.2 _ (List.getElem_mem _)
      | succ i => exact ih h.2.2 (by simpa using hi) (by simpa using hj) (by omega)
theorem find_self {l : List Tp} (h : topsMay l = true) {i : Nat} (hi : i < l.length) : findT l l[i].name = some i := by
  unfold topsMay at h
  rw [Bool.and_eq_true] at h
  unfold findT
  rw [List.findIdx?_eq_some_iff_getElem]
  refine ⟨hi, by simp [isT], fun j hj => ?_⟩
  have hl := okT_get h.2 (by omega : j < l.length) hi hj
  simp only [isT, decide_eq_true_eq, Bool.not_eq_true, decide_eq_false_iff_not]
  intro e
  rw [str_ext e, lessB_irrefl] at hl
  cases hl
end Tryst
namespace Go.Proofs.Ytcbnehplilpidaa
open Go.RowKit Tryst
set_option maxHeartbeats 400000
set_option maxRecDepth 20000
theorem few_TIn {l : List TB} {L : List Tp} (h : l.map TB.tp = fewTs L) (hL : ∀ t ∈ L, -9223372036854775808 ≤ t.first ∧ t.first ≤ 9223372036854775807) : l.length ≤ 21 ∧ TIn l := by
  constructor
  · have := congrArg List.length h
    simp [fewTs] at this; omega
  · refine TIn.of h fun t ht => ?_
    obtain ⟨u, hu, rfl⟩ := List.mem_map.1 ht
    have hu2 := hL u (List.mem_of_mem_take hu)
    refine ⟨by show (few60 _).size ≤ _; have := few60_le u.name; omega, fun s hs => ?_, ?_, hu2⟩
    · obtain ⟨s', _, rfl⟩ := List.mem_map.1 hs
      have := few9_le s'; omega
    · show ((u.log.take 101).map few9).length ≤ _
      simp; omega
theorem RdR.plain {w w' : World} {E : Ev} {k : Nat} {x : Ending} (h : RdR w E k x w') : ∃ (T P : ByteArray) (q : Int) (a : Option Addr) (n c : Nat), x = .returned (.tuple #[.agg #[.string T, .string P, .int .u64 q, .slice a n c], .int .i64 k]) ∧ T.data.toList = E.topic ∧ Below w.heap.size w w' := by
  obtain ⟨a, c, h1, _, _, h2⟩ := h
  exact ⟨_, _, _, a, _, c, h1, mk_str _, h2⟩
def BRel (X : World) (n : Nat) (i : Value) (wr : World) : Prop := ∃ k : Nat, k ≤ n ∧ i = .int .i64 k ∧ Hid (Below X.heap.size X wr)
set_option maxHeartbeats 4000000 in
theorem topicBounds_c (a : Option Addr) (l : List TB) (c : Nat) (x : Int) (hx1 : -9223372036854775808 ≤ x) (hx2 : x ≤ 9223372036854775807) (w : World) (hM : MaxW w) (hF : TopsA w a l) (hI : ∀ t ∈ l, t.name.size ≤ 9223372036854775807 ∧ (∀ s ∈ t.log, s.size ≤ 9223372036854775807) ∧ t.log.length ≤ 9223372036854775807 ∧ -9223372036854775808 ≤ t.first ∧ t.first ≤ 9223372036854775807) (hl : l.length ≤ 9223372036854775807) :
    Calls Try.prog 8 #[.slice a l.length c, .int .i64 x] w fun e w' => e = .returned (.bool true) ∧ Below w.heap.size w w' := by
  have HM := Lib.hid hM
  have HFW := Lib.hid (few12_c a c l hl (fun t ht => ⟨(hI t ht).1, (hI t ht).2.1, (hI t ht).2.2.1⟩) w hF)
  have HFI := Lib.hid (fun (t : Tp) (ht : t ∈ l.map TB.tp) => show -9223372036854775808 ≤ t.first ∧ t.first ≤ 9223372036854775807 by
    obtain ⟨u, hu, rfl⟩ := List.mem_map.1 ht
    exact (hI u hu).2.2.2)
  generalize l.map TB.tp = L0 at HFW HFI
  clear hM hI hF
  go_enter Try.func8, Try.ntmps8
  go_wp2_with fail
  refine HFW.out.mono ?_
  rintro e w1 ⟨a1, c1, l1, rfl, hm1, hF1, hS1, hb1⟩
  obtain ⟨hl1, hI1⟩ := few_TIn hm1 HFI.out
  have HF1 := Lib.hid hF1
  have HB1 := Lib.hid hb1
  have HC := Lib.hid (tcheck_c a1 c1 l1 (by omega) hI1 w1 (hM := HM.out.grow hb1) hF1)
  have HAW := Lib.hid (fun (W : World) (hb : Below w.heap.size w W) => awake12_c W (HM.out.grow hb))
  have HRD := Lib.hid (fun (n : ByteArray) (W : World) (hb : Below w.heap.size w W) (hF : Tops W a1 l1) => tread_c n x hx1 hx2 a1 c1 l1 (by omega) hI1 W (HM.out.grow hb) hF)
  have HEN := Lib.hid (fun (n : ByteArray) (W : World) (hb : Below w.heap.size w W) (hF : Tops W a1 l1) => tEnd_c n a1 c1 l1 (by omega) hI1 W (HM.out.grow hb) hF)
  clear hm1 hF1 hS1 hb1 hI1 HFW HFI HM
  cases hm : topsMay (l1.map TB.tp) with
  | false =>
    rw [hm] at HC
    have hr : readP (l1.map TB.tp) ⟨#[97]⟩ x = (Ev.zero, 1) := by unfold readP; rw [hm]; rfl
    have HR1 := Lib.hid (HRD.out ⟨#[97]⟩)
    rw [hr] at HR1
    clear hm hr HRD HEN
    go_wp2_with fail
    refine HC.out.mono ?_
    rintro e w2 ⟨rfl, hb2⟩
    have HB2 := Lib.hid (bstep hb2 HB1.out)
    have HF2 := Lib.hid (HF1.out.grow hb2)
    clear hb2
    rw [show errV false = 1 from rfl]
    go_wp2_with fail
    refine (HR1.out w2 HB2.out HF2.out).mono ?_
    rintro e w3 ⟨a3, c3, rfl, _, _, hb3⟩
    have HB3 := Lib.hid (bstep hb3 HB2.out)
    clear hb3
    go_upto_region 4 with fail
    refine wp_genC (fun v => Hid (Below w.heap.size w v)) (balloc _ HB3.out) ?_
    rintro w4 HB4
    go_wp2_with fail
    refine (HAW.out w4 HB4.out).mono ?_
    rintro e w5 ⟨rfl, hb5⟩
    have HB5 := Lib.hid (bstep hb5 HB4.out)
    clear hb5
    go_wp2_with fail
    go_ret
    exact ⟨rfl, HB5.out⟩
  | true =>
    rw [hm] at HC
    have HTM := Lib.hid hm
    clear hm
    go_wp2_with fail
    refine HC.out.mono ?_
    rintro e w2 ⟨rfl, hb2⟩
    have HB2 := Lib.hid (bstep hb2 HB1.out)
    have HF2 := Lib.hid (HF1.out.grow hb2)
    clear hb2 HC HF1 HB1
    rw [show errV true = 0 from rfl]
    go_wp2_with fail
    go_loopw [7] (fun i wr => BRel w2 l1.length i wr) (fun i _ => l1.length - (intOf i).toNat)
    case atStart => exact ⟨0, by omega, rfl, .refl _ _⟩
    case round =>
      obtain ⟨k, hk, rfl, HW⟩ := hrel
      obtain ⟨wo, rfl⟩ : ∃ wo, wo = wr := ⟨_, rfl⟩
      have HBo := Lib.hid (bstep HW.out HB2.out)
      by_cases hlt : k < l1.length
      · have HFo := Lib.hid (HF2.out.grow HW.out)
        have hlt2 : k < (l1.map TB.tp).length := by simpa using hlt
        have hfs : findT (l1.map TB.tp) l1[k].name = some k := by
          have h := find_self HTM.out hlt2
          rw [List.getElem_map] at h
          exact h
        obtain ⟨_, _, htm⟩ := find_at HTM.out hfs
        obtain ⟨q1, q2, q3, q4⟩ := tmay_parts htm
        have hen : endP (l1.map TB.tp) l1[k].name = (l1[k].first + (l1[k].log.length : Int), 0) := by
          unfold endP
          rw [if_pos HTM.out, hfs]
          show (((l1.map TB.tp)[k]?.map _).getD 0, 0) = _
          rw [List.getElem?_map, List.getElem?_eq_getElem hlt]
          rfl
        have hrd : readP (l1.map TB.tp) l1[k].name x = (if x < l1[k].first then (Ev.zero, 8) else if l1[k].first + (l1[k].log.length : Int) ≤ x then (Ev.zero, 9) else match l1[k].log[(x - l1[k].first).toNat]? with | none => (Ev.zero, 9) | some s => ((takeE s.data.toList).1, 0)) := by
          unfold readP
          rw [if_pos HTM.out, hfs]
          show (match (l1.map TB.tp)[k]? with | none => (Ev.zero, 4) | some t => _) = _
          rw [List.getElem?_map, List.getElem?_eq_getElem hlt]
          rfl
        have HE1 := Lib.hid (HEN.out l1[k].name)
        have HR1 := Lib.hid (HRD.out l1[k].name)
        rw [hen] at HE1
        rw [hrd] at HR1
        obtain ⟨b, o, ha, hb⟩ := HFo.out.head hlt
        obtain rfl : a1 = some ⟨b, o, none⟩ := ha
        obtain ⟨_, ⟨f0, f1, f2⟩, _⟩ := HFo.out.at hlt
        have HQ4 := Lib.hid q4
        clear hfs hen hrd htm q4
        go_wp2_with fail
        refine (HE1.out wo HBo.out HFo.out).mono ?_
        rintro e w3 ⟨rfl, hb3⟩
        have HB3 := Lib.hid (bstep hb3 HBo.out)
        have HF3 := Lib.hid (HFo.out.grow hb3)
        have HW3 := Lib.hid (bstep hb3 HW.out)
        have hz3 : b < w3.heap.size := Nat.lt_of_lt_of_le hb hb3.size
        clear hb3 f0 f1 f2 HE1
        obtain ⟨_, ⟨f0, f1, f2⟩, _⟩ := HF3.out.at hlt
        go_wp2_with fail
        refine (HR1.out w3 HB3.out HF3.out).mono ?_
        by_cases g1 : x < l1[k].first
        · rw [if_pos g1]
          rintro e w4 hr4
          obtain ⟨T, P, q, a4, n4, c4, rfl, _, hb4⟩ := hr4.plain
          simp only
          clear hr4
          have HB4 := Lib.hid (bstep hb4 HB3.out)
          have HF4 := Lib.hid (HF3.out.grow hb4)
          have HW4 := Lib.hid (bstep hb4 HW3.out)
          have hz4 : b < w4.heap.size := Nat.lt_of_lt_of_le hz3 hb4.size
          clear hb4 f0 f1 f2 HR1
          go_upto_region 10 with fail
          refine wp_genC (fun v => Hid (Tops v (some ⟨b, o, none⟩) l1) ∧ Hid (EAt v w4.heap.size _ P q (.slice a4 n4 c4)) ∧ Hid (Below w.heap.size w v) ∧ Hid (Below w2.heap.size w2 v) ∧ w4.heap.size < v.heap.size) ⟨HF4.out.grow (balloc _ (.refl _ _)), EAt.of (new_box w4 #[.string _, .string P, .int .u64 q, .slice a4 n4 c4] 25), balloc _ HB4.out, balloc _ HW4.out, by simp⟩ ?_
          rintro w5 ⟨HF5, HX5, HB5, HW5, hz5⟩
          generalize hB4 : w4.heap.size = B4 at HX5 hz5 hz4 ⊢
          clear HF4 HB4 HW4 HB3 HW3 HF3 hB4
          obtain ⟨_, ⟨f0, f1, f2⟩, _⟩ := HF5.out.at hlt
          obtain ⟨x0, x1, x2, x3, x4, x5, x6, x7⟩ := HX5.out
          have y1 : IntKind.i64.wrap (l1[k].first + (l1[k].log.length : Int)) = l1[k].first + (l1[k].log.length : Int) := IntWalk.i64_in _ (by omega)
          go_upto_region 15 with fail
          refine Tryst2.wp_region_grows [.is (.int .i64 0), .is (.bool false), .is (.bool false), .is (.int .i64 (l1[k].first + (l1[k].log.length : Int))), .is (.slice (some ⟨b, o, none⟩) l1.length c1), .is (.int .i64 (k : Int)), .is (.pointer (some ⟨b, o + k * 3, none⟩)), .is (.pointer (some ⟨b, o + k * 3 + 1, none⟩)), .is (.int .i64 l1[k].first), .is (.slice (some ⟨b, o, none⟩) l1.length c1), .is (.int .i64 (k : Int)), .is (.pointer (some ⟨b, o + k * 3, none⟩)), .is (.pointer (some ⟨b, o + k * 3 + 2, none⟩)), .is (.slice l1[k].la l1[k].log.length l1[k].lc), .is (.int .i64 (l1[k].log.length : Int)), .is (.int .i64 (l1[k].first + (l1[k].log.length : Int))), .is (.bool false), .is (.bool false), .is (.bool false), .is (.int .i64 8), .is (.int .i64 8), .is (.bool false), .is (.bool false), .is (.bool false), .is (.int .i64 8), .is (.bool false), .is (.bool false), .is undef, .is undef, .is undef, .is undef, .is undef, .is undef, .is undef, .is undef, .is (.bool false), .is (.bool false)] (by kernel_rfl) (by kernel_rfl) ?obl ?fin
          case obl =>
            simp only [Tryst2.AllObl, Tryst2.dstL, Tryst2.Obl, Tryst2.depsOf, Tryst2.binds_data, Tryst2.binds_chain, Tryst2.binds_phase, Tryst2.binds_guard, Tryst2.binds_text, Tryst2.binds_gc, Bool.false_eq_true, if_false, List.filterMap_cons_some, List.filterMap_cons_none, Tryst2.depsR, Tryst2.holdR, Tryst2.tmpsOf, Op.operands, Call.operands, Tryst2.Rsp.pred, Tryst2.wantedV_none, Tryst2.wantedV_some, if_true, List.map_cons, List.map_nil, List.length_map, List.take_succ_cons, List.take_zero, List.length_cons, List.length_nil, List.getElem?_cons_zero, List.getElem?_cons_succ, Option.bind_some, id, List.getD_cons_zero, List.getD_cons_succ, Tryst2.isDst, List.filterMap_cons, List.filterMap_nil, List.toList_toArray]
            repeat' apply And.intro
            any_goals trivial
            all_goals (intro tv w' hg hold hd; (try simp at hold); obtain ⟨hcg, hfg⟩ := Tryst2.Grow.cells hg; have hsg := Tryst2.Grow.le hg)
            all_goals first | (go_simp; done) | (go_simp; rw [if_neg (by omega)]; exact ⟨.refl _, rfl⟩) | (obtain ⟨⟨g, hvg, hgg, hcell⟩, _⟩ := hd; have hcell0 := hcell 0 (by decide); simp at hcell0; go_simp; done) 
          case fin =>
            intro tv w' hg hR
            simp only [Tryst2.allR, Tryst2.dstL, Tryst2.Rsp.pred, List.map_cons, List.map_nil, List.take_succ_cons, List.take_zero, List.length_cons, List.length_nil, List.tail_cons, List.toList_toArray] at hR
            obtain ⟨hcg, hfg⟩ := Tryst2.Grow.cells hg
            have hsg := Tryst2.Grow.le hg
            simp only [Tryst2.putAll, Tryst2.dstL, List.map_cons, List.map_nil, List.take_succ_cons, List.take_zero, List.length_cons, List.length_nil, List.toList_toArray, List.drop_succ_cons, List.drop_zero, Act.put, List.setIfInBounds_toArray, List.set_cons_zero, List.set_cons_succ, hR]
            have HW9 := Lib.hid (Tryst2.Grow.below hg HW5.out)
            clear hg hR hcg hfg hsg
            go_wp2_with fail
            go_roundw
            case rel => exact ⟨k + 1, by omega, by go_num, HW9⟩
            case measure => simp [intOf] <;> omega
        · rw [if_neg g1]
          by_cases g2 : l1[k].first + (l1[k].log.length : Int) ≤ x
          · rw [if_pos g2]
            rintro e w4 hr4
            obtain ⟨T, P, q, a4, n4, c4, rfl, _, hb4⟩ := hr4.plain
            simp only
            clear hr4
            have HB4 := Lib.hid (bstep hb4 HB3.out)
            have HF4 := Lib.hid (HF3.out.grow hb4)
            have HW4 := Lib.hid (bstep hb4 HW3.out)
            have hz4 : b < w4.heap.size := Nat.lt_of_lt_of_le hz3 hb4.size
            clear hb4 f0 f1 f2 HR1
            go_upto_region 10 with fail
            refine wp_genC (fun v => Hid (Tops v (some ⟨b, o, none⟩) l1) ∧ Hid (EAt v w4.heap.size _ P q (.slice a4 n4 c4)) ∧ Hid (Below w.heap.size w v) ∧ Hid (Below w2.heap.size w2 v) ∧ w4.heap.size < v.heap.size) ⟨HF4.out.grow (balloc _ (.refl _ _)), EAt.of (new_box w4 #[.string _, .string P, .int .u64 q, .slice a4 n4 c4] 25), balloc _ HB4.out, balloc _ HW4.out, by simp⟩ ?_
            rintro w5 ⟨HF5, HX5, HB5, HW5, hz5⟩
            generalize hB4 : w4.heap.size = B4 at HX5 hz5 hz4 ⊢
            clear HF4 HB4 HW4 HB3 HW3 HF3 hB4
            obtain ⟨_, ⟨f0, f1, f2⟩, _⟩ := HF5.out.at hlt
            obtain ⟨x0, x1, x2, x3, x4, x5, x6, x7⟩ := HX5.out
            have y1 : IntKind.i64.wrap (l1[k].first + (l1[k].log.length : Int)) = l1[k].first + (l1[k].log.length : Int) := IntWalk.i64_in _ (by omega)
            go_upto_region 15 with fail
            refine Tryst2.wp_region_grows [.is (.int .i64 0), .is (.bool false), .is (.bool false), .is (.int .i64 (l1[k].first + (l1[k].log.length : Int))), .is (.slice (some ⟨b, o, none⟩) l1.length c1), .is (.int .i64 (k : Int)), .is (.pointer (some ⟨b, o + k * 3, none⟩)), .is (.pointer (some ⟨b, o + k * 3 + 1, none⟩)), .is (.int .i64 l1[k].first), .is (.slice (some ⟨b, o, none⟩) l1.length c1), .is (.int .i64 (k : Int)), .is (.pointer (some ⟨b, o + k * 3, none⟩)), .is (.pointer (some ⟨b, o + k * 3 + 2, none⟩)), .is (.slice l1[k].la l1[k].log.length l1[k].lc), .is (.int .i64 (l1[k].log.length : Int)), .is (.int .i64 (l1[k].first + (l1[k].log.length : Int))), .is (.bool false), .is (.bool false), .is (.bool false), .is (.int .i64 9), .is (.int .i64 9), .is (.bool false), .is (.bool false), .is (.bool false), .is (.int .i64 9), .is (.bool false), .is (.bool false), .is undef, .is undef, .is undef, .is undef, .is undef, .is undef, .is undef, .is undef, .is (.bool false), .is (.bool false)] (by kernel_rfl) (by kernel_rfl) ?obl ?fin
            case obl =>
              simp only [Tryst2.AllObl, Tryst2.dstL, Tryst2.Obl, Tryst2.depsOf, Tryst2.binds_data, Tryst2.binds_chain, Tryst2.binds_phase, Tryst2.binds_guard, Tryst2.binds_text, Tryst2.binds_gc, Bool.false_eq_true, if_false, List.filterMap_cons_some, List.filterMap_cons_none, Tryst2.depsR, Tryst2.holdR, Tryst2.tmpsOf, Op.operands, Call.operands, Tryst2.Rsp.pred, Tryst2.wantedV_none, Tryst2.wantedV_some, if_true, List.map_cons, List.map_nil, List.length_map, List.take_succ_cons, List.take_zero, List.length_cons, List.length_nil, List.getElem?_cons_zero, List.getElem?_cons_succ, Option.bind_some, id, List.getD_cons_zero, List.getD_cons_succ, Tryst2.isDst, List.filterMap_cons, List.filterMap_nil, List.toList_toArray]
              repeat' apply And.intro
              any_goals trivial
              all_goals (intro tv w' hg hold hd; (try simp at hold); obtain ⟨hcg, hfg⟩ := Tryst2.Grow.cells hg; have hsg := Tryst2.Grow.le hg)
              all_goals first | (go_simp; done) | (go_simp; rw [if_neg (by omega)]; exact ⟨.refl _, rfl⟩) | (obtain ⟨⟨g, hvg, hgg, hcell⟩, _⟩ := hd; have hcell0 := hcell 0 (by decide); simp at hcell0; go_simp; done) 
            case fin =>
              intro tv w' hg hR
              simp only [Tryst2.allR, Tryst2.dstL, Tryst2.Rsp.pred, List.map_cons, List.map_nil, List.take_succ_cons, List.take_zero, List.length_cons, List.length_nil, List.tail_cons, List.toList_toArray] at hR
              obtain ⟨hcg, hfg⟩ := Tryst2.Grow.cells hg
              have hsg := Tryst2.Grow.le hg
              simp only [Tryst2.putAll, Tryst2.dstL, List.map_cons, List.map_nil, List.take_succ_cons, List.take_zero, List.length_cons, List.length_nil, List.toList_toArray, List.drop_succ_cons, List.drop_zero, Act.put, List.setIfInBounds_toArray, List.set_cons_zero, List.set_cons_succ, hR]
              have HW9 := Lib.hid (Tryst2.Grow.below hg HW5.out)
              clear hg hR hcg hfg hsg
              go_wp2_with fail
              go_roundw
              case rel => exact ⟨k + 1, by omega, by go_num, HW9⟩
              case measure => simp [intOf] <;> omega
          · rw [if_neg g2]
            obtain ⟨m, hm⟩ : ∃ m : Nat, x = l1[k].first + m := ⟨(x - l1[k].first).toNat, by omega⟩
            have hlm : m < l1[k].log.length := by omega
            have hd : (x - l1[k].first).toNat = m := by omega
            rw [hd, List.getElem?_eq_getElem hlm]
            have hob := HQ4.out l1[k].log[m] (List.getElem_mem hlm)
            have hnm : (takeE l1[k].log[m].data.toList).1.topic = l1[k].name.data.toList := by
              unfold ofB at hob
              simp only [Bool.and_eq_true, decide_eq_true_eq] at hob
              exact hob.2.2
            clear hob
            dsimp only
            generalize takeE l1[k].log[m].data.toList = G at hnm ⊢
            rintro e w4 hr4
            obtain ⟨T, P, q, a4, n4, c4, rfl, hT, hb4⟩ := hr4.plain
            simp only
            obtain rfl : T = l1[k].name := str_ext (hT.trans hnm)
            clear hr4 hT hnm
            have HB4 := Lib.hid (bstep hb4 HB3.out)
            have HF4 := Lib.hid (HF3.out.grow hb4)
            have HW4 := Lib.hid (bstep hb4 HW3.out)
            have hz4 : b < w4.heap.size := Nat.lt_of_lt_of_le hz3 hb4.size
            clear hb4 f0 f1 f2 HR1
            go_upto_region 10 with fail
            refine wp_genC (fun v => Hid (Tops v (some ⟨b, o, none⟩) l1) ∧ Hid (EAt v w4.heap.size _ P q (.slice a4 n4 c4)) ∧ Hid (Below w.heap.size w v) ∧ Hid (Below w2.heap.size w2 v) ∧ w4.heap.size < v.heap.size) ⟨HF4.out.grow (balloc _ (.refl _ _)), EAt.of (new_box w4 #[.string _, .string P, .int .u64 q, .slice a4 n4 c4] 25), balloc _ HB4.out, balloc _ HW4.out, by simp⟩ ?_
            rintro w5 ⟨HF5, HX5, HB5, HW5, hz5⟩
            generalize hB4 : w4.heap.size = B4 at HX5 hz5 hz4 ⊢
            clear HF4 HB4 HW4 HB3 HW3 HF3 hB4
            obtain ⟨_, ⟨f0, f1, f2⟩, _⟩ := HF5.out.at hlt
            obtain ⟨x0, x1, x2, x3, x4, x5, x6, x7⟩ := HX5.out
            have y1 : IntKind.i64.wrap (l1[k].first + (l1[k].log.length : Int)) = l1[k].first + (l1[k].log.length : Int) := IntWalk.i64_in _ (by omega)
            go_upto_region 15 with fail
            refine Tryst2.wp_region_grows [.is (.int .i64 0), .is (.bool false), .is (.bool false), .is (.int .i64 (l1[k].first + (l1[k].log.length : Int))), .is (.slice (some ⟨b, o, none⟩) l1.length c1), .is (.int .i64 (k : Int)), .is (.pointer (some ⟨b, o + k * 3, none⟩)), .is (.pointer (some ⟨b, o + k * 3 + 1, none⟩)), .is (.int .i64 l1[k].first), .is (.slice (some ⟨b, o, none⟩) l1.length c1), .is (.int .i64 (k : Int)), .is (.pointer (some ⟨b, o + k * 3, none⟩)), .is (.pointer (some ⟨b, o + k * 3 + 2, none⟩)), .is (.slice l1[k].la l1[k].log.length l1[k].lc), .is (.int .i64 (l1[k].log.length : Int)), .is (.int .i64 (l1[k].first + (l1[k].log.length : Int))), .is (.bool false), .is (.bool false), .is (.bool false), .is (.int .i64 0), .is (.int .i64 0), .is (.bool false), .is (.bool false), .is (.bool false), .is (.int .i64 0), .is (.bool true), .is (.bool true), .is (.pointer (some ⟨B4, 0, none⟩)), .is (.string l1[k].name), .is (.slice (some ⟨b, o, none⟩) l1.length c1), .is (.int .i64 (k : Int)), .is (.pointer (some ⟨b, o + k * 3, none⟩)), .is (.pointer (some ⟨b, o + k * 3, none⟩)), .is (.string l1[k].name), .is (.bool false), .is (.bool false), .is (.bool false)] (by kernel_rfl) (by kernel_rfl) ?obl ?fin
            case obl =>
              simp only [Tryst2.AllObl, Tryst2.dstL, Tryst2.Obl, Tryst2.depsOf, Tryst2.binds_data, Tryst2.binds_chain, Tryst2.binds_phase, Tryst2.binds_guard, Tryst2.binds_text, Tryst2.binds_gc, Bool.false_eq_true, if_false, List.filterMap_cons_some, List.filterMap_cons_none, Tryst2.depsR, Tryst2.holdR, Tryst2.tmpsOf, Op.operands, Call.operands, Tryst2.Rsp.pred, Tryst2.wantedV_none, Tryst2.wantedV_some, if_true, List.map_cons, List.map_nil, List.length_map, List.take_succ_cons, List.take_zero, List.length_cons, List.length_nil, List.getElem?_cons_zero, List.getElem?_cons_succ, Option.bind_some, id, List.getD_cons_zero, List.getD_cons_succ, Tryst2.isDst, List.filterMap_cons, List.filterMap_nil, List.toList_toArray]
              repeat' apply And.intro
              any_goals trivial
              all_goals (intro tv w' hg hold hd; (try simp at hold); obtain ⟨hcg, hfg⟩ := Tryst2.Grow.cells hg; have hsg := Tryst2.Grow.le hg)
              all_goals first | (go_simp; done) | (go_simp; rw [if_neg (by omega)]; exact ⟨.refl _, rfl⟩) | (obtain ⟨⟨g, hvg, hgg, hcell⟩, _⟩ := hd; have hcell0 := hcell 0 (by decide); simp at hcell0; go_simp; done) 
            case fin =>
              intro tv w' hg hR
              simp only [Tryst2.allR, Tryst2.dstL, Tryst2.Rsp.pred, List.map_cons, List.map_nil, List.take_succ_cons, List.take_zero, List.length_cons, List.length_nil, List.tail_cons, List.toList_toArray] at hR
              obtain ⟨hcg, hfg⟩ := Tryst2.Grow.cells hg
              have hsg := Tryst2.Grow.le hg
              simp only [Tryst2.putAll, Tryst2.dstL, List.map_cons, List.map_nil, List.take_succ_cons, List.take_zero, List.length_cons, List.length_nil, List.toList_toArray, List.drop_succ_cons, List.drop_zero, Act.put, List.setIfInBounds_toArray, List.set_cons_zero, List.set_cons_succ, hR]
              have HW9 := Lib.hid (Tryst2.Grow.below hg HW5.out)
              clear hg hR hcg hfg hsg
              go_wp2_with fail
              go_roundw
              case rel => exact ⟨k + 1, by omega, by go_num, HW9⟩
              case measure => simp [intOf] <;> omega
      · go_wp2_with fail
        refine (HAW.out wo HBo.out).mono ?_
        rintro e w5 ⟨rfl, hb5⟩
        have HB5 := Lib.hid (bstep hb5 HBo.out)
        clear hb5
        go_wp2_with fail
        go_ret
        exact ⟨rfl, HB5.out⟩
end Go.Proofs.Ytcbnehplilpidaa
