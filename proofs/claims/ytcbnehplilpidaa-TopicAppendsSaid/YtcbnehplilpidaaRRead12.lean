/- The walk of ref12.Read. -/
import Derived.Test.YtcbnehplilpidaaProg
import Derived.WalkKit
import Derived.WalkSpells
import Derived.WalkLawsBesides
import Derived.Lib.Hide
import Derived.Deep.RegionWith
import Derived.Deep.Cut
import Derived.IntWalk
import Derived.Test.YtcbnehplilpidaaRMay12
import Derived.Test.YtcbnehplilpidaaTopE
import Derived.Test.YtcbnehplilpidaaEv3
set_option linter.unusedVariables false
set_option linter.unusedSimpArgs false
namespace Go.Proofs.Ytcbnehplilpidaa
open Go.RowKit Tryst
set_option maxHeartbeats 400000
set_option maxRecDepth 20000
def AggP (E : Ev) (v : Value) (w : World) : Prop := ∃ a c, v = .agg #[.string ⟨E.topic.toArray⟩, .string ⟨E.prod.toArray⟩, .int .u64 E.seq, .slice a E.l.length c] ∧ Flds w a (E.l.map fbOf) ∧ Sl a c E.l.length
def TupP (E : Ev) (k e : Nat) (v : Value) (w : World) : Prop := ∃ u, v = .tuple #[u, .int .i64 k, .int .i64 e] ∧ AggP E u w
theorem AggP.grow {E : Ev} {v : Value} {w w' : World} (h : AggP E v w) (hg : Tryst2.Grow w w') : AggP E v w' := by
  obtain ⟨a, c, h1, h2, h3⟩ := h
  exact ⟨a, c, h1, h2.grow hg, h3⟩
theorem AggP.at {E : Ev} {v : Value} {w' : World} (h : ∃ w0, Tryst2.Grow w0 w' ∧ AggP E v w0) : AggP E v w' := by
  obtain ⟨w0, hg, h⟩ := h
  exact h.grow hg
theorem TupP.at {E : Ev} {k e : Nat} {v : Value} {w' : World} (h : ∃ w0, Tryst2.Grow w0 w' ∧ TupP E k e v w0) : TupP E k e v w' := by
  obtain ⟨w0, hg, u, h1, h2⟩ := h
  exact ⟨u, h1, h2.grow hg⟩
theorem TupP.of {w w' : World} {E : Ev} {k e : Nat} {x : Ending} (h : TakeR w E k e x w') : ∃ v, x = .returned v ∧ Tryst2.Grow w w' ∧ ∃ w0, Tryst2.Grow w0 w' ∧ TupP E k e v w0 := by
  obtain ⟨a, c, rfl, h1, h2, h3⟩ := h
  exact ⟨_, rfl, h3, w', Tryst2.Grow.refl _, _, rfl, a, c, rfl, h1, h2⟩
set_option maxHeartbeats 16000000 in
theorem rread12_c (n : ByteArray) (x : Int) (hx1 : -9223372036854775808 ≤ x) (hx2 : x ≤ 9223372036854775807) (a : Option Addr) (c : Nat) (l : List TB) (hl : l.length ≤ 1000000000) (hI : TIn l) (hN : ∀ t ∈ l, t.name.size ≤ 1000000) (w : World) (hF : TopsA w a l) :
    Calls Try.prog 26 #[.slice a l.length c, .string n, .int .i64 x] w fun e w' => RdR w (readP (l.map TB.tp) n x).1 (readP (l.map TB.tp) n x).2 e w' := by
  have HC := Lib.hid (fun (W : World) (hF : TopsA W a l) => rmay12_c a c l hl hI hN W hF)
  have HFN := Lib.hid (fun (W : World) (hF : TopsA W a l) => rfind12_c n a c l hl W hF)
  have HF := Lib.hid hF
  have HI := Lib.hid hI
  obtain ⟨p, hp⟩ : ∃ p, readP (l.map TB.tp) n x = p := ⟨_, rfl⟩
  rw [hp]
  have HP := Lib.hid hp
  clear hF hI hp hN
  go_enter Try.func26, Try.ntmps26
  go_upto_region 1 with fail
  refine wp_genC (fun v => Hid (EAt v w.heap.size ⟨#[]⟩ ⟨#[]⟩ 0 (.slice none 0 0)) ∧ Hid (v.heap[w.heap.size]? = some (.cells #[.string ⟨#[]⟩, .string ⟨#[]⟩, .int .u64 0, .slice none 0 0] 25 (0, 0))) ∧ Hid (TopsA v a l) ∧ Hid (Below w.heap.size w v) ∧ w.heap.size < v.heap.size) ⟨EAt.of (new_box w #[.string ⟨#[]⟩, .string ⟨#[]⟩, .int .u64 0, .slice none 0 0] 25), new_box w #[.string ⟨#[]⟩, .string ⟨#[]⟩, .int .u64 0, .slice none 0 0] 25, HF.out.grow (balloc _ (.refl _ _)), balloc _ (.refl _ _), by simp⟩ ?_
  rintro w0 ⟨HE0, HH0, HF0, HB0, hz0⟩
  clear HF
  go_wp2_with fail
  refine (HC.out w0 HF0.out).mono ?_
  rintro e w1 ⟨rfl, hb1⟩
  have HE1 := Lib.hid (HE0.out.grow hz0 hb1)
  have HH1 := Lib.hid ((hb1.block w.heap.size hz0).trans HH0.out)
  have HF1 := Lib.hid (HF0.out.grow hb1)
  have HB1 := Lib.hid (bstep hb1 HB0.out)
  have hz1 : w.heap.size < w1.heap.size := Nat.lt_of_lt_of_le hz0 hb1.size
  clear hb1 HE0 HH0 HF0 HB0 HC
  obtain ⟨x0, x1, x2, x3, x4, x5, x6, x7⟩ := HE1.out
  cases hm : topsMay (l.map TB.tp) with
  | false =>
    obtain rfl : p = (Ev.zero, 1) := HP.out.symm.trans (by unfold readP; rw [hm]; rfl)
    clear hm HP
    go_wp2_with fail
    refine bodyPost_ret (v := .tuple #[.agg #[.string ⟨#[]⟩, .string ⟨#[]⟩, .int .u64 0, .slice none 0 0], .int .i64 1]) (by simp [results, Try.results26, go_sem, *]) rfl (RdR.zero rfl ?_)
    (repeat (first | with_reducible exact HB1.out | with_reducible refine balloc _ ?_ | with_reducible refine bset _ (by simp <;> omega) ?_))
  | true =>
    have HTM := Lib.hid hm
    clear hm
    go_wp2_with fail
    refine (HFN.out w1 HF1.out).mono ?_
    rintro e w2 ⟨rfl, hb2⟩
    have HE2 := Lib.hid (HE1.out.grow hz1 hb2)
    have HH2 := Lib.hid ((hb2.block w.heap.size hz1).trans HH1.out)
    have HF2 := Lib.hid (HF1.out.grow hb2)
    have HB2 := Lib.hid (bstep hb2 HB1.out)
    have hz2 : w.heap.size < w2.heap.size := Nat.lt_of_lt_of_le hz1 hb2.size
    clear hb2 HE1 HH1 HF1 HB1 HFN x0 x1 x2 x3 x4 x5 x6 x7
    obtain ⟨x0, x1, x2, x3, x4, x5, x6, x7⟩ := HE2.out
    unfold findR
    cases hf : findT (l.map TB.tp) n with
    | none =>
      obtain rfl : p = (Ev.zero, 4) := HP.out.symm.trans (by unfold readP; rw [if_pos HTM.out, hf])
      clear hf HP
      go_wp2_with fail
      refine bodyPost_ret (v := .tuple #[.agg #[.string ⟨#[]⟩, .string ⟨#[]⟩, .int .u64 0, .slice none 0 0], .int .i64 4]) (by simp [results, Try.results26, go_sem, *]) rfl (RdR.zero rfl ?_)
      (repeat (first | with_reducible exact HB2.out | with_reducible refine balloc _ ?_ | with_reducible refine bset _ (by simp <;> omega) ?_))
    | some i =>
      obtain ⟨hi, hn, ht⟩ := find_at HTM.out hf
      obtain ⟨q1, q2, q3, q4⟩ := tmay_parts ht
      have HP2 : Hid ((if x < l[i].first then (Ev.zero, 8) else if l[i].first + (l[i].log.length : Int) ≤ x then (Ev.zero, 9) else match l[i].log[(x - l[i].first).toNat]? with | none => (Ev.zero, 9) | some s => ((takeE s.data.toList).1, 0)) = p) := Lib.hid (by
        rw [← HP.out]
        unfold readP
        rw [if_pos HTM.out, hf]
        show _ = (match (l.map TB.tp)[i]? with | none => (Ev.zero, 4) | some t => _)
        rw [List.getElem?_map, List.getElem?_eq_getElem hi]
        rfl)
      have HIN := Lib.hid (HI.out l[i] (List.getElem_mem hi)).2.1
      obtain ⟨b, o, ha, hb⟩ := HF2.out.head hi
      obtain rfl : a = some ⟨b, o, none⟩ := ha
      obtain ⟨_, ⟨f0, f1, f2⟩, hS⟩ := HF2.out.at hi
      have HS := Lib.hid hS
      obtain ⟨nm, fs, la, lg, lc, hlk⟩ : ∃ nm fs la lg lc, l[i] = (⟨nm, fs, la, lg, lc⟩ : TB) := ⟨_, _, _, _, _, rfl⟩
      rw [hlk] at f0 f1 f2 HS HP2 HIN q1 q2 q3
      dsimp only at f0 f1 f2 HS HP2 HIN q1 q2 q3
      clear hf HP hn ht q4 hS hlk HI HTM
      have y0 : (i : Int) < l.length := by omega
      by_cases g1 : x < fs
      · obtain rfl : p = (Ev.zero, 8) := HP2.out.symm.trans (by rw [if_pos g1])
        clear HP2
        go_wp2_with fail
        refine bodyPost_ret (v := .tuple #[.agg #[.string ⟨#[]⟩, .string ⟨#[]⟩, .int .u64 0, .slice none 0 0], .int .i64 8]) (by simp [results, Try.results26, go_sem, *]) rfl (RdR.zero rfl ?_)
        (repeat (first | with_reducible exact HB2.out | with_reducible refine balloc _ ?_ | with_reducible refine bset _ (by simp <;> omega) ?_))
      · have y1 : IntKind.i64.wrap (fs + (lg.length : Int)) = fs + (lg.length : Int) := IntWalk.i64_in _ (by omega)
        go_upto_region 8 with fail
        by_cases g2 : fs + (lg.length : Int) ≤ x
        · obtain rfl : p = (Ev.zero, 9) := HP2.out.symm.trans (by rw [if_neg (by omega), if_pos (by omega)])
          clear HP2
          have y2 : decide (fs + (lg.length : Int) ≤ x) = true := decide_eq_true g2
          refine Tryst2.wp_region_grows [.is (.int .i64 x), .is (.slice (some ⟨b, o, none⟩) l.length c), .is (.int .i64 (i : Int)), .is (.pointer (some ⟨b, o + i * 3, none⟩)), .is (.pointer (some ⟨b, o + i * 3 + 1, none⟩)), .is (.int .i64 fs), .is (.slice (some ⟨b, o, none⟩) l.length c), .is (.int .i64 (i : Int)), .is (.pointer (some ⟨b, o + i * 3, none⟩)), .is (.pointer (some ⟨b, o + i * 3 + 2, none⟩)), .is (.slice la lg.length lc), .is (.int .i64 (lg.length : Int)), .is (.int .i64 (fs + (lg.length : Int))), .is (.bool true)] (by kernel_rfl) (by kernel_rfl) ?obl ?fin
          case obl =>
            simp only [Tryst2.AllObl, Tryst2.dstL, Tryst2.Obl, Tryst2.depsOf, Tryst2.binds_data, Tryst2.binds_chain, Tryst2.binds_phase, Tryst2.binds_guard, Tryst2.binds_text, Tryst2.binds_gc, Bool.false_eq_true, if_false, List.filterMap_cons_some, List.filterMap_cons_none, Tryst2.depsR, Tryst2.holdR, Tryst2.tmpsOf, Op.operands, Call.operands, Tryst2.Rsp.pred, Tryst2.wantedV_none, Tryst2.wantedV_some, if_true, List.map_cons, List.map_nil, List.length_map, List.take_succ_cons, List.take_zero, List.length_cons, List.length_nil, List.getElem?_cons_zero, List.getElem?_cons_succ, Option.bind_some, id, List.getD_cons_zero, List.getD_cons_succ, Tryst2.isDst, List.filterMap_cons, List.filterMap_nil, List.toList_toArray]
            repeat' apply And.intro
            any_goals trivial
            all_goals (intro tv w' hg hold hd; (try simp at hold); obtain ⟨hcg, hfg⟩ := Tryst2.Grow.cells hg; have hsg := Tryst2.Grow.le hg)
            all_goals first | (go_simp; done) | (go_simp; rw [if_neg (by omega)]; exact ⟨.refl _, rfl⟩) | (obtain ⟨⟨g, hvg, hgg, hcell⟩, _⟩ := hd; have hcell0 := hcell 0 (by decide); simp at hcell0; go_simp; done) 
          case fin =>
            intro tv w' hg hR
            simp only [Tryst2.allR, Tryst2.dstL, Tryst2.Rsp.pred, List.map_cons, List.map_nil, List.take_succ_cons, List.take_zero, List.length_cons, List.length_nil, List.tail_cons, List.toList_toArray] at hR
            obtain ⟨hcg, hfg⟩ := Tryst2.Grow.cells hg
            have hsg := Tryst2.Grow.le hg
            simp only [Tryst2.putAll, Tryst2.dstL, List.map_cons, List.map_nil, List.take_succ_cons, List.take_zero, List.length_cons, List.length_nil, List.toList_toArray, List.drop_succ_cons, List.drop_zero, Act.put, List.setIfInBounds_toArray, List.set_cons_zero, List.set_cons_succ, hR]
            have hbw := Tryst2.Grow.below hg (.refl w2.heap.size w2)
            have HE3 := Lib.hid (HE2.out.grow hz2 hbw)
            have HB3 := Lib.hid (bstep hbw HB2.out)
            have hz3 : w.heap.size < w'.heap.size := Nat.lt_of_lt_of_le hz2 hbw.size
            clear hg hR hcg hfg hsg hbw x0 x1 x2 x3 x4 x5 x6 x7 f0 f1 f2
            obtain ⟨x0, x1, x2, x3, x4, x5, x6, x7⟩ := HE3.out
            go_wp2_with fail
            refine bodyPost_ret (v := .tuple #[.agg #[.string ⟨#[]⟩, .string ⟨#[]⟩, .int .u64 0, .slice none 0 0], .int .i64 9]) (by simp [results, Try.results26, go_sem, *]) rfl (RdR.zero rfl ?_)
            (repeat (first | with_reducible exact HB3.out | with_reducible refine balloc _ ?_ | with_reducible refine bset _ (by simp <;> omega) ?_))
        · obtain ⟨m, hm⟩ : ∃ m : Nat, x = fs + m := ⟨(x - fs).toNat, by omega⟩
          subst hm
          have hlt : m < lg.length := by omega
          have hd : (fs + (m : Int) - fs).toNat = m := by omega
          have hp3 := HP2.out
          rw [if_neg (by omega), if_neg (by omega), hd, List.getElem?_eq_getElem hlt] at hp3
          dsimp only at hp3
          have hct := fun W => rtakeO_c lg[m] (HIN.out _ (List.getElem_mem hlt)) W
          generalize takeE lg[m].data.toList = q at hct hp3
          obtain ⟨E, kk, ee⟩ := q
          dsimp only at hct hp3
          obtain rfl : p = (E, 0) := hp3.symm
          have HCT := Lib.hid hct
          obtain ⟨b2, o2, ha2, hb2⟩ := HS.out.head hlt
          obtain rfl : la = some ⟨b2, o2, none⟩ := ha2
          obtain ⟨_, s0⟩ := HS.out.at hlt
          have y2 : decide (fs + (lg.length : Int) ≤ fs + (m : Int)) = false := decide_eq_false g2
          have y3 : fs + (m : Int) - fs = m := by omega
          have y4 : (m : Int) < lg.length := by omega
          clear hct hp3 HP2 hd
          refine Tryst2.wp_region_grows [.is (.int .i64 (fs + (m : Int))), .is (.slice (some ⟨b, o, none⟩) l.length c), .is (.int .i64 (i : Int)), .is (.pointer (some ⟨b, o + i * 3, none⟩)), .is (.pointer (some ⟨b, o + i * 3 + 1, none⟩)), .is (.int .i64 fs), .is (.slice (some ⟨b, o, none⟩) l.length c), .is (.int .i64 (i : Int)), .is (.pointer (some ⟨b, o + i * 3, none⟩)), .is (.pointer (some ⟨b, o + i * 3 + 2, none⟩)), .is (.slice (some ⟨b2, o2, none⟩) lg.length lc), .is (.int .i64 (lg.length : Int)), .is (.int .i64 (fs + (lg.length : Int))), .is (.bool false)] (by kernel_rfl) (by kernel_rfl) ?obl ?fin
          case obl =>
            simp only [Tryst2.AllObl, Tryst2.dstL, Tryst2.Obl, Tryst2.depsOf, Tryst2.binds_data, Tryst2.binds_chain, Tryst2.binds_phase, Tryst2.binds_guard, Tryst2.binds_text, Tryst2.binds_gc, Bool.false_eq_true, if_false, List.filterMap_cons_some, List.filterMap_cons_none, Tryst2.depsR, Tryst2.holdR, Tryst2.tmpsOf, Op.operands, Call.operands, Tryst2.Rsp.pred, Tryst2.wantedV_none, Tryst2.wantedV_some, if_true, List.map_cons, List.map_nil, List.length_map, List.take_succ_cons, List.take_zero, List.length_cons, List.length_nil, List.getElem?_cons_zero, List.getElem?_cons_succ, Option.bind_some, id, List.getD_cons_zero, List.getD_cons_succ, Tryst2.isDst, List.filterMap_cons, List.filterMap_nil, List.toList_toArray]
            repeat' apply And.intro
            any_goals trivial
            all_goals (intro tv w' hg hold hd; (try simp at hold); obtain ⟨hcg, hfg⟩ := Tryst2.Grow.cells hg; have hsg := Tryst2.Grow.le hg)
            all_goals first | (go_simp; done) | (go_simp; rw [if_neg (by omega)]; exact ⟨.refl _, rfl⟩) | (obtain ⟨⟨g, hvg, hgg, hcell⟩, _⟩ := hd; have hcell0 := hcell 0 (by decide); simp at hcell0; go_simp; done) 
          case fin =>
            intro tv w' hg hR
            simp only [Tryst2.allR, Tryst2.dstL, Tryst2.Rsp.pred, List.map_cons, List.map_nil, List.take_succ_cons, List.take_zero, List.length_cons, List.length_nil, List.tail_cons, List.toList_toArray] at hR
            obtain ⟨hcg, hfg⟩ := Tryst2.Grow.cells hg
            have hsg := Tryst2.Grow.le hg
            simp only [Tryst2.putAll, Tryst2.dstL, List.map_cons, List.map_nil, List.take_succ_cons, List.take_zero, List.length_cons, List.length_nil, List.toList_toArray, List.drop_succ_cons, List.drop_zero, Act.put, List.setIfInBounds_toArray, List.set_cons_zero, List.set_cons_succ, hR]
            have hbw := Tryst2.Grow.below hg (.refl w2.heap.size w2)
            have HE3 := Lib.hid (HE2.out.grow hz2 hbw)
            have HH3 := Lib.hid ((hbw.block w.heap.size hz2).trans HH2.out)
            have HF3 := Lib.hid (HF2.out.grow hbw)
            have HS3 := Lib.hid (HS.out.grow hbw)
            have HB3 := Lib.hid (bstep hbw HB2.out)
            have hz3 : w.heap.size < w'.heap.size := Nat.lt_of_lt_of_le hz2 hbw.size
            have hb3 : b < w'.heap.size := Nat.lt_of_lt_of_le hb hbw.size
            have f0' := (hbw.cell (p := ⟨b, o + i * 3, none⟩) hb).trans f0
            have f1' := (hbw.cell (p := ⟨b, o + i * 3 + 1, none⟩) hb).trans f1
            have f2' := (hbw.cell (p := ⟨b, o + i * 3 + 2, none⟩) hb).trans f2
            have s0' := (hbw.cell (p := ⟨b2, o2 + m, none⟩) hb2).trans s0
            have hb2' : b2 < w'.heap.size := Nat.lt_of_lt_of_le hb2 hbw.size
            obtain ⟨w3, rfl⟩ : ∃ v, v = w' := ⟨_, rfl⟩
            clear hg hR hcg hfg hsg hbw x0 x1 x2 x3 x4 x5 x6 x7 f0 f1 f2 s0 HE2 HH2 HF2 HS HB2
            go_upto_region 10 with fail
            have y5 : IntKind.i64.wrap (m : Int) = m := IntWalk.i64_in _ (by omega)
            refine cut_then (fun c' v => ∃ (g10 : Nat) (a5 : Option Addr) (c5 : Nat), c' = ⟨#[Value.slice (some (⟨b, o, none⟩ : Addr)) l.length c, Value.string n, Value.int IntKind.i64 (fs + (m : Int)), undef, undef, undef, Value.pointer (some (⟨w.heap.size, 0, none⟩ : Addr)), Value.int IntKind.i64 0, Value.int IntKind.i64 (i : Int), Value.bool true, Value.pointer (some ⟨g10, 0, none⟩), Value.int IntKind.i64 (kk : Int), Value.int IntKind.i64 (ee : Int), Value.slice (some (⟨b, o, none⟩ : Addr)) l.length c, Value.bool true, Value.bool false, undef, Value.tuple #[Value.int IntKind.i64 (i : Int), Value.bool true], Value.slice (some (⟨b, o, none⟩ : Addr)) l.length c, Value.string n, Value.tuple #[Value.int IntKind.i64 (i : Int), Value.bool true], Value.int IntKind.i64 (i : Int), Value.bool true, Value.bool true, Value.bool false, undef, Value.int IntKind.i64 (fs + (m : Int)), Value.slice (some (⟨b, o, none⟩ : Addr)) l.length c, Value.int IntKind.i64 (i : Int), Value.pointer (some (⟨b, o + i * 3, none⟩ : Addr)), Value.pointer (some (⟨b, o + i * 3 + 1, none⟩ : Addr)), Value.int IntKind.i64 fs, Value.bool (decide (fs + (m : Int) < fs)), undef, Value.int IntKind.i64 (fs + (m : Int)), Value.slice (some (⟨b, o, none⟩ : Addr)) l.length c, Value.int IntKind.i64 (i : Int), Value.pointer (some (⟨b, o + i * 3, none⟩ : Addr)), Value.pointer (some (⟨b, o + i * 3 + 1, none⟩ : Addr)), Value.int IntKind.i64 fs, Value.slice (some (⟨b, o, none⟩ : Addr)) l.length c, Value.int IntKind.i64 (i : Int), Value.pointer (some (⟨b, o + i * 3, none⟩ : Addr)), Value.pointer (some (⟨b, o + i * 3 + 2, none⟩ : Addr)), Value.slice (some (⟨b2, o2, none⟩ : Addr)) lg.length lc, Value.int IntKind.i64 (lg.length : Int), Value.int IntKind.i64 (fs + (lg.length : Int)), Value.bool false, undef, Value.tuple #[Value.agg #[Value.string (⟨E.topic.toArray⟩ : ByteArray), Value.string (⟨E.prod.toArray⟩ : ByteArray), Value.int IntKind.u64 (E.seq : Int), Value.slice a5 E.l.length c5], Value.int IntKind.i64 (kk : Int), Value.int IntKind.i64 (ee : Int)], Value.slice (some (⟨b, o, none⟩ : Addr)) l.length c, Value.int IntKind.i64 (i : Int), Value.pointer (some (⟨b, o + i * 3, none⟩ : Addr)), Value.pointer (some (⟨b, o + i * 3 + 2, none⟩ : Addr)), Value.slice (some (⟨b2, o2, none⟩ : Addr)) lg.length lc, Value.int IntKind.i64 (fs + (m : Int)), Value.slice (some (⟨b, o, none⟩ : Addr)) l.length c, Value.int IntKind.i64 (i : Int), Value.pointer (some (⟨b, o + i * 3, none⟩ : Addr)), Value.pointer (some (⟨b, o + i * 3 + 1, none⟩ : Addr)), Value.int IntKind.i64 fs, Value.int IntKind.i64 (m : Int), Value.pointer (some (⟨b2, o2 + m, none⟩ : Addr)), Value.string lg[m], Value.tuple #[Value.agg #[Value.string (⟨E.topic.toArray⟩ : ByteArray), Value.string (⟨E.prod.toArray⟩ : ByteArray), Value.int IntKind.u64 (E.seq : Int), Value.slice a5 E.l.length c5], Value.int IntKind.i64 (kk : Int), Value.int IntKind.i64 (ee : Int)], Value.agg #[Value.string (⟨E.topic.toArray⟩ : ByteArray), Value.string (⟨E.prod.toArray⟩ : ByteArray), Value.int IntKind.u64 (E.seq : Int), Value.slice a5 E.l.length c5], Value.int IntKind.i64 (kk : Int), Value.int IntKind.i64 (ee : Int), undef], []⟩ ∧ Hid (EAt v w.heap.size ⟨#[]⟩ ⟨#[]⟩ 0 (.slice none 0 0)) ∧ Hid (EAt v g10 ⟨E.topic.toArray⟩ ⟨E.prod.toArray⟩ E.seq (.slice a5 E.l.length c5)) ∧ Hid (Flds v a5 (E.l.map fbOf)) ∧ Hid (Sl a5 c5 E.l.length) ∧ Hid (∀ b o, a5 = some ⟨b, o, none⟩ → w.heap.size ≠ b) ∧ Hid (Below w.heap.size w v) ∧ w.heap.size < v.heap.size ∧ g10 < v.heap.size) ?_ ?_
            case refine_1 =>
              go_region_with (go_at_call 61; refine (HCT.out _).mono ?_; rintro x w5 ⟨a5, c5, rfl, f5, s5, o5, hb5⟩; obtain ⟨hc5, hf5⟩ := bcell hb5; have hsz5 := hb5.size; simp at hsz5)
              all_goals
                have hbw5 : Below w3.heap.size w3 w5 := by
                  refine bstep hb5 ?_
                  (repeat (first | exact Below.refl _ _ | refine bdrew ?_ | refine balloc _ ?_))
                have hE5 : EAt w5 w.heap.size ⟨#[]⟩ ⟨#[]⟩ 0 (.slice none 0 0) := HE3.out.grow hz3 hbw5
                have hB5 : Below w.heap.size w w5 := bstep hbw5 HB3.out
                have hz5 : w.heap.size < w5.heap.size := by omega
                have o6 : ∀ b o, a5 = some ⟨b, o, none⟩ → w3.heap.size ≤ b ∧ b < w5.heap.size := fun b o h => by
                  have h1 := o5 b o h
                  simp at h1
                  exact ⟨by omega, by omega⟩
                refine ⟨_, a5, c5, rfl, ?_, ?_, ?_, s5, (fun b o h => by have h1 := o6 b o h; omega), ?_, ?_, ?_⟩
                · show EAt _ _ _ _ _ _
                  first
                  | with_reducible exact hE5.grow hz5 (balloc _ (.refl _ _))
                  | with_reducible exact hE5.otherAll (by omega)
                · show EAt _ _ _ _ _ _
                  first
                  | with_reducible exact EAt.of (new_box w5 _ _)
                  | exact EAt.setAll ((EAt.of (new_box w3 #[.string ⟨#[]⟩, .string ⟨#[]⟩, .int .u64 0, .slice none 0 0] 25)).grow (by simp) (bstep hb5 (bdrew (.refl _ _))))
                  | exact EAt.setAll ((EAt.of (new_box w3 #[.string ⟨#[]⟩, .string ⟨#[]⟩, .int .u64 0, .slice none 0 0] 25)).grow (by simp) hb5)
                  | exact EAt.setAll ((EAt.of (new_box w3.drew #[.string ⟨#[]⟩, .string ⟨#[]⟩, .int .u64 0, .slice none 0 0] 25)).grow (by simp) hb5)
                · show Flds _ _ _
                  first
                  | with_reducible exact f5.grow (balloc _ (.refl _ _))
                  | (have o7 : ∀ b o, a5 = some ⟨b, o, none⟩ → w3.heap.size ≠ b := fun b o h => by
                       have h1 := o5 b o h
                       simp at h1
                       omega
                     exact (((f5.away o7 _).away o7 _).away o7 _).away o7 _)
                · show Below _ _ _
                  first
                  | with_reducible exact balloc _ hB5
                  | exact bset _ (by show w.heap.size ≤ w3.heap.size; omega) (bset _ (by show w.heap.size ≤ w3.heap.size; omega) (bset _ (by show w.heap.size ≤ w3.heap.size; omega) (bset _ (by show w.heap.size ≤ w3.heap.size; omega) hB5)))
                · simp <;> omega
                · simp <;> omega
            case refine_2 =>
              rintro c' v ⟨g10, a5, c5, rfl, HE6, HG6, F6, S6, O6, B6, hz6, hg6⟩
              obtain ⟨k0, k1, k2, k3, k4, k5, k6, k7⟩ := HE6.out
              obtain ⟨j0, j1, j2, j3, j4, j5, j6, j7⟩ := HG6.out
              go_wp2_with fail
              refine bodyPost_ret (v := .tuple #[.agg #[.string ⟨E.topic.toArray⟩, .string ⟨E.prod.toArray⟩, .int .u64 E.seq, .slice a5 E.l.length c5], .int .i64 0]) (by simp [results, Try.results26, go_sem, *]) rfl ⟨a5, c5, rfl, (((F6.out.away O6.out _).away O6.out _).away O6.out _).away O6.out _, S6.out, ?_⟩
              (repeat (first | with_reducible exact B6.out | with_reducible refine balloc _ ?_ | with_reducible refine bset _ (by simp <;> omega) ?_))
end Go.Proofs.Ytcbnehplilpidaa
