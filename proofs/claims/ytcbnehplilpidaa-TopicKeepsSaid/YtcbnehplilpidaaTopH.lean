/- The walk of topic.Trim. -/
import Derived.Test.YtcbnehplilpidaaProg
import Derived.WalkKit
import Derived.WalkSpells
import Derived.WalkLawsBesides
import Derived.Lib.Hide
import Derived.Deep.RegionWith
import Derived.Deep.Cut
import Derived.IntWalk
import Derived.Test.YtcbnehplilpidaaTopG
import Derived.Test.YtcbnehplilpidaaTopD
set_option linter.unusedVariables false
set_option linter.unusedSimpArgs false
namespace Go.Proofs.Ytcbnehplilpidaa
open Go.RowKit Tryst
set_option maxHeartbeats 400000
set_option maxRecDepth 20000
def trimT (t : Tp) (u : Int) : Tp := if t.first < u then ⟨t.name, u, t.log.drop (u - t.first).toNat⟩ else t
def trimP (L : List Tp) (n : ByteArray) (u : Int) : List Tp × Nat :=
  if topsMay L = true then match findT L n with
    | none => ([], 4)
    | some i => match L[i]? with
      | none => ([], 4)
      | some t => if u < 0 ∨ t.first + (t.log.length : Int) < u then ([], 1) else (L.set i (trimT t u), 0)
  else ([], 1)
/-- topics, and an error's number -/
def TopsR (w : World) (p : List Tp × Nat) (e : Ending) (w' : World) : Prop := ∃ a c l', e = .returned (.tuple #[.slice a p.1.length c, .int .i64 p.2]) ∧ l'.map TB.tp = p.1 ∧ Tops w' a l' ∧ Sl a c p.1.length ∧ Below w.heap.size w w'
theorem TopsR.bad {w w' : World} {k : Nat} {e : Ending} (he : e = .returned (.tuple #[.slice none 0 0, .int .i64 k])) (hb : Below w.heap.size w w') : TopsR w ([], k) e w' :=
  ⟨none, 0, [], he, rfl, Tops.nil _ _, ⟨Nat.le_refl _, fun A h => (by cases h), fun _ => rfl⟩, hb⟩
theorem rows_strs {w : World} {base : Nat} {a : Option Addr} {n c : Nat} {log : List ByteArray} (h : ROwn 9 1 w base (.slice a n c) (log.map fun s => [Value.string s])) : Strs w a log ∧ Sl a c log.length := by
  have h2 : SOwn 9 w base (.slice a n c) log := SOwn.rows.2 h
  obtain ⟨a', c', hv, h3, h4, _⟩ := h2.strs
  simp only [Value.slice.injEq] at hv
  obtain ⟨rfl, rfl, rfl⟩ := hv
  exact ⟨h3, h4⟩
theorem TOwn.tops {w : World} {base : Nat} {a : Option Addr} {n c : Nat} {l : List TB} (h : TOwn w base (.slice a n c) l) (hl : TLogs w l) : Tops w a l ∧ Sl a c l.length ∧ n = l.length := by
  obtain ⟨a', c', hv, h1, h2, _⟩ := ROwn.row h (TB.cells_len l) (by decide)
  rw [List.length_map] at hv h2
  simp only [Value.slice.injEq] at hv
  obtain ⟨rfl, rfl, rfl⟩ := hv
  exact ⟨⟨h1, hl⟩, h2, rfl⟩
theorem TLogO.logs {w : World} {base : Nat} {l : List TB} {k : Nat} (h : TLogO w base l k) (hk : l.length ≤ k) : TLogs w l := by
  intro t ht
  obtain ⟨i, hi, rfl⟩ := List.getElem_of_mem ht
  exact rows_strs (h i hi (by omega))
/-- a topic of the call's own gets another first number and another log -/
theorem TOwn.put2 {w : World} {base : Nat} {v : Value} {l : List TB} (h : TOwn w base v l) {g : Nat} {n c : Nat} (hv : v = .slice (some ⟨g, 0, none⟩) n c) {i : Nat} (hi : i < l.length) (f : Int) (a : Option Addr) (lg : List ByteArray) (c' : Nat) :
    TOwn ((w.setCell ⟨g, i * 3 + 2, none⟩ (.slice a lg.length c')).setCell ⟨g, i * 3 + 1, none⟩ (.int .i64 f)) base v (l.set i ⟨l[i].name, f, a, lg, c'⟩) := by
  have hlen := TB.cells_len l
  obtain ⟨g1, c1, hv1, _, _, _, _, h5⟩ := ROwn.block h hlen (by simpa using (by omega : 0 < l.length))
  rw [hv] at hv1
  simp only [Value.slice.injEq, Option.some.injEq, Addr.mk.injEq, and_true] at hv1
  obtain ⟨rfl, _⟩ := hv1
  have h6 := h5 i (by simpa using hi) 2 (by omega) (.slice a lg.length c')
  have e1 : (l.map TB.cells).set i (((l.map TB.cells)[i]'(by simpa using hi)).set 2 (.slice a lg.length c')) = (l.set i ⟨l[i].name, l[i].first, a, lg, c'⟩).map TB.cells := by
    rw [List.map_set, List.getElem_map]
    rfl
  rw [e1] at h6
  obtain ⟨g2, c2, hv2, _, _, _, _, h7⟩ := ROwn.block h6 (TB.cells_len _) (by rw [List.length_map, List.length_set]; omega)
  rw [hv] at hv2
  simp only [Value.slice.injEq, Option.some.injEq, Addr.mk.injEq, and_true] at hv2
  obtain ⟨rfl, _⟩ := hv2
  have h8 := h7 i (by simpa using hi) 1 (by omega) (.int .i64 f)
  have e2 : ((l.set i ⟨l[i].name, l[i].first, a, lg, c'⟩).map TB.cells).set i ((((l.set i ⟨l[i].name, l[i].first, a, lg, c'⟩).map TB.cells)[i]'(by simpa using hi)).set 1 (.int .i64 f)) = (l.set i ⟨l[i].name, f, a, lg, c'⟩).map TB.cells := by
    rw [List.getElem_map, List.getElem_set_self]
    show ((l.set i ⟨l[i].name, l[i].first, a, lg, c'⟩).map TB.cells).set i (TB.cells ⟨l[i].name, f, a, lg, c'⟩) = _
    rw [← List.map_set, List.set_set]
  rw [e2] at h8
  exact h8
/-- its logs then -/
theorem TLogO.put {w : World} {base : Nat} {l : List TB} (h : TLogO w base l l.length) {g j j' : Nat} {cur : Array Value} (hg : w.heap[g]? = some (.cells cur 74 (0, 0))) (u u' : Value) {i : Nat} {t : TB} (ht : Strs w t.la t.log ∧ Sl t.la t.lc t.log.length) (ha : ∀ b o, t.la = some ⟨b, o, none⟩ → g ≠ b) :
    TLogs ((w.setCell ⟨g, j, none⟩ u).setCell ⟨g, j', none⟩ u') (l.set i t) := by
  intro x hx
  obtain ⟨k, hk, rfl⟩ := List.getElem_of_mem hx
  rw [List.length_set] at hk
  by_cases e : i = k
  · subst e
    rw [List.getElem_set_self]
    exact ⟨(ht.1.away ha u).away ha u', ht.2⟩
  · rw [List.getElem_set_ne e]
    have h1 := h k hk hk
    have hne := typed_ne h1 hg (by decide)
    exact rows_strs (own_setCell_off (own_setCell_off h1 u hne) u' hne)
set_option maxHeartbeats 2000000 in
theorem ttrim_c (n : ByteArray) (u : Int) (hu1 : -9223372036854775808 ≤ u) (hu2 : u ≤ 9223372036854775807) (a : Option Addr) (c : Nat) (l : List TB) (hl : l.length ≤ 1000000000) (hI : TIn l) (w : World) (hM : MaxW w) (hF : Tops w a l) (hS : Sl a c l.length) :
    Calls Try.prog 27 #[.slice a l.length c, .string n, .int .i64 u] w fun e w' => TopsR w (trimP (l.map TB.tp) n u) e w' := by
  have HC := Lib.hid (task_c n a c l hl hI w hM hF)
  have HCL := Lib.hid (fun W hF => tclone_c a c l hl (fun t ht => (hI t ht).2.2.1) W hF hS)
  have HF := Lib.hid hF
  obtain ⟨p, hp⟩ : ∃ p, trimP (l.map TB.tp) n u = p := ⟨_, rfl⟩
  rw [hp]
  have HP := Lib.hid hp
  clear hM hF hI hp hS
  cases hm : topsMay (l.map TB.tp) with
  | false =>
    obtain rfl : p = ([], 1) := HP.out.symm.trans (by unfold trimP; rw [hm]; rfl)
    have HC2 := Lib.hid (askP_bad (n := n) hm ▸ HC.out)
    clear hm HC HP
    go_enter Try.func27, Try.ntmps27
    go_wp2_with fail
    refine HC2.out.mono ?_
    rintro e w1 ⟨rfl, hb1⟩
    go_wp2_with fail
    go_ret2
    exact TopsR.bad rfl hb1
  | true =>
    cases hf : findT (l.map TB.tp) n with
    | none =>
      obtain rfl : p = ([], 4) := HP.out.symm.trans (by unfold trimP; rw [if_pos hm, hf])
      have HC2 := Lib.hid (askP_none hm hf ▸ HC.out)
      clear hm hf HC HP
      go_enter Try.func27, Try.ntmps27
      go_wp2_with fail
      refine HC2.out.mono ?_
      rintro e w1 ⟨rfl, hb1⟩
      go_wp2_with fail
      go_ret2
      exact TopsR.bad rfl hb1
    | some i =>
      obtain ⟨hi, hn, ht⟩ := find_at hm hf
      obtain ⟨q1, q2, q3, _⟩ := tmay_parts ht
      have HP2 : Hid ((if u < 0 ∨ l[i].first + (l[i].log.length : Int) < u then ([], 1) else ((l.map TB.tp).set i (trimT l[i].tp u), 0)) = p) := Lib.hid (by
        rw [← HP.out]
        unfold trimP
        rw [if_pos hm, hf]
        show _ = (match (l.map TB.tp)[i]? with | none => ([], 4) | some t => _)
        rw [List.getElem?_map, List.getElem?_eq_getElem hi]
        rfl)
      have HC2 := Lib.hid (askP_ok hm hf ▸ HC.out)
      clear hm hf HC HP hn ht
      obtain ⟨b, o, ha, hb⟩ := HF.out.head hi
      subst ha
      go_enter Try.func27, Try.ntmps27
      go_wp2_with fail
      refine HC2.out.mono ?_
      rintro e w1 ⟨rfl, hb1⟩
      have HF1 := Lib.hid (HF.out.grow hb1)
      have HB1 := Lib.hid hb1
      have hz : b < w1.heap.size := Nat.lt_of_lt_of_le hb hb1.size
      clear hb1 HF HC2
      obtain ⟨_, ⟨f0, f1, f2⟩, _⟩ := HF1.out.at hi
      have y1 : ¬ ((i : Int) < 0) := by omega
      by_cases g1 : u < 0
      · obtain rfl : p = ([], 1) := HP2.out.symm.trans (by rw [if_pos (.inl g1)])
        go_wp2_with fail
        go_ret2
        exact TopsR.bad rfl HB1.out
      · go_wp2_with fail
        refine (tend_c l[i] q1 (by omega) (by omega) w1).mono ?_
        rintro e w2 ⟨rfl, hb2⟩
        have HB2 := Lib.hid (bstep hb2 HB1.out)
        have HF2 := Lib.hid (HF1.out.grow hb2)
        clear hb2 HF1 HB1 f0 f1 f2 hz
        by_cases g2 : l[i].first + (l[i].log.length : Int) < u
        · obtain rfl : p = ([], 1) := HP2.out.symm.trans (by rw [if_pos (.inr g2)])
          go_wp2_with fail
          go_ret2
          exact TopsR.bad rfl HB2.out
        · have HP3 : Hid (((l.map TB.tp).set i (trimT l[i].tp u), 0) = p) := Lib.hid (by rw [← HP2.out, if_neg (by omega)])
          go_wp2_with fail
          refine (HCL.out w2 HF2.out).mono ?_
          rintro e w3 ⟨a3, c3, l3, rfl, hl3, ht3, ho3, hg3, hb3⟩
          have HB3 := Lib.hid (bstep hb3 HB2.out)
          have hi3 : i < l3.length := by omega
          obtain ⟨g, c', hv, k1, k2, k3, ⟨cur, k4⟩, k5, _⟩ := TOwn.block ho3 (by omega)
          simp only [Value.slice.injEq] at hv
          have hv1 := hv.1
          clear hv
          subst hv1
          obtain ⟨e0, e1, e2⟩ := k5 i hi3
          have hti : l3[i].tp = l[i].tp := by
            have h6 : (l3.map TB.tp)[i]'(by simpa using hi3) = (l.map TB.tp)[i]'(by simpa using hi) := by simp only [ht3]
            simpa using h6
          have hfi : l3[i].first = l[i].first := congrArg Tp.first hti
          have hlo : l3[i].log = l[i].log := congrArg Tp.log hti
          rw [hfi] at e1
          rw [hlo] at e2
          have HTI := Lib.hid hti
          have HLO := Lib.hid hlo
          have HT3 := Lib.hid ht3
          have HO3 := Lib.hid ho3
          have HG3 := Lib.hid hg3
          have HL3 := Lib.hid hl3
          clear hti hfi hlo ht3 ho3 hg3 hb3 k5 hl3
          by_cases g3 : l[i].first < u
          · obtain ⟨m, hm⟩ : ∃ m : Nat, u = l[i].first + m := ⟨(u - l[i].first).toNat, by omega⟩
            have hm1 : 1 ≤ m := by omega
            have hm2 : m ≤ l[i].log.length := by omega
            have hd : (u - l[i].first).toNat = m := by omega
            obtain rfl : p = ((l.map TB.tp).set i ⟨l[i].name, u, l[i].log.drop m⟩, 0) := HP3.out.symm.trans (by
              unfold trimT
              rw [show l[i].tp.first = l[i].first from rfl, if_pos g3, hd]
              rfl)
            have hgi := HG3.out i hi3 (by omega)
            have hnb := typed_ne hgi k4 (by decide)
            obtain ⟨hs1, hs2⟩ := rows_strs hgi
            rw [HLO.out] at hs1 hs2 hnb
            obtain ⟨h, oo, hla, hh⟩ := hs1.head (show 0 < l[i].log.length by omega)
            have hgh : g ≠ h := fun e => hnb ⟨h, oo, none⟩ _ _ (by rw [hla]) e.symm
            have hni : l3[i].name = l[i].name := congrArg Tp.name HTI.out
            have HNI := Lib.hid hni
            have hcap := hs2.cap
            generalize hlc : l3[i].lc = C at e2 hs2 hcap
            rw [hla] at e2 hs1 hs2
            have HS1 := Lib.hid hs1
            have k6 := k3 (i * 3 + 2)
            have k7 := k3 (i * 3 + 1)
            clear hgi hnb hla hni hs1 hs2 hd HP2 HP3 HCL k3 hlc
            subst hm
            by_cases hC : C = m
            · subst hC
              go_upto_region 9 with fail
              refine Tryst2.wp_region_grows [.is (.pointer (some ⟨g, i * 3, none⟩)), .is (.pointer (some ⟨g, i * 3, none⟩)), .is (.pointer (some ⟨g, i * 3, none⟩)), .is (.pointer (some ⟨g, i * 3 + 2, none⟩)), .is (.slice (some ⟨h, oo, none⟩) l[i].log.length C), .is (.int .i64 (l[i].first + C)), .is (.pointer (some ⟨g, i * 3, none⟩)), .is (.pointer (some ⟨g, i * 3, none⟩)), .is (.pointer (some ⟨g, i * 3 + 1, none⟩)), .is (.int .i64 l[i].first), .is (.int .i64 C), .is (.slice (some ⟨h, oo, none⟩) ((l[i].log.length - C)) (0)), .is (.pointer (some ⟨g, i * 3, none⟩)), .is (.pointer (some ⟨g, i * 3 + 2, none⟩))] (by kernel_rfl) (by kernel_rfl) ?obl ?fin
              case obl =>
                simp only [Tryst2.AllObl, Tryst2.dstL, Tryst2.Obl, Tryst2.depsOf, Tryst2.binds_data, Tryst2.binds_chain, Tryst2.binds_phase, Tryst2.binds_guard, Tryst2.binds_text, Tryst2.binds_gc, Bool.false_eq_true, if_false, List.filterMap_cons_some, List.filterMap_cons_none, Tryst2.depsR, Tryst2.holdR, Tryst2.tmpsOf, Op.operands, Call.operands, Tryst2.Rsp.pred, Tryst2.wantedV_none, Tryst2.wantedV_some, if_true, List.map_cons, List.map_nil, List.length_map, List.take_succ_cons, List.take_zero, List.length_cons, List.length_nil, List.getElem?_cons_zero, List.getElem?_cons_succ, Option.bind_some, id, List.getD_cons_zero, List.getD_cons_succ, Tryst2.isDst, List.filterMap_cons, List.filterMap_nil, List.toList_toArray]
                repeat' apply And.intro
                any_goals trivial
                all_goals (intro tv w' hg hold hd; (try simp at hold); obtain ⟨hcg, hfg⟩ := Tryst2.Grow.cells hg; have hsg := Tryst2.Grow.le hg)
                all_goals first | (go_simp; done) | (go_simp; rw [if_neg (by omega)]; exact ⟨.refl _, rfl⟩) | (obtain ⟨⟨g, hvg, hgg, hcell⟩, _⟩ := hd; have hcell0 := hcell 0 (by decide); simp at hcell0; go_simp; done) | (go_simp; rw [IntWalk.i64_in _ (by omega)]; omega)
              case fin =>
                intro tv w' hg hR
                simp only [Tryst2.allR, Tryst2.dstL, Tryst2.Rsp.pred, List.map_cons, List.map_nil, List.take_succ_cons, List.take_zero, List.length_cons, List.length_nil, List.tail_cons, List.toList_toArray] at hR
                obtain ⟨hcg, hfg⟩ := Tryst2.Grow.cells hg
                have hsg := Tryst2.Grow.le hg
                simp only [Tryst2.putAll, Tryst2.dstL, List.map_cons, List.map_nil, List.take_succ_cons, List.take_zero, List.length_cons, List.length_nil, List.toList_toArray, List.drop_succ_cons, List.drop_zero, Act.put, List.setIfInBounds_toArray, List.set_cons_zero, List.set_cons_succ, hR]
                have hbw := Tryst2.Grow.below hg (.refl w3.heap.size w3)
                have hO := (HO3.out.grow hbw).put2 rfl hi3 (l[i].first + C) (some ⟨h, oo, none⟩) (l[i].log.drop C) (0)
                have hG := HG3.out.grow hbw
                have hG2 := TLogO.put (l := l3) (g := g) (j := i * 3 + 2) (j' := i * 3 + 1) (i := i) (t := ⟨l3[i].name, l[i].first + C, some ⟨h, oo, none⟩, l[i].log.drop C, 0⟩) (by rw [HL3.out]; exact hG) ((hbw.block g k2).trans k4) (.slice (some ⟨h, oo, none⟩) (l[i].log.drop C).length (0)) (.int .i64 (l[i].first + C)) ⟨(by rw [List.drop_eq_nil_of_le (by omega)]; exact Strs.nil _ _), ⟨by simp; omega, fun A h => (by cases h; rfl), fun h => (by cases h)⟩⟩ (fun b o hb => by cases hb; exact hgh)
                obtain ⟨h7, h8, h9⟩ := hO.tops hG2
                rw [List.length_drop] at h7
                rw [show l[i].log.length - C = 0 by omega] at h7
                rw [List.length_set, HL3.out] at h8
                have H7 := Lib.hid h7
                have H8 := Lib.hid h8
                have HBW := Lib.hid (bstep hbw HB3.out)
                have hgw : g < w'.heap.size := Nat.lt_of_lt_of_le k2 hbw.size
                have hwg : w.heap.size ≤ g := Nat.le_trans HB2.out.size k1
                have HMP : Hid ((l3.set i ⟨l3[i].name, l[i].first + C, some ⟨h, oo, none⟩, l[i].log.drop C, 0⟩).map TB.tp = (l.map TB.tp).set i ⟨l[i].name, l[i].first + C, l[i].log.drop C⟩) := Lib.hid (by
                  rw [List.map_set, HT3.out, ← HNI.out]
                  rfl)
                clear hO hG hG2 h7 h8 h9 hbw hg hR hsg
                go_wp2_with fail
                go_ret2
                refine ⟨some ⟨g, 0, none⟩, c3, _, ?_, HMP.out, H7.out, ?_, ?_⟩
                · show Ending.returned _ = Ending.returned (.tuple #[.slice _ ((l.map TB.tp).set i _).length _, .int .i64 ((0 : Nat) : Int)])
                  rw [List.length_set, List.length_map]
                  rfl
                · show Sl _ _ ((l.map TB.tp).set i _).length
                  rw [List.length_set, List.length_map]; exact H8.out
                · exact bset _ (by show w.heap.size ≤ g; omega) (bset _ (by show w.heap.size ≤ g; omega) HBW.out)
            · go_upto_region 9 with fail
              refine Tryst2.wp_region_grows [.is (.pointer (some ⟨g, i * 3, none⟩)), .is (.pointer (some ⟨g, i * 3, none⟩)), .is (.pointer (some ⟨g, i * 3, none⟩)), .is (.pointer (some ⟨g, i * 3 + 2, none⟩)), .is (.slice (some ⟨h, oo, none⟩) l[i].log.length C), .is (.int .i64 (l[i].first + m)), .is (.pointer (some ⟨g, i * 3, none⟩)), .is (.pointer (some ⟨g, i * 3, none⟩)), .is (.pointer (some ⟨g, i * 3 + 1, none⟩)), .is (.int .i64 l[i].first), .is (.int .i64 m), .is (.slice (some ⟨h, oo + m, none⟩) ((l[i].log.length - m)) ((C - m))), .is (.pointer (some ⟨g, i * 3, none⟩)), .is (.pointer (some ⟨g, i * 3 + 2, none⟩))] (by kernel_rfl) (by kernel_rfl) ?obl ?fin
              case obl =>
                simp only [Tryst2.AllObl, Tryst2.dstL, Tryst2.Obl, Tryst2.depsOf, Tryst2.binds_data, Tryst2.binds_chain, Tryst2.binds_phase, Tryst2.binds_guard, Tryst2.binds_text, Tryst2.binds_gc, Bool.false_eq_true, if_false, List.filterMap_cons_some, List.filterMap_cons_none, Tryst2.depsR, Tryst2.holdR, Tryst2.tmpsOf, Op.operands, Call.operands, Tryst2.Rsp.pred, Tryst2.wantedV_none, Tryst2.wantedV_some, if_true, List.map_cons, List.map_nil, List.length_map, List.take_succ_cons, List.take_zero, List.length_cons, List.length_nil, List.getElem?_cons_zero, List.getElem?_cons_succ, Option.bind_some, id, List.getD_cons_zero, List.getD_cons_succ, Tryst2.isDst, List.filterMap_cons, List.filterMap_nil, List.toList_toArray]
                repeat' apply And.intro
                any_goals trivial
                all_goals (intro tv w' hg hold hd; (try simp at hold); obtain ⟨hcg, hfg⟩ := Tryst2.Grow.cells hg; have hsg := Tryst2.Grow.le hg)
                all_goals first | (go_simp; done) | (go_simp; rw [if_neg (by omega)]; exact ⟨.refl _, rfl⟩) | (obtain ⟨⟨g, hvg, hgg, hcell⟩, _⟩ := hd; have hcell0 := hcell 0 (by decide); simp at hcell0; go_simp; done) | (go_simp; rw [IntWalk.i64_in _ (by omega)]; omega)
              case fin =>
                intro tv w' hg hR
                simp only [Tryst2.allR, Tryst2.dstL, Tryst2.Rsp.pred, List.map_cons, List.map_nil, List.take_succ_cons, List.take_zero, List.length_cons, List.length_nil, List.tail_cons, List.toList_toArray] at hR
                obtain ⟨hcg, hfg⟩ := Tryst2.Grow.cells hg
                have hsg := Tryst2.Grow.le hg
                simp only [Tryst2.putAll, Tryst2.dstL, List.map_cons, List.map_nil, List.take_succ_cons, List.take_zero, List.length_cons, List.length_nil, List.toList_toArray, List.drop_succ_cons, List.drop_zero, Act.put, List.setIfInBounds_toArray, List.set_cons_zero, List.set_cons_succ, hR]
                have hbw := Tryst2.Grow.below hg (.refl w3.heap.size w3)
                have hO := (HO3.out.grow hbw).put2 rfl hi3 (l[i].first + m) (some ⟨h, oo + m, none⟩) (l[i].log.drop m) ((C - m))
                have hG := HG3.out.grow hbw
                have hG2 := TLogO.put (l := l3) (g := g) (j := i * 3 + 2) (j' := i * 3 + 1) (i := i) (t := ⟨l3[i].name, l[i].first + m, some ⟨h, oo + m, none⟩, l[i].log.drop m, (C - m)⟩) (by rw [HL3.out]; exact hG) ((hbw.block g k2).trans k4) (.slice (some ⟨h, oo + m, none⟩) (l[i].log.drop m).length ((C - m))) (.int .i64 (l[i].first + m)) ⟨((HS1.out.grow hbw).drop m), ⟨by simp; omega, fun A h => (by cases h; rfl), fun h => (by cases h)⟩⟩ (fun b o hb => by cases hb; exact hgh)
                obtain ⟨h7, h8, h9⟩ := hO.tops hG2
                rw [List.length_drop] at h7
                skip
                rw [List.length_set, HL3.out] at h8
                have H7 := Lib.hid h7
                have H8 := Lib.hid h8
                have HBW := Lib.hid (bstep hbw HB3.out)
                have hgw : g < w'.heap.size := Nat.lt_of_lt_of_le k2 hbw.size
                have hwg : w.heap.size ≤ g := Nat.le_trans HB2.out.size k1
                have HMP : Hid ((l3.set i ⟨l3[i].name, l[i].first + m, some ⟨h, oo + m, none⟩, l[i].log.drop m, (C - m)⟩).map TB.tp = (l.map TB.tp).set i ⟨l[i].name, l[i].first + m, l[i].log.drop m⟩) := Lib.hid (by
                  rw [List.map_set, HT3.out, ← HNI.out]
                  rfl)
                clear hO hG hG2 h7 h8 h9 hbw hg hR hsg
                go_wp2_with fail
                go_ret2
                refine ⟨some ⟨g, 0, none⟩, c3, _, ?_, HMP.out, H7.out, ?_, ?_⟩
                · show Ending.returned _ = Ending.returned (.tuple #[.slice _ ((l.map TB.tp).set i _).length _, .int .i64 ((0 : Nat) : Int)])
                  rw [List.length_set, List.length_map]
                  rfl
                · show Sl _ _ ((l.map TB.tp).set i _).length
                  rw [List.length_set, List.length_map]; exact H8.out
                · exact bset _ (by show w.heap.size ≤ g; omega) (bset _ (by show w.heap.size ≤ g; omega) HBW.out)
          · obtain rfl : p = (l.map TB.tp, 0) := HP3.out.symm.trans (by
              unfold trimT
              rw [show l[i].tp.first = l[i].first from rfl, if_neg g3]
              rw [← List.getElem_map (f := TB.tp) (h := by simpa using hi), List.set_getElem_self])
            go_wp2_with fail
            go_ret2
            obtain ⟨h7, h8, h9⟩ := HO3.out.tops (HG3.out.logs (by rw [HL3.out]; exact Nat.le_refl _))
            refine ⟨some ⟨g, 0, none⟩, c3, l3, ?_, HT3.out, h7, ?_, HB3.out⟩
            · show Ending.returned _ = Ending.returned (.tuple #[.slice _ (l.map TB.tp).length _, .int .i64 0])
              rw [List.length_map]
              rfl
            · rw [List.length_map, ← HL3.out]; exact h8
end Go.Proofs.Ytcbnehplilpidaa
