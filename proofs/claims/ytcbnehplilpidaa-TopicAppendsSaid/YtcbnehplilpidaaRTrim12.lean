/- The walk of ref12.Trim. -/
import Derived.Test.YtcbnehplilpidaaProg
import Derived.WalkKit
import Derived.WalkSpells
import Derived.WalkLawsBesides
import Derived.Lib.Hide
import Derived.Deep.RegionWith
import Derived.Deep.Cut
import Derived.IntWalk
import Derived.Test.YtcbnehplilpidaaRMay12
import Derived.Test.YtcbnehplilpidaaRWith12
import Derived.Test.YtcbnehplilpidaaTopH
set_option linter.unusedVariables false
set_option linter.unusedSimpArgs false
namespace Go.Proofs.Ytcbnehplilpidaa
open Go.RowKit Tryst
set_option maxHeartbeats 400000
set_option maxRecDepth 20000
/-- topics of the document's, and the error's number -/
def TrR (w : World) (p : List Tp × Nat) (e : Ending) (w' : World) : Prop := ∃ a c l', e = .returned (.tuple #[.slice a l'.length c, .int .i64 p.2]) ∧ l'.map TB.tp = p.1 ∧ TopsA w' a l' ∧ Below w.heap.size w w'
theorem TrR.bad {w w' : World} {k : Nat} {e : Ending} (he : e = .returned (.tuple #[.slice none 0 0, .int .i64 k])) (hb : Below w.heap.size w w') : TrR w ([], k) e w' :=
  ⟨none, 0, [], he, rfl, ⟨Row.nil _ _ _, fun t h => by cases h⟩, hb⟩
def OneS (s : ByteArray) (v : Value) (w : World) : Prop := ∃ g, v = .slice (some ⟨g, 0, none⟩) 1 1 ∧ w.heap[g]? = some (.cells #[.string s] 9 (0, 0))
theorem OneS.at {s : ByteArray} {v : Value} {w' : World} (h : ∃ w0, Tryst2.Grow w0 w' ∧ OneS s v w0) : OneS s v w' := by
  obtain ⟨w0, hg, g, h1, h2⟩ := h
  exact ⟨g, h1, (hg.block g (Array.getElem?_eq_some_iff.1 h2).1).trans h2⟩
theorem OneS.of (w : World) (s : ByteArray) : ∃ w0, Tryst2.Grow w0 (w.alloc (.cells #[.string s] 9)) ∧ OneS s (.slice (some ⟨w.heap.size, 0, none⟩) 1 1) w0 :=
  ⟨_, Tryst2.Grow.refl _, w.heap.size, rfl, by show (w.heap.push _)[w.heap.size]? = _; simp⟩
structure TrI (w v : World) (G : Nat) (nm n : ByteArray) (fs f2 : Int) (la : Option Addr) (lg : List ByteArray) (lc : Nat) (u : Value) : Prop where
  x : TBox v w.heap.size nm fs (.slice la lg.length lc)
  y : TBox v G n f2 u
  k : Below w.heap.size w v
theorem TrI.grow {w v v' : World} {G : Nat} {nm n : ByteArray} {fs f2 : Int} {la : Option Addr} {lg : List ByteArray} {lc : Nat} {u : Value} (h : TrI w v G nm n fs f2 la lg lc u) (hb : Below v.heap.size v v') : TrI w v' G nm n fs f2 la lg lc u :=
  ⟨h.x.grow hb, h.y.grow hb, bstep hb h.k⟩
theorem TBox.away_ {w : World} {b c j : Nat} {n : ByteArray} {x : Int} {u : Value} (h : TBox w b n x u) (hc : c ≠ b) (v : Value) : TBox (w.setCell ⟨c, j, none⟩ v) b n x u := by
  obtain ⟨h0, h1, h2, h3, h4, h5, h6⟩ := h
  constructor <;> simp [cell_setCell, frozen_setCell, h0, h1, h2, h3, h4, h5, h6, hc]
theorem TrI.growB {w v v' : World} {G : Nat} {nm n : ByteArray} {fs f2 : Int} {la : Option Addr} {lg : List ByteArray} {lc : Nat} {u : Value} (h : TrI w v G nm n fs f2 la lg lc u) (hw : w.heap.size < G) (hz : G + 1 ≤ v.heap.size) (hb : Below (G + 1) v v') : TrI w v' G nm n fs f2 la lg lc u :=
  ⟨h.x.growB (by omega) hz hb, h.y.growB (by omega) hz hb, h.k.trans (hb.mono (by omega))⟩
theorem TrI.put {w v : World} {G : Nat} {nm n : ByteArray} {fs f2 : Int} {la : Option Addr} {lg : List ByteArray} {lc : Nat} {u : Value} (h : TrI w v G nm n fs f2 la lg lc u) (hw : w.heap.size < G) (u' : Value) : TrI w (v.setCell ⟨G, 2, none⟩ u') G nm n fs f2 la lg lc u' :=
  ⟨TBox.away_ h.x (by omega) u', h.y.put2 u', bset _ (by show w.heap.size ≤ G; omega) h.k⟩
def TrRel (w : World) (G B : Nat) (nm n : ByteArray) (fs f2 : Int) (la : Option Addr) (lg : List ByteArray) (lc m : Nat) (i : Value) (wr : World) : Prop :=
  ∃ (k : Nat) (av : Option Addr) (cv : Nat) (acc : List ByteArray), k ≤ lg.length ∧ i = .int .i64 k ∧ acc.length ≤ k ∧ Hid (acc = (lg.take k).drop m) ∧ Hid (TrI w wr G nm n fs f2 la lg lc (.slice av acc.length cv)) ∧ Hid (ROwn 9 1 wr B (.slice av acc.length cv) (sV acc)) ∧ B ≤ wr.heap.size
set_option maxHeartbeats 4000000 in
theorem rtrim12_c (n : ByteArray) (u : Int) (hu1 : -9223372036854775808 ≤ u) (hu2 : u ≤ 9223372036854775807) (a : Option Addr) (c : Nat) (l : List TB) (hl : l.length ≤ 1000000) (hI : TIn l) (hN : ∀ t ∈ l, t.name.size ≤ 1000000) (w : World) (hF : TopsA w a l) :
    Calls Try.prog 28 #[.slice a l.length c, .string n, .int .i64 u] w fun e w' => TrR w (trimP (l.map TB.tp) n u) e w' := by
  have HC := Lib.hid (rmay12_c a c l (by omega) hI hN w hF)
  have HFN := Lib.hid (fun (W : World) (hF : TopsA W a l) => rfind12_c n a c l (by omega) W hF)
  have HF := Lib.hid hF
  obtain ⟨p, hp⟩ : ∃ p, trimP (l.map TB.tp) n u = p := ⟨_, rfl⟩
  rw [hp]
  have HP := Lib.hid hp
  clear hF hI hp hN
  go_enter Try.func28, Try.ntmps28
  go_wp2_with fail
  refine HC.out.mono ?_
  rintro e w1 ⟨rfl, hb1⟩
  have HF1 := Lib.hid (HF.out.grow hb1)
  have HB1 := Lib.hid hb1
  clear hb1 HF HC
  cases hm : topsMay (l.map TB.tp) with
  | false =>
    obtain rfl : p = ([], 1) := HP.out.symm.trans (by unfold trimP; rw [hm]; rfl)
    clear hm HP
    go_wp2_with fail
    go_ret2
    exact TrR.bad rfl HB1.out
  | true =>
    have HTM := Lib.hid hm
    clear hm
    go_wp2_with fail
    refine (HFN.out w1 HF1.out).mono ?_
    rintro e w2 ⟨rfl, hb2⟩
    have HF2 := Lib.hid (HF1.out.grow hb2)
    have HB2 := Lib.hid (bstep hb2 HB1.out)
    clear hb2 HF1 HB1 HFN
    unfold findR
    cases hf : findT (l.map TB.tp) n with
    | none =>
      obtain rfl : p = ([], 4) := HP.out.symm.trans (by unfold trimP; rw [if_pos HTM.out, hf])
      clear hf HP
      go_wp2_with fail
      go_ret2
      exact TrR.bad rfl HB2.out
    | some i =>
      obtain ⟨hi, hn, ht⟩ := find_at HTM.out hf
      obtain ⟨q1, q2, q3, _⟩ := tmay_parts ht
      have HP2 : Hid ((if u < 0 ∨ l[i].first + (l[i].log.length : Int) < u then ([], 1) else ((l.map TB.tp).set i (trimT l[i].tp u), 0)) = p) := Lib.hid (by
        rw [← HP.out]
        unfold trimP
        rw [if_pos HTM.out, hf]
        show _ = (match (l.map TB.tp)[i]? with | none => ([], 4) | some t => _)
        rw [List.getElem?_map, List.getElem?_eq_getElem hi]
        rfl)
      have HW : Hid (∀ t : Tp, t.name = n → withT (l.map TB.tp) t = (l.map TB.tp).set i t) := Lib.hid (fun t htn => by
        have h := HTM.out
        unfold topsMay at h
        rw [Bool.and_eq_true] at h
        exact withT_set h.2 t (by simpa using hi) (by rw [List.getElem_map, htn]; exact hn))
      obtain ⟨b, o, ha, hb⟩ := HF2.out.head hi
      obtain rfl : a = some ⟨b, o, none⟩ := ha
      obtain ⟨_, ⟨f0, f1, f2⟩, hS⟩ := HF2.out.at hi
      have HS := Lib.hid hS
      obtain ⟨nm, fs, la, lg, lc, hlk⟩ : ∃ nm fs la lg lc, l[i] = (⟨nm, fs, la, lg, lc⟩ : TB) := ⟨_, _, _, _, _, rfl⟩
      have HNM : Hid (nm = n) := Lib.hid (by rw [← hn, hlk])
      rw [hlk] at f0 f1 f2 HS HP2 q1 q2 q3
      dsimp only at f0 f1 f2 HS q1 q2 q3
      have HP3 : Hid ((if u < 0 ∨ fs + (lg.length : Int) < u then ([], 1) else ((l.map TB.tp).set i (trimT ⟨nm, fs, lg⟩ u), 0)) = p) := HP2
      clear hf HP hn ht hS hlk HP2 HTM
      have y0 : (i : Int) < l.length := by omega
      go_upto_region 7 with fail
      refine wp_genC (fun v => Hid (TBox v w2.heap.size nm fs (.slice la lg.length lc)) ∧ Hid (TopsA v (some ⟨b, o, none⟩) l) ∧ Hid (Strs v la lg) ∧ Hid (Below w2.heap.size w2 v)) ⟨TBox.new w2 nm fs (.slice la lg.length lc) 74, HF2.out.grow (balloc _ (.refl _ _)), HS.out.grow (balloc _ (.refl _ _)), balloc _ (.refl _ _)⟩ ?_
      clear f0 f1 f2
      rintro X ⟨HX, HFX, HSX, HKX⟩
      have HBX := Lib.hid (bstep HKX.out HB2.out)
      obtain ⟨x0, x1, x2, x3, x4, x5, x6⟩ := HX.out
      have y1 : IntKind.i64.wrap (fs + (lg.length : Int)) = fs + (lg.length : Int) := IntWalk.i64_in _ (by omega)
      by_cases g1 : u < 0
      · obtain rfl : p = ([], 1) := HP3.out.symm.trans (by rw [if_pos (.inl g1)])
        go_wp2_with fail
        go_ret2
        exact TrR.bad rfl HBX.out
      · by_cases g2 : fs + (lg.length : Int) < u
        · obtain rfl : p = ([], 1) := HP3.out.symm.trans (by rw [if_pos (.inr g2)])
          go_wp2_with fail
          go_ret2
          exact TrR.bad rfl HBX.out
        · obtain rfl : p = ((l.map TB.tp).set i (trimT ⟨nm, fs, lg⟩ u), 0) := HP3.out.symm.trans (by rw [if_neg (by omega)])
          clear HP3
          by_cases g3 : fs < u
          · obtain ⟨m, hm⟩ : ∃ m : Nat, u = fs + m := ⟨(u - fs).toNat, by omega⟩
            have HTT : Hid (trimT ⟨nm, fs, lg⟩ u = ⟨n, u, lg.drop m⟩) := Lib.hid (by
              unfold trimT
              rw [if_pos g3, HNM.out, show (u - fs).toNat = m by omega])
            have hMU : ∀ k : Nat, u ≤ fs + (k : Int) ↔ m ≤ k := fun k => by omega
            have HMU := Lib.hid hMU
            clear hm hMU
            go_upto_region 12 with fail
            refine wp_genC (fun v => Hid (TrI w2 v X.heap.size nm n fs (u) la lg lc (.slice none 0 0))) ⟨?_, ?_, ?_⟩ ?_
            · first
              | exact HX.out.grow (balloc _ (.refl _ _))
              | exact (HX.out.grow (balloc (.cells #[.string n, .int .i64 fs, .slice none 0 0] 74) (.refl X.heap.size X))).grow (bset _ (by simp) (.refl _ _))
            · first
              | exact TBox.new X n (u) (.slice none 0 0) 74
              | (constructor <;> simp [go_sem, cell_setCell, frozen_setCell])
            · (repeat (first | with_reducible exact HKX.out | with_reducible refine balloc _ ?_ | with_reducible refine bset _ (by simp <;> omega) ?_))
            clear x0 x1 x2 x3 x4 x5 x6
            rintro Y HY
            have hGY : X.heap.size < Y.heap.size := HY.out.y.hz
            have hwG : w2.heap.size < X.heap.size := HX.out.hz
            clear HX HFX HSX HKX HBX
            generalize X.heap.size = G at HY hGY hwG ⊢
            go_wp2_with fail
            go_loopw [12] (fun i wr => TrRel w2 G (G + 1) nm n fs (u) la lg lc m i wr) (fun i _ => lg.length - (intOf i).toNat)
            case atStart => exact ⟨0, none, 0, [], by omega, rfl, by simp, Lib.hid (by simp), HY, ROwn.nil _ _ _ _, by omega⟩
            case round =>
              clear HY hGY
              obtain ⟨k, av, cv, acc, hk, rfl, hal, HAC, HIV, HO, hBr⟩ := hrel
              obtain ⟨wo, rfl⟩ : ∃ wo, wo = wr := ⟨_, rfl⟩
              obtain ⟨x0, x1, x2, x3, x4, x5, x6⟩ := HIV.out.x
              obtain ⟨z0, z1, z2, z3, z4, z5, z6⟩ := HIV.out.y
              by_cases hlt : k < lg.length
              · have HL := Lib.hid (HS.out.grow HIV.out.k)
                obtain ⟨b2, o2, ha2, hb2⟩ := HL.out.head hlt
                obtain rfl : la = some ⟨b2, o2, none⟩ := ha2
                obtain ⟨_, s0⟩ := HL.out.at hlt
                have v1 : IntKind.i64.wrap (fs + (k : Int)) = fs + (k : Int) := IntWalk.i64_in _ (by omega)
                have HTK := Lib.hid (List.take_succ_eq_append_getElem hlt)
                by_cases hmk : m ≤ k
                · have v2 : u ≤ fs + (k : Int) := (HMU.out k).2 hmk
                  have HAC4 : Hid (acc ++ [lg[k]] = (lg.take (k + 1)).drop m) := Lib.hid (by rw [HTK.out, List.drop_append_of_le_length (by simp; omega), HAC.out])
                  have HLN : Hid ((sV acc).length = acc.length) := Lib.hid (by unfold sV; exact List.length_map ..)
                  go_upto_region 16 with fail
                  refine Tryst2.wp_region_grows [.is (.pointer (some ⟨G, 2, none⟩)), .is (.slice av acc.length cv), .is (.pointer (some ⟨w2.heap.size, 2, none⟩)), .is (.slice (some ⟨b2, o2, none⟩) lg.length lc), .is (.int .i64 (k : Int)), .is (.pointer (some ⟨b2, o2 + k, none⟩)), .is (.string lg[k]), .any (OneS lg[k])] (by kernel_rfl) (by kernel_rfl) ?obl ?fin
                  case obl =>
                    simp only [Tryst2.AllObl, Tryst2.dstL, Tryst2.Obl, Tryst2.depsOf, Tryst2.binds_data, Tryst2.binds_chain, Tryst2.binds_phase, Tryst2.binds_guard, Tryst2.binds_text, Tryst2.binds_gc, Bool.false_eq_true, if_false, List.filterMap_cons_some, List.filterMap_cons_none, Tryst2.depsR, Tryst2.holdR, Tryst2.tmpsOf, Op.operands, Call.operands, Tryst2.Rsp.pred, Tryst2.wantedV_none, Tryst2.wantedV_some, if_true, List.map_cons, List.map_nil, List.length_map, List.take_succ_cons, List.take_zero, List.length_cons, List.length_nil, List.getElem?_cons_zero, List.getElem?_cons_succ, Option.bind_some, id, List.getD_cons_zero, List.getD_cons_succ, Tryst2.isDst, List.filterMap_cons, List.filterMap_nil, List.toList_toArray]
                    repeat' apply And.intro
                    any_goals trivial
                    all_goals (intro tv w' hg hold hd; (try simp at hold); obtain ⟨hcg, hfg⟩ := Tryst2.Grow.cells hg; have hsg := Tryst2.Grow.le hg)
                    all_goals first | (go_simp; done) | (go_simp; rw [if_neg (by omega)]; exact ⟨.refl _, rfl⟩) | (obtain ⟨⟨g, hvg, hgg, hcell⟩, _⟩ := hd; have hcell0 := hcell 0 (by decide); simp at hcell0; go_simp; done) | (go_simp; exact OneS.of _ _)
                  case fin =>
                    intro tv w' hg hR
                    simp only [Tryst2.allR, Tryst2.dstL, Tryst2.Rsp.pred, List.map_cons, List.map_nil, List.take_succ_cons, List.take_zero, List.length_cons, List.length_nil, List.tail_cons, List.toList_toArray] at hR
                    obtain ⟨hcg, hfg⟩ := Tryst2.Grow.cells hg
                    have hsg := Tryst2.Grow.le hg
                    simp only [Tryst2.putAll, Tryst2.dstL, List.map_cons, List.map_nil, List.take_succ_cons, List.take_zero, List.length_cons, List.length_nil, List.toList_toArray, List.drop_succ_cons, List.drop_zero, Act.put, List.setIfInBounds_toArray, List.set_cons_zero, List.set_cons_succ, hR]
                    obtain ⟨g9, e9, h9⟩ := OneS.at hR.2.2.2.2.2.2.2.1
                    simp only [e9]
                    have hbw := Tryst2.Grow.below hg (.refl wo.heap.size wo)
                    have HI6 := Lib.hid (HIV.out.grow hbw)
                    have HO6 := Lib.hid (HO.out.grow hbw)
                    have hB6 : G + 1 ≤ w'.heap.size := Nat.le_trans hBr hbw.size
                    clear hg hR hcg hfg hsg hbw x0 x1 x2 x3 x4 x5 x6 z0 z1 z2 z3 z4 z5 z6 s0 HIV HO HL
                    refine wpList_appR strT rfl (.tmp 64) (.tmp 70) rfl (G + 1) (.slice av acc.length cv) (sV acc) acc.length HLN.out rfl HO6.out [.string lg[k]] rfl (by simp [Value.oneCell']) g9 rfl (by intro j hj; obtain rfl : j = 0 := (by omega); simp [World.cell?, h9]) (by omega) (by omega) ?_
                    intro v' w3 ho3 hb3 _
                    have ho4 : ROwn 9 1 w3 (G + 1) v' (sV (acc ++ [lg[k]])) := by
                      unfold sV
                      rw [List.map_append]
                      exact ho3
                    obtain ⟨a3, c3, hv3, _⟩ := ROwn.row ho4 (fun x hx => by obtain ⟨s, _, rfl⟩ := List.mem_map.1 hx; rfl) (by decide)
                    have hln : (sV (acc ++ [lg[k]])).length = (acc ++ [lg[k]]).length := by unfold sV; rw [List.length_map]
                    rw [hln] at hv3
                    have hI3 := HI6.out.growB hwG hB6 hb3
                    have HI4 := Lib.hid (hI3.put hwG (.slice a3 (acc ++ [lg[k]]).length c3))
                    have HO4 := Lib.hid (ho4.below (b := G) (o := 2) (by omega) (.slice a3 (acc ++ [lg[k]]).length c3))
                    have hB4 : G + 1 ≤ (w3.setCell ⟨G, 2, none⟩ (.slice a3 (acc ++ [lg[k]]).length c3)).heap.size := by have := hb3.size; simp; omega
                    have hal4 : (acc ++ [lg[k]]).length ≤ k + 1 := by rw [List.length_append, List.length_singleton]; omega
                    generalize acc ++ [lg[k]] = acc4 at hv3 HI4 HO4 hB4 hal4 HAC4
                    rw [hv3] at HO4
                    subst hv3
                    clear ho3 ho4 hb3 hln h9 e9
                    obtain ⟨z0, z1, z2, z3, z4, z5, z6⟩ := hI3.y
                    clear hI3
                    go_wp2_with fail
                    go_roundw
                    case rel => exact ⟨k + 1, a3, c3, acc4, by omega, by go_num, hal4, HAC4, HI4, HO4, hB4⟩
                    case measure => simp [intOf] <;> omega
                · have v2 : fs + (k : Int) < u := by
                    have h := HMU.out k
                    omega
                  have HAC4 : Hid (acc = (lg.take (k + 1)).drop m) := Lib.hid (by rw [HAC.out, List.drop_eq_nil_of_le (by simp; omega), List.drop_eq_nil_of_le (by simp; omega)])
                  try (exfalso; omega)
                  all_goals
                    clear hmk HAC HTK HL
                    go_wp2_with fail
                    go_roundw
                    case rel => exact ⟨k + 1, av, cv, acc, by omega, by go_num, by omega, HAC4, HIV, HO, hBr⟩
                    case measure => simp [intOf] <;> omega
              · have HACF : Hid (acc = lg.drop m) := Lib.hid (by rw [HAC.out, List.take_of_length_le (by omega)])
                have HFW := Lib.hid (HF2.out.grow HIV.out.k)
                go_wp2_with fail
                refine (rwith12_c (some ⟨b, o, none⟩) c l hl n (u) av acc cv wo HFW.out).mono ?_
                rintro e w9 ⟨a9, c9, rfl, hrow, _, hb9⟩
                have HRW := Lib.hid hrow
                have HB9 := Lib.hid hb9
                clear hrow hb9
                have HMP : Hid ((withB l ⟨n, u, av, acc, cv⟩).map TB.tp = (l.map TB.tp).set i (trimT ⟨nm, fs, lg⟩ u)) := Lib.hid (by
                  rw [withB_tp, HTT.out, HACF.out]
                  exact HW.out ⟨n, u, lg.drop m⟩ rfl)
                go_wp2_with fail
                go_ret2
                refine ⟨a9, c9, withB l ⟨n, u, av, acc, cv⟩, rfl, HMP.out, ⟨HRW.out, fun t ht => ?_⟩, bstep HB9.out (bstep HIV.out.k HB2.out)⟩
                rcases withB_mem ht with rfl | ht
                · exact (rows_strs HO.out).1.grow HB9.out
                · exact (HFW.out.2 t ht).grow HB9.out
          · obtain ⟨m, hm⟩ : ∃ m : Nat, m = 0 := ⟨0, rfl⟩
            have HTT : Hid (trimT ⟨nm, fs, lg⟩ u = ⟨n, fs, lg.drop m⟩) := Lib.hid (by
              unfold trimT
              rw [if_neg g3, HNM.out, hm]; rfl)
            have hMU : ∀ k : Nat, u ≤ fs + (k : Int) ↔ m ≤ k := fun k => by omega
            have HMU := Lib.hid hMU
            clear hm hMU
            go_upto_region 12 with fail
            refine wp_genC (fun v => Hid (TrI w2 v X.heap.size nm n fs (fs) la lg lc (.slice none 0 0))) ⟨?_, ?_, ?_⟩ ?_
            · first
              | exact HX.out.grow (balloc _ (.refl _ _))
              | exact (HX.out.grow (balloc (.cells #[.string n, .int .i64 fs, .slice none 0 0] 74) (.refl X.heap.size X))).grow (bset _ (by simp) (.refl _ _))
            · first
              | exact TBox.new X n (fs) (.slice none 0 0) 74
              | (constructor <;> simp [go_sem, cell_setCell, frozen_setCell])
            · (repeat (first | with_reducible exact HKX.out | with_reducible refine balloc _ ?_ | with_reducible refine bset _ (by simp <;> omega) ?_))
            clear x0 x1 x2 x3 x4 x5 x6
            rintro Y HY
            have hGY : X.heap.size < Y.heap.size := HY.out.y.hz
            have hwG : w2.heap.size < X.heap.size := HX.out.hz
            clear HX HFX HSX HKX HBX
            generalize X.heap.size = G at HY hGY hwG ⊢
            go_wp2_with fail
            go_loopw [12] (fun i wr => TrRel w2 G (G + 1) nm n fs (fs) la lg lc m i wr) (fun i _ => lg.length - (intOf i).toNat)
            case atStart => exact ⟨0, none, 0, [], by omega, rfl, by simp, Lib.hid (by simp), HY, ROwn.nil _ _ _ _, by omega⟩
            case round =>
              clear HY hGY
              obtain ⟨k, av, cv, acc, hk, rfl, hal, HAC, HIV, HO, hBr⟩ := hrel
              obtain ⟨wo, rfl⟩ : ∃ wo, wo = wr := ⟨_, rfl⟩
              obtain ⟨x0, x1, x2, x3, x4, x5, x6⟩ := HIV.out.x
              obtain ⟨z0, z1, z2, z3, z4, z5, z6⟩ := HIV.out.y
              by_cases hlt : k < lg.length
              · have HL := Lib.hid (HS.out.grow HIV.out.k)
                obtain ⟨b2, o2, ha2, hb2⟩ := HL.out.head hlt
                obtain rfl : la = some ⟨b2, o2, none⟩ := ha2
                obtain ⟨_, s0⟩ := HL.out.at hlt
                have v1 : IntKind.i64.wrap (fs + (k : Int)) = fs + (k : Int) := IntWalk.i64_in _ (by omega)
                have HTK := Lib.hid (List.take_succ_eq_append_getElem hlt)
                by_cases hmk : m ≤ k
                · have v2 : u ≤ fs + (k : Int) := (HMU.out k).2 hmk
                  have HAC4 : Hid (acc ++ [lg[k]] = (lg.take (k + 1)).drop m) := Lib.hid (by rw [HTK.out, List.drop_append_of_le_length (by simp; omega), HAC.out])
                  have HLN : Hid ((sV acc).length = acc.length) := Lib.hid (by unfold sV; exact List.length_map ..)
                  go_upto_region 16 with fail
                  refine Tryst2.wp_region_grows [.is (.pointer (some ⟨G, 2, none⟩)), .is (.slice av acc.length cv), .is (.pointer (some ⟨w2.heap.size, 2, none⟩)), .is (.slice (some ⟨b2, o2, none⟩) lg.length lc), .is (.int .i64 (k : Int)), .is (.pointer (some ⟨b2, o2 + k, none⟩)), .is (.string lg[k]), .any (OneS lg[k])] (by kernel_rfl) (by kernel_rfl) ?obl ?fin
                  case obl =>
                    simp only [Tryst2.AllObl, Tryst2.dstL, Tryst2.Obl, Tryst2.depsOf, Tryst2.binds_data, Tryst2.binds_chain, Tryst2.binds_phase, Tryst2.binds_guard, Tryst2.binds_text, Tryst2.binds_gc, Bool.false_eq_true, if_false, List.filterMap_cons_some, List.filterMap_cons_none, Tryst2.depsR, Tryst2.holdR, Tryst2.tmpsOf, Op.operands, Call.operands, Tryst2.Rsp.pred, Tryst2.wantedV_none, Tryst2.wantedV_some, if_true, List.map_cons, List.map_nil, List.length_map, List.take_succ_cons, List.take_zero, List.length_cons, List.length_nil, List.getElem?_cons_zero, List.getElem?_cons_succ, Option.bind_some, id, List.getD_cons_zero, List.getD_cons_succ, Tryst2.isDst, List.filterMap_cons, List.filterMap_nil, List.toList_toArray]
                    repeat' apply And.intro
                    any_goals trivial
                    all_goals (intro tv w' hg hold hd; (try simp at hold); obtain ⟨hcg, hfg⟩ := Tryst2.Grow.cells hg; have hsg := Tryst2.Grow.le hg)
                    all_goals first | (go_simp; done) | (go_simp; rw [if_neg (by omega)]; exact ⟨.refl _, rfl⟩) | (obtain ⟨⟨g, hvg, hgg, hcell⟩, _⟩ := hd; have hcell0 := hcell 0 (by decide); simp at hcell0; go_simp; done) | (go_simp; exact OneS.of _ _)
                  case fin =>
                    intro tv w' hg hR
                    simp only [Tryst2.allR, Tryst2.dstL, Tryst2.Rsp.pred, List.map_cons, List.map_nil, List.take_succ_cons, List.take_zero, List.length_cons, List.length_nil, List.tail_cons, List.toList_toArray] at hR
                    obtain ⟨hcg, hfg⟩ := Tryst2.Grow.cells hg
                    have hsg := Tryst2.Grow.le hg
                    simp only [Tryst2.putAll, Tryst2.dstL, List.map_cons, List.map_nil, List.take_succ_cons, List.take_zero, List.length_cons, List.length_nil, List.toList_toArray, List.drop_succ_cons, List.drop_zero, Act.put, List.setIfInBounds_toArray, List.set_cons_zero, List.set_cons_succ, hR]
                    obtain ⟨g9, e9, h9⟩ := OneS.at hR.2.2.2.2.2.2.2.1
                    simp only [e9]
                    have hbw := Tryst2.Grow.below hg (.refl wo.heap.size wo)
                    have HI6 := Lib.hid (HIV.out.grow hbw)
                    have HO6 := Lib.hid (HO.out.grow hbw)
                    have hB6 : G + 1 ≤ w'.heap.size := Nat.le_trans hBr hbw.size
                    clear hg hR hcg hfg hsg hbw x0 x1 x2 x3 x4 x5 x6 z0 z1 z2 z3 z4 z5 z6 s0 HIV HO HL
                    refine wpList_appR strT rfl (.tmp 64) (.tmp 70) rfl (G + 1) (.slice av acc.length cv) (sV acc) acc.length HLN.out rfl HO6.out [.string lg[k]] rfl (by simp [Value.oneCell']) g9 rfl (by intro j hj; obtain rfl : j = 0 := (by omega); simp [World.cell?, h9]) (by omega) (by omega) ?_
                    intro v' w3 ho3 hb3 _
                    have ho4 : ROwn 9 1 w3 (G + 1) v' (sV (acc ++ [lg[k]])) := by
                      unfold sV
                      rw [List.map_append]
                      exact ho3
                    obtain ⟨a3, c3, hv3, _⟩ := ROwn.row ho4 (fun x hx => by obtain ⟨s, _, rfl⟩ := List.mem_map.1 hx; rfl) (by decide)
                    have hln : (sV (acc ++ [lg[k]])).length = (acc ++ [lg[k]]).length := by unfold sV; rw [List.length_map]
                    rw [hln] at hv3
                    have hI3 := HI6.out.growB hwG hB6 hb3
                    have HI4 := Lib.hid (hI3.put hwG (.slice a3 (acc ++ [lg[k]]).length c3))
                    have HO4 := Lib.hid (ho4.below (b := G) (o := 2) (by omega) (.slice a3 (acc ++ [lg[k]]).length c3))
                    have hB4 : G + 1 ≤ (w3.setCell ⟨G, 2, none⟩ (.slice a3 (acc ++ [lg[k]]).length c3)).heap.size := by have := hb3.size; simp; omega
                    have hal4 : (acc ++ [lg[k]]).length ≤ k + 1 := by rw [List.length_append, List.length_singleton]; omega
                    generalize acc ++ [lg[k]] = acc4 at hv3 HI4 HO4 hB4 hal4 HAC4
                    rw [hv3] at HO4
                    subst hv3
                    clear ho3 ho4 hb3 hln h9 e9
                    obtain ⟨z0, z1, z2, z3, z4, z5, z6⟩ := hI3.y
                    clear hI3
                    go_wp2_with fail
                    go_roundw
                    case rel => exact ⟨k + 1, a3, c3, acc4, by omega, by go_num, hal4, HAC4, HI4, HO4, hB4⟩
                    case measure => simp [intOf] <;> omega
                · have v2 : fs + (k : Int) < u := by
                    have h := HMU.out k
                    omega
                  have HAC4 : Hid (acc = (lg.take (k + 1)).drop m) := Lib.hid (by rw [HAC.out, List.drop_eq_nil_of_le (by simp; omega), List.drop_eq_nil_of_le (by simp; omega)])
                  try (exfalso; omega)
                  all_goals
                    clear hmk HAC HTK HL
                    go_wp2_with fail
                    go_roundw
                    case rel => exact ⟨k + 1, av, cv, acc, by omega, by go_num, by omega, HAC4, HIV, HO, hBr⟩
                    case measure => simp [intOf] <;> omega
              · have HACF : Hid (acc = lg.drop m) := Lib.hid (by rw [HAC.out, List.take_of_length_le (by omega)])
                have HFW := Lib.hid (HF2.out.grow HIV.out.k)
                go_wp2_with fail
                refine (rwith12_c (some ⟨b, o, none⟩) c l hl n (fs) av acc cv wo HFW.out).mono ?_
                rintro e w9 ⟨a9, c9, rfl, hrow, _, hb9⟩
                have HRW := Lib.hid hrow
                have HB9 := Lib.hid hb9
                clear hrow hb9
                have HMP : Hid ((withB l ⟨n, fs, av, acc, cv⟩).map TB.tp = (l.map TB.tp).set i (trimT ⟨nm, fs, lg⟩ u)) := Lib.hid (by
                  rw [withB_tp, HTT.out, HACF.out]
                  exact HW.out ⟨n, fs, lg.drop m⟩ rfl)
                go_wp2_with fail
                go_ret2
                refine ⟨a9, c9, withB l ⟨n, fs, av, acc, cv⟩, rfl, HMP.out, ⟨HRW.out, fun t ht => ?_⟩, bstep HB9.out (bstep HIV.out.k HB2.out)⟩
                rcases withB_mem ht with rfl | ht
                · exact (rows_strs HO.out).1.grow HB9.out
                · exact (HFW.out.2 t ht).grow HB9.out
end Go.Proofs.Ytcbnehplilpidaa
