/- The walk of ref12.Append. -/
import Derived.Test.YtcbnehplilpidaaProg
import Derived.WalkKit
import Derived.WalkSpells
import Derived.WalkLawsBesides
import Derived.Lib.Hide
import Derived.Deep.RegionWith
import Derived.Deep.Cut
import Derived.Deep.Upon
import Derived.IntWalk
import Derived.ArgAppend
import Derived.Test.YtcbnehplilpidaaRTrim12
import Derived.Test.YtcbnehplilpidaaTopN
import Derived.Test.YtcbnehplilpidaaEv17
import Derived.Test.YtcbnehplilpidaaEv19
set_option linter.unusedVariables false
set_option linter.unusedSimpArgs false
namespace Tryst2
open Go Go.RowKit
/-- append in the drawn part of a region -/
theorem stepV_append {P : Program} {w : World} {K : Value → World → Prop} (ρ : Operand → Value) (o : Oper) (s x : Operand) (t : TypeId)
    (ho : o.op = .call { callee := .builtin .append, args := #[s, x], argTypes := #[t, t] }) {v u v' : Value} {w' : World} (hs : ρ s = v) (hx : ρ x = u)
    (hr : (Builtin.append_ #[t, t] o.type #[v, u]).run P w = .ok v' w') (h : K v' w') : stepV P K ((execOp ρ o).run P w) := by
  unfold execOp
  rw [ho]
  simp [resolve, invoke, builtin, hs, hx, hr, Result.andThen]
  exact h
end Tryst2
namespace Go.Proofs.Ytcbnehplilpidaa
open Go.RowKit Tryst
set_option maxHeartbeats 400000
set_option maxRecDepth 20000
/-- a slice of texts, in a block from base on -/
def OwnS (base : Nat) (l : List ByteArray) (v : Value) (w : World) : Prop := ROwn 9 1 w base v (sV l)
theorem OwnS.at {base : Nat} {l : List ByteArray} {v : Value} {w' : World} (h : ∃ w0, Tryst2.Grow w0 w' ∧ OwnS base l v w0) : OwnS base l v w' := by
  obtain ⟨w0, hg, h⟩ := h
  exact ROwn.grow h hg
def EmpS (base : Nat) (v : Value) (w : World) : Prop := ∃ g, v = .slice (some ⟨g, 0, none⟩) 0 0 ∧ ROwn 9 1 w base (.slice (some ⟨g, 0, none⟩) 0 0) []
theorem EmpS.at {base : Nat} {v : Value} {w' : World} (h : ∃ w0, Tryst2.Grow w0 w' ∧ EmpS base v w0) : EmpS base v w' := by
  obtain ⟨w0, hg, g, h1, h2⟩ := h
  exact ⟨g, h1, h2.grow hg⟩
theorem EmpS.of (base : Nat) (w : World) (h : base ≤ w.heap.size) : ∃ w0, Tryst2.Grow w0 (w.alloc (.cells #[] 9)) ∧ EmpS base (.slice (some ⟨w.heap.size, 0, none⟩) 0 0) w0 :=
  ⟨_, Tryst2.Grow.refl _, w.heap.size, rfl, ROwn.empty _ _ _ _ h⟩
theorem OwnS.copy (base g : Nat) (la : Option Addr) (lg : List ByteArray) (lc : Nat) (w : World) (hb : base ≤ w.heap.size) (hg : ROwn 9 1 w base (.slice (some ⟨g, 0, none⟩) 0 0) []) (hl : lg.length ≤ 1000000) (hS : Strs w la lg) (ty : TypeId) :
    ∃ v' w', (Builtin.append_ #[72, 72] ty #[.slice (some ⟨g, 0, none⟩) 0 0, .slice la lg.length lc]).run Try.prog w = .ok v' w' ∧ Tryst2.Grow w w' ∧ ∃ w0, Tryst2.Grow w0 w' ∧ OwnS base lg v' w0 := by
  obtain ⟨ii, z, hii, hz, h2, h3, h4⟩ := strT.info
  by_cases h0 : lg = []
  · subst h0
    refine ⟨_, _, run_append_nothing (P := Try.prog) w 72 72 ty 9 ii strT.und hii (some ⟨g, 0, none⟩) 0 0 (Nat.le_refl _) _ ?_, Tryst2.Grow.refl _, w, Tryst2.Grow.refl _, hg⟩
    cases la with
    | none => exact Src.ofNil w strT.und lc
    | some ad => exact Src.ofSlice w strT.und ad 0 lc [] (by simp) (fun j u hj => by simp at hj) (fun u hu => by cases hu)
  · cases la with
    | none =>
      obtain ⟨_, _, h, _⟩ := hS.head (List.length_pos_iff.2 h0)
      cases h
    | some ad =>
      have hpos : 0 < lg.length := List.length_pos_iff.2 h0
      obtain ⟨b2, o2, ha2, _⟩ := hS.head hpos
      obtain rfl : ad = ⟨b2, o2, none⟩ := by simpa using ha2
      obtain ⟨v', w', hr, ho, hg2⟩ := run_append_arg_grows (P := Try.prog) (w := w) 72 ty 9 ii z 1 16 strT.und hii hz h2 h3 h4 strT.pos ⟨g, 0, none⟩ 0 0 [] (by simp) (fun j u hj => by simp at hj) ⟨b2, o2, none⟩ lg.length lc (lg.map Value.string) (by simp) (fun j u hj => by
        have hjl : j < lg.length := by have := (List.getElem?_eq_some_iff.1 hj).1; simpa using this
        rw [List.getElem?_map, List.getElem?_eq_getElem hjl] at hj
        rw [Addr.add_lit, (hS.at hjl).2]
        exact hj) (by omega) (by unfold maxLen; omega) (by omega)
      have hgr : Tryst2.Grow w w' := (Below.refl _ _).grown hg2 (Nat.le_refl _) (fun k hk => by cases hk)
      refine ⟨v', w', hr, hgr, w', Tryst2.Grow.refl _, ?_⟩
      have hso : SOwn 9 w' w.heap.size v' lg := by
        unfold SOwn
        simpa using ho
      exact ROwn.lower (SOwn.rows.1 hso) hb
def ApR (w : World) (p : List Tp × Int × Nat) (e : Ending) (w' : World) : Prop := ∃ a c l', e = .returned (.tuple #[.slice a l'.length c, .int .i64 p.2.1, .int .i64 p.2.2]) ∧ l'.map TB.tp = p.1 ∧ TopsA w' a l' ∧ Below w.heap.size w w'
theorem ApR.bad {w w' : World} {k : Nat} {e : Ending} (he : e = .returned (.tuple #[.slice none 0 0, .int .i64 0, .int .i64 k])) (hb : Below w.heap.size w w') : ApR w ([], 0, k) e w' :=
  ⟨none, 0, [], he, rfl, ⟨Row.nil _ _ _, fun t h => by cases h⟩, hb⟩
set_option maxHeartbeats 4000000 in
theorem rappend12_c (a : Option Addr) (c : Nat) (l : List TB) (hl : l.length ≤ 1000000) (hI : TIn l) (hN : ∀ t ∈ l, t.name.size ≤ 1000000) (tt pp : ByteArray) (q : Int) (ae : Option Addr) (le : List FB) (ce : Nat) (ht : tt.size ≤ 1000000) (hp : pp.size ≤ 1000000) (h0 : 0 ≤ q) (h4 : q ≤ 18446744073709551615) (hlE : le.length ≤ 1000000000) (hO : FOk le) (hO2 : ∀ f ∈ le, f.name.size ≤ 1000000) (w : World) (hF : TopsA w a l) (hE : Flds w ae le) :
    Calls Try.prog 32 #[.slice a l.length c, .agg #[.string tt, .string pp, .int .u64 q, .slice ae le.length ce]] w fun e w' => ApR w (appP (l.map TB.tp) (evMay tt pp q le) tt ⟨(evE tt pp q le).lay.toArray⟩) e w' := by
  have HC := Lib.hid (fun (W : World) (hF : TopsA W a l) => rmay12_c a c l (by omega) hI hN W hF)
  have HMAY := Lib.hid (fun (W : World) (hE : Flds W ae le) => rmayE_c tt pp q ae ce le hlE ht hp (fun f hf => ⟨hO2 f hf, (hO f hf).2.1⟩) W hE h0 h4)
  have HFN := Lib.hid (fun (W : World) (hF : TopsA W a l) => rfind12_c tt a c l (by omega) W hF)
  have HF := Lib.hid hF
  have HE := Lib.hid hE
  obtain ⟨p, hp2⟩ : ∃ p, appP (l.map TB.tp) (evMay tt pp q le) tt ⟨(evE tt pp q le).lay.toArray⟩ = p := ⟨_, rfl⟩
  rw [hp2]
  have HP := Lib.hid hp2
  clear hF hE hp2
  go_enter Try.func32, Try.ntmps32
  go_upto_region 1 with fail
  refine wp_genC (fun v => Hid (EAt v w.heap.size tt pp q (.slice ae le.length ce)) ∧ Hid (TopsA v a l) ∧ Hid (Flds v ae le) ∧ Hid (Below w.heap.size w v) ∧ w.heap.size < v.heap.size) ⟨EAt.of (new_box w #[.string tt, .string pp, .int .u64 q, .slice ae le.length ce] 25), HF.out.grow (balloc _ (.refl _ _)), HE.out.grow (balloc _ (.refl _ _)), balloc _ (.refl _ _), by simp⟩ ?_
  have HFW := HF
  have HEW := HE
  clear HF HE
  rintro w0 ⟨HX0, HF0, HE0, HB0, hz0⟩
  go_wp2_with fail
  refine (HC.out w0 HF0.out).mono ?_
  rintro e w1 ⟨rfl, hb1⟩
  have HX1 := Lib.hid (HX0.out.grow hz0 hb1)
  have HF1 := Lib.hid (HF0.out.grow hb1)
  have HE1 := Lib.hid (HE0.out.grow hb1)
  have HB1 := Lib.hid (bstep hb1 HB0.out)
  have hz1 : w.heap.size < w1.heap.size := Nat.lt_of_lt_of_le hz0 hb1.size
  clear hb1 HX0 HF0 HE0 HB0 hz0 HC
  obtain ⟨x0, x1, x2, x3, x4, x5, x6, x7⟩ := HX1.out
  cases hm : topsMay (l.map TB.tp) with
  | false =>
    obtain rfl : p = ([], 0, 1) := HP.out.symm.trans (by unfold appP; rw [hm, if_neg (by simp)])
    clear hm HP
    go_wp2_with fail
    go_ret3
    exact ApR.bad rfl HB1.out
  | true =>
    have HTM := Lib.hid hm
    clear hm
    go_wp2_with fail
    refine (HMAY.out w1 HE1.out).mono ?_
    rintro e w2 ⟨rfl, hb2⟩
    have HX2 := Lib.hid (HX1.out.grow hz1 hb2)
    have HF2 := Lib.hid (HF1.out.grow hb2)
    have HE2 := Lib.hid (HE1.out.grow hb2)
    have HB2 := Lib.hid (bstep hb2 HB1.out)
    have hz2 : w.heap.size < w2.heap.size := Nat.lt_of_lt_of_le hz1 hb2.size
    clear hb2 HX1 HF1 HE1 HB1 hz1 x0 x1 x2 x3 x4 x5 x6 x7
    obtain ⟨x0, x1, x2, x3, x4, x5, x6, x7⟩ := HX2.out
    cases hmy : evMay tt pp q le with
    | false =>
      obtain rfl : p = ([], 0, 1) := HP.out.symm.trans (by unfold appP; rw [hmy, if_neg (by simp)])
      clear hmy HP
      go_wp2_with fail
      go_ret3
      exact ApR.bad rfl HB2.out
    | true =>
      have hev : (evE tt pp q le).may = true := (evMay_eq tt pp q le h0).symm.trans hmy
      have HLAY := Lib.hid (fun (W : World) (hE : Flds W ae le) => rlayE_c tt pp q ae ce le hlE (by omega) (by omega) hO W hE h0 h4 hev)
      generalize (⟨(evE tt pp q le).lay.toArray⟩ : ByteArray) = S at HLAY HP
      have HP2 : Hid (appP (l.map TB.tp) true tt S = p) := Lib.hid (by rw [← hmy]; exact HP.out)
      have hG : Hid (okT none (l.map TB.tp) = true) := Lib.hid (by
        have h := HTM.out
        unfold topsMay at h
        rw [Bool.and_eq_true] at h
        exact h.2)
      clear hmy hev HP HMAY
      go_upto_region 4 with fail
      refine wp_genC (fun v => Hid (TBox v w2.heap.size tt 0 (.slice none 0 0)) ∧ Hid (EAt v w.heap.size tt pp q (.slice ae le.length ce)) ∧ Hid (TopsA v a l) ∧ Hid (Flds v ae le) ∧ Hid (Below w.heap.size w v) ∧ w2.heap.size < v.heap.size) ⟨TBox.new w2 tt 0 (.slice none 0 0) 74, HX2.out.grow hz2 (balloc _ (.refl _ _)), HF2.out.grow (balloc _ (.refl _ _)), HE2.out.grow (balloc _ (.refl _ _)), balloc _ HB2.out, by simp⟩ ?_
      clear HX2 HF2 HE2 HB2 x0 x1 x2 x3 x4 x5 x6 x7
      rintro w3 ⟨HY3, HX3, HF3, HE3, HB3, hz3⟩
      generalize w2.heap.size = G at HY3 hz3 hz2 ⊢
      obtain ⟨x0, x1, x2, x3, x4, x5, x6, x7⟩ := HX3.out
      have hwz3 : w.heap.size < w3.heap.size := by omega
      go_wp2_with fail
      refine (HFN.out w3 HF3.out).mono ?_
      rintro e w4 ⟨rfl, hb4⟩
      have HY4 := Lib.hid (HY3.out.grow hb4)
      have HX4 := Lib.hid (HX3.out.grow hwz3 hb4)
      have HF4 := Lib.hid (HF3.out.grow hb4)
      have HE4 := Lib.hid (HE3.out.grow hb4)
      have HB4 := Lib.hid (bstep hb4 HB3.out)
      have hz4 : G < w4.heap.size := Nat.lt_of_lt_of_le hz3 hb4.size
      have hwz4 : w.heap.size < w4.heap.size := by omega
      clear hb4 HY3 HX3 HF3 HE3 HB3 hz3 hwz3 x0 x1 x2 x3 x4 x5 x6 x7 HFN
      obtain ⟨x0, x1, x2, x3, x4, x5, x6, x7⟩ := HX4.out
      obtain ⟨z0, z1, z2, z3, z4, z5, z6⟩ := HY4.out
      unfold findR
      cases hf : findT (l.map TB.tp) tt with
      | none =>
        by_cases h20 : 20 ≤ l.length
        · obtain rfl : p = ([], 0, 6) := HP2.out.symm.trans (by unfold appP; rw [if_pos ⟨HTM.out, rfl⟩, hf]; simp only [List.length_map]; rw [if_pos h20])
          have y1 : (20 : Int) ≤ l.length := by omega
          clear hf HP2
          go_wp2_with fail
          go_ret3
          exact ApR.bad rfl HB4.out
        · have y1 : ¬ (20 : Int) ≤ l.length := by omega
          obtain rfl : p = (withT (l.map TB.tp) ⟨tt, 0, [] ++ [S]⟩, 0, 0) := HP2.out.symm.trans (by
            unfold appP
            rw [if_pos ⟨HTM.out, rfl⟩, hf]
            simp only [List.length_map]
            rw [if_neg h20, withT_ins hG.out ⟨tt, 0, [] ++ [S]⟩ (findT_none hf)]
            rfl)
          clear hf HP2
          have HLL : Hid (([] : List ByteArray).length ≤ 1000000) := Lib.hid (by simp)
          have HS4 : Hid (Strs w4 none []) := Lib.hid (Strs.nil _ _)
          have y9 : IntKind.i64.wrap ((0 : Int) + ((([] : List ByteArray).length : Nat) : Int)) = 0 := by decide
          go_upto_region 10 with fail
          refine wp_genC (fun v => Hid (TBox v G tt (0) (.slice (none) (([] : List ByteArray)).length (0))) ∧ Hid (EAt v w.heap.size tt pp q (.slice ae le.length ce)) ∧ Hid (TopsA v a l) ∧ Hid (Strs v (none) (([] : List ByteArray))) ∧ Hid (Flds v ae le) ∧ Hid (Below w.heap.size w v) ∧ w.heap.size < v.heap.size) ⟨HY4, HX4, HF4, HS4, HE4, HB4, hwz4⟩ ?_
          clear HX4 HF4 HE4 HB4 HY4 HS4 x0 x1 x2 x3 x4 x5 x6 x7 z0 z1 z2 z3 z4 z5 z6
          rintro X ⟨HY5, HX5, HF5, HS5, HE5, HB5, hwz5⟩
          obtain ⟨x0, x1, x2, x3, x4, x5, x6, x7⟩ := HX5.out
          obtain ⟨z0, z1, z2, z3, z4, z5, z6⟩ := HY5.out
          refine Tryst2.wp_region_grows [.any (EmpS X.heap.size), .is (.pointer (some ⟨G, 2, none⟩)), .is (.slice (none) (([] : List ByteArray)).length (0)), .any (OwnS X.heap.size (([] : List ByteArray))), .is (.agg #[.string tt, .string pp, .int .u64 q, .slice ae le.length ce]), .is (.string S), .any (OneS S)] (by kernel_rfl) (by kernel_rfl) ?obl ?fin
          case obl =>
            simp only [Tryst2.AllObl, Tryst2.dstL, Tryst2.Obl, Tryst2.depsOf, Tryst2.binds_data, Tryst2.binds_chain, Tryst2.binds_phase, Tryst2.binds_guard, Tryst2.binds_text, Tryst2.binds_gc, Bool.false_eq_true, if_false, List.filterMap_cons_some, List.filterMap_cons_none, Tryst2.depsR, Tryst2.holdR, Tryst2.tmpsOf, Op.operands, Call.operands, Tryst2.Rsp.pred, Tryst2.wantedV_none, Tryst2.wantedV_some, if_true, List.map_cons, List.map_nil, List.length_map, List.take_succ_cons, List.take_zero, List.length_cons, List.length_nil, List.getElem?_cons_zero, List.getElem?_cons_succ, Option.bind_some, id, List.getD_cons_zero, List.getD_cons_succ, Tryst2.isDst, List.filterMap_cons, List.filterMap_nil, List.toList_toArray]
            repeat' apply And.intro
            any_goals trivial
            all_goals (intro tv w' hg hold hd; (try simp at hold); obtain ⟨hcg, hfg⟩ := Tryst2.Grow.cells hg; have hsg := Tryst2.Grow.le hg)
            all_goals first | (go_simp; done) | (go_simp; rw [if_neg (by omega)]; exact ⟨.refl _, rfl⟩) | (obtain ⟨⟨g, hvg, hgg, hcell⟩, _⟩ := hd; have hcell0 := hcell 0 (by decide); simp at hcell0; go_simp; done) | (go_simp; exact EmpS.of _ _ (by omega)) | (go_simp; exact OneS.of _ _) | (go_simp; go_at_call 23; (with_reducible refine (HLAY.out _ ?_).mono ?_); (exact HE5.out.grow (Tryst2.Grow.below hg (.refl X.heap.size X))); rintro e w5 ⟨rfl, hb5⟩; exact ⟨hb5, rfl⟩) | (obtain ⟨h1, h2, _⟩ := hd; obtain ⟨g, eg, hgo⟩ := EmpS.at h1; obtain ⟨v', w'', hr, hgr, hov⟩ := OwnS.copy X.heap.size g (none) (([] : List ByteArray)) (0) w' (by omega) hgo HLL.out (HS5.out.grow (Tryst2.Grow.below hg (.refl X.heap.size X))) 72; exact Tryst2.stepV_append _ _ _ _ 72 rfl eg h2 hr ⟨hgr, hov⟩)
          case fin =>
            intro tv w' hg hR
            simp only [Tryst2.allR, Tryst2.dstL, Tryst2.Rsp.pred, List.map_cons, List.map_nil, List.take_succ_cons, List.take_zero, List.length_cons, List.length_nil, List.tail_cons, List.toList_toArray] at hR
            obtain ⟨hcg, hfg⟩ := Tryst2.Grow.cells hg
            have hsg := Tryst2.Grow.le hg
            simp only [Tryst2.putAll, Tryst2.dstL, List.map_cons, List.map_nil, List.take_succ_cons, List.take_zero, List.length_cons, List.length_nil, List.toList_toArray, List.drop_succ_cons, List.drop_zero, Act.put, List.setIfInBounds_toArray, List.set_cons_zero, List.set_cons_succ, hR]
            have h60 := OwnS.at hR.2.2.2.1
            obtain ⟨g9, e9, h9⟩ := OneS.at hR.2.2.2.2.2.2.1
            simp only [e9]
            have hbw := Tryst2.Grow.below hg (.refl X.heap.size X)
            have HY6 := Lib.hid (HY5.out.grow hbw)
            have HF6 := Lib.hid (HF5.out.grow hbw)
            have HB6 := Lib.hid (bstep hbw HB5.out)
            have hX6 : X.heap.size ≤ w'.heap.size := hbw.size
            have hGX : G < X.heap.size := HY5.out.hz
            have hwX : w.heap.size ≤ X.heap.size := by omega
            generalize tv 60 = u60 at h60 ⊢
            have H60 := Lib.hid h60
            clear hg hR hcg hfg hsg hbw h60 e9 x0 x1 x2 x3 x4 x5 x6 x7 z0 z1 z2 z3 z4 z5 z6 HY5 HX5 HF5 HS5 HE5 HB5
            have HLN : Hid ((sV (([] : List ByteArray))).length = (([] : List ByteArray)).length) := Lib.hid (by unfold sV; exact List.length_map ..)
            refine wpList_appR strT rfl (.tmp 60) (.tmp 63) rfl X.heap.size u60 (sV (([] : List ByteArray))) (([] : List ByteArray)).length HLN.out rfl H60.out [.string S] rfl (by simp [Value.oneCell']) g9 rfl (by intro j hj; obtain rfl : j = 0 := (by omega); simp [World.cell?, h9]) (by have := HLL.out; omega) hX6 ?_
            intro v' w3 ho3 hb3 _
            have ho4 : ROwn 9 1 w3 X.heap.size v' (sV ((([] : List ByteArray)) ++ [S])) := by
              unfold sV
              rw [List.map_append]
              exact ho3
            obtain ⟨a3, c3, hv3, _⟩ := ROwn.row ho4 (fun x hx => by obtain ⟨s, _, rfl⟩ := List.mem_map.1 hx; rfl) (by decide)
            have hln : (sV ((([] : List ByteArray)) ++ [S])).length = ((([] : List ByteArray)) ++ [S]).length := by unfold sV; rw [List.length_map]
            rw [hln] at hv3
            have hY3 := HY6.out.growB hGX hX6 hb3
            have HY7 := Lib.hid (hY3.put2 (.slice a3 ((([] : List ByteArray)) ++ [S]).length c3))
            have HO7 := Lib.hid (ho4.below (b := G) (o := 2) hGX (.slice a3 ((([] : List ByteArray)) ++ [S]).length c3))
            have HB7 := Lib.hid (bset (p := ⟨G, 2, none⟩) (.slice a3 ((([] : List ByteArray)) ++ [S]).length c3) (by show w.heap.size ≤ G; omega) (HB6.out.trans (hb3.mono hwX)))
            have HF7 := Lib.hid (HFW.out.grow HB7.out)
            generalize hL7 : (([] : List ByteArray)) ++ [S] = L7 at hv3 HY7 HO7 HB7 HF7
            have HL7 := Lib.hid hL7
            rw [hv3] at HO7
            subst hv3
            clear ho3 ho4 hb3 hln h9 hL7
            obtain ⟨z0, z1, z2, z3, z4, z5, z6⟩ := hY3
            go_upto_region 11 with fail
            refine wp_genC (fun v => Hid (TBox v G tt (0) (.slice a3 L7.length c3)) ∧ Hid (ROwn 9 1 v X.heap.size (.slice a3 L7.length c3) (sV L7)) ∧ Hid (TopsA v a l) ∧ Hid (Below w.heap.size w v)) ⟨HY7, HO7, HF7, HB7⟩ ?_
            clear HY7 HO7 HF7 HB7 z0 z1 z2 z3 z4 z5 z6
            rintro w8 ⟨HY8, HO8, HF8, HB8⟩
            obtain ⟨z0, z1, z2, z3, z4, z5, z6⟩ := HY8.out
            go_wp2_with fail
            refine (rwith12_c a c l hl tt (0) a3 L7 c3 w8 HF8.out).mono ?_
            rintro e w9 ⟨a9, c9, rfl, hrow, _, hb9⟩
            have HRW := Lib.hid hrow
            have HB9 := Lib.hid hb9
            clear hrow hb9
            have HMP : Hid ((withB l ⟨tt, 0, a3, L7, c3⟩).map TB.tp = withT (l.map TB.tp) ⟨tt, 0, (([] : List ByteArray)) ++ [S]⟩) := Lib.hid (by rw [withB_tp, HL7.out]; rfl)
            go_wp2_with fail
            go_ret3
            refine ⟨a9, c9, withB l ⟨tt, 0, a3, L7, c3⟩, rfl, HMP.out, ⟨HRW.out, fun t ht => ?_⟩, bstep HB9.out HB8.out⟩
            rcases withB_mem ht with rfl | ht
            · exact (rows_strs HO8.out).1.grow HB9.out
            · exact (HF8.out.2 t ht).grow HB9.out
      | some i =>
        obtain ⟨hi, hn, htm⟩ := find_at HTM.out hf
        obtain ⟨q1, q2, q3, _⟩ := tmay_parts htm
        have HP3 : Hid ((if 100 ≤ l[i].log.length ∨ 1099511627775 ≤ l[i].first + (l[i].log.length : Int) then (([] : List Tp), (0 : Int), 6) else ((l.map TB.tp).set i ⟨l[i].name, l[i].first, l[i].log ++ [S]⟩, l[i].first + (l[i].log.length : Int), 0)) = p) := Lib.hid (by
          refine Eq.trans (Eq.symm ?_) HP2.out
          unfold appP
          rw [if_pos ⟨HTM.out, rfl⟩, hf]
          show (match (l.map TB.tp)[i]? with | none => (([] : List Tp), (0 : Int), 6) | some t => _) = _
          rw [List.getElem?_map, List.getElem?_eq_getElem hi]
          rfl)
        have HWS : Hid (∀ t : Tp, t.name = tt → withT (l.map TB.tp) t = (l.map TB.tp).set i t) := Lib.hid (fun t htn => withT_set hG.out t (by simpa using hi) (by rw [List.getElem_map, htn]; exact hn))
        have HS0 := Lib.hid (HFW.out.2 l[i] (List.getElem_mem hi))
        obtain ⟨b, o, ha, hb⟩ := HF4.out.head hi
        obtain rfl : a = some ⟨b, o, none⟩ := ha
        obtain ⟨_, ⟨f0, f1, f2⟩, hS⟩ := HF4.out.at hi
        obtain ⟨nm, fs, la, lg, lc, hlk⟩ : ∃ nm fs la lg lc, l[i] = (⟨nm, fs, la, lg, lc⟩ : TB) := ⟨_, _, _, _, _, rfl⟩
        rw [hlk] at f0 f1 f2 HS0 HP3 q1 q2 q3 hn
        dsimp only at f0 f1 f2 HS0 HP3 q1 q2 q3 hn
        subst hn
        clear hf HP2 htm hlk hS
        have y0 : (i : Int) < l.length := by omega
        have y9 : IntKind.i64.wrap (fs + (lg.length : Int)) = fs + (lg.length : Int) := IntWalk.i64_in _ (by omega)
        go_upto_region 7 with fail
        have hB' := bset (p := ⟨G, 2, none⟩) (.slice la lg.length lc) (by show w.heap.size ≤ G; omega) (bset (p := ⟨G, 1, none⟩) (.int .i64 fs) (by show w.heap.size ≤ G; omega) (bset (p := ⟨G, 0, none⟩) (.string nm) (by show w.heap.size ≤ G; omega) HB4.out))
        refine wp_genC (fun v => Hid (TBox v G nm fs (.slice la lg.length lc)) ∧ Hid (EAt v w.heap.size nm pp q (.slice ae le.length ce)) ∧ Hid (Below w.heap.size w v) ∧ w.heap.size < v.heap.size) ⟨?_, ((HX4.out.away (by omega)).away (by omega)).away (by omega), hB', by simp; omega⟩ ?_
        · show TBox _ _ _ _ _
          constructor <;> simp [cell_setCell, frozen_setCell, z0, z1, z2, z3, z4, z5, z6]
        clear HX4 HF4 HE4 HB4 HY4 x0 x1 x2 x3 x4 x5 x6 x7 z0 z1 z2 z3 z4 z5 z6 f0 f1 f2 hB' hwz4 hz4 hb
        rintro w5 ⟨HY4, HX4, HB4, hwz4⟩
        have HS4 := Lib.hid (HS0.out.grow HB4.out)
        have HE4 := Lib.hid (HEW.out.grow HB4.out)
        have HF4 := Lib.hid (HFW.out.grow HB4.out)
        obtain ⟨x0, x1, x2, x3, x4, x5, x6, x7⟩ := HX4.out
        obtain ⟨z0, z1, z2, z3, z4, z5, z6⟩ := HY4.out
        by_cases g1 : 100 ≤ lg.length
        · obtain rfl : p = ([], 0, 6) := HP3.out.symm.trans (by rw [if_pos (.inl g1)])
          have y2 : (100 : Int) ≤ lg.length := by omega
          go_wp2_with fail
          go_ret3
          exact ApR.bad rfl HB4.out
        · have y2 : ¬ (100 : Int) ≤ lg.length := by omega
          by_cases g2 : 1099511627775 ≤ fs + (lg.length : Int)
          · obtain rfl : p = ([], 0, 6) := HP3.out.symm.trans (by rw [if_pos (.inr g2)])
            go_wp2_with fail
            go_ret3
            exact ApR.bad rfl HB4.out
          · obtain rfl : p = (withT (l.map TB.tp) ⟨nm, fs, lg ++ [S]⟩, fs + (lg.length : Int), 0) := HP3.out.symm.trans (by rw [if_neg (by omega), HWS.out ⟨nm, fs, lg ++ [S]⟩ rfl])
            have HLL : Hid (lg.length ≤ 1000000) := Lib.hid (by omega)
            clear HP3
            go_upto_region 10 with fail
            refine wp_genC (fun v => Hid (TBox v G nm (fs) (.slice (la) (lg).length (lc))) ∧ Hid (EAt v w.heap.size nm pp q (.slice ae le.length ce)) ∧ Hid (TopsA v (some ⟨b, o, none⟩) l) ∧ Hid (Strs v (la) (lg)) ∧ Hid (Flds v ae le) ∧ Hid (Below w.heap.size w v) ∧ w.heap.size < v.heap.size) ⟨HY4, HX4, HF4, HS4, HE4, HB4, hwz4⟩ ?_
            clear HX4 HF4 HE4 HB4 HY4 HS4 x0 x1 x2 x3 x4 x5 x6 x7 z0 z1 z2 z3 z4 z5 z6
            rintro X ⟨HY5, HX5, HF5, HS5, HE5, HB5, hwz5⟩
            obtain ⟨x0, x1, x2, x3, x4, x5, x6, x7⟩ := HX5.out
            obtain ⟨z0, z1, z2, z3, z4, z5, z6⟩ := HY5.out
            refine Tryst2.wp_region_grows [.any (EmpS X.heap.size), .is (.pointer (some ⟨G, 2, none⟩)), .is (.slice (la) (lg).length (lc)), .any (OwnS X.heap.size (lg)), .is (.agg #[.string nm, .string pp, .int .u64 q, .slice ae le.length ce]), .is (.string S), .any (OneS S)] (by kernel_rfl) (by kernel_rfl) ?obl ?fin
            case obl =>
              simp only [Tryst2.AllObl, Tryst2.dstL, Tryst2.Obl, Tryst2.depsOf, Tryst2.binds_data, Tryst2.binds_chain, Tryst2.binds_phase, Tryst2.binds_guard, Tryst2.binds_text, Tryst2.binds_gc, Bool.false_eq_true, if_false, List.filterMap_cons_some, List.filterMap_cons_none, Tryst2.depsR, Tryst2.holdR, Tryst2.tmpsOf, Op.operands, Call.operands, Tryst2.Rsp.pred, Tryst2.wantedV_none, Tryst2.wantedV_some, if_true, List.map_cons, List.map_nil, List.length_map, List.take_succ_cons, List.take_zero, List.length_cons, List.length_nil, List.getElem?_cons_zero, List.getElem?_cons_succ, Option.bind_some, id, List.getD_cons_zero, List.getD_cons_succ, Tryst2.isDst, List.filterMap_cons, List.filterMap_nil, List.toList_toArray]
              repeat' apply And.intro
              any_goals trivial
              all_goals (intro tv w' hg hold hd; (try simp at hold); obtain ⟨hcg, hfg⟩ := Tryst2.Grow.cells hg; have hsg := Tryst2.Grow.le hg)
              all_goals first | (go_simp; done) | (go_simp; rw [if_neg (by omega)]; exact ⟨.refl _, rfl⟩) | (obtain ⟨⟨g, hvg, hgg, hcell⟩, _⟩ := hd; have hcell0 := hcell 0 (by decide); simp at hcell0; go_simp; done) | (go_simp; exact EmpS.of _ _ (by omega)) | (go_simp; exact OneS.of _ _) | (go_simp; go_at_call 23; (with_reducible refine (HLAY.out _ ?_).mono ?_); (exact HE5.out.grow (Tryst2.Grow.below hg (.refl X.heap.size X))); rintro e w5 ⟨rfl, hb5⟩; exact ⟨hb5, rfl⟩) | (obtain ⟨h1, h2, _⟩ := hd; obtain ⟨g, eg, hgo⟩ := EmpS.at h1; obtain ⟨v', w'', hr, hgr, hov⟩ := OwnS.copy X.heap.size g (la) (lg) (lc) w' (by omega) hgo HLL.out (HS5.out.grow (Tryst2.Grow.below hg (.refl X.heap.size X))) 72; exact Tryst2.stepV_append _ _ _ _ 72 rfl eg h2 hr ⟨hgr, hov⟩)
            case fin =>
              intro tv w' hg hR
              simp only [Tryst2.allR, Tryst2.dstL, Tryst2.Rsp.pred, List.map_cons, List.map_nil, List.take_succ_cons, List.take_zero, List.length_cons, List.length_nil, List.tail_cons, List.toList_toArray] at hR
              obtain ⟨hcg, hfg⟩ := Tryst2.Grow.cells hg
              have hsg := Tryst2.Grow.le hg
              simp only [Tryst2.putAll, Tryst2.dstL, List.map_cons, List.map_nil, List.take_succ_cons, List.take_zero, List.length_cons, List.length_nil, List.toList_toArray, List.drop_succ_cons, List.drop_zero, Act.put, List.setIfInBounds_toArray, List.set_cons_zero, List.set_cons_succ, hR]
              have h60 := OwnS.at hR.2.2.2.1
              obtain ⟨g9, e9, h9⟩ := OneS.at hR.2.2.2.2.2.2.1
              simp only [e9]
              have hbw := Tryst2.Grow.below hg (.refl X.heap.size X)
              have HY6 := Lib.hid (HY5.out.grow hbw)
              have HF6 := Lib.hid (HF5.out.grow hbw)
              have HB6 := Lib.hid (bstep hbw HB5.out)
              have hX6 : X.heap.size ≤ w'.heap.size := hbw.size
              have hGX : G < X.heap.size := HY5.out.hz
              have hwX : w.heap.size ≤ X.heap.size := by omega
              generalize tv 60 = u60 at h60 ⊢
              have H60 := Lib.hid h60
              clear hg hR hcg hfg hsg hbw h60 e9 x0 x1 x2 x3 x4 x5 x6 x7 z0 z1 z2 z3 z4 z5 z6 HY5 HX5 HF5 HS5 HE5 HB5
              have HLN : Hid ((sV (lg)).length = (lg).length) := Lib.hid (by unfold sV; exact List.length_map ..)
              refine wpList_appR strT rfl (.tmp 60) (.tmp 63) rfl X.heap.size u60 (sV (lg)) (lg).length HLN.out rfl H60.out [.string S] rfl (by simp [Value.oneCell']) g9 rfl (by intro j hj; obtain rfl : j = 0 := (by omega); simp [World.cell?, h9]) (by have := HLL.out; omega) hX6 ?_
              intro v' w3 ho3 hb3 _
              have ho4 : ROwn 9 1 w3 X.heap.size v' (sV ((lg) ++ [S])) := by
                unfold sV
                rw [List.map_append]
                exact ho3
              obtain ⟨a3, c3, hv3, _⟩ := ROwn.row ho4 (fun x hx => by obtain ⟨s, _, rfl⟩ := List.mem_map.1 hx; rfl) (by decide)
              have hln : (sV ((lg) ++ [S])).length = ((lg) ++ [S]).length := by unfold sV; rw [List.length_map]
              rw [hln] at hv3
              have hY3 := HY6.out.growB hGX hX6 hb3
              have HY7 := Lib.hid (hY3.put2 (.slice a3 ((lg) ++ [S]).length c3))
              have HO7 := Lib.hid (ho4.below (b := G) (o := 2) hGX (.slice a3 ((lg) ++ [S]).length c3))
              have HB7 := Lib.hid (bset (p := ⟨G, 2, none⟩) (.slice a3 ((lg) ++ [S]).length c3) (by show w.heap.size ≤ G; omega) (HB6.out.trans (hb3.mono hwX)))
              have HF7 := Lib.hid (HFW.out.grow HB7.out)
              generalize hL7 : (lg) ++ [S] = L7 at hv3 HY7 HO7 HB7 HF7
              have HL7 := Lib.hid hL7
              rw [hv3] at HO7
              subst hv3
              clear ho3 ho4 hb3 hln h9 hL7
              obtain ⟨z0, z1, z2, z3, z4, z5, z6⟩ := hY3
              go_upto_region 11 with fail
              refine wp_genC (fun v => Hid (TBox v G nm (fs) (.slice a3 L7.length c3)) ∧ Hid (ROwn 9 1 v X.heap.size (.slice a3 L7.length c3) (sV L7)) ∧ Hid (TopsA v (some ⟨b, o, none⟩) l) ∧ Hid (Below w.heap.size w v)) ⟨HY7, HO7, HF7, HB7⟩ ?_
              clear HY7 HO7 HF7 HB7 z0 z1 z2 z3 z4 z5 z6
              rintro w8 ⟨HY8, HO8, HF8, HB8⟩
              obtain ⟨z0, z1, z2, z3, z4, z5, z6⟩ := HY8.out
              go_wp2_with fail
              refine (rwith12_c (some ⟨b, o, none⟩) c l hl nm (fs) a3 L7 c3 w8 HF8.out).mono ?_
              rintro e w9 ⟨a9, c9, rfl, hrow, _, hb9⟩
              have HRW := Lib.hid hrow
              have HB9 := Lib.hid hb9
              clear hrow hb9
              have HMP : Hid ((withB l ⟨nm, fs, a3, L7, c3⟩).map TB.tp = withT (l.map TB.tp) ⟨nm, fs, (lg) ++ [S]⟩) := Lib.hid (by rw [withB_tp, HL7.out]; rfl)
              go_wp2_with fail
              go_ret3
              refine ⟨a9, c9, withB l ⟨nm, fs, a3, L7, c3⟩, rfl, HMP.out, ⟨HRW.out, fun t ht => ?_⟩, bstep HB9.out HB8.out⟩
              rcases withB_mem ht with rfl | ht
              · exact (rows_strs HO8.out).1.grow HB9.out
              · exact (HF8.out.2 t ht).grow HB9.out
end Go.Proofs.Ytcbnehplilpidaa
