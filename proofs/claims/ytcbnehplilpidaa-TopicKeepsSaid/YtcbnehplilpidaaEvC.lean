/- The walks of ref04.Same and event.Same. -/
import Derived.Test.YtcbnehplilpidaaProg
import Derived.WalkKit
import Derived.WalkSpells
import Derived.WalkLawsBesides
import Derived.Lib.Hide
import Derived.Deep.RegionWith
import Derived.Deep.Cut
import Derived.Test.YtcbnehplilpidaaFldG
set_option linter.unusedVariables false
set_option linter.unusedSimpArgs false
namespace Go.Proofs.Ytcbnehplilpidaa
open Go.RowKit Tryst
set_option maxHeartbeats 400000
set_option maxRecDepth 20000
def fV2 (f : FB) : Value := .agg #[.string f.name, .bool f.num, .int .i64 f.n, .string f.s]
def SameR (w : World) (t1 t2 p1 p2 : ByteArray) (q1 q2 : Int) (l1 l2 : List FB) (e : Ending) (w' : World) : Prop := ∃ r : Bool, e = .returned (.bool r) ∧ (r = true ↔ t1 = t2 ∧ p1 = p2 ∧ q1 = q2 ∧ l1 = l2) ∧ Below w.heap.size w w'
theorem fb_cases (x y : FB) : x = y ∨ (x ≠ y ∧ (((x.name.toList == y.name.toList) = false) ∨ ((x.name.toList == y.name.toList) = true ∧ (x.num == y.num) = false) ∨ ((x.name.toList == y.name.toList) = true ∧ (x.num == y.num) = true ∧ (x.n == y.n) = false) ∨ ((x.name.toList == y.name.toList) = true ∧ (x.num == y.num) = true ∧ (x.n == y.n) = true ∧ (x.s.toList == y.s.toList) = false))) := by
  by_cases h : x = y
  · exact .inl h
  · refine .inr ⟨h, ?_⟩
    by_cases h1 : x.name.data.toList = y.name.data.toList
    · by_cases h2 : x.num = y.num
      · by_cases h3 : x.n = y.n
        · have h4 : ¬ x.s.data.toList = y.s.data.toList := fun h4 => h (FB.ext' (by simp only [FB.fld, h1, h2, h3, h4]))
          exact .inr (.inr (.inr ⟨strEq h1, by simpa using h2, by simpa using h3, strNe h4⟩))
        · exact .inr (.inr (.inl ⟨strEq h1, by simpa using h2, by simpa using h3⟩))
      · exact .inr (.inl ⟨strEq h1, by simpa using h2⟩)
    · exact .inl (strNe h1)
theorem ba_cases (s t : ByteArray) : (s = t) ∨ (s ≠ t ∧ (s.toList == t.toList) = false ∧ (s.toList != t.toList) = true) := by
  by_cases h : s = t
  · exact .inl h
  · have h1 : (s.toList == t.toList) = false := strNe (fun e => h (str_ext e))
    exact .inr ⟨h, h1, by rw [bne, h1]; rfl⟩
def SameRel (w W : World) (l1 l2 : List FB) (i : Value) (wr : World) : Prop := ∃ k : Nat, k ≤ l1.length ∧ i = .int .i64 k ∧ Hid (∀ (j : Nat) (h1 : j < l1.length) (h2 : j < l2.length), j < k → l1[j] = l2[j]) ∧ Hid (Below W.heap.size W wr) ∧ W.heap.size ≤ wr.heap.size
set_option maxHeartbeats 2000000 in
theorem rsame_loop (t1 t2 p1 p2 : ByteArray) (q1 q2 : Int) (a1 a2 : Option Addr) (c1 c2 : Nat) (l1 l2 : List FB) (hl : l1.length ≤ 1000000000) (hn : l1.length = l2.length) (ht : t1 = t2) (hp : p1 = p2) (hq : q1 = q2) (w : World) (h1 : Flds w a1 l1) (h2 : Flds w a2 l2) :
    Calls Try.prog 19 #[.agg #[.string t1, .string p1, .int .u64 q1, .slice a1 l1.length c1], .agg #[.string t2, .string p2, .int .u64 q2, .slice a2 l2.length c2]] w fun e w' => SameR w t1 t2 p1 p2 q1 q2 l1 l2 e w' := by
  subst ht hp hq
  have H1 := Lib.hid h1
  have H2 := Lib.hid h2
  rw [← hn]
  have HN := Lib.hid hn
  clear h1 h2 hn
  go_enter Try.func19, Try.ntmps19
  go_wp2_with fail
  obtain ⟨X, hX⟩ : ∃ X, (w.alloc (.cells #[.string t1, .string p1, .int .u64 q1, .slice a1 l1.length c1] 25)).alloc (.cells #[.string t1, .string p1, .int .u64 q1, .slice a2 l1.length c2] 25) = X := ⟨_, rfl⟩
  have hbX : Below w.heap.size w X := by rw [← hX]; exact balloc _ (balloc _ (.refl _ _))
  have hsX : X.heap.size = w.heap.size + 2 := by rw [← hX]; simp
  have x3 : X.cell? ⟨w.heap.size, 3, none⟩ = some (.slice a1 l1.length c1) := by rw [← hX]; simp [go_sem]
  have y3 : X.cell? ⟨w.heap.size + 1, 3, none⟩ = some (.slice a2 l1.length c2) := by rw [← hX]; simp [go_sem]
  rw [hX]
  have hsX1 : w.heap.size + 2 ≤ X.heap.size := by omega
  have HBX := Lib.hid hbX
  have X3 := Lib.hid x3
  have Y3 := Lib.hid y3
  clear hX hsX hbX x3 y3
  go_loopw [5] (fun i wr => SameRel w X l1 l2 i wr) (fun i _ => l1.length - (intOf i).toNat)
  case atStart => exact ⟨0, by omega, rfl, fun j _ _ h => by omega, .refl _ _, Nat.le_refl _⟩
  case round =>
    obtain ⟨k, hk, rfl, HE, HB, hz⟩ := hrel
    obtain ⟨wo, rfl⟩ : ∃ wo, wo = wr := ⟨_, rfl⟩
    have x3 : wo.cell? ⟨w.heap.size, 3, none⟩ = some (.slice a1 l1.length c1) := by rw [HB.out.cell (p := ⟨w.heap.size, 3, none⟩) (by show w.heap.size < _; omega)]; exact X3.out
    have y3 : wo.cell? ⟨w.heap.size + 1, 3, none⟩ = some (.slice a2 l1.length c2) := by rw [HB.out.cell (p := ⟨w.heap.size + 1, 3, none⟩) (by show w.heap.size + 1 < _; omega)]; exact Y3.out
    have hw1 : w.heap.size < wo.heap.size := by omega
    have hw2 : w.heap.size + 1 < wo.heap.size := by omega
    by_cases hlt : k < l1.length
    · have hlt2 : k < l2.length := by have := HN.out; omega
      have G1 := Lib.hid ((H1.out.grow HBX.out).grow HB.out)
      have G2 := Lib.hid ((H2.out.grow HBX.out).grow HB.out)
      obtain ⟨b1, o1, ha1, hb1⟩ := G1.out.head hlt
      obtain ⟨b2, o2, ha2, hb2⟩ := G2.out.head hlt2
      subst ha1 ha2
      obtain ⟨_, f0, f1, f2, f3⟩ := G1.out.at hlt
      obtain ⟨_, g0, g1, g2, g3⟩ := G2.out.at hlt2
      have z1 : (k : Int) < l1.length := by omega
      have z2 : (0 : Int) ≤ k := by omega
      rcases fb_cases l1[k] l2[k] with he | ⟨hne, hd⟩
      · have HE2 : Hid (∀ (j : Nat) (h1 : j < l1.length) (h2 : j < l2.length), j < k + 1 → l1[j] = l2[j]) := fun j h1 h2 hj => by
          by_cases e : j = k
          · subst e; exact he
          · exact HE.out j h1 h2 (by omega)
        rw [← he] at g0 g1 g2 g3
        clear he HE
        go_wp2_with fail
        refine Tryst2.wp_region_grows [.is (.pointer (some ⟨w.heap.size, 3, none⟩)), .is (.slice (some ⟨b1, o1, none⟩) l1.length c1), .is (.int .i64 k), .is (.pointer (some ⟨b1, o1 + k * 4, none⟩)), .is ((.agg #[.string l1[k].name, .bool l1[k].num, .int .i64 l1[k].n, .string l1[k].s])), .is (.pointer (some ⟨w.heap.size + 1, 3, none⟩)), .is (.slice (some ⟨b2, o2, none⟩) l1.length c2), .is (.int .i64 k), .is (.pointer (some ⟨b2, o2 + k * 4, none⟩)), .is ((.agg #[.string l1[k].name, .bool l1[k].num, .int .i64 l1[k].n, .string l1[k].s])), .is (.bool false)] (by kernel_rfl) (by kernel_rfl) ?obl ?fin
        case obl =>
          simp only [Tryst2.AllObl, Tryst2.dstL, Tryst2.Obl, Tryst2.depsOf, Tryst2.binds_data, Tryst2.binds_chain, Tryst2.binds_phase, Tryst2.binds_guard, Tryst2.binds_text, Tryst2.binds_gc, Bool.false_eq_true, if_false, List.filterMap_cons_some, List.filterMap_cons_none, Tryst2.depsR, Tryst2.holdR, Tryst2.tmpsOf, Op.operands, Call.operands, Tryst2.Rsp.pred, Tryst2.wantedV_none, if_true, List.map_cons, List.map_nil, List.length_map, List.take_succ_cons, List.take_zero, List.length_cons, List.length_nil, List.getElem?_cons_zero, List.getElem?_cons_succ, Option.bind_some, id, List.getD_cons_zero, List.getD_cons_succ, Tryst2.isDst, List.filterMap_cons, List.filterMap_nil, List.toList_toArray]
          repeat' apply And.intro
          any_goals trivial
          all_goals (intro tv w' hg hold hd; (try simp at hold); obtain ⟨hcg, hfg⟩ := Tryst2.Grow.cells hg; have hsg := Tryst2.Grow.le hg)
          all_goals first | (go_simp; done) | (go_simp; rw [if_neg (by omega)]; exact ⟨.refl _, rfl⟩) | (obtain ⟨⟨g, hvg, hgg, hcell⟩, _⟩ := hd; have hcell0 := hcell 0 (by decide); simp at hcell0; go_simp; done) 
        case fin =>
          intro tv w' hg hR
          simp only [Tryst2.allR, Tryst2.dstL, Tryst2.Rsp.pred, List.map_cons, List.map_nil, List.take_succ_cons, List.take_zero, List.length_cons, List.length_nil, List.tail_cons, List.toList_toArray] at hR
          obtain ⟨hcg, hfg⟩ := Tryst2.Grow.cells hg
          have hsg := Tryst2.Grow.le hg
          simp only [Tryst2.putAll, Tryst2.dstL, List.map_cons, List.map_nil, List.take_succ_cons, List.take_zero, List.length_cons, List.length_nil, List.toList_toArray, List.drop_succ_cons, List.drop_zero, Act.put, List.setIfInBounds_toArray, List.set_cons_zero, List.set_cons_succ, hR]
          have hz2 : wo.heap.size ≤ w'.heap.size := hsg
          have KB := Lib.hid (Tryst2.Grow.below hg HB.out)
          clear hg hR hcg hfg hsg HB
          go_wp2_with fail
          go_roundw
          case rel => exact ⟨k + 1, by omega, by go_num, HE2, KB.out, by omega⟩
          case measure => simp [intOf] <;> omega
      · have HNE : Hid (¬ l1 = l2) := fun e => hne (by subst e; rfl)
        clear hne HE
        rcases hd with d1 | ⟨d1, d2⟩ | ⟨d1, d2, d3⟩ | ⟨d1, d2, d3, d4⟩
        all_goals
          go_wp2_with fail
          refine Tryst2.wp_region_grows [.is (.pointer (some ⟨w.heap.size, 3, none⟩)), .is (.slice (some ⟨b1, o1, none⟩) l1.length c1), .is (.int .i64 k), .is (.pointer (some ⟨b1, o1 + k * 4, none⟩)), .is (.agg #[.string l1[k].name, .bool l1[k].num, .int .i64 l1[k].n, .string l1[k].s]), .is (.pointer (some ⟨w.heap.size + 1, 3, none⟩)), .is (.slice (some ⟨b2, o2, none⟩) l1.length c2), .is (.int .i64 k), .is (.pointer (some ⟨b2, o2 + k * 4, none⟩)), .is (.agg #[.string l2[k].name, .bool l2[k].num, .int .i64 l2[k].n, .string l2[k].s]), .is (.bool true)] (by kernel_rfl) (by kernel_rfl) ?obl ?fin
          case obl =>
            simp only [Tryst2.AllObl, Tryst2.dstL, Tryst2.Obl, Tryst2.depsOf, Tryst2.binds_data, Tryst2.binds_chain, Tryst2.binds_phase, Tryst2.binds_guard, Tryst2.binds_text, Tryst2.binds_gc, Bool.false_eq_true, if_false, List.filterMap_cons_some, List.filterMap_cons_none, Tryst2.depsR, Tryst2.holdR, Tryst2.tmpsOf, Op.operands, Call.operands, Tryst2.Rsp.pred, Tryst2.wantedV_none, if_true, List.map_cons, List.map_nil, List.length_map, List.take_succ_cons, List.take_zero, List.length_cons, List.length_nil, List.getElem?_cons_zero, List.getElem?_cons_succ, Option.bind_some, id, List.getD_cons_zero, List.getD_cons_succ, Tryst2.isDst, List.filterMap_cons, List.filterMap_nil, List.toList_toArray]
            repeat' apply And.intro
            any_goals trivial
            all_goals (intro tv w' hg hold hd; (try simp at hold); obtain ⟨hcg, hfg⟩ := Tryst2.Grow.cells hg; have hsg := Tryst2.Grow.le hg)
            all_goals first | (go_simp; done) | (go_simp; rw [if_neg (by omega)]; exact ⟨.refl _, rfl⟩) | (obtain ⟨⟨g, hvg, hgg, hcell⟩, _⟩ := hd; have hcell0 := hcell 0 (by decide); simp at hcell0; go_simp; done) 
          case fin =>
            intro tv w' hg hR
            simp only [Tryst2.allR, Tryst2.dstL, Tryst2.Rsp.pred, List.map_cons, List.map_nil, List.take_succ_cons, List.take_zero, List.length_cons, List.length_nil, List.tail_cons, List.toList_toArray] at hR
            obtain ⟨hcg, hfg⟩ := Tryst2.Grow.cells hg
            have hsg := Tryst2.Grow.le hg
            simp only [Tryst2.putAll, Tryst2.dstL, List.map_cons, List.map_nil, List.take_succ_cons, List.take_zero, List.length_cons, List.length_nil, List.toList_toArray, List.drop_succ_cons, List.drop_zero, Act.put, List.setIfInBounds_toArray, List.set_cons_zero, List.set_cons_succ, hR]
            have KB := Lib.hid (Tryst2.Grow.below hg HB.out)
            clear hg hR hcg hfg hsg HB
            go_wp2_with fail
            go_ret
            exact ⟨false, rfl, ⟨fun h => (by cases h), fun h => absurd h.2.2.2 HNE.out⟩, HBX.out.trans (KB.out.mono HBX.out.size)⟩
    · have HEQ : Hid (l1 = l2) := by
        have := HE.out
        refine List.ext_getElem HN.out fun i h1 h2 => this i h1 h2 (by omega)
      clear HE
      go_wp2_with fail
      go_ret
      exact ⟨true, rfl, ⟨fun _ => ⟨rfl, rfl, rfl, HEQ.out⟩, fun _ => rfl⟩, HBX.out.trans (HB.out.mono HBX.out.size)⟩
theorem rsame_c (t1 t2 p1 p2 : ByteArray) (q1 q2 : Int) (a1 a2 : Option Addr) (c1 c2 : Nat) (l1 l2 : List FB) (hl : l1.length ≤ 1000000000) (hl2 : l2.length ≤ 1000000000) (w : World) (h1 : Flds w a1 l1) (h2 : Flds w a2 l2) :
    Calls Try.prog 19 #[.agg #[.string t1, .string p1, .int .u64 q1, .slice a1 l1.length c1], .agg #[.string t2, .string p2, .int .u64 q2, .slice a2 l2.length c2]] w fun e w' => SameR w t1 t2 p1 p2 q1 q2 l1 l2 e w' := by
  rcases ba_cases t1 t2 with ht | ⟨ht, e1, e2⟩
  · rcases ba_cases p1 p2 with hp | ⟨hp, e1, e2⟩
    · by_cases hq : q1 = q2
      · by_cases hn : l1.length = l2.length
        · exact rsame_loop t1 t2 p1 p2 q1 q2 a1 a2 c1 c2 l1 l2 hl hn ht hp hq w h1 h2
        · subst ht hp hq
          have e3 : ((l1.length : Int) != l2.length) = true := by simp; omega
          have HN := Lib.hid hn
          clear h1 h2 hn
          go_enter Try.func19, Try.ntmps19
          go_wp2_with fail
          go_ret
          exact ⟨false, rfl, ⟨fun h => (by cases h), fun h => absurd (congrArg List.length h.2.2.2) HN.out⟩, balloc _ (balloc _ (.refl _ _))⟩
      · subst ht hp
        have e3 : (q1 != q2) = true := by simpa using hq
        have HN := Lib.hid hq
        clear h1 h2 hq
        go_enter Try.func19, Try.ntmps19
        go_wp2_with fail
        go_ret
        exact ⟨false, rfl, ⟨fun h => (by cases h), fun h => absurd h.2.2.1 HN.out⟩, balloc _ (balloc _ (.refl _ _))⟩
    · subst ht
      have HN := Lib.hid hp
      clear h1 h2 hp
      go_enter Try.func19, Try.ntmps19
      go_wp2_with fail
      go_ret
      exact ⟨false, rfl, ⟨fun h => (by cases h), fun h => absurd h.2.1 HN.out⟩, balloc _ (balloc _ (.refl _ _))⟩
  · have HN := Lib.hid ht
    clear h1 h2 ht
    go_enter Try.func19, Try.ntmps19
    go_wp2_with fail
    go_ret
    exact ⟨false, rfl, ⟨fun h => (by cases h), fun h => absurd h.1 HN.out⟩, balloc _ (balloc _ (.refl _ _))⟩
end Go.Proofs.Ytcbnehplilpidaa
namespace Go.Proofs.Ytcbnehplilpidaa
open Go.RowKit Tryst
set_option maxHeartbeats 400000
set_option maxRecDepth 20000
def EqR (w : World) (l1 l2 : List FB) (e : Ending) (w' : World) : Prop := ∃ r : Bool, e = .returned (.bool r) ∧ (r = true ↔ l1 = l2) ∧ Below w.heap.size w w'
set_option maxHeartbeats 2000000 in
theorem equal_c (a1 a2 : Option Addr) (c1 c2 : Nat) (l1 l2 : List FB) (hl : l1.length ≤ 1000000000) (hl2 : l2.length ≤ 1000000000) (w : World) (h1 : Flds w a1 l1) (h2 : Flds w a2 l2) :
    Calls Try.prog 47 #[.slice a1 l1.length c1, .slice a2 l2.length c2] w fun e w' => EqR w l1 l2 e w' := by
  by_cases hn : l1.length = l2.length
  · have H1 := Lib.hid h1
    have H2 := Lib.hid h2
    rw [← hn]
    have HN := Lib.hid hn
    clear h1 h2 hn
    have e3 : ((l1.length : Int) != l1.length) = false := by simp
    go_enter Try.func47, Try.ntmps47
    go_wp2_with fail
    go_loopw [13] (fun i wr => SameRel w w l1 l2 i wr) (fun i _ => l1.length - (intOf i).toNat)
    case atStart => exact ⟨0, by omega, rfl, fun j _ _ h => by omega, .refl _ _, Nat.le_refl _⟩
    case round =>
      obtain ⟨k, hk, rfl, HE, HB, hz⟩ := hrel
      obtain ⟨wo, rfl⟩ : ∃ wo, wo = wr := ⟨_, rfl⟩
      by_cases hlt : k < l1.length
      · have hlt2 : k < l2.length := by have := HN.out; omega
        have G1 := Lib.hid (H1.out.grow HB.out)
        have G2 := Lib.hid (H2.out.grow HB.out)
        obtain ⟨b1, o1, ha1, hb1⟩ := G1.out.head hlt
        obtain ⟨b2, o2, ha2, hb2⟩ := G2.out.head hlt2
        subst ha1 ha2
        obtain ⟨_, f0, f1, f2, f3⟩ := G1.out.at hlt
        obtain ⟨_, g0, g1, g2, g3⟩ := G2.out.at hlt2
        have z1 : (k : Int) < l1.length := by omega
        have z2 : (0 : Int) ≤ k := by omega
        rcases fb_cases l1[k] l2[k] with he | ⟨hne, hd⟩
        · have HE2 : Hid (∀ (j : Nat) (h1 : j < l1.length) (h2 : j < l2.length), j < k + 1 → l1[j] = l2[j]) := fun j h1 h2 hj => by
            by_cases e : j = k
            · subst e; exact he
            · exact HE.out j h1 h2 (by omega)
          rw [← he] at g0 g1 g2 g3
          clear he HE
          go_wp2_with fail
          refine Tryst2.wp_region_grows [.is (.slice (some ⟨b1, o1, none⟩) l1.length c1), .is (.int .i64 k), .is (.pointer (some ⟨b1, o1 + k * 4, none⟩)), .is ((.agg #[.string l1[k].name, .bool l1[k].num, .int .i64 l1[k].n, .string l1[k].s])), .is (.slice (some ⟨b2, o2, none⟩) l1.length c2), .is (.int .i64 k), .is (.pointer (some ⟨b2, o2 + k * 4, none⟩)), .is ((.agg #[.string l1[k].name, .bool l1[k].num, .int .i64 l1[k].n, .string l1[k].s])), .is (.bool false)] (by kernel_rfl) (by kernel_rfl) ?obl ?fin
          case obl =>
            simp only [Tryst2.AllObl, Tryst2.dstL, Tryst2.Obl, Tryst2.depsOf, Tryst2.binds_data, Tryst2.binds_chain, Tryst2.binds_phase, Tryst2.binds_guard, Tryst2.binds_text, Tryst2.binds_gc, Bool.false_eq_true, if_false, List.filterMap_cons_some, List.filterMap_cons_none, Tryst2.depsR, Tryst2.holdR, Tryst2.tmpsOf, Op.operands, Call.operands, Tryst2.Rsp.pred, Tryst2.wantedV_none, if_true, List.map_cons, List.map_nil, List.length_map, List.take_succ_cons, List.take_zero, List.length_cons, List.length_nil, List.getElem?_cons_zero, List.getElem?_cons_succ, Option.bind_some, id, List.getD_cons_zero, List.getD_cons_succ, Tryst2.isDst, List.filterMap_cons, List.filterMap_nil, List.toList_toArray]
            repeat' apply And.intro
            any_goals trivial
            all_goals (intro tv w' hg hold hd; (try simp at hold); obtain ⟨hcg, hfg⟩ := Tryst2.Grow.cells hg; have hsg := Tryst2.Grow.le hg)
            all_goals first | (go_simp; done) | (go_simp; rw [if_neg (by omega)]; exact ⟨.refl _, rfl⟩) | (obtain ⟨⟨g, hvg, hgg, hcell⟩, _⟩ := hd; have hcell0 := hcell 0 (by decide); simp at hcell0; go_simp; done) 
          case fin =>
            intro tv w' hg hR
            simp only [Tryst2.allR, Tryst2.dstL, Tryst2.Rsp.pred, List.map_cons, List.map_nil, List.take_succ_cons, List.take_zero, List.length_cons, List.length_nil, List.tail_cons, List.toList_toArray] at hR
            obtain ⟨hcg, hfg⟩ := Tryst2.Grow.cells hg
            have hsg := Tryst2.Grow.le hg
            simp only [Tryst2.putAll, Tryst2.dstL, List.map_cons, List.map_nil, List.take_succ_cons, List.take_zero, List.length_cons, List.length_nil, List.toList_toArray, List.drop_succ_cons, List.drop_zero, Act.put, List.setIfInBounds_toArray, List.set_cons_zero, List.set_cons_succ, hR]
            have hz2 : w.heap.size ≤ w'.heap.size := by omega
            have KB := Lib.hid (Tryst2.Grow.below hg HB.out)
            clear hg hR hcg hfg hsg HB
            go_wp2_with fail
            go_roundw
            case rel => exact ⟨k + 1, by omega, by go_num, HE2, KB.out, by omega⟩
            case measure => simp [intOf] <;> omega
        · have HNE : Hid (¬ l1 = l2) := fun e => hne (by subst e; rfl)
          clear hne HE
          rcases hd with d1 | ⟨d1, d2⟩ | ⟨d1, d2, d3⟩ | ⟨d1, d2, d3, d4⟩
          all_goals
            go_wp2_with fail
            refine Tryst2.wp_region_grows [.is (.slice (some ⟨b1, o1, none⟩) l1.length c1), .is (.int .i64 k), .is (.pointer (some ⟨b1, o1 + k * 4, none⟩)), .is (.agg #[.string l1[k].name, .bool l1[k].num, .int .i64 l1[k].n, .string l1[k].s]), .is (.slice (some ⟨b2, o2, none⟩) l1.length c2), .is (.int .i64 k), .is (.pointer (some ⟨b2, o2 + k * 4, none⟩)), .is (.agg #[.string l2[k].name, .bool l2[k].num, .int .i64 l2[k].n, .string l2[k].s]), .is (.bool true)] (by kernel_rfl) (by kernel_rfl) ?obl ?fin
            case obl =>
              simp only [Tryst2.AllObl, Tryst2.dstL, Tryst2.Obl, Tryst2.depsOf, Tryst2.binds_data, Tryst2.binds_chain, Tryst2.binds_phase, Tryst2.binds_guard, Tryst2.binds_text, Tryst2.binds_gc, Bool.false_eq_true, if_false, List.filterMap_cons_some, List.filterMap_cons_none, Tryst2.depsR, Tryst2.holdR, Tryst2.tmpsOf, Op.operands, Call.operands, Tryst2.Rsp.pred, Tryst2.wantedV_none, if_true, List.map_cons, List.map_nil, List.length_map, List.take_succ_cons, List.take_zero, List.length_cons, List.length_nil, List.getElem?_cons_zero, List.getElem?_cons_succ, Option.bind_some, id, List.getD_cons_zero, List.getD_cons_succ, Tryst2.isDst, List.filterMap_cons, List.filterMap_nil, List.toList_toArray]
              repeat' apply And.intro
              any_goals trivial
              all_goals (intro tv w' hg hold hd; (try simp at hold); obtain ⟨hcg, hfg⟩ := Tryst2.Grow.cells hg; have hsg := Tryst2.Grow.le hg)
              all_goals first | (go_simp; done) | (go_simp; rw [if_neg (by omega)]; exact ⟨.refl _, rfl⟩) | (obtain ⟨⟨g, hvg, hgg, hcell⟩, _⟩ := hd; have hcell0 := hcell 0 (by decide); simp at hcell0; go_simp; done) 
            case fin =>
              intro tv w' hg hR
              simp only [Tryst2.allR, Tryst2.dstL, Tryst2.Rsp.pred, List.map_cons, List.map_nil, List.take_succ_cons, List.take_zero, List.length_cons, List.length_nil, List.tail_cons, List.toList_toArray] at hR
              obtain ⟨hcg, hfg⟩ := Tryst2.Grow.cells hg
              have hsg := Tryst2.Grow.le hg
              simp only [Tryst2.putAll, Tryst2.dstL, List.map_cons, List.map_nil, List.take_succ_cons, List.take_zero, List.length_cons, List.length_nil, List.toList_toArray, List.drop_succ_cons, List.drop_zero, Act.put, List.setIfInBounds_toArray, List.set_cons_zero, List.set_cons_succ, hR]
              have KB := Lib.hid (Tryst2.Grow.below hg HB.out)
              clear hg hR hcg hfg hsg HB
              go_wp2_with fail
              go_ret
              exact ⟨false, rfl, ⟨fun h => (by cases h), fun h => absurd h HNE.out⟩, KB.out⟩
      · have HEQ : Hid (l1 = l2) := by
          have := HE.out
          refine List.ext_getElem HN.out fun i h1 h2 => this i h1 h2 (by omega)
        clear HE
        go_wp2_with fail
        go_ret
        exact ⟨true, rfl, ⟨fun _ => HEQ.out, fun _ => rfl⟩, HB.out⟩
  · have e3 : ((l1.length : Int) != l2.length) = true := by simp; omega
    have HN := Lib.hid hn
    clear h1 h2 hn
    go_enter Try.func47, Try.ntmps47
    go_wp2_with fail
    go_ret
    exact ⟨false, rfl, ⟨fun h => (by cases h), fun h => absurd (congrArg List.length h) HN.out⟩, .refl _ _⟩
theorem same_c (t1 t2 p1 p2 : ByteArray) (q1 q2 : Int) (a1 a2 : Option Addr) (c1 c2 : Nat) (l1 l2 : List FB) (hl : l1.length ≤ 1000000000) (hl2 : l2.length ≤ 1000000000) (w : World) (h1 : Flds w a1 l1) (h2 : Flds w a2 l2) :
    Calls Try.prog 18 #[.agg #[.string t1, .string p1, .int .u64 q1, .slice a1 l1.length c1], .agg #[.string t2, .string p2, .int .u64 q2, .slice a2 l2.length c2]] w fun e w' => SameR w t1 t2 p1 p2 q1 q2 l1 l2 e w' := by
  rcases ba_cases t1 t2 with ht | ⟨ht, e1, e2⟩
  · rcases ba_cases p1 p2 with hp | ⟨hp, e1, e2⟩
    · by_cases hq : q1 = q2
      · subst ht hp hq
        have H1 := Lib.hid h1
        have H2 := Lib.hid h2
        clear h1 h2
        go_enter Try.func18, Try.ntmps18
        go_wp2_with fail
        have hbx := balloc (.cells #[.string t1, .string p1, .int .u64 q1, .slice a2 l2.length c2] 25) (balloc (.cells #[.string t1, .string p1, .int .u64 q1, .slice a1 l1.length c1] 25) (.refl w.heap.size w))
        refine (equal_c a1 a2 c1 c2 l1 l2 hl hl2 _ (H1.out.grow hbx) (H2.out.grow hbx)).mono ?_
        rintro e w1 ⟨r, rfl, hr, hb1⟩
        have HR := Lib.hid hr
        have KB := Lib.hid (bstep hb1 hbx)
        clear hr hb1 hbx
        cases r with
        | true =>
          go_wp2_with fail
          go_ret
          exact ⟨true, rfl, ⟨fun _ => ⟨rfl, rfl, rfl, HR.out.1 (by simp)⟩, fun _ => rfl⟩, KB.out⟩
        | false =>
          go_wp2_with fail
          go_ret
          exact ⟨false, rfl, ⟨fun h => (by cases h), fun h => absurd (HR.out.2 h.2.2.2) (by simp)⟩, KB.out⟩
      · subst ht hp
        have e3 : (q1 == q2) = false := by simpa using hq
        have HN := Lib.hid hq
        clear h1 h2 hq
        go_enter Try.func18, Try.ntmps18
        go_wp2_with fail
        go_ret
        exact ⟨false, rfl, ⟨fun h => (by cases h), fun h => absurd h.2.2.1 HN.out⟩, balloc _ (balloc _ (.refl _ _))⟩
    · subst ht
      have HN := Lib.hid hp
      clear h1 h2 hp
      go_enter Try.func18, Try.ntmps18
      go_wp2_with fail
      go_ret
      exact ⟨false, rfl, ⟨fun h => (by cases h), fun h => absurd h.2.1 HN.out⟩, balloc _ (balloc _ (.refl _ _))⟩
  · have HN := Lib.hid ht
    clear h1 h2 ht
    go_enter Try.func18, Try.ntmps18
    go_wp2_with fail
    go_ret
    exact ⟨false, rfl, ⟨fun h => (by cases h), fun h => absurd h.1 HN.out⟩, balloc _ (balloc _ (.refl _ _))⟩
end Go.Proofs.Ytcbnehplilpidaa
