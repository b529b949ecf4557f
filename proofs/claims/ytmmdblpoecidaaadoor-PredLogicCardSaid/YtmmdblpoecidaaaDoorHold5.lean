/- Holds. -/
import Derived.Test.YtmmdblpoecidaaaDoorProg
import Derived.WalkKit
import Derived.WalkSpells
import Derived.WalkLawsBesides
import Derived.Lib.Hide
import Derived.Deep.RegionWith
import Derived.Deep.Cut
import Derived.IntWalk
import Derived.Test.YtmmdblpoecidaaaDoorAsk5
import Derived.Test.YtmmdblpoecidaaaDoorMeth5
import Derived.Test.YtmmdblpoecidaaaDoorPars5
import Derived.Test.YtmmdblpoecidaaaDoorFormP
set_option linter.unusedVariables false
set_option linter.unusedSimpArgs false
namespace Go.Proofs.YtmmdblpoecidaaaDoor
open Go.RowKit Tryst
set_option maxHeartbeats 2000000
set_option maxRecDepth 20000
/-- the event's box -/
structure EBox (w : World) (b : Nat) (t p : ByteArray) (q : Int) (u : Value) : Prop where
  c0 : w.cell? ⟨b, 0, none⟩ = some (.string t)
  c1 : w.cell? ⟨b, 1, none⟩ = some (.string p)
  c2 : w.cell? ⟨b, 2, none⟩ = some (.int .u64 q)
  c3 : w.cell? ⟨b, 3, none⟩ = some u
  hz : b < w.heap.size
theorem EBox.new (w : World) (t p : ByteArray) (q : Int) (u : Value) (T : TypeId) : EBox (w.alloc (.cells #[.string t, .string p, .int .u64 q, u] T)) w.heap.size t p q u := by
  constructor <;> simp [go_sem]
/-- a predicate is asked of an event, if it may be -/
theorem holdsG_c (x : PB) (t p : ByteArray) (q : Int) (ea : Option Addr) (elen ec : Nat) (X : Bool) (w : World) (hM : MaxW w) (hP : PMem w x)
    (hH : ∀ W g mb, Below w.heap.size w W → AskAt W g mb t p q (.slice ea elen ec) → Calls Tryd.prog 28 #[.pointer (some ⟨g, 0, none⟩), x.agg] W fun e w' => e = .returned (.bool X) ∧ Below W.heap.size W w') :
    Calls Tryd.prog 12 #[x.agg, .agg #[.string t, .string p, .int .u64 q, .slice ea elen ec]] w fun e w' => e = .returned (.bool (mayP x.pr && X)) ∧ Below w.heap.size w w' := by
  have HMY := Lib.hid (fun W (hb : Below w.heap.size w W) => may5_c x W (hM.grow hb) (hP.grow hb))
  have HH := Lib.hid hH
  have HA := Lib.hid (fun W => ask_c t p q ea elen ec W)
  obtain ⟨y, hy⟩ : ∃ y, mayP x.pr = y := ⟨_, rfl⟩
  rw [hy] at HMY ⊢
  clear hy hM hP hH
  obtain ⟨op, s, num, n, vs, a, c, l⟩ := x
  unfold PB.agg at HMY HH ⊢
  simp only [PB.op, PB.s, PB.num, PB.n, PB.vs, PB.a, PB.c, PB.l] at HMY HH ⊢
  go_enter Tryd.func12, Tryd.ntmps12
  go_upto_region 1 with fail
  refine wp_genC (fun v => Hid (PBox v w.heap.size op s num n vs (.slice a l.length c)) ∧ Hid (Below w.heap.size w v) ∧ Hid (EBox v (w.heap.size + 1) t p q (.slice ea elen ec))) ⟨(PBox.new w op s num n vs (.slice a l.length c) 26).grow (balloc _ (.refl _ _)), balloc _ (balloc _ (.refl _ _)), ?_⟩ ?_
  · have h := EBox.new (w.alloc (.cells #[.string op, .string s, .bool num, .int .i64 n, .string vs, .slice a l.length c] 26)) t p q (.slice ea elen ec) 30
    exact Lib.hid (by simpa using h)
  rintro Y ⟨HX, HB, HE⟩
  generalize w.heap.size + 1 = B2 at HE ⊢
  obtain ⟨B, hB⟩ : ∃ B, w.heap.size = B := ⟨_, rfl⟩
  rw [hB] at HX ⊢
  obtain ⟨x0, x1, x2, x3, x4, x5, x6⟩ := HX.out
  obtain ⟨z0, z1, z2, z3, z4⟩ := HE.out
  cases y with
  | false =>
    refine Tryst2.wp_region_grows [.is (.agg #[.string op, .string s, .bool num, .int .i64 n, .string vs, .slice a l.length c]), .is (.bool false), .is (.bool false), .is undef, .is undef, .is undef, .is undef, .is (.bool false), .is (.bool false)] (by kernel_rfl) (by kernel_rfl) ?obl ?fin
    case obl =>
      simp only [Tryst2.AllObl, Tryst2.dstL, Tryst2.Obl, Tryst2.depsOf, Tryst2.binds_data, Tryst2.binds_chain, Tryst2.binds_phase, Tryst2.binds_guard, Tryst2.binds_text, Tryst2.binds_gc, Bool.false_eq_true, if_false, List.filterMap_cons_some, List.filterMap_cons_none, Tryst2.depsR, Tryst2.holdR, Tryst2.tmpsOf, Op.operands, Call.operands, Tryst2.Rsp.pred, Tryst2.wantedV_none, Tryst2.wantedV_some, if_true, List.map_cons, List.map_nil, List.length_map, List.take_succ_cons, List.take_zero, List.length_cons, List.length_nil, List.getElem?_cons_zero, List.getElem?_cons_succ, Option.bind_some, id, List.getD_cons_zero, List.getD_cons_succ, Tryst2.isDst, List.filterMap_cons, List.filterMap_nil, List.toList_toArray]
      repeat' apply And.intro
      any_goals trivial
      all_goals (intro tv w' hg hold hd; (try simp at hold); obtain ⟨hcg, hfg⟩ := Tryst2.Grow.cells hg; have hsg := Tryst2.Grow.le hg)
      all_goals first | (go_simp; done) | (go_simp; rw [if_neg (by omega)]; exact ⟨.refl _, rfl⟩) | (obtain ⟨⟨g, hvg, hgg, hcell⟩, _⟩ := hd; have hcell0 := hcell 0 (by decide); simp at hcell0; go_simp; done) | (go_simp; refine (HMY.out _ (bstep (Tryst2.Grow.below hg (.refl Y.heap.size Y)) HB.out)).mono ?_; rintro e w2 ⟨rfl, hb2⟩; exact ⟨hb2, rfl⟩)
    case fin =>
      intro tv w' hg hR
      simp only [Tryst2.allR, Tryst2.dstL, Tryst2.Rsp.pred, List.map_cons, List.map_nil, List.take_succ_cons, List.take_zero, List.length_cons, List.length_nil, List.tail_cons, List.toList_toArray] at hR
      obtain ⟨hcg, hfg⟩ := Tryst2.Grow.cells hg
      have hsg := Tryst2.Grow.le hg
      simp only [Tryst2.putAll, Tryst2.dstL, List.map_cons, List.map_nil, List.take_succ_cons, List.take_zero, List.length_cons, List.length_nil, List.toList_toArray, List.drop_succ_cons, List.drop_zero, Act.put, List.setIfInBounds_toArray, List.set_cons_zero, List.set_cons_succ, hR]
      have HB9 := Lib.hid (bstep (Tryst2.Grow.below hg (.refl Y.heap.size Y)) HB.out)
      clear hg hR hcg hfg hsg
      go_wp2_with fail
      go_ret
      exact ⟨rfl, HB9.out⟩
  | true =>
    refine Tryst2.wp_region_grows [.is (.agg #[.string op, .string s, .bool num, .int .i64 n, .string vs, .slice a l.length c]), .is (.bool true), .is (.bool true), .is (.agg #[.string t, .string p, .int .u64 q, .slice ea elen ec]), .any (fun v w0 => ∃ g mb, v = .pointer (some ⟨g, 0, none⟩) ∧ AskAt w0 g mb t p q (.slice ea elen ec)), .is (.agg #[.string op, .string s, .bool num, .int .i64 n, .string vs, .slice a l.length c]), .is (.bool X), .is (.bool X), .is (.bool X)] (by kernel_rfl) (by kernel_rfl) ?obl ?fin
    case obl =>
      simp only [Tryst2.AllObl, Tryst2.dstL, Tryst2.Obl, Tryst2.depsOf, Tryst2.binds_data, Tryst2.binds_chain, Tryst2.binds_phase, Tryst2.binds_guard, Tryst2.binds_text, Tryst2.binds_gc, Bool.false_eq_true, if_false, List.filterMap_cons_some, List.filterMap_cons_none, Tryst2.depsR, Tryst2.holdR, Tryst2.tmpsOf, Op.operands, Call.operands, Tryst2.Rsp.pred, Tryst2.wantedV_none, Tryst2.wantedV_some, if_true, List.map_cons, List.map_nil, List.length_map, List.take_succ_cons, List.take_zero, List.length_cons, List.length_nil, List.getElem?_cons_zero, List.getElem?_cons_succ, Option.bind_some, id, List.getD_cons_zero, List.getD_cons_succ, Tryst2.isDst, List.filterMap_cons, List.filterMap_nil, List.toList_toArray]
      repeat' apply And.intro
      any_goals trivial
      all_goals (intro tv w' hg hold hd; (try simp at hold); obtain ⟨hcg, hfg⟩ := Tryst2.Grow.cells hg; have hsg := Tryst2.Grow.le hg)
      all_goals first | (go_simp; done) | (go_simp; rw [if_neg (by omega)]; exact ⟨.refl _, rfl⟩) | (obtain ⟨⟨g, hvg, hgg, hcell⟩, _⟩ := hd; have hcell0 := hcell 0 (by decide); simp at hcell0; go_simp; done) | (go_simp; refine (HMY.out _ (bstep (Tryst2.Grow.below hg (.refl Y.heap.size Y)) HB.out)).mono ?_; rintro e w2 ⟨rfl, hb2⟩; exact ⟨hb2, rfl⟩) | (obtain ⟨⟨w0, hgw, g, mb, h9, hA⟩, h10, h7⟩ := hd; obtain ⟨h7, _⟩ := h7; go_simp; refine (HH.out w' g mb (bstep (Tryst2.Grow.below hg (.refl Y.heap.size Y)) HB.out) (hA.grow hgw)).mono ?_; rintro e w2 ⟨rfl, hb2⟩; exact ⟨hb2, rfl⟩) | (obtain ⟨h8, h7, _⟩ := hd; simp only [h7]; go_simp; refine (HA.out w').mono ?_; rintro e w2 ⟨g, mb, rfl, hA, hb2⟩; exact ⟨hb2, _, Below.refl _ _, g, rfl, mb, hA⟩)
    case fin =>
      intro tv w' hg hR
      simp only [Tryst2.allR, Tryst2.dstL, Tryst2.Rsp.pred, List.map_cons, List.map_nil, List.take_succ_cons, List.take_zero, List.length_cons, List.length_nil, List.tail_cons, List.toList_toArray] at hR
      obtain ⟨hcg, hfg⟩ := Tryst2.Grow.cells hg
      have hsg := Tryst2.Grow.le hg
      simp only [Tryst2.putAll, Tryst2.dstL, List.map_cons, List.map_nil, List.take_succ_cons, List.take_zero, List.length_cons, List.length_nil, List.toList_toArray, List.drop_succ_cons, List.drop_zero, Act.put, List.setIfInBounds_toArray, List.set_cons_zero, List.set_cons_succ, hR]
      have HB9 := Lib.hid (bstep (Tryst2.Grow.below hg (.refl Y.heap.size Y)) HB.out)
      clear hg hR hcg hfg hsg
      go_wp2_with fail
      go_ret
      exact ⟨rfl, HB9.out⟩
end Go.Proofs.YtmmdblpoecidaaaDoor
namespace Go.Proofs.YtmmdblpoecidaaaDoor
open Go.RowKit Tryst
set_option maxHeartbeats 2000000
set_option maxRecDepth 20000
theorem holds_has_c (s : ByteArray) (v : V) (hs : s.size ≤ 1000000000) (hv : v.s.length ≤ 1000000000) (t p : ByteArray) (q : Int) (ea : Option Addr) (l : List FB) (ec : Nat) (hl : l.length ≤ 1000000000) (w : World) (hM : MaxW w) (hF : Flds w ea l) :
    Calls Tryd.prog 12 #[(leafB ⟨#[104, 97, 115]⟩ s v).agg, .agg #[.string t, .string p, .int .u64 q, .slice ea l.length ec]] w fun e w' => e = .returned (.bool (mayP (leafB ⟨#[104, 97, 115]⟩ s v).pr && (findB l s).isSome)) ∧ Below w.heap.size w w' :=
  holdsG_c _ t p q ea l.length ec _ w hM (leaf_mem _ s v hs hv w) fun W g mb hb hA => holds_via .has s v.num v.n ⟨v.s.toArray⟩ none 0 0 g mb t p q _ _ W hA fun W2 hb2 => has5_c _ s v.num v.n ⟨v.s.toArray⟩ none 0 0 g mb t p q ea l ec hl W2 (hA.grow (hb2.mono (Nat.le_refl _))) (hF.grow (hb.trans (hb2.mono hb.size)))
theorem holds_eq_c (s : ByteArray) (v : V) (hs : s.size ≤ 1000000000) (hv : v.s.length ≤ 1000000000) (t p : ByteArray) (q : Int) (ea : Option Addr) (l : List FB) (ec : Nat) (hl : l.length ≤ 1000000000) (w : World) (hM : MaxW w) (hF : Flds w ea l) :
    Calls Tryd.prog 12 #[(leafB ⟨#[101, 113]⟩ s v).agg, .agg #[.string t, .string p, .int .u64 q, .slice ea l.length ec]] w fun e w' => e = .returned (.bool (mayP (leafB ⟨#[101, 113]⟩ s v).pr && eqB l s v.num v.n ⟨v.s.toArray⟩)) ∧ Below w.heap.size w w' :=
  holdsG_c _ t p q ea l.length ec _ w hM (leaf_mem _ s v hs hv w) fun W g mb hb hA => holds_via .eq s v.num v.n ⟨v.s.toArray⟩ none 0 0 g mb t p q _ _ W hA fun W2 hb2 => eq5_c _ s v.num v.n ⟨v.s.toArray⟩ none 0 0 g mb t p q ea l ec hl W2 (hA.grow (hb2.mono (Nat.le_refl _))) (hF.grow (hb.trans (hb2.mono hb.size)))
theorem holds_lt_c (s : ByteArray) (v : V) (hs : s.size ≤ 1000000000) (hv : v.s.length ≤ 1000000000) (t p : ByteArray) (q : Int) (ea : Option Addr) (l : List FB) (ec : Nat) (hl : l.length ≤ 1000000000) (w : World) (hM : MaxW w) (hF : Flds w ea l) :
    Calls Tryd.prog 12 #[(leafB ⟨#[108, 116]⟩ s v).agg, .agg #[.string t, .string p, .int .u64 q, .slice ea l.length ec]] w fun e w' => e = .returned (.bool (mayP (leafB ⟨#[108, 116]⟩ s v).pr && ltB l s v.num v.n ⟨v.s.toArray⟩)) ∧ Below w.heap.size w w' :=
  holdsG_c _ t p q ea l.length ec _ w hM (leaf_mem _ s v hs hv w) fun W g mb hb hA => holds_via .lt s v.num v.n ⟨v.s.toArray⟩ none 0 0 g mb t p q _ _ W hA fun W2 hb2 => lt5_c _ s v.num v.n ⟨v.s.toArray⟩ none 0 0 g mb t p q ea l ec hl W2 (hA.grow (hb2.mono (Nat.le_refl _))) (hF.grow (hb.trans (hb2.mono hb.size)))
end Go.Proofs.YtmmdblpoecidaaaDoor
namespace Go.Proofs.YtmmdblpoecidaaaDoor
open Go.RowKit Tryst
set_option maxHeartbeats 2000000
set_option maxRecDepth 20000
theorem arr_str (s : ByteArray) : (⟨s.data.toList.toArray⟩ : ByteArray) = s := by simp
theorem may_leaf (op s : ByteArray) (x : Bool) (n : Int) (vs : ByteArray) (a : Option Addr) (c : Nat) : mayP (PB.mk op s x n vs a c []).pr = aloneB op s x n vs 0 := by
  rw [mayP_eq, PB.pr, PB.prs, formP, formL, nodesP, nodesL]
  simp
theorem may_lt (s : ByteArray) (x : Bool) (n : Int) (vs : ByteArray) (a : Option Addr) (c : Nat) : mayP (PB.mk ⟨#[108, 116]⟩ s x n vs a c []).pr = (fieldB s.data.toList && V.mayB ⟨x, n, vs.data.toList⟩) := by
  rw [may_leaf, show (⟨#[108, 116]⟩ : ByteArray) = Opk.lt.text from rfl, aloneB_at]
  simp [aloneK]
theorem may_eq (s : ByteArray) (x : Bool) (n : Int) (vs : ByteArray) (a : Option Addr) (c : Nat) : mayP (PB.mk ⟨#[101, 113]⟩ s x n vs a c []).pr = (fieldB s.data.toList && V.mayB ⟨x, n, vs.data.toList⟩) := by
  rw [may_leaf, show (⟨#[101, 113]⟩ : ByteArray) = Opk.eq.text from rfl, aloneB_at]
  simp [aloneK]
theorem may_has (s : ByteArray) (a : Option Addr) (c : Nat) : mayP (PB.mk ⟨#[104, 97, 115]⟩ s false 0 ⟨#[]⟩ a c []).pr = fieldB s.data.toList := by
  rw [may_leaf, show (⟨#[104, 97, 115]⟩ : ByteArray) = Opk.has.text from rfl, aloneB_at]
  simp [aloneK, noV]
  exact fun _ => rfl
theorem lt_raw (s : ByteArray) (x : Bool) (n : Int) (vs : ByteArray) (hs : s.size ≤ 1000000000) (hv : vs.size ≤ 1000000000) (t p : ByteArray) (q : Int) (ea : Option Addr) (l : List FB) (ec : Nat) (hl : l.length ≤ 1000000000) (w : World) (hM : MaxW w) (hF : Flds w ea l) :
    Calls Tryd.prog 12 #[.agg #[.string ⟨#[108, 116]⟩, .string s, .bool x, .int .i64 n, .string vs, .slice none 0 0], .agg #[.string t, .string p, .int .u64 q, .slice ea l.length ec]] w fun e w' => e = .returned (.bool ((fieldB s.data.toList && V.mayB ⟨x, n, vs.data.toList⟩) && ltB l s x n vs)) ∧ Below w.heap.size w w' := by
  have h := holds_lt_c s ⟨x, n, vs.data.toList⟩ hs (by simpa using hv) t p q ea l ec hl w hM hF
  unfold leafB at h
  simp only [arr_str] at h
  rw [may_lt] at h
  exact h
theorem eq_raw (s : ByteArray) (x : Bool) (n : Int) (vs : ByteArray) (hs : s.size ≤ 1000000000) (hv : vs.size ≤ 1000000000) (t p : ByteArray) (q : Int) (ea : Option Addr) (l : List FB) (ec : Nat) (hl : l.length ≤ 1000000000) (w : World) (hM : MaxW w) (hF : Flds w ea l) :
    Calls Tryd.prog 12 #[.agg #[.string ⟨#[101, 113]⟩, .string s, .bool x, .int .i64 n, .string vs, .slice none 0 0], .agg #[.string t, .string p, .int .u64 q, .slice ea l.length ec]] w fun e w' => e = .returned (.bool ((fieldB s.data.toList && V.mayB ⟨x, n, vs.data.toList⟩) && eqB l s x n vs)) ∧ Below w.heap.size w w' := by
  have h := holds_eq_c s ⟨x, n, vs.data.toList⟩ hs (by simpa using hv) t p q ea l ec hl w hM hF
  unfold leafB at h
  simp only [arr_str] at h
  rw [may_eq] at h
  exact h
theorem has_raw (s : ByteArray) (hs : s.size ≤ 1000000000) (t p : ByteArray) (q : Int) (ea : Option Addr) (l : List FB) (ec : Nat) (hl : l.length ≤ 1000000000) (w : World) (hM : MaxW w) (hF : Flds w ea l) :
    Calls Tryd.prog 12 #[.agg #[.string ⟨#[104, 97, 115]⟩, .string s, .bool false, .int .i64 0, .string ⟨#[]⟩, .slice none 0 0], .agg #[.string t, .string p, .int .u64 q, .slice ea l.length ec]] w fun e w' => e = .returned (.bool (fieldB s.data.toList && (findB l s).isSome)) ∧ Below w.heap.size w w' := by
  have h := holds_has_c s ⟨false, 0, []⟩ hs (by simp) t p q ea l ec hl w hM hF
  unfold leafB at h
  rw [may_has] at h
  exact h
theorem may_raw (op s : ByteArray) (x : Bool) (n : Int) (vs : ByteArray) (hs : s.size ≤ 1000000000) (hv : vs.size ≤ 1000000000) (w : World) (hM : MaxW w) :
    Calls Tryd.prog 11 #[.agg #[.string op, .string s, .bool x, .int .i64 n, .string vs, .slice none 0 0]] w fun e w' => e = .returned (.bool (mayP (PB.mk op s x n vs none 0 []).pr)) ∧ Below w.heap.size w w' := by
  have h := may5_c (leafB op s ⟨x, n, vs.data.toList⟩) w hM (leaf_mem op s ⟨x, n, vs.data.toList⟩ hs (by simpa using hv) w)
  unfold leafB at h
  simp only [arr_str] at h
  exact h
end Go.Proofs.YtmmdblpoecidaaaDoor
namespace Go.Proofs.YtmmdblpoecidaaaDoor
open Go.RowKit Tryst
set_option maxHeartbeats 2000000
set_option maxRecDepth 20000
mutual
/-- does it hold of an event: its topic, its fields? -/
def holdsP (t : ByteArray) (l : List FB) : Pr → Bool
  | .mk op s num n vs ps => match opk op with
    | none => false
    | some .all => true
    | some .topic => meetsB s.data.toList t.data.toList
    | some .has => (findB l s).isSome
    | some .eq => eqB l s num n vs
    | some .lt => ltB l s num n vs
    | some .not => !((holdsL t l ps)[0]?.getD false)
    | some .and => ((holdsL t l ps)[0]?.getD false) && ((holdsL t l ps)[1]?.getD false)
    | some .or => ((holdsL t l ps)[0]?.getD false) || ((holdsL t l ps)[1]?.getD false)
def holdsL (t : ByteArray) (l : List FB) : List Pr → List Bool
  | [] => []
  | x :: r => holdsP t l x :: holdsL t l r
end
theorem holds_not (t : ByteArray) (l : List FB) (s : ByteArray) (num : Bool) (n : Int) (vs : ByteArray) (y : Pr) : holdsP t l (.mk Opk.not.text s num n vs [y]) = !(holdsP t l y) := by
  rw [holdsP, opk_text, holdsL]
  rfl
theorem holds_and (t : ByteArray) (l : List FB) (s : ByteArray) (num : Bool) (n : Int) (vs : ByteArray) (y z : Pr) : holdsP t l (.mk Opk.and.text s num n vs [y, z]) = (holdsP t l y && holdsP t l z) := by
  rw [holdsP, opk_text, holdsL, holdsL]
  rfl
theorem holds_or (t : ByteArray) (l : List FB) (s : ByteArray) (num : Bool) (n : Int) (vs : ByteArray) (y z : Pr) : holdsP t l (.mk Opk.or.text s num n vs [y, z]) = (holdsP t l y || holdsP t l z) := by
  rw [holdsP, opk_text, holdsL, holdsL]
  rfl
theorem asks_c (t p : ByteArray) (q : Int) (ea : Option Addr) (l : List FB) (ec : Nat) (ht : t.size ≤ 1000000) (hl : l.length ≤ 1000000000) (g mb : Nat) : ∀ (r : Nat) (x : PB), formP x.pr r = true → ∀ W, MaxW W → PMem W x → AskAt W g mb t p q (.slice ea l.length ec) → Flds W ea l →
    Calls Tryd.prog 28 #[.pointer (some ⟨g, 0, none⟩), x.agg] W fun e w' => e = .returned (.bool (holdsP t l x.pr)) ∧ Below W.heap.size W w' := by
  intro r
  induction r with
  | zero =>
    intro x hx
    obtain ⟨op, s, num, n, vs, a, c, ps⟩ := x
    rw [PB.pr, formP] at hx
    simp at hx
  | succ r ih =>
    intro x hx W hM hP hA hF
    obtain ⟨op, s, num, n, vs, a, c, ps⟩ := x
    rw [PB.pr, formP] at hx
    simp only [Bool.and_eq_true, Nat.add_sub_cancel] at hx
    obtain ⟨-, h1, h2⟩ := hx
    rw [PB.prs_len] at h1
    obtain ⟨hs, hvs, hps, hR, hC⟩ : s.size ≤ 1000000000 ∧ vs.size ≤ 1000000000 ∧ ps.length ≤ 1000000000 ∧ Row W a 6 (ps.map PB.cells) ∧ ∀ x, x ∈ ps → PMem W x := by
      cases hP with
      | mk _ _ _ _ _ _ _ _ h1 h2 h3 h4 h5 => exact ⟨h1, h2, h3, h4, h5⟩
    rcases op_cases op with ⟨k, rfl⟩ | ⟨h, _⟩
    · rw [aloneB_at] at h1
      have HK : ∀ y, y ∈ ps → formP y.pr r = true := fun y hy => formL_mem (by rw [PB.prs_eq]; exact List.mem_map_of_mem hy) h2
      cases k with
      | all =>
        have e : holdsP t l (PB.mk Opk.all.text s num n vs a c ps).pr = true := by rw [PB.pr, holdsP, opk_text]
        rw [e]
        exact holds_via .all s num n vs a c ps.length g mb t p q _ true W hA fun W2 hb2 => all5_c _ s num n vs _ g W2
      | topic =>
        have e : holdsP t l (PB.mk Opk.topic.text s num n vs a c ps).pr = meetsB s.data.toList t.data.toList := by rw [PB.pr, holdsP, opk_text]
        rw [e]
        have h40 : s.size ≤ 1000000 := by
          simp only [aloneK, Bool.and_eq_true] at h1
          have h3 := h1.1
          unfold globB at h3
          simp only [Bool.and_eq_true, decide_eq_true_eq] at h3
          have := h3.1.1
          rw [len_str] at this
          omega
        exact holds_via .topic s num n vs a c ps.length g mb t p q _ _ W hA fun W2 hb2 => topic5_c _ s num n vs a ps.length c g mb t p q _ h40 ht W2 (hM.grow hb2) (hA.grow hb2)
      | has =>
        have e : holdsP t l (PB.mk Opk.has.text s num n vs a c ps).pr = (findB l s).isSome := by rw [PB.pr, holdsP, opk_text]
        rw [e]
        exact holds_via .has s num n vs a c ps.length g mb t p q _ _ W hA fun W2 hb2 => has5_c _ s num n vs a ps.length c g mb t p q ea l ec hl W2 (hA.grow hb2) (hF.grow hb2)
      | eq =>
        have e : holdsP t l (PB.mk Opk.eq.text s num n vs a c ps).pr = eqB l s num n vs := by rw [PB.pr, holdsP, opk_text]
        rw [e]
        exact holds_via .eq s num n vs a c ps.length g mb t p q _ _ W hA fun W2 hb2 => eq5_c _ s num n vs a ps.length c g mb t p q ea l ec hl W2 (hA.grow hb2) (hF.grow hb2)
      | lt =>
        have e : holdsP t l (PB.mk Opk.lt.text s num n vs a c ps).pr = ltB l s num n vs := by rw [PB.pr, holdsP, opk_text]
        rw [e]
        exact holds_via .lt s num n vs a c ps.length g mb t p q _ _ W hA fun W2 hb2 => lt5_c _ s num n vs a ps.length c g mb t p q ea l ec hl W2 (hA.grow hb2) (hF.grow hb2)
      | not =>
        simp only [aloneK, Bool.and_eq_true, decide_eq_true_eq] at h1
        obtain ⟨y, rfl⟩ := List.length_eq_one_iff.1 h1.2.2
        rw [PB.pr, PB.prs, PB.prs, holds_not]
        refine holds_via .not s num n vs a c 1 g mb t p q _ _ W hA fun W2 hb2 => not5_c _ s num n vs a c y g _ W2 (hR.grow hb2) fun W3 hb3 => ?_
        exact ih y (HK y (by simp)) W3 (hM.grow (bstep hb3 hb2)) ((hC y (by simp)).grow (bstep hb3 hb2)) (hA.grow (bstep hb3 hb2)) (hF.grow (bstep hb3 hb2))
      | and =>
        simp only [aloneK, Bool.and_eq_true, decide_eq_true_eq] at h1
        obtain ⟨y, z, rfl⟩ : ∃ y z, ps = [y, z] := by
          match ps, h1.2.2 with
          | [y, z], _ => exact ⟨y, z, rfl⟩
        rw [PB.pr, PB.prs, PB.prs, PB.prs, holds_and]
        refine holds_via .and s num n vs a c 2 g mb t p q _ _ W hA fun W2 hb2 => and5_c _ s num n vs a c y z g _ _ W2 (hR.grow hb2) (fun W3 hb3 => ?_) (fun W3 hb3 => ?_)
        · exact ih y (HK y (by simp)) W3 (hM.grow (bstep hb3 hb2)) ((hC y (by simp)).grow (bstep hb3 hb2)) (hA.grow (bstep hb3 hb2)) (hF.grow (bstep hb3 hb2))
        · exact ih z (HK z (by simp)) W3 (hM.grow (bstep hb3 hb2)) ((hC z (by simp)).grow (bstep hb3 hb2)) (hA.grow (bstep hb3 hb2)) (hF.grow (bstep hb3 hb2))
      | or =>
        simp only [aloneK, Bool.and_eq_true, decide_eq_true_eq] at h1
        obtain ⟨y, z, rfl⟩ : ∃ y z, ps = [y, z] := by
          match ps, h1.2.2 with
          | [y, z], _ => exact ⟨y, z, rfl⟩
        rw [PB.pr, PB.prs, PB.prs, PB.prs, holds_or]
        refine holds_via .or s num n vs a c 2 g mb t p q _ _ W hA fun W2 hb2 => or5_c _ s num n vs a c y z g _ _ W2 (hR.grow hb2) (fun W3 hb3 => ?_) (fun W3 hb3 => ?_)
        · exact ih y (HK y (by simp)) W3 (hM.grow (bstep hb3 hb2)) ((hC y (by simp)).grow (bstep hb3 hb2)) (hA.grow (bstep hb3 hb2)) (hF.grow (bstep hb3 hb2))
        · exact ih z (HK z (by simp)) W3 (hM.grow (bstep hb3 hb2)) ((hC z (by simp)).grow (bstep hb3 hb2)) (hA.grow (bstep hb3 hb2)) (hF.grow (bstep hb3 hb2))
    · unfold aloneB at h1
      rw [h] at h1
      cases h1
theorem holdsN_c (x : PB) (t p : ByteArray) (q : Int) (ea : Option Addr) (elen ec : Nat) (w : World) (hM : MaxW w) (hP : PMem w x) (hno : mayP x.pr = false) :
    Calls Tryd.prog 12 #[x.agg, .agg #[.string t, .string p, .int .u64 q, .slice ea elen ec]] w fun e w' => e = .returned (.bool false) ∧ Below w.heap.size w w' := by
  have HMY := Lib.hid (fun W (hb : Below w.heap.size w W) => may5_c x W (hM.grow hb) (hP.grow hb))
  rw [hno] at HMY
  clear hno hM hP
  obtain ⟨op, s, num, n, vs, a, c, l⟩ := x
  unfold PB.agg at HMY ⊢
  simp only [PB.op, PB.s, PB.num, PB.n, PB.vs, PB.a, PB.c, PB.l] at HMY ⊢
  go_enter Tryd.func12, Tryd.ntmps12
  go_upto_region 1 with fail
  refine wp_genC (fun v => Hid (PBox v w.heap.size op s num n vs (.slice a l.length c)) ∧ Hid (Below w.heap.size w v) ∧ Hid (EBox v (w.heap.size + 1) t p q (.slice ea elen ec))) ⟨(PBox.new w op s num n vs (.slice a l.length c) 26).grow (balloc _ (.refl _ _)), balloc _ (balloc _ (.refl _ _)), ?_⟩ ?_
  · have h := EBox.new (w.alloc (.cells #[.string op, .string s, .bool num, .int .i64 n, .string vs, .slice a l.length c] 26)) t p q (.slice ea elen ec) 30
    exact Lib.hid (by simpa using h)
  rintro Y ⟨HX, HB, HE⟩
  generalize w.heap.size + 1 = B2 at HE ⊢
  obtain ⟨B, hB⟩ : ∃ B, w.heap.size = B := ⟨_, rfl⟩
  rw [hB] at HX ⊢
  obtain ⟨x0, x1, x2, x3, x4, x5, x6⟩ := HX.out
  obtain ⟨z0, z1, z2, z3, z4⟩ := HE.out
  refine Tryst2.wp_region_grows [.is (.agg #[.string op, .string s, .bool num, .int .i64 n, .string vs, .slice a l.length c]), .is (.bool false), .is (.bool false), .is undef, .is undef, .is undef, .is undef, .is (.bool false), .is (.bool false)] (by kernel_rfl) (by kernel_rfl) ?obl ?fin
  case obl =>
    simp only [Tryst2.AllObl, Tryst2.dstL, Tryst2.Obl, Tryst2.depsOf, Tryst2.binds_data, Tryst2.binds_chain, Tryst2.binds_phase, Tryst2.binds_guard, Tryst2.binds_text, Tryst2.binds_gc, Bool.false_eq_true, if_false, List.filterMap_cons_some, List.filterMap_cons_none, Tryst2.depsR, Tryst2.holdR, Tryst2.tmpsOf, Op.operands, Call.operands, Tryst2.Rsp.pred, Tryst2.wantedV_none, Tryst2.wantedV_some, if_true, List.map_cons, List.map_nil, List.length_map, List.take_succ_cons, List.take_zero, List.length_cons, List.length_nil, List.getElem?_cons_zero, List.getElem?_cons_succ, Option.bind_some, id, List.getD_cons_zero, List.getD_cons_succ, Tryst2.isDst, List.filterMap_cons, List.filterMap_nil, List.toList_toArray]
    repeat' apply And.intro
    any_goals trivial
    all_goals (intro tv w' hg hold hd; (try simp at hold); obtain ⟨hcg, hfg⟩ := Tryst2.Grow.cells hg; have hsg := Tryst2.Grow.le hg)
    all_goals first | (go_simp; done) | (go_simp; rw [if_neg (by omega)]; exact ⟨.refl _, rfl⟩) | (obtain ⟨⟨g, hvg, hgg, hcell⟩, _⟩ := hd; have hcell0 := hcell 0 (by decide); simp at hcell0; go_simp; done) | (go_simp; refine (HMY.out _ (bstep (Tryst2.Grow.below hg (.refl Y.heap.size Y)) HB.out)).mono ?_; rintro e w2 ⟨rfl, hb2⟩; exact ⟨hb2, rfl⟩)
  case fin =>
    intro tv w' hg hR
    simp only [Tryst2.allR, Tryst2.dstL, Tryst2.Rsp.pred, List.map_cons, List.map_nil, List.take_succ_cons, List.take_zero, List.length_cons, List.length_nil, List.tail_cons, List.toList_toArray] at hR
    obtain ⟨hcg, hfg⟩ := Tryst2.Grow.cells hg
    have hsg := Tryst2.Grow.le hg
    simp only [Tryst2.putAll, Tryst2.dstL, List.map_cons, List.map_nil, List.take_succ_cons, List.take_zero, List.length_cons, List.length_nil, List.toList_toArray, List.drop_succ_cons, List.drop_zero, Act.put, List.setIfInBounds_toArray, List.set_cons_zero, List.set_cons_succ, hR]
    have HB9 := Lib.hid (bstep (Tryst2.Grow.below hg (.refl Y.heap.size Y)) HB.out)
    clear hg hR hcg hfg hsg
    go_wp2_with fail
    go_ret
    exact ⟨rfl, HB9.out⟩
/-- Holds, whatever the predicate and the event -/
theorem holds5_c (x : PB) (t p : ByteArray) (q : Int) (ea : Option Addr) (l : List FB) (ec : Nat) (ht : t.size ≤ 1000000) (hl : l.length ≤ 1000000000) (w : World) (hM : MaxW w) (hP : PMem w x) (hF : Flds w ea l) :
    Calls Tryd.prog 12 #[x.agg, .agg #[.string t, .string p, .int .u64 q, .slice ea l.length ec]] w fun e w' => e = .returned (.bool (mayP x.pr && holdsP t l x.pr)) ∧ Below w.heap.size w w' := by
  cases hm : mayP x.pr with
  | true =>
    have h := holdsG_c x t p q ea l.length ec (holdsP t l x.pr) w hM hP fun W g mb hb hA => asks_c t p q ea l ec ht hl g mb 8 x (by rw [mayP_eq, Bool.and_eq_true] at hm; exact hm.1) W (hM.grow hb) (hP.grow hb) hA (hF.grow hb)
    rw [hm] at h
    exact h
  | false => exact holdsN_c x t p q ea l.length ec w hM hP hm
end Go.Proofs.YtmmdblpoecidaaaDoor
