/- The walk of EventBack. -/
import Derived.Test.YtcbnehplilpidaaProg
import Derived.WalkKit
import Derived.WalkSpells
import Derived.WalkLawsBesides
import Derived.Lib.Hide
import Derived.Deep.RegionWith
import Derived.Deep.Cut
import Derived.Test.YtcbnehplilpidaaPuts4
import Derived.Test.YtcbnehplilpidaaBoxes4
import Derived.Test.YtcbnehplilpidaaEvM
import Derived.Test.YtcbnehplilpidaaEv19
import Derived.Test.YtcbnehplilpidaaEvA
set_option linter.unusedVariables false
set_option linter.unusedSimpArgs false
namespace Go.Proofs.Ytcbnehplilpidaa
open Go.RowKit Tryst
set_option maxHeartbeats 400000
set_option maxRecDepth 20000
theorem findB_name {l : List FB} {n : ByteArray} {g : FB} (h : findB l n = some g) : g.name = n := by
  unfold findB at h
  have := List.find?_some h
  exact str_ext (by simpa using this)
theorem findB_of_get {l l' : List FB} {n : ByteArray} (h : getF (l.map FB.fld) n.data.toList = getF (l'.map FB.fld) n.data.toList) : findB l n = findB l' n := by
  rw [findB_get, findB_get] at h
  cases h1 : findB l n with
  | none =>
    cases h2 : findB l' n with
    | none => rfl
    | some g => rw [h1, h2] at h; cases h
  | some f =>
    cases h2 : findB l' n with
    | none => rw [h1, h2] at h; cases h
    | some g =>
      rw [h1, h2] at h
      have hv : f.fld.v = g.fld.v := by simpa using h
      have hn : f.name = g.name := (findB_name h1).trans (findB_name h2).symm
      rw [FB.ext' (a := f) (b := g) (Fld.ext' (congrArg (fun b : ByteArray => b.data.toList) hn) hv)]
theorem findB_put_self (l : List FB) (f : FB) : findB (putB l f) f.name = some f := by
  have h : findB (putB l f) f.name = findB [f] f.name := findB_of_get (by rw [putB_map, get_put_self]; rw [findB_get]; unfold findB; simp)
  rw [h]; unfold findB; simp
theorem findB_put_other (l : List FB) (f : FB) (m : ByteArray) (h : m ≠ f.name) : findB (putB l f) m = findB l m :=
  findB_of_get (by rw [putB_map, get_put_other _ _ _ _ (fun e => h (str_ext e))])
theorem evMay_one (x : Bool) (n : Int) (s : ByteArray) : evMay ⟨#[97]⟩ ⟨#[112]⟩ 1 [⟨⟨#[120]⟩, x, n, s⟩] = vMay ⟨x, n, s.data.toList⟩ := by
  unfold evMay
  rw [show topicB (⟨#[97]⟩ : ByteArray).data.toList = true by decide, show fieldB (⟨#[112]⟩ : ByteArray).data.toList = true by decide]
  show (true && true && true && true && okF none [(⟨⟨#[120]⟩, x, n, s⟩ : FB).fld]) = _
  show (fieldB (⟨#[120]⟩ : ByteArray).data.toList && vMay ⟨x, n, s.data.toList⟩ && true && true) = _
  rw [show fieldB (⟨#[120]⟩ : ByteArray).data.toList = true by decide]
  simp
theorem evMay_put (t p : ByteArray) (q : Int) (l : List FB) (f : FB) (h0 : 0 ≤ q) (h : evMay t p q l = true) (hn : fieldB f.name.data.toList = true) (hv : vMay f.fld.v = true) : evMay t p q (putB l f) = ((findB l f.name).isSome || decide (l.length < 8)) := by
  rw [evMay_eq _ _ _ _ h0] at h ⊢
  have h2 := put_may (evE t p q l) f.name.data.toList f.fld.v h hn hv
  unfold evE at h2 ⊢
  rw [putB_map]
  unfold Ev.put at h2
  rw [h2, hasF_find, List.length_map]
structure BK (w W : World) (g3 g6 : Nat) (t1 p1 : ByteArray) (q : Int) (aA : Option Addr) (cA : Nat) (L : List FB) (x : Bool) (n : Int) (s1 : ByteArray) : Prop where
  e : EAt W g3 t1 p1 q (.slice aA L.length cA)
  v : VB3 W g6 x n s1
  f : Flds W aA L
  k : Below w.heap.size w W
theorem BK.grow {w W W' : World} {g3 g6 : Nat} {t1 p1 : ByteArray} {q : Int} {aA : Option Addr} {cA : Nat} {L : List FB} {x : Bool} {n : Int} {s1 : ByteArray} (h : BK w W g3 g6 t1 p1 q aA cA L x n s1) (hb : Below W.heap.size W W') : BK w W' g3 g6 t1 p1 q aA cA L x n s1 :=
  ⟨h.e.grow (cell_lt h.e.c0).1 hb, h.v.grow hb, h.f.grow hb, bstep hb h.k⟩
structure BX (W : World) (b : Nat) (t1 p1 : ByteArray) (q : Int) (aA : Option Addr) (cA : Nat) (L : List FB) : Prop where
  e : EAt W b t1 p1 q (.slice aA L.length cA)
  f : Flds W aA L
theorem BX.grow {W W' : World} {b : Nat} {t1 p1 : ByteArray} {q : Int} {aA : Option Addr} {cA : Nat} {L : List FB} (h : BX W b t1 p1 q aA cA L) (hb : Below W.heap.size W W') : BX W' b t1 p1 q aA cA L :=
  ⟨h.e.grow (cell_lt h.e.c0).1 hb, h.f.grow hb⟩
theorem one_flds (w : World) (f : FB) (T : TypeId) : Flds (w.alloc (.cells #[.string f.name, .bool f.num, .int .i64 f.n, .string f.s] T)) (some ⟨w.heap.size, 0, none⟩) [f] := by
  intro i hi
  have h0 : i = 0 := by simp at hi; exact hi
  subst h0
  exact ⟨w.heap.size, 0, rfl, by simp, by constructor <;> simp [go_sem]⟩
theorem putB_in {l : List FB} {f : FB} {N : Nat} (hl : ∀ g ∈ l, g.name.size ≤ N ∧ g.s.size ≤ N) (h1 : f.name.size ≤ N) (h2 : f.s.size ≤ N) : ∀ g ∈ putB l f, g.name.size ≤ N ∧ g.s.size ≤ N := by
  have hs : ∀ l : List FB, (∀ g ∈ l, g.name.size ≤ N ∧ g.s.size ≤ N) → ∀ g ∈ setB l f, g.name.size ≤ N ∧ g.s.size ≤ N := by
    intro l
    induction l with
    | nil => intro _ g hg; simp [setB] at hg
    | cons x r ih =>
      intro h g hg
      rw [setB_cons] at hg
      split at hg
      · rcases List.mem_cons.1 hg with rfl | hg
        · exact ⟨h1, h2⟩
        · exact h g (List.mem_cons_of_mem _ hg)
      · rcases List.mem_cons.1 hg with rfl | hg
        · exact h _ List.mem_cons_self
        · exact ih (fun k hk => h k (List.mem_cons_of_mem _ hk)) g hg
  have hi : ∀ l : List FB, (∀ g ∈ l, g.name.size ≤ N ∧ g.s.size ≤ N) → ∀ g ∈ insB l f, g.name.size ≤ N ∧ g.s.size ≤ N := by
    intro l
    induction l with
    | nil =>
      intro _ g hg
      have : g = f := by simpa [insB] using hg
      subst this
      exact ⟨h1, h2⟩
    | cons x r ih =>
      intro h g hg
      rw [insB_cons] at hg
      split at hg
      · rcases List.mem_cons.1 hg with rfl | hg
        · exact ⟨h1, h2⟩
        · exact h g hg
      · rcases List.mem_cons.1 hg with rfl | hg
        · exact h _ List.mem_cons_self
        · exact ih (fun k hk => h k (List.mem_cons_of_mem _ hk)) g hg
  unfold putB
  split
  · exact hs l hl
  · exact hi l hl
theorem allocEv' (ρ : Operand → Value) (o : Oper) (w : World) (ho : o.op = .alloc 25) : (execOp ρ o).run Try.prog w = .ok (.value (.pointer (some ⟨w.heap.size, 0, none⟩))) (w.alloc (.cells #[.string ⟨#[]⟩, .string ⟨#[]⟩, .int .u64 0, .slice none 0 0] 25)) := allocEv ρ o w ho
theorem allocVal (ρ : Operand → Value) (o : Oper) (w : World) (ho : o.op = .alloc 27) : (execOp ρ o).run Try.prog w = .ok (.value (.pointer (some ⟨w.heap.size, 0, none⟩))) (w.alloc (.cells #[.bool false, .int .i64 0, .string ⟨#[]⟩] 27)) := by
  unfold execOp
  rw [ho]
  kernel_rfl
set_option maxHeartbeats 8000000 in
theorem eventBack_c (t p : ByteArray) (q : Int) (a : Option Addr) (l : List FB) (c : Nat) (ht : t.size ≤ 9223372036854775807) (hp : p.size ≤ 9223372036854775807) (h0 : 0 ≤ q) (h4 : q ≤ 18446744073709551615) (hI : FIn l) (hl : l.length ≤ 9223372036854775807)
    (nm : ByteArray) (hnm : nm.size ≤ 9223372036854775807) (om : ByteArray) (hom : om.size ≤ 9223372036854775807) (x : Bool) (n : Int) (s : ByteArray) (hs : s.size ≤ 9223372036854775807) (hln : -9223372036854775808 ≤ n) (hhn : n ≤ 9223372036854775807) (w : World) (hM : MaxW w) (hF : Flds w a l) :
    Calls Try.prog 3 #[.agg #[.string t, .string p, .int .u64 q, .slice a l.length c, .string nm, .string om, .bool x, .int .i64 n, .string s]] w fun e w' => e = .returned (.bool true) ∧ Below w.heap.size w w' := by
  obtain ⟨hO, hO2, hlen⟩ := few_ok hI
  have HM := Lib.hid hM
  have CF := Lib.hid (fun W h => efew_c t p q a c l hl ht hp (few_in hI) W h)
  have CN := Lib.hid (fun W => few60_c nm hnm W)
  have CO := Lib.hid (fun W => few60_c om hom W)
  have CV := Lib.hid (fun W => fewV_c x n s hs W)
  have HF := Lib.hid hF
  have HO := Lib.hid hO2
  have u1 := few60_le t
  have u2 := few60_le p
  have u3 := few60_le nm
  have u5 := few60_le om
  have u4 := few_le s
  clear hF hM hI hO hO2 hl ht hp hnm hom hs
  revert u1 u2 u3 u4 u5 HO CF CN CO CV hlen
  generalize few60 t = t1
  generalize few60 p = p1
  generalize few60 nm = n1
  generalize few60 om = o1
  generalize few s = s1
  generalize fewL l = L
  intro hlen CF CN CO CV HO u1 u2 u3 u5 u4
  have hl1 := putB_length L ⟨n1, x, n, s1⟩
  have HPL := Lib.hid (fun a c hS W h => put_c t1 p1 q a c L (by omega) hS ⟨n1, x, n, s1⟩ W h)
  have HMAY := Lib.hid (fun a c W hM h => evmay_c t1 p1 q a c L (by omega) (by omega) (by omega) (fun f hf => by have := HO.out f hf; omega) W hM h h0 h4)
  have hpi : ∀ f ∈ putB L ⟨n1, x, n, s1⟩, f.name.size ≤ 1000000000 ∧ f.s.size ≤ 1000000000 := putB_in (fun f hf => by have := HO.out f hf; omega) (by show n1.size ≤ _; omega) (by show s1.size ≤ _; omega)
  have HMP := Lib.hid (fun a c W hM h => evmay_c t1 p1 q a c (putB L ⟨n1, x, n, s1⟩) (by omega) (by omega) (by omega) hpi W hM h h0 h4)
  have HEQ := Lib.hid (fun h hn hv => evMay_put t1 p1 q L ⟨n1, x, n, s1⟩ h0 h hn hv)
  have HGS := Lib.hid (fun a c W h => get_c t1 p1 q a c (putB L ⟨n1, x, n, s1⟩) (by omega) n1 W h)
  rw [show findB (putB L ⟨n1, x, n, s1⟩) n1 = some ⟨n1, x, n, s1⟩ from findB_put_self L ⟨n1, x, n, s1⟩] at HGS
  have HGO := Lib.hid (fun a c W h => get_c t1 p1 q a c L (by omega) o1 W h)
  have HGN := Lib.hid (fun a c W h => get_c t1 p1 q a c L (by omega) n1 W h)
  have HGP := Lib.hid (fun a c W h => get_c t1 p1 q a c (putB L ⟨n1, x, n, s1⟩) (by omega) o1 W h)
  have HPO : Hid (o1 ≠ n1 → findB (putB L ⟨n1, x, n, s1⟩) o1 = findB L o1) := Lib.hid (fun h => findB_put_other L ⟨n1, x, n, s1⟩ o1 h)
  have HFC := Lib.hid (fun W hM => field_c n1 (by omega) W hM)
  have HRM := Lib.hid (fun (a : Option Addr) (c : Nat) W h => rmayE_c ⟨#[97]⟩ ⟨#[112]⟩ 1 a c [⟨⟨#[120]⟩, x, n, s1⟩] (show 1 ≤ 1000000000 by decide) (by decide) (by decide) (fun f hf => by rw [List.mem_singleton] at hf; subst hf; exact ⟨(by decide : (1 : Nat) ≤ 1000000), (by show s1.size ≤ _; omega)⟩) W h (by decide) (by decide))
  rw [evMay_one] at HRM
  unfold vV at HGS HGO HGN HGP
  simp only [Option.getD_some, Option.isSome_some] at HGS
  revert hl1 HPL HMP HEQ HGS HGO HGN HGP HPO
  generalize putB L ⟨n1, x, n, s1⟩ = PL
  generalize (findB L n1).isSome = had
  generalize (findB L n1).getD FB.zero = G3
  intro hl1 HPL HMP HEQ HGS HGO HGN HGP HPO
  revert HFC HEQ
  generalize fieldB n1.data.toList = ff
  intro HFC HEQ
  revert HRM HEQ
  generalize hvm : vMay ⟨x, n, s1.data.toList⟩ = mv
  intro HRM HEQ
  replace HEQ : Hid (evMay t1 p1 q L = true → ff = true → mv = true → evMay t1 p1 q PL = (had || decide (L.length < 8))) := Lib.hid (fun h1 h2 h3 => HEQ.out h1 h2 (hvm.trans h3))
  clear hvm
  revert HMAY HMP HEQ
  generalize evMay t1 p1 q L = mm
  generalize evMay t1 p1 q PL = mp
  intro HMAY HMP HEQ
  revert HGO HGP HPO
  generalize findB L o1 = F1
  generalize findB PL o1 = F2
  intro HGO HGP HPO
  have hss : (s1.toList == s1.toList) = true := strEq rfl
  go_enter Try.func3, Try.ntmps3
  go_wp2_with fail
  have HBX := Lib.hid (balloc (.cells #[.string t, .string p, .int .u64 q, .slice a l.length c, .string nm, .string om, .bool x, .int .i64 n, .string s] 29) (.refl w.heap.size w))
  refine Tryst2.wp_region_grows [.is (.pointer (some ⟨w.heap.size, 0, none⟩)), .is (.agg #[.string t, .string p, .int .u64 q, .slice a l.length c]), .any (EvS t1 p1 q L), .is (.pointer (some ⟨w.heap.size, 4, none⟩)), .is (.string nm), .is (.string n1), .is (.pointer (some ⟨w.heap.size, 5, none⟩)), .is (.string om), .is (.string o1), .is (.pointer (some ⟨w.heap.size, 6, none⟩)), .is (.agg #[.bool x, .int .i64 n, .string s]), .is (.agg #[.bool x, .int .i64 n, .string s1]), .any (NewBox (w.heap.size + 1) 25 [.string ⟨#[]⟩, .string ⟨#[]⟩, .int .u64 0, .slice none 0 0]), .any (NewBox (w.heap.size + 1) 27 [.bool false, .int .i64 0, .string ⟨#[]⟩])] (by kernel_rfl) (by kernel_rfl) ?obl ?fin
  case obl =>
    simp only [Tryst2.AllObl, Tryst2.dstL, Tryst2.Obl, Tryst2.depsOf, Tryst2.binds_data, Tryst2.binds_chain, Tryst2.binds_phase, Tryst2.binds_guard, Tryst2.binds_text, Tryst2.binds_gc, Bool.false_eq_true, if_false, List.filterMap_cons_some, List.filterMap_cons_none, Tryst2.depsR, Tryst2.holdR, Tryst2.tmpsOf, Op.operands, Call.operands, Tryst2.Rsp.pred, Tryst2.wantedV_none, if_true, List.map_cons, List.map_nil, List.length_map, List.take_succ_cons, List.take_zero, List.length_cons, List.length_nil, List.getElem?_cons_zero, List.getElem?_cons_succ, Option.bind_some, id, List.getD_cons_zero, List.getD_cons_succ, Tryst2.isDst, List.filterMap_cons, List.filterMap_nil, List.toList_toArray]
    repeat' apply And.intro
    any_goals trivial
    all_goals (intro tv w' hg hold hd; (try simp at hold); obtain ⟨hcg, hfg⟩ := Tryst2.Grow.cells hg; have hsg := Tryst2.Grow.le hg)
    all_goals first | (go_simp; done) | (go_simp; rw [if_neg (by omega)]; exact ⟨.refl _, rfl⟩) | (obtain ⟨⟨g, hvg, hgg, hcell⟩, _⟩ := hd; have hcell0 := hcell 0 (by decide); simp at hcell0; go_simp; done) | (go_simp; go_at_call 9; (with_reducible refine (CF.out _ ?_).mono ?_); (exact HF.out.grow (Tryst2.Grow.below hg HBX.out)); rintro e w2 ⟨a', c', rfl, hf2, hs2, hb2⟩; exact EvS.of hf2 hs2 hb2) | (go_simp; go_at_call 10; (with_reducible refine (CN.out _).mono ?_); rintro e w2 ⟨rfl, rfl⟩; exact ⟨Tryst2.Grow.refl _, rfl⟩) | (go_simp; go_at_call 10; (with_reducible refine (CO.out _).mono ?_); rintro e w2 ⟨rfl, rfl⟩; exact ⟨Tryst2.Grow.refl _, rfl⟩) | (go_simp; go_at_call 11; (with_reducible refine (CV.out _).mono ?_); rintro e w2 ⟨rfl, hb2⟩; exact ⟨hb2, rfl⟩) | (rw [allocEv _ _ _ rfl, Tryst2.stepV_value]; exact newBox _ _ _ _ (by simp at hsg; omega)) | (rw [allocVal _ _ _ rfl, Tryst2.stepV_value]; exact newBox _ _ _ _ (by simp at hsg; omega))
  case fin =>
    intro tv w' hg hR
    simp only [Tryst2.allR, Tryst2.dstL, Tryst2.Rsp.pred, List.map_cons, List.map_nil, List.take_succ_cons, List.take_zero, List.length_cons, List.length_nil, List.tail_cons, List.toList_toArray] at hR
    obtain ⟨hcg, hfg⟩ := Tryst2.Grow.cells hg
    have hsg := Tryst2.Grow.le hg
    simp only [Tryst2.putAll, Tryst2.dstL, List.map_cons, List.map_nil, List.take_succ_cons, List.take_zero, List.length_cons, List.length_nil, List.toList_toArray, List.drop_succ_cons, List.drop_zero, Act.put, List.setIfInBounds_toArray, List.set_cons_zero, List.set_cons_succ, hR]
    obtain ⟨aA, cA, eA, fA, sA⟩ := EvS.at hR.2.2.1
    simp only [eA]
    obtain ⟨g3, e3, hl3, hz3, hh3⟩ := NewBox.at hR.2.2.2.2.2.2.2.2.2.2.2.2.1
    obtain ⟨g6, e6, hl6, hz6, hh6⟩ := NewBox.at hR.2.2.2.2.2.2.2.2.2.2.2.2.2.1
    simp only [e3, e6]
    have hK := Tryst2.Grow.below hg HBX.out
    have hTB := ev_val_boxes hh3 hh6 fA t1 p1 q (.slice aA L.length cA) x n s1
    have HTB := Lib.hid hTB
    have SA := Lib.hid sA
    have KY := Lib.hid (bset (p := ⟨g6, 2, none⟩) (.string s1) (by simp; omega) (bset (p := ⟨g6, 1, none⟩) (.int .i64 n) (by simp; omega) (bset (p := ⟨g6, 0, none⟩) (.bool x) (by simp; omega) (bset (p := ⟨g3, 3, none⟩) (.slice aA L.length cA) (by simp; omega) (bset (p := ⟨g3, 2, none⟩) (.int .u64 q) (by simp; omega) (bset (p := ⟨g3, 1, none⟩) (.string p1) (by simp; omega) (bset (p := ⟨g3, 0, none⟩) (.string t1) (by simp; omega) hK)))))))
    obtain ⟨x0, x1, x2, x3, x4, x5, x6, x7⟩ := EAt.of hh3
    have y0 : w'.cell? ⟨g6, 0, none⟩ = some (.bool false) := by rw [Lib.cell_of_heap hh6]; rfl
    have y1 : w'.cell? ⟨g6, 1, none⟩ = some (.int .i64 0) := by rw [Lib.cell_of_heap hh6]; rfl
    have y2 : w'.cell? ⟨g6, 2, none⟩ = some (.string ⟨#[]⟩) := by rw [Lib.cell_of_heap hh6]; rfl
    have y4 : w'.frozen? ⟨g6, 0, none⟩ = false := Lib.frozen_of_heap hh6 0
    have y5 : w'.frozen? ⟨g6, 1, none⟩ = false := Lib.frozen_of_heap hh6 1
    have y6 : w'.frozen? ⟨g6, 2, none⟩ = false := Lib.frozen_of_heap hh6 2
    have hne : g3 ≠ g6 := hTB.1
    have hne2 : g6 ≠ g3 := fun e => hne e.symm
    have hlo3 : w.heap.size < g3 := by omega
    have hlo6 : w.heap.size < g6 := by omega
    clear hg hR hcg hfg hsg eA fA sA e3 e6 hK hh3 hh6 hTB HF CF CN CO CV HBX
    go_upto_region 2 with fail
    clear x0 x1 x2 x3 x4 x5 x6 x7 y0 y1 y2 y4 y5 y6
    revert HTB KY
    generalize ((((((w'.setCell ⟨g3, 0, none⟩ (.string t1)).setCell ⟨g3, 1, none⟩ (.string p1)).setCell ⟨g3, 2, none⟩ (.int .u64 q)).setCell ⟨g3, 3, none⟩ (.slice aA L.length cA)).setCell ⟨g6, 0, none⟩ (.bool x)).setCell ⟨g6, 1, none⟩ (.int .i64 n)).setCell ⟨g6, 2, none⟩ (.string s1) = Y
    intro HTB KY
    have HB := Lib.hid (BK.mk HTB.out.2.1 HTB.out.2.2.1 HTB.out.2.2.2 KY.out)
    clear HTB KY
    have hz3 : g3 < Y.heap.size := (cell_lt HB.out.e.c0).1
    have hz6 : g6 < Y.heap.size := HB.out.v.hz
    obtain ⟨x0, x1, x2, x3, x4, x5, x6, x7⟩ := HB.out.e
    obtain ⟨y0, y1, y2, y3⟩ := HB.out.v
    go_wp2_with fail
    refine (HPL.out aA cA SA.out Y HB.out.f).mono ?_
    rintro e w2 ⟨aP, cP, rfl, fP, sP, hb2⟩
    clear x0 x1 x2 x3 x4 x5 x6 x7 y0 y1 y2 y3 hz3 hz6
    have hbA := hb2.trans (balloc (.cells #[.string t1, .string p1, .int .u64 q, .slice aP PL.length cP] 25) (.refl w2.heap.size w2) |>.mono hb2.size)
    have HB2 := Lib.hid (HB.out.grow hbA)
    have HX2 := Lib.hid (BX.mk (EAt.of (new_box w2 #[.string t1, .string p1, .int .u64 q, .slice aP PL.length cP] 25)) (fP.grow (balloc (.cells #[.string t1, .string p1, .int .u64 q, .slice aP PL.length cP] 25) (.refl w2.heap.size w2))))
    clear hb2 hbA fP HB sP
    go_wp2_with fail
    revert HB2 HX2
    generalize w2.alloc (.cells #[.string t1, .string p1, .int .u64 q, .slice aP PL.length cP] 25) = X2
    generalize w2.heap.size = b7
    intro HB2 HX2
    refine (HGS.out aP cP X2 HX2.out.f).mono ?_
    rintro e w3 ⟨rfl, hb3⟩
    have HB3 := Lib.hid (HB2.out.grow hb3)
    have HX3 := Lib.hid (HX2.out.grow hb3)
    clear HB2 HX2 hb3
    obtain ⟨x0, x1, x2, x3, x4, x5, x6, x7⟩ := HB3.out.e
    obtain ⟨y0, y1, y2, y3⟩ := HB3.out.v
    obtain ⟨u0, u1, u2, u3, u4, u5, u6, u7⟩ := HX3.out.e
    have hz3 : g3 < w3.heap.size := (cell_lt x0).1
    have hz6 : g6 < w3.heap.size := y3
    have hz7 : b7 < w3.heap.size := (cell_lt u0).1
    go_wp2_with fail
    have hbA := balloc ((.cells #[.bool x, .int .i64 n, .string s1] 27)) (.refl w3.heap.size w3)
    have HB4 := Lib.hid (HB3.out.grow hbA)
    have HX4 := Lib.hid (HX3.out.grow hbA)
    clear hbA HB3 HX3 x0 x1 x2 x3 x4 x5 x6 x7 y0 y1 y2 y3 u0 u1 u2 u3 u4 u5 u6 u7 hz3 hz6 hz7
    revert HB4 HX4
    obtain ⟨w4, hgen⟩ : ∃ v, w3.alloc ((.cells #[.bool x, .int .i64 n, .string s1] 27)) = v := ⟨_, rfl⟩
    rw [hgen]
    clear hgen
    intro HB4 HX4
    refine (HGO.out aA cA w4 HB4.out.f).mono ?_
    rintro e w5 ⟨rfl, hb5⟩
    have HB5 := Lib.hid (HB4.out.grow hb5)
    have HX5 := Lib.hid (HX4.out.grow hb5)
    clear HB4 HX4 hb5
    obtain ⟨x0, x1, x2, x3, x4, x5, x6, x7⟩ := HB5.out.e
    obtain ⟨y0, y1, y2, y3⟩ := HB5.out.v
    obtain ⟨u0, u1, u2, u3, u4, u5, u6, u7⟩ := HX5.out.e
    have hz3 : g3 < w5.heap.size := (cell_lt x0).1
    have hz6 : g6 < w5.heap.size := y3
    have hz7 : b7 < w5.heap.size := (cell_lt u0).1
    go_wp2_with fail
    have HV := Lib.hid (VB3.new w5 (F1.getD FB.zero).num (F1.getD FB.zero).n (F1.getD FB.zero).s 27)
    revert HV
    have hbA := balloc ((.cells #[.bool (F1.getD FB.zero).num, .int .i64 (F1.getD FB.zero).n, .string (F1.getD FB.zero).s] 27)) (.refl w5.heap.size w5)
    have HB6 := Lib.hid (HB5.out.grow hbA)
    have HX6 := Lib.hid (HX5.out.grow hbA)
    clear hbA HB5 HX5 x0 x1 x2 x3 x4 x5 x6 x7 y0 y1 y2 y3 u0 u1 u2 u3 u4 u5 u6 u7 hz3 hz6 hz7
    revert HB6 HX6
    obtain ⟨w6, hgen⟩ : ∃ v, w5.alloc ((.cells #[.bool (F1.getD FB.zero).num, .int .i64 (F1.getD FB.zero).n, .string (F1.getD FB.zero).s] 27)) = v := ⟨_, rfl⟩
    rw [hgen]
    clear hgen
    intro HB6 HX6
    intro HV
    refine (HGP.out aP cP w6 HX6.out.f).mono ?_
    rintro e w7 ⟨rfl, hb7⟩
    have HV7 := Lib.hid (HV.out.grow hb7)
    clear HV
    have HB7 := Lib.hid (HB6.out.grow hb7)
    have HX7 := Lib.hid (HX6.out.grow hb7)
    clear HB6 HX6 hb7
    obtain ⟨x0, x1, x2, x3, x4, x5, x6, x7⟩ := HB7.out.e
    obtain ⟨y0, y1, y2, y3⟩ := HB7.out.v
    obtain ⟨u0, u1, u2, u3, u4, u5, u6, u7⟩ := HX7.out.e
    have hz3 : g3 < w7.heap.size := (cell_lt x0).1
    have hz6 : g6 < w7.heap.size := y3
    have hz7 : b7 < w7.heap.size := (cell_lt u0).1
    obtain ⟨r0, r1, r2, r3⟩ := HV7.out
    rcases ba_cases o1 n1 with hon | ⟨hon, hon1, hon2⟩
    · subst hon
      have hon1 : (o1.toList == o1.toList) = true := strEq rfl
      have hon2 : (o1.toList != o1.toList) = false := by rw [bne, hon1]; rfl
      go_wp2_with fail
      clear r0 r1 r2 r3 HV7
      have hbA := balloc ((.cells #[.bool (F2.getD FB.zero).num, .int .i64 (F2.getD FB.zero).n, .string (F2.getD FB.zero).s] 27)) (.refl w7.heap.size w7)
      have HB8 := Lib.hid (HB7.out.grow hbA)
      have HX8 := Lib.hid (HX7.out.grow hbA)
      clear hbA HB7 HX7 x0 x1 x2 x3 x4 x5 x6 x7 y0 y1 y2 y3 u0 u1 u2 u3 u4 u5 u6 u7 hz3 hz6 hz7
      revert HB8 HX8
      obtain ⟨w8, hgen⟩ : ∃ v, w7.alloc ((.cells #[.bool (F2.getD FB.zero).num, .int .i64 (F2.getD FB.zero).n, .string (F2.getD FB.zero).s] 27)) = v := ⟨_, rfl⟩
      rw [hgen]
      clear hgen
      intro HB8 HX8
      refine (HGN.out aA cA w8 HB8.out.f).mono ?_
      rintro e w9 ⟨rfl, hb9⟩
      have HB9 := Lib.hid (HB8.out.grow hb9)
      have HX9 := Lib.hid (HX8.out.grow hb9)
      clear HB8 HX8 hb9
      obtain ⟨x0, x1, x2, x3, x4, x5, x6, x7⟩ := HB9.out.e
      obtain ⟨y0, y1, y2, y3⟩ := HB9.out.v
      obtain ⟨u0, u1, u2, u3, u4, u5, u6, u7⟩ := HX9.out.e
      have hz3 : g3 < w9.heap.size := (cell_lt x0).1
      have hz6 : g6 < w9.heap.size := y3
      have hz7 : b7 < w9.heap.size := (cell_lt u0).1
      go_wp2_with fail
      have hbA := balloc ((.cells #[.bool G3.num, .int .i64 G3.n, .string G3.s] 27)) (.refl w9.heap.size w9)
      have HB10 := Lib.hid (HB9.out.grow hbA)
      have HX10 := Lib.hid (HX9.out.grow hbA)
      clear hbA HB9 HX9 x0 x1 x2 x3 x4 x5 x6 x7 y0 y1 y2 y3 u0 u1 u2 u3 u4 u5 u6 u7 hz3 hz6 hz7
      revert HB10 HX10
      obtain ⟨w10, hgen⟩ : ∃ v, w9.alloc ((.cells #[.bool G3.num, .int .i64 G3.n, .string G3.s] 27)) = v := ⟨_, rfl⟩
      rw [hgen]
      clear hgen
      intro HB10 HX10
      refine (HMAY.out aA cA w10 (HM.out.grow HB10.out.k) HB10.out.f).mono ?_
      rintro e w11 ⟨rfl, hb11⟩
      have HB11 := Lib.hid (HB10.out.grow hb11)
      have HX11 := Lib.hid (HX10.out.grow hb11)
      clear HB10 HX10 hb11
      obtain ⟨x0, x1, x2, x3, x4, x5, x6, x7⟩ := HB11.out.e
      obtain ⟨y0, y1, y2, y3⟩ := HB11.out.v
      obtain ⟨u0, u1, u2, u3, u4, u5, u6, u7⟩ := HX11.out.e
      have hz3 : g3 < w11.heap.size := (cell_lt x0).1
      have hz6 : g6 < w11.heap.size := y3
      have hz7 : b7 < w11.heap.size := (cell_lt u0).1
      cases mm with
      | false =>
        go_wp2_with fail
        refine (awake4_c w11 (HM.out.grow HB11.out.k)).mono ?_
        rintro e w99 ⟨rfl, hb99⟩
        have K9 := Lib.hid (bstep hb99 HB11.out.k)
        clear hb99
        go_wp2_with fail
        go_ret
        exact ⟨rfl, K9.out⟩
      | true =>
        go_wp2_with fail
        refine (HFC.out w11 (HM.out.grow HB11.out.k)).mono ?_
        rintro e w12 ⟨rfl, hb12⟩
        clear x0 x1 x2 x3 x4 x5 x6 x7 y0 y1 y2 y3 u0 u1 u2 u3 u4 u5 u6 u7 hz3 hz6 hz7
        have HB12 := Lib.hid (HB11.out.grow hb12)
        have HX12 := Lib.hid (HX11.out.grow hb12)
        clear HB11 HX11 hb12
        obtain ⟨x0, x1, x2, x3, x4, x5, x6, x7⟩ := HB12.out.e
        obtain ⟨y0, y1, y2, y3⟩ := HB12.out.v
        obtain ⟨u0, u1, u2, u3, u4, u5, u6, u7⟩ := HX12.out.e
        have hz3 : g3 < w12.heap.size := (cell_lt x0).1
        have hz6 : g6 < w12.heap.size := y3
        have hz7 : b7 < w12.heap.size := (cell_lt u0).1
        cases ff with
        | false =>
          go_wp2_with fail
          refine (awake4_c w12 (HM.out.grow HB12.out.k)).mono ?_
          rintro e w99 ⟨rfl, hb99⟩
          have K9 := Lib.hid (bstep hb99 HB12.out.k)
          clear hb99
          go_wp2_with fail
          go_ret
          exact ⟨rfl, K9.out⟩
        | true =>
          go_wp2_with fail
          have HO1 := Lib.hid (one_flds w12 ⟨⟨#[120]⟩, x, n, s1⟩ 39)
          revert HO1
          have hbA := balloc ((.cells #[.string ⟨#[120]⟩, .bool x, .int .i64 n, .string s1] 39)) (.refl w12.heap.size w12)
          have HB13 := Lib.hid (HB12.out.grow hbA)
          have HX13 := Lib.hid (HX12.out.grow hbA)
          clear hbA HB12 HX12 x0 x1 x2 x3 x4 x5 x6 x7 y0 y1 y2 y3 u0 u1 u2 u3 u4 u5 u6 u7 hz3 hz6 hz7
          revert HB13 HX13
          obtain ⟨w13, hgen⟩ : ∃ v, w12.alloc ((.cells #[.string ⟨#[120]⟩, .bool x, .int .i64 n, .string s1] 39)) = v := ⟨_, rfl⟩
          rw [hgen]
          clear hgen
          intro HB13 HX13
          intro HO1
          refine (HRM.out _ _ w13 HO1.out).mono ?_
          rintro e w14 ⟨rfl, hb14⟩
          have HB14 := Lib.hid (HB13.out.grow hb14)
          have HX14 := Lib.hid (HX13.out.grow hb14)
          clear HB13 HX13 hb14
          obtain ⟨x0, x1, x2, x3, x4, x5, x6, x7⟩ := HB14.out.e
          obtain ⟨y0, y1, y2, y3⟩ := HB14.out.v
          obtain ⟨u0, u1, u2, u3, u4, u5, u6, u7⟩ := HX14.out.e
          have hz3 : g3 < w14.heap.size := (cell_lt x0).1
          have hz6 : g6 < w14.heap.size := y3
          have hz7 : b7 < w14.heap.size := (cell_lt u0).1
          cases mv with
          | false =>
            go_wp2_with fail
            refine (awake4_c w14 (HM.out.grow HB14.out.k)).mono ?_
            rintro e w99 ⟨rfl, hb99⟩
            have K9 := Lib.hid (bstep hb99 HB14.out.k)
            clear hb99
            go_wp2_with fail
            go_ret
            exact ⟨rfl, K9.out⟩
          | true =>
            have HE := Lib.hid (HEQ.out (by simp) (by simp) (by simp))
            go_wp2_with fail
            refine (HMP.out aP cP w14 (HM.out.grow HB14.out.k) HX14.out.f).mono ?_
            rintro e w15 ⟨rfl, hb15⟩
            rw [HE.out]
            clear x0 x1 x2 x3 x4 x5 x6 x7 y0 y1 y2 y3 u0 u1 u2 u3 u4 u5 u6 u7 hz3 hz6 hz7
            have HB15 := Lib.hid (HB14.out.grow hb15)
            have HX15 := Lib.hid (HX14.out.grow hb15)
            clear HB14 HX14 hb15
            obtain ⟨x0, x1, x2, x3, x4, x5, x6, x7⟩ := HB15.out.e
            obtain ⟨y0, y1, y2, y3⟩ := HB15.out.v
            obtain ⟨u0, u1, u2, u3, u4, u5, u6, u7⟩ := HX15.out.e
            have hz3 : g3 < w15.heap.size := (cell_lt x0).1
            have hz6 : g6 < w15.heap.size := y3
            have hz7 : b7 < w15.heap.size := (cell_lt u0).1
            cases had with
            | true =>
              rw [Bool.true_or]
              go_wp2_with fail
              refine (awake4_c w15 (HM.out.grow HB15.out.k)).mono ?_
              rintro e w99 ⟨rfl, hb99⟩
              have K9 := Lib.hid (bstep hb99 HB15.out.k)
              clear hb99
              go_wp2_with fail
              go_ret
              exact ⟨rfl, K9.out⟩
            | false =>
              rw [Bool.false_or]
              by_cases hl8 : L.length < 8
              · rw [decide_eq_true hl8]
                have hl8i : decide ((L.length : Int) < 8) = true := by simp; omega
                go_wp2_with fail
                refine (awake4_c w15 (HM.out.grow HB15.out.k)).mono ?_
                rintro e w99 ⟨rfl, hb99⟩
                have K9 := Lib.hid (bstep hb99 HB15.out.k)
                clear hb99
                go_wp2_with fail
                go_ret
                exact ⟨rfl, K9.out⟩
              · rw [decide_eq_false hl8]
                have hl8i : decide ((L.length : Int) < 8) = false := by simp; omega
                go_wp2_with fail
                refine (awake4_c w15 (HM.out.grow HB15.out.k)).mono ?_
                rintro e w99 ⟨rfl, hb99⟩
                have K9 := Lib.hid (bstep hb99 HB15.out.k)
                clear hb99
                go_wp2_with fail
                go_ret
                exact ⟨rfl, K9.out⟩
    · obtain rfl : F2 = F1 := HPO.out hon
      have hgg : ((F2.getD FB.zero).s.toList == (F2.getD FB.zero).s.toList) = true := strEq rfl
      go_wp2_with fail
      clear r0 r1 r2 r3 HV7
      have hbA := balloc ((.cells #[.bool (F2.getD FB.zero).num, .int .i64 (F2.getD FB.zero).n, .string (F2.getD FB.zero).s] 27)) (.refl w7.heap.size w7)
      have HB8 := Lib.hid (HB7.out.grow hbA)
      have HX8 := Lib.hid (HX7.out.grow hbA)
      clear hbA HB7 HX7 x0 x1 x2 x3 x4 x5 x6 x7 y0 y1 y2 y3 u0 u1 u2 u3 u4 u5 u6 u7 hz3 hz6 hz7
      revert HB8 HX8
      obtain ⟨w8, hgen⟩ : ∃ v, w7.alloc ((.cells #[.bool (F2.getD FB.zero).num, .int .i64 (F2.getD FB.zero).n, .string (F2.getD FB.zero).s] 27)) = v := ⟨_, rfl⟩
      rw [hgen]
      clear hgen
      intro HB8 HX8
      refine (HGN.out aA cA w8 HB8.out.f).mono ?_
      rintro e w9 ⟨rfl, hb9⟩
      have HB9 := Lib.hid (HB8.out.grow hb9)
      have HX9 := Lib.hid (HX8.out.grow hb9)
      clear HB8 HX8 hb9
      obtain ⟨x0, x1, x2, x3, x4, x5, x6, x7⟩ := HB9.out.e
      obtain ⟨y0, y1, y2, y3⟩ := HB9.out.v
      obtain ⟨u0, u1, u2, u3, u4, u5, u6, u7⟩ := HX9.out.e
      have hz3 : g3 < w9.heap.size := (cell_lt x0).1
      have hz6 : g6 < w9.heap.size := y3
      have hz7 : b7 < w9.heap.size := (cell_lt u0).1
      go_wp2_with fail
      have hbA := balloc ((.cells #[.bool G3.num, .int .i64 G3.n, .string G3.s] 27)) (.refl w9.heap.size w9)
      have HB10 := Lib.hid (HB9.out.grow hbA)
      have HX10 := Lib.hid (HX9.out.grow hbA)
      clear hbA HB9 HX9 x0 x1 x2 x3 x4 x5 x6 x7 y0 y1 y2 y3 u0 u1 u2 u3 u4 u5 u6 u7 hz3 hz6 hz7
      revert HB10 HX10
      obtain ⟨w10, hgen⟩ : ∃ v, w9.alloc ((.cells #[.bool G3.num, .int .i64 G3.n, .string G3.s] 27)) = v := ⟨_, rfl⟩
      rw [hgen]
      clear hgen
      intro HB10 HX10
      refine (HMAY.out aA cA w10 (HM.out.grow HB10.out.k) HB10.out.f).mono ?_
      rintro e w11 ⟨rfl, hb11⟩
      have HB11 := Lib.hid (HB10.out.grow hb11)
      have HX11 := Lib.hid (HX10.out.grow hb11)
      clear HB10 HX10 hb11
      obtain ⟨x0, x1, x2, x3, x4, x5, x6, x7⟩ := HB11.out.e
      obtain ⟨y0, y1, y2, y3⟩ := HB11.out.v
      obtain ⟨u0, u1, u2, u3, u4, u5, u6, u7⟩ := HX11.out.e
      have hz3 : g3 < w11.heap.size := (cell_lt x0).1
      have hz6 : g6 < w11.heap.size := y3
      have hz7 : b7 < w11.heap.size := (cell_lt u0).1
      cases mm with
      | false =>
        go_wp2_with fail
        refine (awake4_c w11 (HM.out.grow HB11.out.k)).mono ?_
        rintro e w99 ⟨rfl, hb99⟩
        have K9 := Lib.hid (bstep hb99 HB11.out.k)
        clear hb99
        go_wp2_with fail
        go_ret
        exact ⟨rfl, K9.out⟩
      | true =>
        go_wp2_with fail
        refine (HFC.out w11 (HM.out.grow HB11.out.k)).mono ?_
        rintro e w12 ⟨rfl, hb12⟩
        clear x0 x1 x2 x3 x4 x5 x6 x7 y0 y1 y2 y3 u0 u1 u2 u3 u4 u5 u6 u7 hz3 hz6 hz7
        have HB12 := Lib.hid (HB11.out.grow hb12)
        have HX12 := Lib.hid (HX11.out.grow hb12)
        clear HB11 HX11 hb12
        obtain ⟨x0, x1, x2, x3, x4, x5, x6, x7⟩ := HB12.out.e
        obtain ⟨y0, y1, y2, y3⟩ := HB12.out.v
        obtain ⟨u0, u1, u2, u3, u4, u5, u6, u7⟩ := HX12.out.e
        have hz3 : g3 < w12.heap.size := (cell_lt x0).1
        have hz6 : g6 < w12.heap.size := y3
        have hz7 : b7 < w12.heap.size := (cell_lt u0).1
        cases ff with
        | false =>
          go_wp2_with fail
          refine (awake4_c w12 (HM.out.grow HB12.out.k)).mono ?_
          rintro e w99 ⟨rfl, hb99⟩
          have K9 := Lib.hid (bstep hb99 HB12.out.k)
          clear hb99
          go_wp2_with fail
          go_ret
          exact ⟨rfl, K9.out⟩
        | true =>
          go_wp2_with fail
          have HO1 := Lib.hid (one_flds w12 ⟨⟨#[120]⟩, x, n, s1⟩ 39)
          revert HO1
          have hbA := balloc ((.cells #[.string ⟨#[120]⟩, .bool x, .int .i64 n, .string s1] 39)) (.refl w12.heap.size w12)
          have HB13 := Lib.hid (HB12.out.grow hbA)
          have HX13 := Lib.hid (HX12.out.grow hbA)
          clear hbA HB12 HX12 x0 x1 x2 x3 x4 x5 x6 x7 y0 y1 y2 y3 u0 u1 u2 u3 u4 u5 u6 u7 hz3 hz6 hz7
          revert HB13 HX13
          obtain ⟨w13, hgen⟩ : ∃ v, w12.alloc ((.cells #[.string ⟨#[120]⟩, .bool x, .int .i64 n, .string s1] 39)) = v := ⟨_, rfl⟩
          rw [hgen]
          clear hgen
          intro HB13 HX13
          intro HO1
          refine (HRM.out _ _ w13 HO1.out).mono ?_
          rintro e w14 ⟨rfl, hb14⟩
          have HB14 := Lib.hid (HB13.out.grow hb14)
          have HX14 := Lib.hid (HX13.out.grow hb14)
          clear HB13 HX13 hb14
          obtain ⟨x0, x1, x2, x3, x4, x5, x6, x7⟩ := HB14.out.e
          obtain ⟨y0, y1, y2, y3⟩ := HB14.out.v
          obtain ⟨u0, u1, u2, u3, u4, u5, u6, u7⟩ := HX14.out.e
          have hz3 : g3 < w14.heap.size := (cell_lt x0).1
          have hz6 : g6 < w14.heap.size := y3
          have hz7 : b7 < w14.heap.size := (cell_lt u0).1
          cases mv with
          | false =>
            go_wp2_with fail
            refine (awake4_c w14 (HM.out.grow HB14.out.k)).mono ?_
            rintro e w99 ⟨rfl, hb99⟩
            have K9 := Lib.hid (bstep hb99 HB14.out.k)
            clear hb99
            go_wp2_with fail
            go_ret
            exact ⟨rfl, K9.out⟩
          | true =>
            have HE := Lib.hid (HEQ.out (by simp) (by simp) (by simp))
            go_wp2_with fail
            refine (HMP.out aP cP w14 (HM.out.grow HB14.out.k) HX14.out.f).mono ?_
            rintro e w15 ⟨rfl, hb15⟩
            rw [HE.out]
            clear x0 x1 x2 x3 x4 x5 x6 x7 y0 y1 y2 y3 u0 u1 u2 u3 u4 u5 u6 u7 hz3 hz6 hz7
            have HB15 := Lib.hid (HB14.out.grow hb15)
            have HX15 := Lib.hid (HX14.out.grow hb15)
            clear HB14 HX14 hb15
            obtain ⟨x0, x1, x2, x3, x4, x5, x6, x7⟩ := HB15.out.e
            obtain ⟨y0, y1, y2, y3⟩ := HB15.out.v
            obtain ⟨u0, u1, u2, u3, u4, u5, u6, u7⟩ := HX15.out.e
            have hz3 : g3 < w15.heap.size := (cell_lt x0).1
            have hz6 : g6 < w15.heap.size := y3
            have hz7 : b7 < w15.heap.size := (cell_lt u0).1
            cases had with
            | true =>
              rw [Bool.true_or]
              go_wp2_with fail
              refine (awake4_c w15 (HM.out.grow HB15.out.k)).mono ?_
              rintro e w99 ⟨rfl, hb99⟩
              have K9 := Lib.hid (bstep hb99 HB15.out.k)
              clear hb99
              go_wp2_with fail
              go_ret
              exact ⟨rfl, K9.out⟩
            | false =>
              rw [Bool.false_or]
              by_cases hl8 : L.length < 8
              · rw [decide_eq_true hl8]
                have hl8i : decide ((L.length : Int) < 8) = true := by simp; omega
                go_wp2_with fail
                refine (awake4_c w15 (HM.out.grow HB15.out.k)).mono ?_
                rintro e w99 ⟨rfl, hb99⟩
                have K9 := Lib.hid (bstep hb99 HB15.out.k)
                clear hb99
                go_wp2_with fail
                go_ret
                exact ⟨rfl, K9.out⟩
              · rw [decide_eq_false hl8]
                have hl8i : decide ((L.length : Int) < 8) = false := by simp; omega
                go_wp2_with fail
                refine (awake4_c w15 (HM.out.grow HB15.out.k)).mono ?_
                rintro e w99 ⟨rfl, hb99⟩
                have K9 := Lib.hid (bstep hb99 HB15.out.k)
                clear hb99
                go_wp2_with fail
                go_ret
                exact ⟨rfl, K9.out⟩
end Go.Proofs.Ytcbnehplilpidaa
