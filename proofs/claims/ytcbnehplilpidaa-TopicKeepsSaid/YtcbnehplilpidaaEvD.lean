/- The walks of strings.Builder and event.Lay. -/
import Derived.Test.YtcbnehplilpidaaProg
import Derived.WalkKit
import Derived.WalkSpells
import Derived.WalkLawsBesides
import Derived.Lib.Hide
import Derived.Lib.Builder
import Derived.Lib.OthersKept
import Derived.Lib.OwnKind
import Derived.Lib.AppendStr
import Derived.Laws.Externs
import Derived.Deep.Cut
import Derived.Test.YtcbnehplilpidaaDraws
import Derived.Deep.RegionWith
import Derived.Test.YtcbnehplilpidaaEvM
import Derived.Test.YtcbnehplilpidaaFacts
import Derived.Test.YtcbnehplilpidaaVal4
import Derived.Test.YtcbnehplilpidaaShelf
import Derived.Lib.BufferKept
set_option linter.unusedVariables false
set_option linter.unusedSimpArgs false
namespace Go.Proofs.Ytcbnehplilpidaa
open Go.RowKit Tryst
set_option maxHeartbeats 400000
set_option maxRecDepth 20000
theorem sizeBld : (Try.prog.info? 91).map (·.size) = some 2 := by kernel_rfl
theorem liesBld : liesAt Try.prog Try.prog.depth 91 (2 / Try.prog.cellsOf 91) 0 91 1 = true := by kernel_rfl
theorem infoByte : (Try.prog.info? 5).map (fun i => (i.zero, i.size, i.bytes)) = some (some (.int .u8 0), 1, 1) := by kernel_rfl
/-- a builder of the call's own holds these octets -/
def Bld (w : World) (B b : Nat) (l : List UInt8) : Prop := Lib.IsBuilder 91 5 B b (Lib.byteCells l) w
/-- what else there is stays -/
def Kept (b : Nat) (w w' : World) : Prop := Lib.OthersKept 5 (some b) w w'
theorem check_used (b : Nat) (w : World) (h0 : w.cell? ⟨b, 0, none⟩ = some (.pointer (some ⟨b, 0, none⟩))) :
    Calls Try.prog 75 #[.pointer (some ⟨b, 0, none⟩)] w fun e w' => e = .returned (.tuple #[]) ∧ w' = w := by
  obtain ⟨j, hj, _⟩ := Option.map_eq_some_iff.1 sizeBld
  go_enter Try.func75, Try.ntmps75
  go_wp2
  rw [Lib.run_neq_ptr_same w _ Try.underlying89 hj]
  go_wp2
  go_end0
  exact ⟨rfl, rfl⟩
theorem check_fresh (b : Nat) (w : World) (h0 : w.cell? ⟨b, 0, none⟩ = some (.pointer none)) (hsh : w.shape? b = some (91, 2)) (hfz : w.frozen? ⟨b, 0, none⟩ = false) :
    Calls Try.prog 75 #[.pointer (some ⟨b, 0, none⟩)] w fun e w' => e = .returned (.tuple #[]) ∧ w' = w.setCell ⟨b, 0, none⟩ (.pointer (some ⟨b, 0, none⟩)) := by
  obtain ⟨j, hj, hjs⟩ := Option.map_eq_some_iff.1 sizeBld
  go_enter Try.func75, Try.ntmps75
  go_wp2
  rw [Lib.run_to_unsafe w ⟨b, 0, none⟩ Try.underlying89 Try.underlying138 hj (by rw [hjs]; decide) hsh (Nat.zero_lt_succ 1)]
  simp only [Result.andThen]
  rw [Oper.upon_value]
  go_wp2
  rw [run_callFunc_extern Try.func93 (by kernel_rfl) (by kernel_rfl) (by kernel_rfl) (e := Extern.AbiNoEscape.same) (by kernel_rfl)]
  rw [Lib.run_noEscape]
  simp only [Result.andThen]
  rw [Oper.upon_value]
  go_wp2
  rw [Lib.run_from_unsafe w ⟨b, 0, none⟩ Try.underlying138 Try.underlying89 hj hsh liesBld]
  simp only [Result.andThen]
  rw [Oper.upon_value]
  go_wp2
  go_end0
  exact ⟨rfl, rfl⟩
theorem check_c (B b : Nat) (bs : List Value) (w : World) (h : Lib.IsBuilder 91 5 B b bs w) :
    Calls Try.prog 75 #[.pointer (some ⟨b, 0, none⟩)] w fun e w' => e = .returned (.tuple #[]) ∧ Lib.BuilderAt 91 5 B b (.pointer (some ⟨b, 0, none⟩)) bs w' ∧ Below B w w' ∧ Kept b w w' := by
  rcases h with h | h
  · refine (check_fresh b w h.cell0 h.shape h.frozen0).mono ?_
    rintro e w' ⟨rfl, rfl⟩
    exact ⟨rfl, h.used _, (Below.refl B w).setCell (p := ⟨b, 0, none⟩) h.1 _, by unfold Kept; exact (Lib.OthersKept.refl 5 (some b) w).setCell ⟨b, 0, none⟩ rfl _⟩
  · refine (check_used b w h.cell0).mono ?_
    rintro e w' ⟨rfl, rfl⟩
    exact ⟨rfl, h, Below.refl B _, Lib.OthersKept.refl _ _ _⟩
theorem str_cells (s : ByteArray) : Lib.strCells s = Lib.byteCells s.data.toList := by
  simp [Lib.strCells, Lib.byteCells]
set_option maxHeartbeats 2000000 in
theorem write_c (B b : Nat) (l : List UInt8) (s : ByteArray) (w : World) (h : Bld w B b l) (hl : l.length ≤ 1000000000) (hs : s.size ≤ 1000000000) (hBw : B ≤ w.heap.size) :
    Calls Try.prog 49 #[.pointer (some ⟨b, 0, none⟩), .string s] w fun e w' => e = .returned (.tuple #[.int .i64 s.size, .nilIface]) ∧ Bld w' B b (l ++ s.data.toList) ∧ Below B w w' ∧ Kept b w w' := by
  obtain ⟨i0, hi, hz0, hz1, hz2⟩ := info_parts infoByte
  have HB0 := Lib.hid h
  clear h
  go_enter Try.func49, Try.ntmps49
  go_wp2_with fail
  refine (check_c B b _ _ HB0.out).mono ?_
  rintro e w1 ⟨rfl, h1, hb1, hk1⟩
  obtain ⟨hB, v, hbk, hown, hne⟩ := h1
  have c0 : w1.cell? ⟨b, 0, none⟩ = some (.pointer (some ⟨b, 0, none⟩)) := by rw [Lib.cell_of_heap hbk]; rfl
  have c1 : w1.cell? ⟨b, 1, none⟩ = some v := by rw [Lib.cell_of_heap hbk]; rfl
  have hle : (Lib.byteCells l).length ≤ 1000000000 := by simp [Lib.byteCells]; omega
  go_wp2_with (at_builtin; refine Lib.wpList_append_own_string _ rfl _ _ 77 9 rfl B 5 i0 Try.underlying77 Try.underlying9 hi hz0 hz1 hz2 _ _ _ rfl hown s rfl ?c3 ?c4 ?c5 ?_)
  case c3 => unfold maxLen; omega
  case c4 => omega
  case c5 => have := hb1.size; omega
  intro v' w2 hown' hgrow _
  have hlt : b < w1.heap.size := by
    rcases Nat.lt_or_ge b w1.heap.size with h' | h'
    · exact h'
    · simp [Array.getElem?_eq_none h'] at hbk
  have hb2 : w2.heap[b]? = some (.cells #[.pointer (some ⟨b, 0, none⟩), v] 91 (0, 0)) := by
    rw [hgrow.block b hlt (fun e => hne e.symm)]
    exact hbk
  have d0 : w2.cell? ⟨b, 0, none⟩ = some (.pointer (some ⟨b, 0, none⟩)) := by rw [Lib.cell_of_heap hb2]; rfl
  have d1 : w2.cell? ⟨b, 1, none⟩ = some v := by rw [Lib.cell_of_heap hb2]; rfl
  have f1 : w2.frozen? ⟨b, 1, none⟩ = false := Lib.frozen_of_heap hb2 1
  obtain ⟨ao, n', cap, rfl⟩ : ∃ ao n' cap, v' = .slice ao n' cap := by
    rcases hown'.2 with ⟨hv, _⟩ | ⟨g, cap, cur, hv, _⟩
    · exact ⟨_, _, _, hv⟩
    · exact ⟨_, _, _, hv⟩
  go_wp2
  go_ret2
  refine ⟨rfl, .inr ?_, ?_, by unfold Kept at hk1 ⊢; exact (hk1.grown hgrow (Lib.ownsRow_kind hown)).setCell ⟨b, 1, none⟩ rfl _⟩
  · refine Lib.BuilderAt.put (T := 91) (e := 5) hB hb2 (bs' := Lib.byteCells (l ++ s.data.toList)) ?_ (by decide)
    rw [str_cells] at hown'
    simpa [Lib.byteCells] using hown'
  · exact (hb1.grown hgrow (by have := hb1.size; omega) (fun k hk => (hown.lt k hk).1)).setCell (p := ⟨b, 1, none⟩) hB _
end Go.Proofs.Ytcbnehplilpidaa
namespace Go.Proofs.Ytcbnehplilpidaa
open Go.RowKit Tryst
set_option maxHeartbeats 400000
set_option maxRecDepth 20000
theorem Bld.grow {w w' : World} {B b : Nat} {l : List UInt8} (h : Bld w B b l) (hb : Below w.heap.size w w') : Bld w' B b l := by
  have key : ∀ {p : Value} {bs : List Value}, Lib.BuilderAt 91 5 B b p bs w → Lib.BuilderAt 91 5 B b p bs w' := by
    intro p bs h
    have hlt := h.lt
    obtain ⟨hB, v, hv, hown, hne⟩ := h
    exact ⟨hB, v, (hb.block b hlt).trans hv, own_kept hown hb, hne⟩
  rcases h with h | h
  · exact .inl (key h)
  · exact .inr (key h)
theorem Bld.lt {w : World} {B b : Nat} {l : List UInt8} (h : Bld w B b l) : B ≤ b ∧ b < w.heap.size := by
  rcases h with h | h
  · exact ⟨h.1, h.lt⟩
  · exact ⟨h.1, h.lt⟩
theorem Kept.refl (b : Nat) (w : World) : Kept b w w := Lib.OthersKept.refl _ _ _
theorem Kept.trans {b : Nat} {u v w : World} (h : Kept b u v) (k : Kept b v w) : Kept b u w := Lib.OthersKept.trans h k
theorem Kept.below {b : Nat} {v w : World} (h : Below v.heap.size v w) : Kept b v w := Lib.OthersKept.below (Lib.OthersKept.refl _ _ _) h
theorem Kept.box {b g : Nat} {v w : World} {cs : Array Value} {T : TypeId} (h : Kept b v w) (hg : v.heap[g]? = some (.cells cs T (0, 0))) (hgb : g ≠ b) (hT : T ≠ 5) : w.heap[g]? = some (.cells cs T (0, 0)) :=
  h g _ hg (by simpa using hgb) (fun c fz e => hT (by injection e))
theorem len_wrap (n : Nat) (h : n ≤ 1000000000) : IntKind.u64.wrap (n : Int) = n := by rw [IntKind.wrap_u64]; omega
theorem _root_.Tryst.mk_size (l : List UInt8) : (ByteArray.mk l.toArray).size = l.length := rfl
theorem text_c (B b : Nat) (l : List UInt8) (s : ByteArray) (w : World) (h : Bld w B b l) (hl : l.length ≤ 900000000) (hs : s.size ≤ 1000000000) (hBw : B ≤ w.heap.size) :
    Calls Try.prog 48 #[.string s, .pointer (some ⟨b, 0, none⟩)] w fun e w' => e = .returned (.tuple #[]) ∧ Bld w' B b (l ++ textL s.data.toList) ∧ Below B w w' ∧ Kept b w w' := by
  have HB0 := Lib.hid h
  have hw8 : IntKind.u64.wrap (s.size : Int) = s.size := len_wrap _ hs
  have hpl : (pack s.size).length ≤ 10 := pack_le _
  clear h
  go_enter Try.func48, Try.ntmps48
  go_wp2_with fail
  refine (packAll_c _ _ (by omega) (by omega)).mono ?_
  rintro e w1 ⟨rfl, hb1⟩
  rw [Int.toNat_natCast]
  have HB1 := Lib.hid (HB0.out.grow hb1)
  have hz1 : w.heap.size ≤ w1.heap.size := hb1.size
  have KB1 := Lib.hid (hb1.mono hBw)
  have KK1 := Lib.hid (Kept.below (b := b) hb1)
  clear hb1 HB0
  go_wp2_with fail
  refine (write_c B b _ _ _ HB1.out (by omega) (by rw [mk_size]; omega) (by omega)).mono ?_
  rintro e w2 ⟨rfl, hB2, hb2, hk2⟩
  rw [mk_str] at hB2
  have hz2 : w1.heap.size ≤ w2.heap.size := hb2.size
  have HB2 := Lib.hid hB2
  have KB2 := Lib.hid (KB1.out.trans hb2)
  have KK2 := Lib.hid (KK1.out.trans hk2)
  clear hB2 hb2 hk2 HB1 KB1 KK1
  go_wp2_with fail
  refine (write_c B b _ _ _ HB2.out (by rw [List.length_append]; omega) hs (by omega)).mono ?_
  rintro e w3 ⟨rfl, hB3, hb3, hk3⟩
  have HB3 := Lib.hid hB3
  have KB3 := Lib.hid (KB2.out.trans hb3)
  have KK3 := Lib.hid (KK2.out.trans hk3)
  clear hB3 hb3 hk3 HB2 KB2 KK2
  go_wp2_with fail
  go_end0
  refine ⟨rfl, ?_, KB3.out, KK3.out⟩
  have := HB3.out
  unfold textL
  rwa [len_str, ← List.append_assoc]
end Go.Proofs.Ytcbnehplilpidaa
namespace Go.Proofs.Ytcbnehplilpidaa
open Go.RowKit Tryst
set_option maxHeartbeats 400000
set_option maxRecDepth 20000
def evE (t p : ByteArray) (q : Int) (l : List FB) : Ev := ⟨t.data.toList, p.data.toList, q.toNat, l.map FB.fld⟩
theorem evMay_eq (t p : ByteArray) (q : Int) (l : List FB) (h0 : 0 ≤ q) : evMay t p q l = (evE t p q l).may := by
  unfold evMay evE Ev.may
  simp only [List.length_map]
  congr 3
  by_cases h : 1 ≤ q
  · rw [decide_eq_true h, decide_eq_true (by omega)]
  · rw [decide_eq_false h, decide_eq_false (by omega)]
/-- each field's parts are such as Go has them -/
def FOk (l : List FB) : Prop := ∀ f ∈ l, f.name.size ≤ 1000000000 ∧ f.s.size ≤ 1000000000 ∧ -9223372036854775808 ≤ f.n ∧ f.n ≤ 9223372036854775807
theorem FOk.sizes {l : List FB} (h : FOk l) : ∀ f ∈ l, f.name.size ≤ 1000000000 ∧ f.s.size ≤ 1000000000 := fun f hf => ⟨(h f hf).1, (h f hf).2.1⟩
theorem evFits {t p : ByteArray} {q : Int} {l : List FB} (h0 : 0 ≤ q) (h4 : q ≤ 18446744073709551615) (h : FOk l) : (evE t p q l).Fits := by
  refine ⟨by show q.toNat < _; omega, ?_⟩
  intro f hf
  obtain ⟨g, hg, rfl⟩ := List.mem_map.1 hf
  exact (h g hg).2.2
def headL (t p : ByteArray) (q : Int) (n : Nat) : List UInt8 := textL t.data.toList ++ textL p.data.toList ++ pack q.toNat ++ pack n
theorem lay_parts (t p : ByteArray) (q : Int) (l : List FB) : (evE t p q l).lay = headL t p q l.length ++ layF (l.map FB.fld) := by
  unfold Ev.lay evE headL
  simp only [List.length_map, List.append_assoc]
theorem may_fld {t p : ByteArray} {q : Int} {l : List FB} (h : (evE t p q l).may = true) (k : Nat) (hk : k < l.length) : V.May ⟨l[k].num, l[k].n, l[k].s.data.toList⟩ ∧ (layF ((l.take k).map FB.fld)).length ≤ 704 ∧ (headL t p q l.length).length ≤ 100 ∧ l[k].name.data.toList.length ≤ 16 := by
  obtain ⟨h1, h2, h3, h4⟩ := may_parts h
  have e : (evE t p q l).l = l.map FB.fld := rfl
  rw [e] at h3 h4
  rw [List.length_map] at h3
  have h5 := h4 l[k].fld (List.mem_map.2 ⟨l[k], List.getElem_mem hk, rfl⟩)
  refine ⟨h5.2, ?_, ?_, h5.1⟩
  · have := layF_le (l := (l.take k).map FB.fld) fun f hf => h4 f (by
      obtain ⟨g, hg, rfl⟩ := List.mem_map.1 hf
      exact List.mem_map.2 ⟨g, List.mem_of_mem_take hg, rfl⟩)
    rw [List.length_map, List.length_take] at this
    omega
  · have g1 := text_le (s := t.data.toList) (m := 40) h1 (by decide)
    have g2 := text_le (s := p.data.toList) (m := 16) h2 (by decide)
    have g3 := pack_le q.toNat
    have g4 := pack_le l.length
    unfold headL
    simp only [List.length_append]
    omega
theorem layF_step {l : List FB} {k : Nat} (hk : k < l.length) : layF ((l.take (k + 1)).map FB.fld) = layF ((l.take k).map FB.fld) ++ (textL l[k].name.data.toList ++ V.lay ⟨l[k].num, l[k].n, l[k].s.data.toList⟩) := by
  rw [List.take_succ_eq_append_getElem hk, List.map_append, layF_append]
  congr 1
  simp [layF, Fld.lay, FB.fld]
def LayRel (w : World) (b : Nat) (pre : List UInt8) (l : List FB) (i : Value) (wr : World) : Prop := ∃ k : Nat, k ≤ l.length ∧ i = .int .i64 k ∧ Hid (Bld wr b b (pre ++ layF ((l.take k).map FB.fld))) ∧ Hid (Below w.heap.size w wr) ∧ b < wr.heap.size
theorem elay_no (t p : ByteArray) (q : Int) (a : Option Addr) (c : Nat) (l : List FB) (hl : l.length ≤ 1000000000) (ht : t.size ≤ 1000000000) (hp : p.size ≤ 1000000000) (hs : FOk l) (w : World) (hM : MaxW w) (hF : Flds w a l)
    (h0 : 0 ≤ q) (h4 : q ≤ 18446744073709551615) (hm : (evE t p q l).may = false) :
    Calls Try.prog 21 #[.agg #[.string t, .string p, .int .u64 q, .slice a l.length c]] w fun e w' => e = .returned (.tuple #[.string ⟨#[]⟩, .int .i64 1]) ∧ Below w.heap.size w w' := by
  have HF := Lib.hid hF
  have HM := Lib.hid hM
  have HS := Lib.hid hs
  have HY : Hid (evMay t p q l = false) := by show evMay t p q l = _; rw [evMay_eq t p q l h0]; exact hm
  clear hF hM hs hm
  go_enter Try.func21, Try.ntmps21
  go_wp2_with fail
  have hbx := balloc (.cells #[.string t, .string p, .int .u64 q, .slice a l.length c] 25) (.refl w.heap.size w)
  refine (evmay_c t p q a c l hl ht hp HS.out.sizes _ (HM.out.grow hbx) (HF.out.grow hbx) h0 h4).mono ?_
  rintro e w1 ⟨rfl, hb1⟩
  rw [HY.out]
  have HB1 := Lib.hid (bstep hb1 hbx)
  clear hb1 hbx
  go_wp2_with fail
  go_ret2
  exact ⟨rfl, HB1.out⟩
set_option maxHeartbeats 2000000 in
theorem elay_yes (t p : ByteArray) (q : Int) (a : Option Addr) (c : Nat) (l : List FB) (hl : l.length ≤ 1000000000) (ht : t.size ≤ 1000000000) (hp : p.size ≤ 1000000000) (hs : FOk l) (w : World) (hM : MaxW w) (hF : Flds w a l)
    (h0 : 0 ≤ q) (h4 : q ≤ 18446744073709551615) (hm : (evE t p q l).may = true) :
    Calls Try.prog 21 #[.agg #[.string t, .string p, .int .u64 q, .slice a l.length c]] w fun e w' => e = .returned (.tuple #[.string ⟨(evE t p q l).lay.toArray⟩, .int .i64 0]) ∧ Below w.heap.size w w' := by
  have HF := Lib.hid hF
  have HM := Lib.hid hM
  have HS := Lib.hid hs
  have HY : Hid (evMay t p q l = true) := by show evMay t p q l = _; rw [evMay_eq t p q l h0]; exact hm
  have HMM := Lib.hid hm
  have hw8 : IntKind.u64.wrap (l.length : Int) = l.length := len_wrap _ hl
  have g1 : (textL t.data.toList).length ≤ 41 := text_le (may_parts hm).1 (by decide)
  have g2 : (textL p.data.toList).length ≤ 17 := text_le (may_parts hm).2.1 (by decide)
  have g3 := pack_le q.toNat
  have g4 := pack_le l.length
  clear hF hM hs hm
  go_enter Try.func21, Try.ntmps21
  go_wp2_with fail
  have hbx := balloc (.cells #[.string t, .string p, .int .u64 q, .slice a l.length c] 25) (.refl w.heap.size w)
  refine (evmay_c t p q a c l hl ht hp HS.out.sizes _ (HM.out.grow hbx) (HF.out.grow hbx) h0 h4).mono ?_
  rintro e w1 ⟨rfl, hb1⟩
  rw [HY.out]
  have E1 : EAt w1 w.heap.size t p q (.slice a l.length c) := by
    refine EAt.grow (v := w.alloc (.cells #[.string t, .string p, .int .u64 q, .slice a l.length c] 25)) ?_ (by simp) hb1
    constructor <;> simp [go_sem]
  have hz1 : w.heap.size < w1.heap.size := (by have := hb1.size; simp at this; omega)
  have HB1 := Lib.hid (bstep hb1 hbx)
  have HBd := Lib.hid (Lib.fresh_isBuilder 91 5 w1)
  obtain ⟨B, hB⟩ : ∃ B, w1.heap.size = B := ⟨_, rfl⟩
  have E2 := E1.grow hz1 (balloc (.cells #[.pointer none, .slice none 0 0] 91) (.refl _ w1))
  have EE := Lib.hid E2
  have KB := Lib.hid (balloc (.cells #[.pointer none, .slice none 0 0] 91) HB1.out)
  have hzB : B < (w1.alloc (.cells #[.pointer none, .slice none 0 0] 91)).heap.size := by simp; omega
  obtain ⟨c0, c1, c2, c3, c4, c5, c6, c7⟩ := E2
  rw [hB] at HBd hz1
  clear hb1 hbx E1 HB1
  go_wp2_with fail
  have HBX : Hid (Bld (w1.alloc (.cells #[.pointer none, .slice none 0 0] 91)) B B []) := HBd.out
  revert HBX EE KB hzB c0 c1 c2 c3 c4 c5 c6 c7
  generalize w1.alloc (.cells #[.pointer none, .slice none 0 0] 91) = X
  intro EE KB hzB c0 c1 c2 c3 c4 c5 c6 c7 HBX
  clear HBd hB
  refine (text_c B B [] t X HBX.out (by simp) ht (by omega)).mono ?_
  rintro e w2 ⟨rfl, hB2, hb2, hk2⟩
  rw [List.nil_append] at hB2
  clear c0 c1 c2 c3 c4 c5 c6 c7
  have E2 := Lib.hid (EE.out.growB hz1 hb2)
  have K2 := Lib.hid (KB.out.trans (hb2.mono (Nat.le_of_lt hz1)))
  have H2 := Lib.hid hB2
  have z2 : B < w2.heap.size := Nat.lt_of_lt_of_le hzB hb2.size
  obtain ⟨c0, c1, c2, c3, c4, c5, c6, c7⟩ := E2.out
  clear hb2 hB2
  clear hk2 HBX EE KB
  go_wp2_with fail
  refine (text_c B B _ p w2 H2.out (by omega) hp (by omega)).mono ?_
  rintro e w3 ⟨rfl, hB3, hb3, hk3⟩
  clear c0 c1 c2 c3 c4 c5 c6 c7
  have E3 := Lib.hid (E2.out.growB hz1 hb3)
  have K3 := Lib.hid (K2.out.trans (hb3.mono (Nat.le_of_lt hz1)))
  have H3 := Lib.hid hB3
  have z3 : B < w3.heap.size := Nat.lt_of_lt_of_le z2 hb3.size
  obtain ⟨c0, c1, c2, c3, c4, c5, c6, c7⟩ := E3.out
  clear hb3 hB3
  clear hk3 H2 E2 K2
  go_wp2_with fail
  refine (packAll_c q _ h0 h4).mono ?_
  rintro e w4 ⟨rfl, hb4⟩
  have hB4 := H3.out.grow hb4
  have hb4' : Below B w3 w4 := hb4.mono (by omega)
  clear c0 c1 c2 c3 c4 c5 c6 c7
  have E4 := Lib.hid (E3.out.growB hz1 hb4')
  have K4 := Lib.hid (K3.out.trans (hb4'.mono (Nat.le_of_lt hz1)))
  have H4 := Lib.hid hB4
  have z4 : B < w4.heap.size := Nat.lt_of_lt_of_le z3 hb4'.size
  obtain ⟨c0, c1, c2, c3, c4, c5, c6, c7⟩ := E4.out
  clear hb4' hB4
  clear hb4 H3 E3 K3
  go_wp2_with fail
  refine (write_c B B _ _ w4 H4.out (by simp only [List.length_append]; omega) (by rw [mk_size]; omega) (by omega)).mono ?_
  rintro e w5 ⟨rfl, hB5, hb5, hk5⟩
  rw [mk_str (pack q.toNat)] at hB5
  clear c0 c1 c2 c3 c4 c5 c6 c7
  have E5 := Lib.hid (E4.out.growB hz1 hb5)
  have K5 := Lib.hid (K4.out.trans (hb5.mono (Nat.le_of_lt hz1)))
  have H5 := Lib.hid hB5
  have z5 : B < w5.heap.size := Nat.lt_of_lt_of_le z4 hb5.size
  obtain ⟨c0, c1, c2, c3, c4, c5, c6, c7⟩ := E5.out
  clear hb5 hB5
  clear hk5 H4 E4 K4
  go_wp2_with fail
  refine (packAll_c _ _ (by omega) (by omega)).mono ?_
  rintro e w6 ⟨rfl, hb6⟩
  rw [Int.toNat_natCast]
  have hB6 := H5.out.grow hb6
  have hb6' : Below B w5 w6 := hb6.mono (by omega)
  clear c0 c1 c2 c3 c4 c5 c6 c7
  have E6 := Lib.hid (E5.out.growB hz1 hb6')
  have K6 := Lib.hid (K5.out.trans (hb6'.mono (Nat.le_of_lt hz1)))
  have H6 := Lib.hid hB6
  have z6 : B < w6.heap.size := Nat.lt_of_lt_of_le z5 hb6'.size
  obtain ⟨c0, c1, c2, c3, c4, c5, c6, c7⟩ := E6.out
  clear hb6' hB6
  clear hb6 H5 E5 K5
  go_wp2_with fail
  refine (write_c B B _ _ w6 H6.out (by simp only [List.length_append]; omega) (by rw [mk_size]; omega) (by omega)).mono ?_
  rintro e w7 ⟨rfl, hB7, hb7, hk7⟩
  rw [mk_str (pack l.length)] at hB7
  clear c0 c1 c2 c3 c4 c5 c6 c7
  have E7 := Lib.hid (E6.out.growB hz1 hb7)
  have K7 := Lib.hid (K6.out.trans (hb7.mono (Nat.le_of_lt hz1)))
  have H7 := Lib.hid hB7
  have z7 : B < w7.heap.size := Nat.lt_of_lt_of_le z6 hb7.size
  obtain ⟨c0, c1, c2, c3, c4, c5, c6, c7⟩ := E7.out
  clear hb7 hB7
  clear hk7 H6 E6 K6
  go_wp2_with fail
  have HS0 : Hid (Bld w7 B B (headL t p q l.length ++ layF ((l.take 0).map FB.fld))) := by
    have := H7.out
    show Bld w7 B B _
    rw [List.take_zero, List.map_nil, layF, List.append_nil]
    exact this
  clear H7 c0 c1 c2 c3 c4 c5 c6 c7
  have hwB : w.heap.size ≤ B := by omega
  go_loopw [35] (fun i wr => LayRel w B (headL t p q l.length) l i wr) (fun i _ => l.length - (intOf i).toNat)
  case atStart => exact ⟨0, by omega, rfl, HS0, K7, z7⟩
  case round =>
    clear HS0 K7 E7 z7
    obtain ⟨k, hk, rfl, HL, KB, hz⟩ := hrel
    obtain ⟨wo, rfl⟩ : ∃ wo, wo = wr := ⟨_, rfl⟩
    by_cases hlt : k < l.length
    · obtain ⟨hvm, hle1, hle2, hle3⟩ := may_fld HMM.out k hlt
      have HV := Lib.hid hvm
      have hn1 : (textL l[k].name.data.toList).length ≤ 17 := text_le hle3 (by decide)
      have hv1 := lay_le _ hvm
      have HF2 := Lib.hid (HF.out.grow KB.out)
      obtain ⟨b, o, ha, hb⟩ := HF2.out.head hlt
      subst ha
      obtain ⟨_, f0, f1, f2, f3⟩ := HF2.out.at hlt
      obtain ⟨s1, s2, s3, s4⟩ := HS.out l[k] (List.getElem_mem hlt)
      have HBX := Lib.hid (HL.out.grow (balloc (.cells #[.string l[k].name, .bool l[k].num, .int .i64 l[k].n, .string l[k].s] 39) (.refl wo.heap.size wo)))
      have KBX := Lib.hid (balloc (.cells #[.string l[k].name, .bool l[k].num, .int .i64 l[k].n, .string l[k].s] 39) KB.out)
      have hstep := layF_step hlt
      have HSt := Lib.hid hstep
      obtain ⟨g, hg⟩ : ∃ g, wo.heap.size = g := ⟨_, rfl⟩
      have hbox : (wo.alloc (.cells #[.string l[k].name, .bool l[k].num, .int .i64 l[k].n, .string l[k].s] 39)).heap[g]? = some (.cells #[.string l[k].name, .bool l[k].num, .int .i64 l[k].n, .string l[k].s] 39 (0, 0)) := by
        rw [← hg]; show (wo.heap.push _)[wo.heap.size]? = _; simp
      have Hbox := Lib.hid hbox
      have hzx : B < (wo.alloc (.cells #[.string l[k].name, .bool l[k].num, .int .i64 l[k].n, .string l[k].s] 39)).heap.size := by simp; omega
      have hgB : B < g := by omega
      obtain ⟨L, hL⟩ : ∃ L, headL t p q l.length ++ layF ((l.take k).map FB.fld) = L := ⟨_, rfl⟩
      have hLl : L.length ≤ 1000 := by rw [← hL, List.length_append]; omega
      have HSt2 : Hid (headL t p q l.length ++ layF ((l.take (k + 1)).map FB.fld) = L ++ textL l[k].name.data.toList ++ V.lay ⟨l[k].num, l[k].n, l[k].s.data.toList⟩) := by
        show _ = _
        rw [hstep, ← hL]; simp only [List.append_assoc]
      rw [hL] at HBX
      clear hvm hstep hbox HL hL HSt
      go_wp2_with fail
      refine (text_c B B L l[k].name _ HBX.out (by omega) (by omega) (by omega)).mono ?_
      rintro e w2 ⟨rfl, hB2, hb2, hk2⟩
      have b2 := Lib.hid (hk2.box Hbox.out (by omega) (by decide))
      have c1 : w2.cell? ⟨g, 1, none⟩ = some (.bool l[k].num) := by rw [Lib.cell_of_heap b2.out]; rfl
      have c2 : w2.cell? ⟨g, 2, none⟩ = some (.int .i64 l[k].n) := by rw [Lib.cell_of_heap b2.out]; rfl
      have c3 : w2.cell? ⟨g, 3, none⟩ = some (.string l[k].s) := by rw [Lib.cell_of_heap b2.out]; rfl
      have z2 : B < w2.heap.size := Nat.lt_of_lt_of_le hzx hb2.size
      have H2 := Lib.hid hB2
      have K2 := Lib.hid (KBX.out.trans (hb2.mono hwB))
      clear hB2 hb2 hk2 HBX KBX Hbox
      go_wp2_with fail
      refine (lay_yes s2 s3 s4 HV.out w2).mono ?_
      rintro e w3 ⟨rfl, hb3⟩
      have H3 := Lib.hid (H2.out.grow hb3)
      have z3 : B < w3.heap.size := Nat.lt_of_lt_of_le z2 hb3.size
      have K3 := Lib.hid (bstep hb3 K2.out)
      clear hb3 H2 K2 c1 c2 c3 b2
      go_wp2_with fail
      refine (write_c B B _ _ w3 H3.out (by simp only [List.length_append]; omega) (by rw [mk_size]; omega) (by omega)).mono ?_
      rintro e w4 ⟨rfl, hB4, hb4, hk4⟩
      rw [mk_str (V.lay ⟨l[k].num, l[k].n, l[k].s.data.toList⟩)] at hB4
      have H4 : Hid (Bld w4 B B (headL t p q l.length ++ layF ((l.take (k + 1)).map FB.fld))) := by
        show Bld _ _ _ _
        rw [HSt2.out]; exact hB4
      have z4 : B < w4.heap.size := Nat.lt_of_lt_of_le z3 hb4.size
      have K4 := Lib.hid (K3.out.trans (hb4.mono hwB))
      clear hB4 hb4 hk4 H3 K3 f0 f1 f2 f3
      go_wp2_with fail
      go_roundw
      case rel => exact ⟨k + 1, by omega, by go_num, H4, K4, z4⟩
      case measure => simp [intOf] <;> omega
    · have HE : Hid (headL t p q l.length ++ layF ((l.take k).map FB.fld) = (evE t p q l).lay) := by
        show _ = _
        rw [lay_parts, List.take_of_length_le (by omega)]
      clear HMM
      go_wp2_with fail
      refine (Try.Builder_String_any B B _ wo HL.out (by omega)).mono ?_
      rintro e w2 ⟨rfl, hb2⟩
      rw [HE.out]
      have K2 := Lib.hid (KB.out.trans (hb2.mono hwB))
      clear hb2
      go_wp2_with fail
      go_ret2
      exact ⟨rfl, K2.out⟩
end Go.Proofs.Ytcbnehplilpidaa
