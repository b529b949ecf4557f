/- The walks of strings.Builder and event.Lay. -/
import Derived.Test.YtmmdblpoecidaaaGreatDoorProg
import Derived.WalkKit
import Derived.WalkSpells
import Derived.WalkLawsBesides
import Derived.Lib.Hide
import Derived.Lib.Builder
import Derived.Lib.OthersKept
import Derived.Lib.OwnKind
import Derived.Lib.AppendStr
import Derived.Laws.Externs
import Derived.Deep.Cut
import Derived.Test.YtmmdblpoecidaaaGreatDoorDraws
import Derived.Deep.RegionWith
import Derived.Test.YtmmdblpoecidaaaGreatDoorEvM
import Derived.Test.YtmmdblpoecidaaaGreatDoorFacts
import Derived.Test.YtmmdblpoecidaaaGreatDoorVal4
import Derived.Test.YtmmdblpoecidaaaGreatDoorShelf
import Derived.Lib.BufferKept
set_option linter.unusedVariables false
set_option linter.unusedSimpArgs false
namespace Go.Proofs.YtmmdblpoecidaaaGreatDoor
open Go.RowKit Tryst
set_option maxHeartbeats 400000
set_option maxRecDepth 20000
theorem sizeBld : (Tryz.prog.info? 45).map (·.size) = some 2 := by kernel_rfl
theorem liesBld : liesAt Tryz.prog Tryz.prog.depth 45 (2 / Tryz.prog.cellsOf 45) 0 45 1 = true := by kernel_rfl
theorem infoByte : (Tryz.prog.info? 5).map (fun i => (i.zero, i.size, i.bytes)) = some (some (.int .u8 0), 1, 1) := by kernel_rfl
/-- a builder of the call's own holds these octets -/
def Bld (w : World) (B b : Nat) (l : List UInt8) : Prop := Lib.IsBuilder 45 5 B b (Lib.byteCells l) w
/-- what else there is stays -/
def Kept (b : Nat) (w w' : World) : Prop := Lib.OthersKept 5 (some b) w w'
theorem check_used (b : Nat) (w : World) (h0 : w.cell? ⟨b, 0, none⟩ = some (.pointer (some ⟨b, 0, none⟩))) :
    Calls Tryz.prog 41 #[.pointer (some ⟨b, 0, none⟩)] w fun e w' => e = .returned (.tuple #[]) ∧ w' = w := by
  obtain ⟨j, hj, _⟩ := Option.map_eq_some_iff.1 sizeBld
  go_enter Tryz.func41, Tryz.ntmps41
  go_wp2
  rw [Lib.run_neq_ptr_same w _ Tryz.underlying42 hj]
  go_wp2
  go_end0
  exact ⟨rfl, rfl⟩
theorem check_fresh (b : Nat) (w : World) (h0 : w.cell? ⟨b, 0, none⟩ = some (.pointer none)) (hsh : w.shape? b = some (45, 2)) (hfz : w.frozen? ⟨b, 0, none⟩ = false) :
    Calls Tryz.prog 41 #[.pointer (some ⟨b, 0, none⟩)] w fun e w' => e = .returned (.tuple #[]) ∧ w' = w.setCell ⟨b, 0, none⟩ (.pointer (some ⟨b, 0, none⟩)) := by
  obtain ⟨j, hj, hjs⟩ := Option.map_eq_some_iff.1 sizeBld
  go_enter Tryz.func41, Tryz.ntmps41
  go_wp2
  rw [Lib.run_to_unsafe w ⟨b, 0, none⟩ Tryz.underlying42 Tryz.underlying95 hj (by rw [hjs]; decide) hsh (Nat.zero_lt_succ 1)]
  simp only [Result.andThen]
  rw [Oper.upon_value]
  go_wp2
  rw [run_callFunc_extern Tryz.func61 (by kernel_rfl) (by kernel_rfl) (by kernel_rfl) (e := Extern.AbiNoEscape.same) (by kernel_rfl)]
  rw [Lib.run_noEscape]
  simp only [Result.andThen]
  rw [Oper.upon_value]
  go_wp2
  rw [Lib.run_from_unsafe w ⟨b, 0, none⟩ Tryz.underlying95 Tryz.underlying42 hj hsh liesBld]
  simp only [Result.andThen]
  rw [Oper.upon_value]
  go_wp2
  go_end0
  exact ⟨rfl, rfl⟩
theorem check_c (B b : Nat) (bs : List Value) (w : World) (h : Lib.IsBuilder 45 5 B b bs w) :
    Calls Tryz.prog 41 #[.pointer (some ⟨b, 0, none⟩)] w fun e w' => e = .returned (.tuple #[]) ∧ Lib.BuilderAt 45 5 B b (.pointer (some ⟨b, 0, none⟩)) bs w' ∧ Below B w w' ∧ Kept b w w' := by
  rcases h with h | h
  · refine (check_fresh b w h.cell0 h.shape h.frozen0).mono ?_
    rintro e w' ⟨rfl, rfl⟩
    exact ⟨rfl, h.used _, (Below.refl B w).setCell (p := ⟨b, 0, none⟩) h.1 _, by unfold Kept; exact (Lib.OthersKept.refl 5 (some b) w).setCell ⟨b, 0, none⟩ rfl _⟩
  · refine (check_used b w h.cell0).mono ?_
    rintro e w' ⟨rfl, rfl⟩
    exact ⟨rfl, h, Below.refl B _, Lib.OthersKept.refl _ _ _⟩
theorem str_cells (s : ByteArray) : Lib.strCells s = Lib.byteCells s.data.toList := by
  simp [Lib.strCells, Lib.byteCells]
set_option maxHeartbeats 2000000 in
theorem write_c (B b : Nat) (l : List UInt8) (s : ByteArray) (w : World) (h : Bld w B b l) (hl : l.length ≤ 1000000000) (hs : s.size ≤ 1000000000) (hBw : B ≤ w.heap.size) :
    Calls Tryz.prog 26 #[.pointer (some ⟨b, 0, none⟩), .string s] w fun e w' => e = .returned (.tuple #[.int .i64 s.size, .nilIface]) ∧ Bld w' B b (l ++ s.data.toList) ∧ Below B w w' ∧ Kept b w w' := by
  obtain ⟨i0, hi, hz0, hz1, hz2⟩ := info_parts infoByte
  have HB0 := Lib.hid h
  clear h
  go_enter Tryz.func26, Tryz.ntmps26
  go_wp2_with fail
  refine (check_c B b _ _ HB0.out).mono ?_
  rintro e w1 ⟨rfl, h1, hb1, hk1⟩
  obtain ⟨hB, v, hbk, hown, hne⟩ := h1
  have c0 : w1.cell? ⟨b, 0, none⟩ = some (.pointer (some ⟨b, 0, none⟩)) := by rw [Lib.cell_of_heap hbk]; rfl
  have c1 : w1.cell? ⟨b, 1, none⟩ = some v := by rw [Lib.cell_of_heap hbk]; rfl
  have hle : (Lib.byteCells l).length ≤ 1000000000 := by simp [Lib.byteCells]; omega
  go_wp2_with (at_builtin; refine Lib.wpList_append_own_string _ rfl _ _ 43 9 rfl B 5 i0 Tryz.underlying43 Tryz.underlying9 hi hz0 hz1 hz2 _ _ _ rfl hown s rfl ?c3 ?c4 ?c5 ?_)
  case c3 => unfold maxLen; omega
  case c4 => omega
  case c5 => have := hb1.size; omega
  intro v' w2 hown' hgrow _
  have hlt : b < w1.heap.size := by
    rcases Nat.lt_or_ge b w1.heap.size with h' | h'
    · exact h'
    · simp [Array.getElem?_eq_none h'] at hbk
  have hb2 : w2.heap[b]? = some (.cells #[.pointer (some ⟨b, 0, none⟩), v] 45 (0, 0)) := by
    rw [hgrow.block b hlt (fun e => hne e.symm)]
    exact hbk
  have d0 : w2.cell? ⟨b, 0, none⟩ = some (.pointer (some ⟨b, 0, none⟩)) := by rw [Lib.cell_of_heap hb2]; rfl
  have d1 : w2.cell? ⟨b, 1, none⟩ = some v := by rw [Lib.cell_of_heap hb2]; rfl
  have f1 : w2.frozen? ⟨b, 1, none⟩ = false := Lib.frozen_of_heap hb2 1
  obtain ⟨ao, n', cap, rfl⟩ : ∃ ao n' cap, v' = .slice ao n' cap := by
    rcases hown'.2 with ⟨hv, _⟩ | ⟨g, cap, cur, hv, _⟩
    · exact ⟨_, _, _, hv⟩
    · exact ⟨_, _, _, hv⟩
  go_wp2
  go_ret2
  refine ⟨rfl, .inr ?_, ?_, by unfold Kept at hk1 ⊢; exact (hk1.grown hgrow (Lib.ownsRow_kind hown)).setCell ⟨b, 1, none⟩ rfl _⟩
  · refine Lib.BuilderAt.put (T := 45) (e := 5) hB hb2 (bs' := Lib.byteCells (l ++ s.data.toList)) ?_ (by decide)
    rw [str_cells] at hown'
    simpa [Lib.byteCells] using hown'
  · exact (hb1.grown hgrow (by have := hb1.size; omega) (fun k hk => (hown.lt k hk).1)).setCell (p := ⟨b, 1, none⟩) hB _
end Go.Proofs.YtmmdblpoecidaaaGreatDoor
namespace Go.Proofs.YtmmdblpoecidaaaGreatDoor
open Go.RowKit Tryst
set_option maxHeartbeats 400000
set_option maxRecDepth 20000
theorem Bld.grow {w w' : World} {B b : Nat} {l : List UInt8} (h : Bld w B b l) (hb : Below w.heap.size w w') : Bld w' B b l := by
  have key : ∀ {p : Value} {bs : List Value}, Lib.BuilderAt 45 5 B b p bs w → Lib.BuilderAt 45 5 B b p bs w' := by
    intro p bs h
    have hlt := h.lt
    obtain ⟨hB, v, hv, hown, hne⟩ := h
    exact ⟨hB, v, (hb.block b hlt).trans hv, own_kept hown hb, hne⟩
  rcases h with h | h
  · exact .inl (key h)
  · exact .inr (key h)
theorem Bld.lt {w : World} {B b : Nat} {l : List UInt8} (h : Bld w B b l) : B ≤ b ∧ b < w.heap.size := by
  rcases h with h | h
  · exact ⟨h.1, h.lt⟩
  · exact ⟨h.1, h.lt⟩
theorem Kept.refl (b : Nat) (w : World) : Kept b w w := Lib.OthersKept.refl _ _ _
theorem Kept.trans {b : Nat} {u v w : World} (h : Kept b u v) (k : Kept b v w) : Kept b u w := Lib.OthersKept.trans h k
theorem Kept.below {b : Nat} {v w : World} (h : Below v.heap.size v w) : Kept b v w := Lib.OthersKept.below (Lib.OthersKept.refl _ _ _) h
theorem Kept.box {b g : Nat} {v w : World} {cs : Array Value} {T : TypeId} (h : Kept b v w) (hg : v.heap[g]? = some (.cells cs T (0, 0))) (hgb : g ≠ b) (hT : T ≠ 5) : w.heap[g]? = some (.cells cs T (0, 0)) :=
  h g _ hg (by simpa using hgb) (fun c fz e => hT (by injection e))
theorem len_wrap (n : Nat) (h : n ≤ 1000000000) : IntKind.u64.wrap (n : Int) = n := by rw [IntKind.wrap_u64]; omega
theorem _root_.Tryst.mk_size (l : List UInt8) : (ByteArray.mk l.toArray).size = l.length := rfl
end Go.Proofs.YtmmdblpoecidaaaGreatDoor
namespace Go.Proofs.YtmmdblpoecidaaaGreatDoor
open Go.RowKit Tryst
set_option maxHeartbeats 400000
set_option maxRecDepth 20000
def evE (t p : ByteArray) (q : Int) (l : List FB) : Ev := ⟨t.data.toList, p.data.toList, q.toNat, l.map FB.fld⟩
theorem evMay_eq (t p : ByteArray) (q : Int) (l : List FB) (h0 : 0 ≤ q) : evMay t p q l = (evE t p q l).may := by
  unfold evMay evE Ev.may
  simp only [List.length_map]
  congr 3
  by_cases h : 1 ≤ q
  · rw [decide_eq_true h, decide_eq_true (by omega)]
  · rw [decide_eq_false h, decide_eq_false (by omega)]
/-- each field's parts are such as Go has them -/
def FOk (l : List FB) : Prop := ∀ f ∈ l, f.name.size ≤ 1000000000 ∧ f.s.size ≤ 1000000000 ∧ -9223372036854775808 ≤ f.n ∧ f.n ≤ 9223372036854775807
theorem FOk.sizes {l : List FB} (h : FOk l) : ∀ f ∈ l, f.name.size ≤ 1000000000 ∧ f.s.size ≤ 1000000000 := fun f hf => ⟨(h f hf).1, (h f hf).2.1⟩
theorem evFits {t p : ByteArray} {q : Int} {l : List FB} (h0 : 0 ≤ q) (h4 : q ≤ 18446744073709551615) (h : FOk l) : (evE t p q l).Fits := by
  refine ⟨by show q.toNat < _; omega, ?_⟩
  intro f hf
  obtain ⟨g, hg, rfl⟩ := List.mem_map.1 hf
  exact (h g hg).2.2
def headL (t p : ByteArray) (q : Int) (n : Nat) : List UInt8 := textL t.data.toList ++ textL p.data.toList ++ pack q.toNat ++ pack n
theorem lay_parts (t p : ByteArray) (q : Int) (l : List FB) : (evE t p q l).lay = headL t p q l.length ++ layF (l.map FB.fld) := by
  unfold Ev.lay evE headL
  simp only [List.length_map, List.append_assoc]
theorem may_fld {t p : ByteArray} {q : Int} {l : List FB} (h : (evE t p q l).may = true) (k : Nat) (hk : k < l.length) : V.May ⟨l[k].num, l[k].n, l[k].s.data.toList⟩ ∧ (layF ((l.take k).map FB.fld)).length ≤ 704 ∧ (headL t p q l.length).length ≤ 100 ∧ l[k].name.data.toList.length ≤ 16 := by
  obtain ⟨h1, h2, h3, h4⟩ := may_parts h
  have e : (evE t p q l).l = l.map FB.fld := rfl
  rw [e] at h3 h4
  rw [List.length_map] at h3
  have h5 := h4 l[k].fld (List.mem_map.2 ⟨l[k], List.getElem_mem hk, rfl⟩)
  refine ⟨h5.2, ?_, ?_, h5.1⟩
  · have := layF_le (l := (l.take k).map FB.fld) fun f hf => h4 f (by
      obtain ⟨g, hg, rfl⟩ := List.mem_map.1 hf
      exact List.mem_map.2 ⟨g, List.mem_of_mem_take hg, rfl⟩)
    rw [List.length_map, List.length_take] at this
    omega
  · have g1 := text_le (s := t.data.toList) (m := 40) h1 (by decide)
    have g2 := text_le (s := p.data.toList) (m := 16) h2 (by decide)
    have g3 := pack_le q.toNat
    have g4 := pack_le l.length
    unfold headL
    simp only [List.length_append]
    omega
theorem layF_step {l : List FB} {k : Nat} (hk : k < l.length) : layF ((l.take (k + 1)).map FB.fld) = layF ((l.take k).map FB.fld) ++ (textL l[k].name.data.toList ++ V.lay ⟨l[k].num, l[k].n, l[k].s.data.toList⟩) := by
  rw [List.take_succ_eq_append_getElem hk, List.map_append, layF_append]
  congr 1
  simp [layF, Fld.lay, FB.fld]
def LayRel (w : World) (b : Nat) (pre : List UInt8) (l : List FB) (i : Value) (wr : World) : Prop := ∃ k : Nat, k ≤ l.length ∧ i = .int .i64 k ∧ Hid (Bld wr b b (pre ++ layF ((l.take k).map FB.fld))) ∧ Hid (Below w.heap.size w wr) ∧ b < wr.heap.size
end Go.Proofs.YtmmdblpoecidaaaGreatDoor
