/- Arguments opened: events, values; the end of a law. -/
import Derived.Test.YtmlbdblnmbmnpaaGreatDoorProg
import Derived.WalkKit
import Derived.Carry
import Derived.OpenVars
import Derived.ChangeSame
import Derived.Lib.SmallJoins
import Derived.Deep.Slices
import Derived.Deep.Fields
import Derived.Test.YtmlbdblnmbmnpaaGreatDoorFldG
set_option linter.unusedVariables false
set_option linter.unusedSimpArgs false
namespace Tryst
open Go Go.RowKit Go.ChangeShapes Go.WideShapes Go.Joins
/-- what arguments read as, they read as behind the call, too -/
theorem trodAll_below {H : Type} {enc : TypeId × Value → H} {P : Program} (hl : laidOutB P = true) {W W' : World} (hb : Below W.heap.size W W') :
  ∀ {ts : List TypeId} {vs : List Value} {ds : List (DataW H)} {ps : List MemPlace}, (ts.all fun t => P.readableRec t && decide (t < P.types.size)) = true → (∀ x ∈ ps, x.block < W.heap.size) →
  DataW.TrodAll enc P W 0 (fun _ => true) true ts vs ds ps → DataW.TrodAll enc P W' 0 (fun b => decide (b < W.heap.size)) true ts vs ds ps
 | [], vs, ds, ps, _, _, h => by
  obtain ⟨rfl, rfl, rfl⟩ := trodAll_nil h
  exact trodAll_mk0
 | t :: ts, vs, ds, ps, hts, hlt, h => by
  obtain ⟨v, vs', d, ds', p, q, rfl, rfl, rfl, h1, h2⟩ := trodAll_cons h
  simp only [List.all_cons, Bool.and_eq_true, decide_eq_true_eq] at hts
  exact trodAll_cons_mk (Below.trod hl hts.1.1 hts.1.2 h1 hb fun x hx => hlt x (List.mem_append.2 (.inl hx))) (trodAll_below hl hb (by simpa using hts.2) (fun x hx => hlt x (List.mem_append.2 (.inr hx))) h2)
theorem trodAll_len {H : Type} {enc : TypeId × Value → H} {P : Program} {w : World} {base : Nat} {sp : Nat → Bool} {hd : Bool} : ∀ {ts : List TypeId} {vs : List Value} {ds : List (DataW H)} {ps : List MemPlace}, DataW.TrodAll enc P w base sp hd ts vs ds ps → ds.length = ts.length
 | [], _, _, _, h => by
  obtain ⟨_, rfl, _⟩ := trodAll_nil h
  rfl
 | t :: ts, _, _, _, h => by
  obtain ⟨v, vs', d, ds', p, q, _, rfl, _, _, h2⟩ := trodAll_cons h
  rw [List.length_cons, List.length_cons, trodAll_len h2]
/-- a law's end: it returned true, and nothing that there was has turned -/
theorem post_law {H : Type} {enc : TypeId × Value → H} {P : Program} {f : Func} {s : ChangeSpec} {apart fresh handsOn : Bool} {W W' : World} {args : Array Value} {ds gs : List (DataW H)} {before : List MemPlace} {tb : TypeId}
  (hl : laidOutB P = true) (htb : P.underlying tb = some .bool) (hrt : f.resultTypes = #[tb]) (hts : (f.params.toList.all fun t => P.readableRec t && decide (t < P.types.size)) = true) (hsv : s.vars = [])
  (hW : DataW.Whole enc P f.params.toList s.vars apart W args.toList ds gs before)
  (hfn : ∀ dd, dd.length = f.params.size → s.fn H dd = { results := [.lit (.bool true)], args := dd }) (hb : Below W.heap.size W W') :
  s.post enc P f apart fresh handsOn false W args (.bool true) W' := by
 have hlt : ∀ p ∈ before, p.block < W.heap.size := fun p hp => hW.lt p hp
 have hW0 := hW
 obtain ⟨p, q, hA, hV, rfl, hfz, hnd⟩ := hW
 rw [hsv] at hV
 obtain ⟨rfl, rfl⟩ := trodVars_none hV
 have hlen : ds.length = f.params.size := by
  have h := trodAll_len hA
  simpa using h
 have hA' := trodAll_below hl hb hts (fun x hx => hlt x (by simpa using hx)) hA
 have hfn' := hfn ds hlen
 have hold : ∀ x ∈ p, (fun b => decide (b < W.heap.size)) x.block = true := fun x hx => by simpa using hlt x (by simpa using hx)
 have hres : ∀ (b : Nat) (sp : Nat → Bool) (hd : Bool), DataW.TrodAll enc P W' b sp hd f.resultTypes.toList ((Value.bool true).resultList f.resultTypes.size) [.lit (.bool true)] [] := fun b sp hd => by
  rw [hrt]
  exact trodAll_cons_mk (shut_bool htb _) trodAll_mk0
 refine ⟨ds, [], p ++ [], [], p, [], hW0, ?_, ?_, ?_, ?_, fun h => by cases h⟩
 ·
  rw [List.append_nil, hfn']; exact hres _ _ _
 ·
  rw [List.append_nil, hfn']; exact hA'
 ·
  rw [hsv, List.append_nil, hfn']
  exact rfl
 ·
  exact World.keptBut_mono (fun x hx => ⟨hx, .inr (.inl (by simpa using hx))⟩) (hb.frame (· ∈ p ++ []))
theorem cell_lt {w : World} {a : Addr} {v : Value} (h : w.cell? a = some v) : a.block < w.heap.size ∧ a.spot = none := by
 unfold World.cell? at h
 split at h
 ·
  rename_i c _ _ hc
  refine ⟨(Array.getElem?_eq_some_iff.1 hc).1, ?_⟩
  split at h
  ·
   cases h
  ·
   rename_i hs; simpa using hs
 ·
  cases h
end Tryst
namespace Go.Proofs.YtmlbdblnmbmnpaaGreatDoor
set_option maxRecDepth 100000
open Go.RowKit Tryst Go.ChangeShapes Go.WideShapes Go.Joins
section
variable {H : Type} {enc : TypeId × Value → H} {w : World} {base : Nat} {sp : Nat → Bool} {hd : Bool}
theorem kBool : Tryz.prog.cellsOf 4 = 1 := by kernel_rfl
theorem kI64 : Tryz.prog.cellsOf 2 = 1 := by kernel_rfl
theorem kU64 : Tryz.prog.cellsOf 60 = 1 := by kernel_rfl
theorem kStr : Tryz.prog.cellsOf 9 = 1 := by kernel_rfl
theorem kVal : Tryz.prog.cellsOf 67 = 3 := by kernel_rfl
theorem kFld : Tryz.prog.cellsOf 96 = 4 := by kernel_rfl
theorem kFlds : Tryz.prog.cellsOf 61 = 1 := by kernel_rfl
theorem kEv : Tryz.prog.cellsOf 63 = 4 := by kernel_rfl
theorem read_str {fuel : Nat} {cs : List Value} {x : DataW H × List MemPlace} (h : DataW.trod enc Tryz.prog w base sp hd fuel 9 cs = some x) : ∃ s : ByteArray, cs = [.string s] ∧ s.size ≤ 9223372036854775807 := by
 obtain ⟨s, rfl, _, hs⟩ := DataW.trod_string Tryz.underlying9 h
 exact ⟨s, rfl, hs⟩
theorem read_val {fuel : Nat} {cs : List Value} {x : DataW H × List MemPlace} (h : DataW.trod enc Tryz.prog w base sp hd fuel 67 cs = some x) :
  ∃ (b : Bool) (n : Int) (s : ByteArray), cs = [.bool b, .int .i64 n, .string s] ∧ s.size ≤ 9223372036854775807 ∧ -9223372036854775808 ≤ n ∧ n ≤ 9223372036854775807 := by
 obtain ⟨xs, n, _, _, hlen, hxl, hf⟩ := DataW.trod_struct Tryz.underlying67 h
 rw [kVal] at hlen
 match cs, hlen, xs, hxl with
 | [c0, c1, c2], _, [y0, y1, y2], _ =>
  have h0 : DataW.trod enc Tryz.prog w base sp hd n 4 (([c0, c1, c2].drop 0).take (Tryz.prog.cellsOf 4)) = some y0 := hf 0 _ rfl
  have h1 : DataW.trod enc Tryz.prog w base sp hd n 2 (([c0, c1, c2].drop 1).take (Tryz.prog.cellsOf 2)) = some y1 := hf 1 _ rfl
  have h2 : DataW.trod enc Tryz.prog w base sp hd n 9 (([c0, c1, c2].drop 2).take (Tryz.prog.cellsOf 9)) = some y2 := hf 2 _ rfl
  rw [kBool] at h0
  rw [kI64] at h1
  rw [kStr] at h2
  obtain ⟨b, e0, _⟩ := DataW.trod_bool Tryz.underlying4 h0
  obtain ⟨i, e1, _, hw⟩ := DataW.trod_int Tryz.underlying2 h1
  obtain ⟨s, e2, hs⟩ := read_str h2
  simp at e0 e1 e2
  obtain ⟨hl, hh⟩ : -9223372036854775808 ≤ i ∧ i ≤ 9223372036854775807 := by simpa [Lit.wf, IntKind.min, IntKind.max, IntKind.signed, IntKind.bits] using hw
  exact ⟨b, i, s, by rw [e0, e1, e2], hs, hl, hh⟩
theorem read_fld {fuel : Nat} {cs : List Value} {x : DataW H × List MemPlace} (h : DataW.trod enc Tryz.prog w base sp hd fuel 96 cs = some x) :
  ∃ f : FB, cs = [.string f.name, .bool f.num, .int .i64 f.n, .string f.s] ∧ f.name.size ≤ 9223372036854775807 ∧ f.s.size ≤ 9223372036854775807 ∧ -9223372036854775808 ≤ f.n ∧ f.n ≤ 9223372036854775807 := by
 obtain ⟨xs, n, _, _, hlen, hxl, hf⟩ := DataW.trod_struct Tryz.underlying96 h
 rw [kFld] at hlen
 match cs, hlen, xs, hxl with
 | [c0, c1, c2, c3], _, [y0, y1], _ =>
  have h0 : DataW.trod enc Tryz.prog w base sp hd n 9 (([c0, c1, c2, c3].drop 0).take (Tryz.prog.cellsOf 9)) = some y0 := hf 0 _ rfl
  have h1 : DataW.trod enc Tryz.prog w base sp hd n 67 (([c0, c1, c2, c3].drop 1).take (Tryz.prog.cellsOf 67)) = some y1 := hf 1 _ rfl
  rw [kStr] at h0
  rw [kVal] at h1
  obtain ⟨s, e0, hs⟩ := read_str h0
  obtain ⟨b, i, u, e1, hu, hl, hh⟩ := read_val h1
  simp at e0 e1
  exact ⟨⟨s, b, i, u⟩, by rw [e0, e1.1, e1.2.1, e1.2.2], hs, hu, hl, hh⟩
/-- each field's parts are such as an argument has them -/
def FIn (l : List FB) : Prop := ∀ f ∈ l, f.name.size ≤ 9223372036854775807 ∧ f.s.size ≤ 9223372036854775807 ∧ -9223372036854775808 ≤ f.n ∧ f.n ≤ 9223372036854775807
theorem read_flds {fuel : Nat} {cs : List Value} {x : DataW H × List MemPlace} (h : DataW.trod enc Tryz.prog w base sp hd fuel 61 cs = some x) :
  ∃ (a : Option Addr) (l : List FB) (c : Nat), cs = [.slice a l.length c] ∧ Flds w a l ∧ FIn l ∧ l.length ≤ maxLen := by
 rcases Go.Deep.open_slice Tryz.underlying61 h with ⟨rfl, _⟩ | ⟨ad, len, cap, m, n, D, Pl, rfl, _, hl, hm, hmm, _, hi⟩
 ·
  exact ⟨none, [], 0, rfl, Flds.nil _ _, (fun f hf => by cases hf), Nat.zero_le _⟩
 ·
  have hml : len ≤ m := by rw [hmm]; split <;> omega
  have key : ∀ i, i < len → ∃ f : FB, (∀ j, j < 4 → w.cell? ((ad.add (i * 4)).add j) = ([.string f.name, .bool f.num, .int .i64 f.n, .string f.s] : List Value)[j]?) ∧ f.name.size ≤ 9223372036854775807 ∧ f.s.size ≤ 9223372036854775807 ∧ -9223372036854775808 ≤ f.n ∧ f.n ≤ 9223372036854775807 := fun i hil => by
   obtain ⟨cs', hc, ht⟩ := hi i (by omega)
   rw [kFld] at hc
   obtain ⟨_, _, hcell⟩ := World.cells?_some hc
   obtain ⟨f, rfl, hf⟩ := read_fld ht
   exact ⟨f, hcell, hf⟩
  obtain ⟨g, hg⟩ : ∃ g : Nat → FB, ∀ i, i < len → (∀ j, j < 4 → w.cell? ((ad.add (i * 4)).add j) = ([.string (g i).name, .bool (g i).num, .int .i64 (g i).n, .string (g i).s] : List Value)[j]?) ∧ (g i).name.size ≤ 9223372036854775807 ∧ (g i).s.size ≤ 9223372036854775807 ∧ -9223372036854775808 ≤ (g i).n ∧ (g i).n ≤ 9223372036854775807 :=
   ⟨fun i => if h : i < len then (key i h).choose else FB.zero, fun i h => by simp only [dif_pos h]; exact (key i h).choose_spec⟩
  refine ⟨some ad, (List.range len).map g, cap, by rw [List.length_map, List.length_range], ?_, ?_, by rw [List.length_map, List.length_range]; omega⟩
  ·
   intro i hil
   rw [List.length_map, List.length_range] at hil
   obtain ⟨hc, _⟩ := hg i hil
   have h0 := hc 0 (by omega)
   obtain ⟨b, o, sp⟩ := ad
   have hz := hg 0 (by omega)
   have hz0 := hz.1 0 (by omega)
   have e0 := cell_lt (v := .string (g 0).name) (by simpa [Addr.add] using hz0)
   obtain ⟨hb, hs⟩ := e0
   simp only at hs hb
   subst hs
   refine ⟨b, o, rfl, hb, ?_⟩
   have e : ((List.range len).map g)[i]'(by simpa using hil) = g i := by simp
   rw [e]
   have ea : ∀ j, ((⟨b, o, none⟩ : Addr).add (i * 4)).add j = ⟨b, o + i * 4 + j, none⟩ := fun j => by rw [Addr.add_lit, Addr.add_lit]
   exact ⟨by have := hc 0 (by omega); rw [ea] at this; simpa using this, by have := hc 1 (by omega); rw [ea] at this; simpa using this, by have := hc 2 (by omega); rw [ea] at this; simpa using this, by have := hc 3 (by omega); rw [ea] at this; simpa using this⟩
  ·
   intro f hf
   obtain ⟨i, hi', rfl⟩ := List.mem_map.1 hf
   exact (hg i (by simpa using hi')).2
theorem read_ev {fuel : Nat} {cs : List Value} {x : DataW H × List MemPlace} (h : DataW.trod enc Tryz.prog w base sp hd fuel 63 cs = some x) :
  ∃ (t p : ByteArray) (q : Int) (a : Option Addr) (l : List FB) (c : Nat), cs = [.string t, .string p, .int .u64 q, .slice a l.length c] ∧ t.size ≤ 9223372036854775807 ∧ p.size ≤ 9223372036854775807 ∧ 0 ≤ q ∧ q ≤ 18446744073709551615 ∧ Flds w a l ∧ FIn l ∧ l.length ≤ maxLen := by
 obtain ⟨xs, n, _, _, hlen, hxl, hf⟩ := DataW.trod_struct Tryz.underlying63 h
 rw [kEv] at hlen
 match cs, hlen, xs, hxl with
 | [c0, c1, c2, c3], _, [y0, y1, y2, y3], _ =>
  have h0 : DataW.trod enc Tryz.prog w base sp hd n 9 (([c0, c1, c2, c3].drop 0).take (Tryz.prog.cellsOf 9)) = some y0 := hf 0 _ rfl
  have h1 : DataW.trod enc Tryz.prog w base sp hd n 9 (([c0, c1, c2, c3].drop 1).take (Tryz.prog.cellsOf 9)) = some y1 := hf 1 _ rfl
  have h2 : DataW.trod enc Tryz.prog w base sp hd n 60 (([c0, c1, c2, c3].drop 2).take (Tryz.prog.cellsOf 60)) = some y2 := hf 2 _ rfl
  have h3 : DataW.trod enc Tryz.prog w base sp hd n 61 (([c0, c1, c2, c3].drop 3).take (Tryz.prog.cellsOf 61)) = some y3 := hf 3 _ rfl
  rw [kStr] at h0 h1
  rw [kU64] at h2
  rw [kFlds] at h3
  obtain ⟨t, e0, ht⟩ := read_str h0
  obtain ⟨p, e1, hp⟩ := read_str h1
  obtain ⟨q, e2, _, hw⟩ := DataW.trod_int Tryz.underlying60 h2
  obtain ⟨a, l, c, e3, g1, g2, g3⟩ := read_flds h3
  simp at e0 e1 e2 e3
  obtain ⟨hl, hh⟩ : 0 ≤ q ∧ q ≤ 18446744073709551615 := by simpa [Lit.wf, IntKind.min, IntKind.max, IntKind.signed, IntKind.bits] using hw
  exact ⟨t, p, q, a, l, c, by rw [e0, e1, e2, e3], ht, hp, hl, hh, g1, g2, g3⟩
theorem cells_agg {P : Program} {T : TypeId} {r : Reach} {b0 : Nat} {v : Value} {fs : Array Field} (hs : P.underlying T = some (.struct fs)) (hv : Value.okWide P w r b0 T v) : ∃ cs : Array Value, v = .agg cs ∧ v.cells.toList = cs.toList := by
 obtain ⟨cs, rfl, _⟩ := okWide_struct hs hv
 exact ⟨cs, rfl, rfl⟩
theorem agg_of {cs : Array Value} {l : List Value} (h : cs.toList = l) : (.agg cs : Value) = .agg l.toArray := by rw [← h]
end
end Go.Proofs.YtmlbdblnmbmnpaaGreatDoor
