/- OffsWider: from its contract to the given statement. -/
import Derived.Test.YtmlbdblnmbmnpaaGreatDoorCards
import Derived.Test.YtmlbdblnmbmnpaaGreatDoorTie
import Derived.Test.YtmlbdblnmbmnpaaGreatDoorTabs5
import Derived.Test.YtmlbdblnmbmnpaaGreatDoorWider14
import Derived.Test.YtmlbdblnmbmnpaaGreatDoorOpen14
import Derived.Test.YtmlbdblnmbmnpaaGreatDoorFwP5
import Derived.WalkKit
import Derived.ProofKit
import Derived.OpenShut
import Derived.HandedShaped
import Derived.JoinedCond
import Derived.ChangeMaps5
import Derived.Deep.DeepHandedRow
import Derived.Lib.LaidTab
import Derived.Lib.SmallJoins
set_option linter.unusedVariables false
set_option linter.unusedSimpArgs false
namespace Go.Proofs.YtmlbdblnmbmnpaaGreatDoor.offsWider
set_option maxRecDepth 100000
open Go.ChangeShapes Go.WideShapes Go.ChangeAt Go.RowKit Go.Joins Go.ChangeMaps Tryst
theorem laidOut : laidOutB Tryz.prog = true := by kernel_rfl
theorem open_str {H : Type} {enc : TypeId × Value → H} {w : World} {base : Nat} {sp : Nat → Bool} {hd : Bool} {r : Reach} {b0 : Nat} {v : Value} {d : DataW H} {ps : List MemPlace} (hv : Value.okWide Tryz.prog w r b0 9 v) (h : DataW.Trod enc Tryz.prog w base sp hd 9 v d ps) : ∃ s : ByteArray, v = .string s ∧ s.size ≤ 9223372036854775807 := by
 obtain ⟨s, rfl⟩ := okWide_string Tryz.underlying9 hv
 obtain ⟨fuel, hf⟩ := h
 obtain ⟨s', e, hs⟩ := read_str hf
 have e2 : s = s' := by simpa [Value.cells] using e
 exact ⟨s, rfl, by rw [e2]; exact hs⟩
theorem contract (H : Type) (enc : TypeId × Value → H) (W : World) (base : Nat) (args : Array Value) (ds gs : List (DataW H)) (before : List MemPlace)
  (hval : ∀ (j : Nat) t v, Tryz.f6.params[j]? = some t → args[j]? = some v → Value.okWide Tryz.prog W .any base t v)
  (hW : DataW.Whole enc Tryz.prog Tryz.f6.params.toList Rows.offsWiderSpec.vars false W args.toList ds gs before) (hL : laidMetH Tryz.prog Rows.offsWiderRow.laid W) (hsh : W.ShapedOpen Tryz.prog) :
  Calls Tryz.prog 6 args W fun e W' => ∃ v, e = .returned v ∧ Rows.offsWiderSpec.post enc Tryz.prog Tryz.f6 false true false false W args v W' := by
 have hW' := hW
 obtain ⟨p, q, hA0, hV, rfl, hfz, hnd⟩ := hW
 have hA : DataW.TrodAll enc Tryz.prog W 0 (fun _ => true) true Tryz.f6.params.toList args.toList ds p := hA0
 rw [Tryz.params6] at hA hval
 obtain ⟨v0, vs0, d0, ds0, p0, q0, hargs, rfl, rfl, h0, r0⟩ := trodAll_cons hA
 obtain ⟨v1, vs1, d1, ds1, p1, q1, rfl, rfl, rfl, h1, r1⟩ := trodAll_cons r0
 obtain ⟨v2, vs2, d2, ds2, p2, q2, rfl, rfl, rfl, h2, r2⟩ := trodAll_cons r1
 obtain ⟨rfl, rfl, rfl⟩ := trodAll_nil r2
 obtain rfl : args = #[v0, v1, v2] := by cases args; simp_all
 obtain ⟨y0, z0, t0, p0, q0, a0, l0, c0, s0, rfl, hY0, hZ0, ⟨ht0, hp0, hq0, hr0, hF0, hI0, hm0⟩, hs0⟩ := open_asked (hval 0 65 v0 rfl rfl) h0
 unfold maxLen at hm0
 obtain ⟨s1, rfl, hs1⟩ := open_str (hval 1 9 v1 rfl rfl) h1
 obtain ⟨y2, rfl, hY2⟩ := open_pred (hval 2 69 v2 rfl rfl) h2
 refine (offsWider_c y0 z0 t0 p0 q0 a0 l0 c0 s0 ht0 hp0 hq0 hr0 hI0 hm0 hs0 s1 hs1 y2 W (maxW_of hsh) hY0 hZ0 hF0 hY2).mono fun e W' ⟨he, hb⟩ => ?_
 subst he
 refine ⟨_, rfl, post_law (tb := 4) laidOut Tryz.underlying4 (by kernel_rfl) (by kernel_rfl) rfl hW' (fun dd hd => ?_) hb⟩
 have hd2 : dd.length = 3 := hd.trans (by kernel_rfl)
 match dd, hd2 with
 | [d1, d2, d3], _ => rfl
theorem laid_met (os : Os) : laidMet Tryz.prog Rows.offsWiderRow.laid ((laidWorld os).forCall (fun _ _ => 0) ⟨#[], #[.agg #[.string ⟨#[]⟩, .slice none 0 0, .slice none 0 0, .string ⟨#[]⟩, .string ⟨#[]⟩, .int .i64 0, .int .i64 0, .int .i64 0, .string ⟨#[]⟩, .slice none 0 0, .slice none 0 0, .string ⟨#[]⟩, .string ⟨#[]⟩, .int .i64 0, .int .i64 0, .int .i64 0, .string ⟨#[]⟩, .string ⟨#[]⟩, .int .u64 0, .slice none 0 0, .string ⟨#[]⟩], .string ⟨#[]⟩, .agg #[.string ⟨#[]⟩, .string ⟨#[]⟩, .bool false, .int .i64 0, .string ⟨#[]⟩, .slice none 0 0]], []⟩).memory :=
 laidMet_of_run' 40 (by kernel_rfl) (by kernel_rfl)
theorem reads (os : Os) {H : Type} (enc : TypeId × Value → H) : ∃ places, DataW.whole enc Tryz.prog ((laidWorld os).forCall (fun _ _ => 0) ⟨#[], #[.agg #[.string ⟨#[]⟩, .slice none 0 0, .slice none 0 0, .string ⟨#[]⟩, .string ⟨#[]⟩, .int .i64 0, .int .i64 0, .int .i64 0, .string ⟨#[]⟩, .slice none 0 0, .slice none 0 0, .string ⟨#[]⟩, .string ⟨#[]⟩, .int .i64 0, .int .i64 0, .int .i64 0, .string ⟨#[]⟩, .string ⟨#[]⟩, .int .u64 0, .slice none 0 0, .string ⟨#[]⟩], .string ⟨#[]⟩, .agg #[.string ⟨#[]⟩, .string ⟨#[]⟩, .bool false, .int .i64 0, .string ⟨#[]⟩, .slice none 0 0]], []⟩).memory Tryz.f6.params.toList Rows.offsWiderSpec.vars false #[(.agg #[.string ⟨#[]⟩, .slice none 0 0, .slice none 0 0, .string ⟨#[]⟩, .string ⟨#[]⟩, .int .i64 0, .int .i64 0, .int .i64 0, .string ⟨#[]⟩, .slice none 0 0, .slice none 0 0, .string ⟨#[]⟩, .string ⟨#[]⟩, .int .i64 0, .int .i64 0, .int .i64 0, .string ⟨#[]⟩, .string ⟨#[]⟩, .int .u64 0, .slice none 0 0, .string ⟨#[]⟩] : Value), (.string ⟨#[]⟩ : Value), (.agg #[.string ⟨#[]⟩, .string ⟨#[]⟩, .bool false, .int .i64 0, .string ⟨#[]⟩, .slice none 0 0] : Value)].toList 8 = some ([.agg [.agg [.lit (.string []), .nil, .nil, .lit (.string []), .agg [.lit (.string []), .lit (.int .i64 0), .lit (.int .i64 0), .lit (.int .i64 0)]], .agg [.lit (.string []), .nil, .nil, .lit (.string []), .agg [.lit (.string []), .lit (.int .i64 0), .lit (.int .i64 0), .lit (.int .i64 0)]], .agg [.lit (.string []), .lit (.string []), .lit (.int .u64 0), .nil], .lit (.string [])], .lit (.string []), .agg [.lit (.string []), .lit (.string []), .agg [.lit (.bool false), .lit (.int .i64 0), .lit (.string [])], .nil]], [], places) :=
 ⟨[], by kernel_rfl⟩
set_option maxRecDepth 100000 in
theorem lifted (os : Os) (started : os.Started) (H : Type) (enc : TypeId × Value → H) (F : Stop.Interp) :
  ReturnsInHanded {} Tryz.checked os 6 .any ((OpenSpec.ofChange Rows.offsWiderSpec).preRow enc Tryz.prog Tryz.f6 Rows.offsWiderRow.domain false Rows.offsWiderRow.laid) (((OpenSpec.ofChange Rows.offsWiderSpec).at F).post enc Tryz.prog Tryz.f6 false true false false) := by
 obtain ⟨places, hx⟩ := reads os enc
 refine returnsInHanded_of_row (C := Tryz.checked) (s := OpenSpec.ofChange Rows.offsWiderSpec) own started (by kernel_rfl) Tryz.func6
  (witness_row_at (enc := enc) (C := Tryz.checked) false (laidWorld os) #[.agg #[.string ⟨#[]⟩, .slice none 0 0, .slice none 0 0, .string ⟨#[]⟩, .string ⟨#[]⟩, .int .i64 0, .int .i64 0, .int .i64 0, .string ⟨#[]⟩, .slice none 0 0, .slice none 0 0, .string ⟨#[]⟩, .string ⟨#[]⟩, .int .i64 0, .int .i64 0, .int .i64 0, .string ⟨#[]⟩, .string ⟨#[]⟩, .int .u64 0, .slice none 0 0, .string ⟨#[]⟩], .string ⟨#[]⟩, .agg #[.string ⟨#[]⟩, .string ⟨#[]⟩, .bool false, .int .i64 0, .string ⟨#[]⟩, .slice none 0 0]] rfl (by kernel_rfl) (by kernel_rfl) (by kernel_rfl)
   (OpenSpec.preRow_of_cond 8 hx (by kernel_rfl) (fun k hk => by cases hk) (by kernel_rfl) (laid_met os))) ?_
 intro W base args ds gs before hval hW _ _ _ hL hsh _
 exact contract H enc W base args ds gs before hval hW hL hsh
theorem said : Rows.OffsWiderSaid :=
 OpenClaim.holds_of_cond 6 Tryz.f6 rfl rfl rfl rfl rfl rfl rfl ⟨rfl, rfl, rfl, rfl, rfl⟩ rfl rfl rfl rfl rfl (by kernel_rfl) Tryz.func6 (by kernel_rfl)
  (of_decide_eq_true (by kernel_rfl)) (by unfold Func.isWrapper; first | (rw [if_pos (by decide +kernel)]; kernel_rfl) | (rw [if_neg (by decide +kernel)]; exact ⟨rfl, rfl⟩))
  (fun os started H enc _ F => by rw [OpenClaim.pre_eq_preRow]; exact lifted os started H enc F)
theorem plain (f : FuncId) (fn : Func) (hf : Tryz.pinned.checked.prog.funcNamed "tryst/trystlaw14.OffsWider" = some f) (hfn : Tryz.pinned.checked.prog.funcs[f]? = some fn) :
  false = Tryz.pinned.checked.prog.looks [] ∧ ∀ (j : Nat) t, fn.params[j]? = some t → Tryz.pinned.checked.prog.wantsStandIn t = false := by
 obtain rfl : f = 6 := Option.some.inj ((show Tryz.prog.funcNamed "tryst/trystlaw14.OffsWider" = some 6 by kernel_rfl).symm.trans hf) |>.symm
 obtain rfl : fn = Tryz.f6 := (Option.some.inj (Tryz.func6.symm.trans hfn)).symm
 refine ⟨by kernel_rfl, fun j t ht => ?_⟩
 rw [Tryz.params6] at ht
 have hm := Array.mem_of_getElem? ht
 simp only [List.mem_toArray, List.mem_cons, List.not_mem_nil, or_false] at hm
 rcases hm with rfl | rfl | rfl
 ·
  exact (show Tryz.prog.wantsStandIn 65 = false by kernel_rfl)
 ·
  exact (show Tryz.prog.wantsStandIn 9 = false by kernel_rfl)
 ·
  exact (show Tryz.prog.wantsStandIn 69 = false by kernel_rfl)
theorem card : Rows.OffsWiderCardSaid :=
 Claim7.holds_tied_plain_at .later [] _ _ _ _ said (fun _ h => by cases h) (by kernel_rfl) (fun _ h => by cases h) offsWider_row_tie rfl ⟨rfl, rfl⟩ (by kernel_rfl) rfl plain (by kernel_rfl)
end Go.Proofs.YtmlbdblnmbmnpaaGreatDoor.offsWider
