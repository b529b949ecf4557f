/- ValLays: from its contract to its card. -/
import Derived.Test.YtmagghfegikidaaDoorCards
import Derived.Test.YtmagghfegikidaaDoorTie
import Derived.Test.YtmagghfegikidaaDoorTabs
import Derived.Test.YtmagghfegikidaaDoorLays
import Derived.WalkKit
import Derived.ProofKit
import Derived.OpenShut
import Derived.ChangeMaps5
import Derived.Deep.DeepHandedRow
import Derived.Lib.LaidTab
import Derived.Lib.SmallJoins
set_option linter.unusedVariables false
set_option linter.unusedSimpArgs false
namespace Go.Proofs.YtmagghfegikidaaDoor.valLays
open Go.ChangeShapes Go.WideShapes Go.ChangeAt Go.RowKit Go.Joins Go.ChangeMaps
theorem contract (H : Type) (enc : TypeId × Value → H) (W : World) (base : Nat) (args : Array Value) (ds gs : List (DataW H)) (before : List MemPlace)
    (hval : ∀ (j : Nat) t v, Tryd.f9.params[j]? = some t → args[j]? = some v → Value.okWide Tryd.prog W .any base t v)
    (hW : DataW.Whole enc Tryd.prog Tryd.f9.params.toList Rows.valLaysSpec.vars false W args.toList ds gs before) (hL : laidMetH Tryd.prog Rows.valLaysRow.laid W) :
    Calls Tryd.prog 9 args W fun e W' => ∃ v, e = .returned v ∧ Rows.valLaysSpec.post enc Tryd.prog Tryd.f9 false true false false W args v W' := by
  have hW' := hW
  obtain ⟨p, q, hA0, hV, rfl, hfz, hnd⟩ := hW
  have hA : DataW.TrodAll enc Tryd.prog W 0 (fun _ => true) true Tryd.f9.params.toList args.toList ds p := hA0
  rw [Tryd.params9] at hA hval
  obtain ⟨v0, vs0, d0, ds0, p0, q0, hargs, rfl, rfl, h0, r0⟩ := trodAll_cons hA
  obtain ⟨v1, vs1, d1, ds1, p1, q1, rfl, rfl, rfl, h1, r1⟩ := trodAll_cons r0
  obtain ⟨rfl, rfl, rfl⟩ := trodAll_nil r1
  obtain rfl : args = #[v0, v1] := by cases args; simp_all
  obtain ⟨rfl, rfl⟩ := trodVars_none hV
  obtain ⟨a0, b0, c0, y0, z0, u0, m0, rfl, rfl, rfl, hy0, hz0, hu0⟩ := open_agg3 Tryd.underlying23 (by kernel_rfl) (by kernel_rfl) (hval 0 23 v0 rfl rfl) h0
  obtain ⟨x0, e0, hx0⟩ := DataW.trod_bool Tryd.underlying4 hy0
  obtain ⟨n0, f0, hn0, hw0⟩ := DataW.trod_int Tryd.underlying2 hz0
  obtain ⟨s0, g0, hq0, hs0⟩ := DataW.trod_string Tryd.underlying9 hu0
  simp only [List.cons.injEq, and_true] at e0 f0 g0
  subst e0 f0 g0 hx0 hn0 hq0
  have hs01 : s0.size ≤ 9223372036854775807 := hs0
  obtain ⟨hl0, hh0⟩ : -9223372036854775808 ≤ n0 ∧ n0 ≤ 9223372036854775807 := by simpa [Lit.wf, IntKind.min, IntKind.max, IntKind.signed, IntKind.bits] using hw0
  obtain ⟨a1, b1, c1, y1, z1, u1, m1, rfl, rfl, rfl, hy1, hz1, hu1⟩ := open_agg3 Tryd.underlying23 (by kernel_rfl) (by kernel_rfl) (hval 1 23 v1 rfl rfl) h1
  obtain ⟨x1, e1, hx1⟩ := DataW.trod_bool Tryd.underlying4 hy1
  obtain ⟨n1, f1, hn1, hw1⟩ := DataW.trod_int Tryd.underlying2 hz1
  obtain ⟨s1, g1, hq1, hs1⟩ := DataW.trod_string Tryd.underlying9 hu1
  simp only [List.cons.injEq, and_true] at e1 f1 g1
  subst e1 f1 g1 hx1 hn1 hq1
  have hs11 : s1.size ≤ 9223372036854775807 := hs1
  obtain ⟨hl1, hh1⟩ : -9223372036854775808 ≤ n1 ∧ n1 ≤ 9223372036854775807 := by simpa [Lit.wf, IntKind.min, IntKind.max, IntKind.signed, IntKind.bits] using hw1
  clear hA0
  simp only [List.append_nil, List.nil_append] at hW'
  refine (valLays_c x0 n0 s0 hs01 hl0 hh0 x1 n1 s1 hs11 hl1 hh1 W (pow_of_laid hL)).mono fun e W' ⟨he, hb⟩ => ?_
  subst he
  exact ⟨_, rfl, _, _, _, [], _, [], hW', trodAll_cons_mk (shut_bool Tryd.underlying4 _) trodAll_mk0, (trodAll_cons_mk (shut_agg3 (y0 := (.lit (.bool x0), [])) (y1 := (.lit (.int .i64 n0), [])) (y2 := (.lit (.string s0.data.toList), [])) Tryd.underlying23 (by kernel_rfl) (by kernel_rfl) ⟨1, by simp [DataW.trod, Tryd.underlying4]⟩ ⟨1, trod_int_mk 0 Tryd.underlying2 hw0⟩ ⟨1, by simp [DataW.trod, Tryd.underlying9, hs0]⟩) (trodAll_cons_mk (shut_agg3 (y0 := (.lit (.bool x1), [])) (y1 := (.lit (.int .i64 n1), [])) (y2 := (.lit (.string s1.data.toList), [])) Tryd.underlying23 (by kernel_rfl) (by kernel_rfl) ⟨1, by simp [DataW.trod, Tryd.underlying4]⟩ ⟨1, trod_int_mk 0 Tryd.underlying2 hw1⟩ ⟨1, by simp [DataW.trod, Tryd.underlying9, hs1]⟩) trodAll_mk0)), rfl, hb.frame _, fun h => by cases h⟩
theorem laid_met (os : Os) : laidMet Tryd.prog Rows.valLaysRow.laid ((laidWorld os).forCall (fun _ _ => 0) ⟨#[], #[.agg #[.bool false, .int .i64 0, .string ⟨#[]⟩], .agg #[.bool false, .int .i64 0, .string ⟨#[]⟩]], []⟩).memory :=
  laidMet_of_run' 40 (by kernel_rfl) (by kernel_rfl)
theorem reads (os : Os) {H : Type} (enc : TypeId × Value → H) : ∃ places, DataW.whole enc Tryd.prog ((laidWorld os).forCall (fun _ _ => 0) ⟨#[], #[.agg #[.bool false, .int .i64 0, .string ⟨#[]⟩], .agg #[.bool false, .int .i64 0, .string ⟨#[]⟩]], []⟩).memory Tryd.f9.params.toList Rows.valLaysSpec.vars false #[(.agg #[.bool false, .int .i64 0, .string ⟨#[]⟩] : Value), (.agg #[.bool false, .int .i64 0, .string ⟨#[]⟩] : Value)].toList 8 = some ([.agg [.lit (.bool false), .lit (.int .i64 0), .lit (.string [])], .agg [.lit (.bool false), .lit (.int .i64 0), .lit (.string [])]], [], places) :=
  ⟨[], by kernel_rfl⟩
set_option maxRecDepth 100000 in
theorem lifted (os : Os) (started : os.Started) (H : Type) (enc : TypeId × Value → H) (F : Stop.Interp) :
    ReturnsInHanded {} Tryd.checked os 9 .any ((OpenSpec.ofChange Rows.valLaysSpec).preRow enc Tryd.prog Tryd.f9 Rows.valLaysRow.domain false Rows.valLaysRow.laid) (((OpenSpec.ofChange Rows.valLaysSpec).at F).post enc Tryd.prog Tryd.f9 false true false false) := by
  obtain ⟨places, hx⟩ := reads os enc
  refine returnsInHanded_of_row (C := Tryd.checked) (s := OpenSpec.ofChange Rows.valLaysSpec) own started (by kernel_rfl) Tryd.func9
    (witness_row_at (enc := enc) (C := Tryd.checked) false (laidWorld os) #[.agg #[.bool false, .int .i64 0, .string ⟨#[]⟩], .agg #[.bool false, .int .i64 0, .string ⟨#[]⟩]] rfl (by kernel_rfl) (by kernel_rfl) (by kernel_rfl)
      (OpenSpec.preRow_of_cond 8 hx (by kernel_rfl) (fun k hk => by cases hk) (by kernel_rfl) (laid_met os))) ?_
  intro W base args ds gs before hval hW _ _ _ hL _ _
  exact contract H enc W base args ds gs before hval hW hL
theorem said : Rows.ValLaysSaid :=
  OpenClaim.holds_of_cond 9 Tryd.f9 rfl rfl rfl rfl rfl rfl rfl ⟨rfl, rfl, rfl, rfl, rfl⟩ rfl rfl rfl rfl rfl (by kernel_rfl) Tryd.func9 (by kernel_rfl)
    (of_decide_eq_true (by kernel_rfl)) (by unfold Func.isWrapper; first | (rw [if_pos (by decide +kernel)]; kernel_rfl) | (rw [if_neg (by decide +kernel)]; exact ⟨rfl, rfl⟩))
    (fun os started H enc _ F => by rw [OpenClaim.pre_eq_preRow]; exact lifted os started H enc F)
theorem plain (f : FuncId) (fn : Func) (hf : Tryd.pinned.checked.prog.funcNamed "tryst/trystlaw03.ValLays" = some f) (hfn : Tryd.pinned.checked.prog.funcs[f]? = some fn) :
    false = Tryd.pinned.checked.prog.looks [] ∧ ∀ (j : Nat) t, fn.params[j]? = some t → Tryd.pinned.checked.prog.wantsStandIn t = false := by
  obtain rfl : f = 9 := Option.some.inj ((show Tryd.prog.funcNamed "tryst/trystlaw03.ValLays" = some 9 by kernel_rfl).symm.trans hf) |>.symm
  obtain rfl : fn = Tryd.f9 := (Option.some.inj (Tryd.func9.symm.trans hfn)).symm
  refine ⟨by kernel_rfl, fun j t ht => ?_⟩
  rw [Tryd.params9] at ht
  obtain rfl : t = 23 := by simpa using Array.mem_of_getElem? ht
  exact (show Tryd.prog.wantsStandIn 23 = false by kernel_rfl)
theorem card : Rows.ValLaysCardSaid :=
  Claim7.holds_tied_plain_at .later [] _ _ _ _ said (fun _ h => by cases h) (by kernel_rfl) (fun _ h => by cases h) valLays_row_tie rfl ⟨rfl, rfl⟩ (by kernel_rfl) rfl plain (by kernel_rfl)
end Go.Proofs.YtmagghfegikidaaDoor.valLays
