/- ShelfReads: from its contract to the given statement. -/
import Derived.Test.YtcbicdencgjfiaaGreatDoorCards
import Derived.Test.YtcbicdencgjfiaaGreatDoorTie
import Derived.OpenShut
import Derived.HandedShaped
import Derived.JoinedCond
import Derived.ChangeMaps5
import Derived.Test.YtcbicdencgjfiaaGreatDoorReads20
import Derived.Test.YtcbicdencgjfiaaGreatDoorTabs
set_option linter.unusedVariables false
set_option linter.unusedSimpArgs false
namespace Go.Proofs.YtcbicdencgjfiaaGreatDoor.shelfReads
set_option maxRecDepth 100000
open Go.ChangeShapes Go.WideShapes Go.ChangeAt Go.RowKit Go.Joins Go.ChangeMaps Tryst
theorem laidOut:laidOutB Tryz.prog=true:=by kernel_rfl
theorem open_str {H:Type} {enc:TypeId × Value→H} {w:World} {base:Nat} {sp:Nat→Bool} {hd:Bool} {r:Reach} {b0:Nat} {v:Value} {d:DataW H} {ps:List MemPlace} (hv:Value.okWide Tryz.prog w r b0 9 v) (h:DataW.Trod enc Tryz.prog w base sp hd 9 v d ps):∃ s:ByteArray,v=.string s∧s.size≤9223372036854775807:=by
 obtain ⟨s,rfl⟩:=okWide_string Tryz.underlying9 hv
 obtain ⟨fuel,hf⟩:=h
 obtain ⟨s',e,hs⟩:=read_str hf
 have e2:s=s':=by simpa [Value.cells] using e
 exact ⟨s,rfl,by rw [e2];exact hs⟩
theorem contract (H:Type) (enc:TypeId × Value→H) (W:World) (base:Nat) (args:Array Value) (ds gs:List (DataW H)) (before:List MemPlace)
  (hval:∀ (j:Nat) t v,Tryz.f6.params[j]?=some t→args[j]?=some v→Value.okWide Tryz.prog W .any base t v)
  (hW:DataW.Whole enc Tryz.prog Tryz.f6.params.toList Rows.shelfReadsSpec.vars false W args.toList ds gs before) (hL:laidMetH Tryz.prog Rows.shelfReadsRow.laid W) (hsh:W.ShapedOpen Tryz.prog) :
  Calls Tryz.prog 6 args W fun e W'=>∃ v,e=.returned v∧Rows.shelfReadsSpec.post enc Tryz.prog Tryz.f6 false true false false W args v W':=by
 have hW':=hW
 obtain ⟨p,q,hA0,hV,rfl,hfz,hnd⟩:=hW
 have hA:DataW.TrodAll enc Tryz.prog W 0 (fun _=>true) true Tryz.f6.params.toList args.toList ds p:=hA0
 rw [Tryz.params6] at hA hval
 obtain ⟨v0,vs0,d0,ds0,p0,q0,hargs,rfl,rfl,h0,r0⟩:=trodAll_cons hA
 obtain ⟨rfl,rfl,rfl⟩:=trodAll_nil r0
 obtain rfl:args=#[v0]:=by cases args;simp_all
 obtain ⟨s0,rfl,hs0⟩:=open_str (hval 0 9 v0 rfl rfl) h0
 refine (shelfReads_c s0 hs0 W (maxW_of hsh) (pow_of_laid hL) ).mono fun e W' ⟨he,hb⟩=>?_
 subst he
 refine ⟨_,rfl,post_law (tb:=4) laidOut Tryz.underlying4 (by kernel_rfl) (by kernel_rfl) rfl hW' (fun dd hd=>?_) hb⟩
 have hd2:dd.length=1:=hd.trans (by kernel_rfl)
 match dd,hd2 with
 | [d],_=>rfl
theorem laid_met (os:Os):laidMet Tryz.prog Rows.shelfReadsRow.laid ((laidWorld os).forCall (fun _ _=>0) ⟨#[],#[.string ⟨#[]⟩],[]⟩).memory:=
 laidMet_of_run' 40 (by kernel_rfl) (by kernel_rfl)
theorem reads (os:Os) {H:Type} (enc:TypeId × Value→H):∃ places,DataW.whole enc Tryz.prog ((laidWorld os).forCall (fun _ _=>0) ⟨#[],#[.string ⟨#[]⟩],[]⟩).memory Tryz.f6.params.toList Rows.shelfReadsSpec.vars false #[(.string ⟨#[]⟩:Value)].toList 8=some ([.lit (.string [])],[],places):=
 ⟨[],by kernel_rfl⟩
set_option maxRecDepth 100000 in
theorem lifted (os:Os) (started:os.Started) (H:Type) (enc:TypeId × Value→H) (F:Stop.Interp) :
  ReturnsInHanded {} Tryz.checked os 6 .any ((OpenSpec.ofChange Rows.shelfReadsSpec).preRow enc Tryz.prog Tryz.f6 Rows.shelfReadsRow.domain false Rows.shelfReadsRow.laid) (((OpenSpec.ofChange Rows.shelfReadsSpec).at F).post enc Tryz.prog Tryz.f6 false true false false):=by
 obtain ⟨places,hx⟩:=reads os enc
 refine returnsInHanded_of_row (C:=Tryz.checked) (s:=OpenSpec.ofChange Rows.shelfReadsSpec) own started (by kernel_rfl) Tryz.func6
  (witness_row_at (enc:=enc) (C:=Tryz.checked) false (laidWorld os) #[.string ⟨#[]⟩] rfl (by kernel_rfl) (by kernel_rfl) (by kernel_rfl)
   (OpenSpec.preRow_of_cond 8 hx (by kernel_rfl) (fun k hk=>by cases hk) (by kernel_rfl) (laid_met os))) ?_
 intro W base args ds gs before hval hW _ _ _ hL hsh _
 exact contract H enc W base args ds gs before hval hW hL hsh
theorem said:Rows.ShelfReadsSaid:=
 OpenClaim.holds_of_cond 6 Tryz.f6 rfl rfl rfl rfl rfl rfl rfl ⟨rfl,rfl,rfl,rfl,rfl⟩ rfl rfl rfl rfl rfl (by kernel_rfl) Tryz.func6 (by kernel_rfl)
  (of_decide_eq_true (by kernel_rfl)) (by unfold Func.isWrapper;first | (rw [if_pos (by decide +kernel)];kernel_rfl) | (rw [if_neg (by decide +kernel)];exact ⟨rfl,rfl⟩))
  (fun os started H enc _ F=>by rw [OpenClaim.pre_eq_preRow];exact lifted os started H enc F)
theorem plain (f : FuncId) (fn : Func) (hf : Tryz.pinned.checked.prog.funcNamed "tryst/trystlaw20.ShelfReads" = some f) (hfn : Tryz.pinned.checked.prog.funcs[f]? = some fn) :
  false=Tryz.pinned.checked.prog.looks []∧∀ (j:Nat) t,fn.params[j]?=some t→Tryz.pinned.checked.prog.wantsStandIn t=false:=by
 obtain rfl : f = 6 := Option.some.inj ((show Tryz.prog.funcNamed "tryst/trystlaw20.ShelfReads" = some 6 by kernel_rfl).symm.trans hf) |>.symm
 obtain rfl:fn=Tryz.f6:=(Option.some.inj (Tryz.func6.symm.trans hfn)).symm
 refine ⟨by kernel_rfl,fun j t ht=>?_⟩
 rw [Tryz.params6] at ht
 obtain rfl:t=9:=by simpa using Array.mem_of_getElem? ht
 exact (show Tryz.prog.wantsStandIn 9=false by kernel_rfl)
theorem card:Rows.ShelfReadsCardSaid:=
 Claim7.holds_tied_plain_at .later [] _ _ _ _ said (fun _ h=>by cases h) (by kernel_rfl) (fun _ h=>by cases h) shelfReads_row_tie rfl ⟨rfl,rfl⟩ (by kernel_rfl) rfl plain (by kernel_rfl)
end Go.Proofs.YtcbicdencgjfiaaGreatDoor.shelfReads
