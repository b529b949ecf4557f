import Derived.Test.YtcbicdencgjfiaaGreatDoorRows
import Derived.WalkKit
import Derived.ProofKit
import Derived.Deep.DeepHandedRow
import Derived.Lib.LaidTab
import Derived.Lib.ItoaNum
import Derived.Test.YtcbicdencgjfiaaGreatDoorCards
import Derived.Test.YtcbicdencgjfiaaGreatDoorTie
import Derived.OpenShut
import Derived.HandedShaped
import Derived.JoinedCond
import Derived.ChangeMaps5
import Derived.Test.YtcbicdencgjfiaaGreatDoorTakes20
set_option linter.all false
set_option maxRecDepth 100000
namespace Go.Proofs.YtcbicdencgjfiaaGreatDoor
open Go.ChangeShapes Go.WideShapes Go.ChangeAt Go.RowKit
theorem own:ownKnob Tryz.prog.godebug=none:=by kernel_rfl
theorem jJ2 {P:Program} {x:String × DataW Unit} {rest:List (String × DataW Unit)} {W:World} (h:laidMet P (x :: rest) W):laidMet P rest W:=by
 obtain ⟨ps,⟨g,t,cs,fuel,p,q,_,_,_,_,hq,rfl⟩,hn,hc⟩:=h;exact ⟨q,hq,(List.nodup_append.1 hn).2.1,fun b off hb=>hc b off (by simp [hb])⟩
def jJb : List (String × DataW Unit) := [("math/bits.deBruijn32tab", Rows.laid_math_bits_deBruijn32tab), ("math/bits.deBruijn64tab", Rows.laid_math_bits_deBruijn64tab), ("internal/strconv.uint64pow10", Rows.laid_internal_strconv_uint64pow10)]
theorem gPow : Tryz.prog.globalNamed "internal/strconv.uint64pow10" = some 1 := by kernel_rfl
theorem zJm:(Tryz.prog.globals[1]?).map (·.type)=some 336:=by kernel_rfl
theorem zJD:Tryz.prog.cellsOf 336=20:=by kernel_rfl
theorem vJJ:Tryz.prog.cellsOf 46=1:=by kernel_rfl
theorem xJs:Rows.laid_internal_strconv_uint64pow10 (H:=Unit)=Lib.tabData .u64 Lib.pow10Tab:=by kernel_rfl
theorem xQr {W : World} (h : laidMetH Tryz.prog jJb W) : Lib.TabIs Tryz.prog W "internal/strconv.uint64pow10" .u64 Lib.pow10Tab /\ 1 < W.heap.size := by
 have h1:laidMet Tryz.prog jJb W:=h;have h2:=jJ2 (jJ2 h1);rw [xJs] at h2;have ht:=Lib.tabIs_of_head gPow zJm Tryz.underlying336 Tryz.underlying46 vJJ zJD h2;refine ⟨ht,?_⟩;have hc:=ht.cell gPow 0 (by decide)
 rcases Nat.lt_or_ge 1 W.heap.size with h | h
 · exact h
 · simp [World.cell?,Array.getElem?_eq_none h] at hc
def xJf:DataW Unit->Value
 | .lit (.int k z)=>.int k z
 | _=>undef
def jJ9:DataW Unit->Array Value
 | .agg l=>(l.map xJf).toArray
 | _=>#[]
def qJR (cs:Array Value):Obj->Obj
 | .cells _ t frozen=>.cells cs t frozen
 | o=>o
noncomputable def laidWorld (os:Os):World:=
 { World.holding Tryz.prog os ⟨#[],#[],[]⟩ with heap:=(((World.holding Tryz.prog os ⟨#[],#[],[]⟩).heap.modify 1 (qJR (Lib.pow10Tab.map (Value.int .u64)).toArray)).modify 2 (qJR (jJ9 Rows.laid_math_bits_deBruijn32tab))).modify 3 (qJR (jJ9 Rows.laid_math_bits_deBruijn64tab)) }
end Go.Proofs.YtcbicdencgjfiaaGreatDoor
namespace Go.Proofs.YtcbicdencgjfiaaGreatDoor.shelfTakes
open Go.ChangeShapes Go.WideShapes Go.ChangeAt Go.RowKit Go.Joins Go.ChangeMaps Tryst
theorem xJA:laidOutB Tryz.prog=true:=by kernel_rfl
theorem vY1 {H:Type} {enc:TypeId × Value->H} {w:World} {base:Nat} {sp:Nat->Bool} {hd:Bool} {r:Reach} {b0:Nat} {v:Value} {d:DataW H} {ps:List MemPlace} (hv:Value.okWide Tryz.prog w r b0 9 v) (h:DataW.Trod enc Tryz.prog w base sp hd 9 v d ps):∃ s:ByteArray,v=.string s/\s.size<=9223372036854775807:=by
 obtain ⟨s,rfl⟩:=okWide_string Tryz.underlying9 hv;obtain ⟨fuel,hf⟩:=h;obtain ⟨s',e,hs⟩:=Xf hf;have e2:s=s':=by simpa [Value.cells] using e
 exact ⟨s,rfl,by rw [e2];exact hs⟩
theorem contract (H:Type) (enc:TypeId × Value->H) (W:World) (base:Nat) (args:Array Value) (ds gs:List (DataW H)) (before:List MemPlace)
  (hval:∀ (j:Nat) t v,Tryz.f4.params[j]?=some t->args[j]?=some v->Value.okWide Tryz.prog W .any base t v)
  (hW:DataW.Whole enc Tryz.prog Tryz.f4.params.toList Rows.shelfTakesSpec.vars false W args.toList ds gs before) (hL:laidMetH Tryz.prog Rows.shelfTakesRow.laid W) (hsh:W.ShapedOpen Tryz.prog) :
  Calls Tryz.prog 4 args W fun e W'=>∃ v,e=.returned v/\Rows.shelfTakesSpec.post enc Tryz.prog Tryz.f4 false true false false W args v W':=by
 have hW':=hW;obtain ⟨p,q,hA0,hV,rfl,hfz,hnd⟩:=hW;have hA:DataW.TrodAll enc Tryz.prog W 0 (fun _=>true) true Tryz.f4.params.toList args.toList ds p:=hA0;rw [Tryz.params4] at hA hval;obtain ⟨v0,vs0,d0,ds0,p0,q0,hargs,rfl,rfl,h0,r0⟩:=trodAll_cons hA;obtain ⟨rfl,rfl,rfl⟩:=trodAll_nil r0;obtain rfl:args=#[v0]:=by cases args;simp_all
 obtain ⟨s0,rfl,hs0⟩:=vY1 (hval 0 9 v0 rfl rfl) h0;refine (kYd s0 hs0 W (xJa hsh) (xQr hL) ).mono fun e W' ⟨he,hb⟩=>?_
 subst he;refine ⟨_,rfl,vJO (tb:=4) xJA Tryz.underlying4 (by kernel_rfl) (by kernel_rfl) rfl hW' (fun dd hd=>?_) hb⟩;have hd2:dd.length=1:=hd.trans (by kernel_rfl)
 match dd,hd2 with
 | [d],_=>rfl
theorem vJ8 (os:Os):laidMet Tryz.prog Rows.shelfTakesRow.laid ((laidWorld os).forCall (fun _ _=>0) ⟨#[],#[.string ⟨#[]⟩],[]⟩).memory:=
 laidMet_of_run' 40 (by kernel_rfl) (by kernel_rfl)
theorem reads (os:Os) {H:Type} (enc:TypeId × Value->H):∃ places,DataW.whole enc Tryz.prog ((laidWorld os).forCall (fun _ _=>0) ⟨#[],#[.string ⟨#[]⟩],[]⟩).memory Tryz.f4.params.toList Rows.shelfTakesSpec.vars false #[(.string ⟨#[]⟩:Value)].toList 8=some ([.lit (.string [])],[],places):=
 ⟨[],by kernel_rfl⟩
set_option maxRecDepth 100000 in
theorem lifted (os:Os) (started:os.Started) (H:Type) (enc:TypeId × Value->H) (F:Stop.Interp) :
  ReturnsInHanded {} Tryz.checked os 4 .any ((OpenSpec.ofChange Rows.shelfTakesSpec).preRow enc Tryz.prog Tryz.f4 Rows.shelfTakesRow.domain false Rows.shelfTakesRow.laid) (((OpenSpec.ofChange Rows.shelfTakesSpec).at F).post enc Tryz.prog Tryz.f4 false true false false):=by
 obtain ⟨places,hx⟩:=reads os enc
 refine returnsInHanded_of_row (C:=Tryz.checked) (s:=OpenSpec.ofChange Rows.shelfTakesSpec) own started (by kernel_rfl) Tryz.func4
  (witness_row_at (enc:=enc) (C:=Tryz.checked) false (laidWorld os) #[.string ⟨#[]⟩] rfl (by kernel_rfl) (by kernel_rfl) (by kernel_rfl)
   (OpenSpec.preRow_of_cond 8 hx (by kernel_rfl) (fun k hk=>by cases hk) (by kernel_rfl) (vJ8 os))) ?_
 intro W base args ds gs before hval hW _ _ _ hL hsh _;exact contract H enc W base args ds gs before hval hW hL hsh
theorem j0:(Rows.shelfTakesRow.wf (OpenSpec.ofChange Rows.shelfTakesSpec))=true:=by kernel_rfl
theorem j1:(laidOutB Tryz.prog)=true:=by kernel_rfl
theorem j2:(mapsRowed Tryz.prog)=true:=by kernel_rfl
theorem j3:(Tryz.f4.params.all (Tryz.prog.readableRec ·))=true:=by kernel_rfl
theorem j4:(namedTie Tryz.prog Rows.shelfTakesRow.named Rows.shelfTakesSpec.vars)=true:=by kernel_rfl
theorem j5:((Rows.shelfTakesRow.stops==[]))=true:=by kernel_rfl
theorem j6:((Tryz.prog.stops==[]))=true:=by kernel_rfl
theorem j7:((Rows.shelfTakesRow.knobs==[]))=true:=by kernel_rfl
theorem j8:((Tryz.prog.stopKnobs==[]))=true:=by kernel_rfl
theorem j9:((Rows.shelfTakesRow.inPlace==Tryz.prog.inPlace 4))=true:=by kernel_rfl
theorem j10:((Rows.shelfTakesRow.unfollowed==Tryz.prog.unfollowed 4))=true:=by kernel_rfl
theorem j11:((Rows.shelfTakesRow.recurses==Tryz.prog.recurses 4))=true:=by kernel_rfl
theorem j12:((Rows.shelfTakesRow.named==Tryz.prog.varsNamed 4))=true:=by kernel_rfl
theorem j13:((Rows.shelfTakesRow.maps==(Tryz.f4.params.toList++Rows.shelfTakesSpec.plain.varTypes Tryz.prog).any (Tryz.prog.mapsRec ·)))=true:=by kernel_rfl
theorem j14:((Rows.shelfTakesRow.ifaces==(Tryz.f4.params.toList++Rows.shelfTakesSpec.plain.varTypes Tryz.prog).any (Tryz.prog.ifacesRec ·)))=true:=by kernel_rfl
theorem j15:((Rows.shelfTakesRow.mapsOut==Tryz.prog.mapsAmong Tryz.f4.resultTypes.toList))=true:=by kernel_rfl
theorem j16:((Rows.shelfTakesRow.loops==(Tryz.f4.params.toList++Rows.shelfTakesSpec.plain.varTypes Tryz.prog).any (Tryz.prog.loopsFrom ·)))=true:=by kernel_rfl
theorem j17:((Rows.shelfTakesRow.wideKeys==(Tryz.f4.params.toList++Rows.shelfTakesSpec.plain.varTypes Tryz.prog++Tryz.f4.resultTypes.toList).any (Tryz.prog.wideKeysFrom ·)))=true:=by kernel_rfl
theorem j18:(Rows.shelfTakesSpec.vars.all (Tryz.prog.varReadable ·))=true:=by kernel_rfl
theorem j19:(Tryz.f4.resultTypes.all (fun t=>Tryz.prog.readableRec t&&decide (t < Tryz.prog.types.size)))=true:=by kernel_rfl
theorem j20:((Rows.shelfTakesRow.ifacesOut==Tryz.f4.resultTypes.toList.any (Tryz.prog.ifacesRec ·)))=true:=by kernel_rfl
theorem j21:((Rows.shelfTakesRow.loopsOut==Tryz.f4.resultTypes.toList.any (Tryz.prog.loopsFrom ·)))=true:=by kernel_rfl
theorem j22:((Rows.shelfTakesRow.plainKeys==Tryz.prog.plainKeys))=true:=by kernel_rfl
theorem j23:(Rows.shelfTakesRow.shortTexts.isNone)=true:=by kernel_rfl
theorem j24:(Tryz.prog.stopsHeard)=true:=by kernel_rfl
theorem j25:(Tryz.prog.mayEnter)=true:=by kernel_rfl
theorem j26:((Rows.shelfTakesRow.lifted==Tryz.prog.liftsFinal))=true:=by kernel_rfl
theorem j27:((Tryz.prog.make==some Rows.shelfTakesRow.make))=true:=by kernel_rfl
theorem j28:((Rows.shelfTakesRow.kinds==(if Rows.shelfTakesRow.domain.isEmpty then [] else Tryz.f4.params.toList.map fun t=>match Tryz.prog.underlying t with | some (.int k)=>some k | _=>none)))=true:=by kernel_rfl
theorem j29:((Rows.shelfTakesRow.pinned==Rows.shelfTakesRow.pinnedBy))=true:=by kernel_rfl
theorem j30:((Rows.shelfTakesRow.veiled==(Tryz.f4.params.toList++Rows.shelfTakesSpec.plain.varTypes Tryz.prog++Tryz.f4.resultTypes.toList).any (Tryz.prog.veiledRec ·)))=true:=by kernel_rfl
theorem j31:(Rows.shelfTakesRow.veiledFits Tryz.prog Tryz.f4.params.toList (Tryz.f4.params.toList++Rows.shelfTakesSpec.plain.varTypes Tryz.prog++Tryz.f4.resultTypes.toList))=true:=by kernel_rfl
theorem closed:joinedFacts Tryz.prog 4 Tryz.f4 Rows.shelfTakesSpec Rows.shelfTakesRow=true:=by
 unfold joinedFacts;simp only [Bool.and_eq_true];exact ⟨⟨⟨⟨⟨⟨⟨⟨⟨⟨⟨⟨⟨⟨⟨⟨⟨⟨⟨⟨⟨⟨⟨⟨⟨⟨⟨⟨⟨⟨⟨j0,j1⟩,j2⟩,j3⟩,j4⟩,j5⟩,j6⟩,j7⟩,j8⟩,j9⟩,j10⟩,j11⟩,j12⟩,j13⟩,j14⟩,j15⟩,j16⟩,j17⟩,j18⟩,j19⟩,j20⟩,j21⟩,j22⟩,j23⟩,j24⟩,j25⟩,j26⟩,j27⟩,j28⟩,j29⟩,j30⟩,j31⟩
theorem said:Rows.ShelfTakesSaid:=
 OpenClaim.holds_of_cond 4 Tryz.f4 rfl rfl rfl rfl rfl rfl rfl ⟨rfl,rfl,rfl,rfl,rfl⟩ rfl rfl rfl rfl rfl (by kernel_rfl) Tryz.func4 closed
  (of_decide_eq_true (by kernel_rfl)) (by unfold Func.isWrapper;first | (rw [if_pos (by decide +kernel)];kernel_rfl) | (rw [if_neg (by decide +kernel)];exact ⟨rfl,rfl⟩))
  (fun os started H enc _ F=>by rw [OpenClaim.pre_eq_preRow];exact lifted os started H enc F)
theorem plain (f : FuncId) (fn : Func) (hf : Tryz.pinned.checked.prog.funcNamed "tryst/trystlaw20.ShelfTakes" = some f) (hfn : Tryz.pinned.checked.prog.funcs[f]? = some fn) :
  false=Tryz.pinned.checked.prog.looks []/\∀ (j:Nat) t,fn.params[j]?=some t->Tryz.pinned.checked.prog.wantsStandIn t=false:=by
 obtain rfl : f = 4 := Option.some.inj ((show Tryz.prog.funcNamed "tryst/trystlaw20.ShelfTakes" = some 4 by kernel_rfl).symm.trans hf) |>.symm
 obtain rfl:fn=Tryz.f4:=(Option.some.inj (Tryz.func4.symm.trans hfn)).symm;refine ⟨by kernel_rfl,fun j t ht=>?_⟩;rw [Tryz.params4] at ht;obtain rfl:t=9:=by simpa using Array.mem_of_getElem? ht
 exact (show Tryz.prog.wantsStandIn 9=false by kernel_rfl)
theorem card:Rows.ShelfTakesCardSaid:=
 Claim7.holds_tied_plain_at .later [] _ _ _ _ said (fun _ h=>by cases h) (by kernel_rfl) (fun _ h=>by cases h) shelfTakes_row_tie rfl ⟨rfl,rfl⟩ (by kernel_rfl) rfl plain (by kernel_rfl)
