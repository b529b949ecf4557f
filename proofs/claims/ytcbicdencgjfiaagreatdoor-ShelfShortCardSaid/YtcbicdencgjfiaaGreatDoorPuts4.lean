import Derived.Test.YtcbicdencgjfiaaGreatDoorProg
import Derived.Carry
import Derived.OpenVars
import Derived.ChangeSame
import Derived.Lib.SmallJoins
import Derived.Deep.Slices
import Derived.Deep.Fields
import Derived.Test.YtcbicdencgjfiaaGreatDoorFldG
import Derived.Test.YtcbicdencgjfiaaGreatDoorRdAB
set_option linter.all false
set_option maxHeartbeats 400000
set_option maxRecDepth 100000
namespace Tryst
open Go Go.RowKit Go.ChangeShapes Go.WideShapes Go.Joins
theorem kQQ {H:Type} {enc:TypeId × Value->H} {P:Program} (hl:laidOutB P=true) {W W':World} (hb:Below W.heap.size W W') :
  ∀ {ts:List TypeId} {vs:List Value} {ds:List (DataW H)} {ps:List MemPlace},(ts.all fun t=>P.readableRec t&&decide (t < P.types.size))=true->(∀ x∈ps,x.block < W.heap.size)->
  DataW.TrodAll enc P W 0 (fun _=>true) true ts vs ds ps->DataW.TrodAll enc P W' 0 (fun b=>decide (b < W.heap.size)) true ts vs ds ps
 | [],vs,ds,ps,_,_,h=>by
  obtain ⟨rfl,rfl,rfl⟩:=trodAll_nil h;exact trodAll_mk0
 | t :: ts,vs,ds,ps,hts,hlt,h=>by
  obtain ⟨v,vs',d,ds',p,q,rfl,rfl,rfl,h1,h2⟩:=trodAll_cons h;simp only [List.all_cons,Bool.and_eq_true,decide_eq_true_eq] at hts;exact trodAll_cons_mk (Below.trod hl hts.1.1 hts.1.2 h1 hb fun x hx=>hlt x (List.mem_append.2 (.inl hx))) (kQQ hl hb (by simpa using hts.2) (fun x hx=>hlt x (List.mem_append.2 (.inr hx))) h2)
theorem zQa {H:Type} {enc:TypeId × Value->H} {P:Program} {w:World} {base:Nat} {sp:Nat->Bool} {hd:Bool}:∀ {ts:List TypeId} {vs:List Value} {ds:List (DataW H)} {ps:List MemPlace},DataW.TrodAll enc P w base sp hd ts vs ds ps->ds.length=ts.length
 | [],_,_,_,h=>by
  obtain ⟨_,rfl,_⟩:=trodAll_nil h;rfl
 | t :: ts,_,_,_,h=>by
  obtain ⟨v,vs',d,ds',p,q,_,rfl,_,_,h2⟩:=trodAll_cons h;rw [List.length_cons,List.length_cons,zQa h2]
theorem vJO {H:Type} {enc:TypeId × Value->H} {P:Program} {f:Func} {s:ChangeSpec} {apart fresh handsOn:Bool} {W W':World} {args:Array Value} {ds gs:List (DataW H)} {before:List MemPlace} {tb:TypeId}
  (hl:laidOutB P=true) (htb:P.underlying tb=some .bool) (hrt:f.resultTypes=#[tb]) (hts:(f.params.toList.all fun t=>P.readableRec t&&decide (t < P.types.size))=true) (hsv:s.vars=[])
  (hW:DataW.Whole enc P f.params.toList s.vars apart W args.toList ds gs before)
  (hfn:∀ dd,dd.length=f.params.size->s.fn H dd={ results:=[.lit (.bool true)],args:=dd }) (hb:Below W.heap.size W W') :
  s.post enc P f apart fresh handsOn false W args (.bool true) W':=by
 have hlt:∀ p∈before,p.block < W.heap.size:=fun p hp=>hW.lt p hp
 have hW0:=hW;obtain ⟨p,q,hA,hV,rfl,hfz,hnd⟩:=hW;rw [hsv] at hV;obtain ⟨rfl,rfl⟩:=trodVars_none hV
 have hlen:ds.length=f.params.size:=by
  have h:=zQa hA
  simpa using h
 have hA':=kQQ hl hb hts (fun x hx=>hlt x (by simpa using hx)) hA;have hfn':=hfn ds hlen;have hold:∀ x∈p,(fun b=>decide (b < W.heap.size)) x.block=true:=fun x hx=>by simpa using hlt x (by simpa using hx)
 have hres:∀ (b:Nat) (sp:Nat->Bool) (hd:Bool),DataW.TrodAll enc P W' b sp hd f.resultTypes.toList ((Value.bool true).resultList f.resultTypes.size) [.lit (.bool true)] []:=fun b sp hd=>by
  rw [hrt];exact trodAll_cons_mk (shut_bool htb _) trodAll_mk0
 refine ⟨ds,[],p++[],[],p,[],hW0,?_,?_,?_,?_,fun h=>by cases h⟩
 · rw [List.append_nil,hfn'];exact hres _ _ _
 · rw [List.append_nil,hfn'];exact hA'
 · rw [hsv,List.append_nil,hfn'];exact rfl
 ·
  exact World.keptBut_mono (fun x hx=>⟨hx,.inr (.inl (by simpa using hx))⟩) (hb.frame (·∈p++[]))
theorem zQn {w:World} {a:Addr} {v:Value} (h:w.cell? a=some v):a.block < w.heap.size/\a.spot=none:=by
 unfold World.cell? at h
 split at h
 ·
  rename_i c _ _ hc;refine ⟨(Array.getElem?_eq_some_iff.1 hc).1,?_⟩
  split at h
  · cases h
  · rename_i hs;simpa using hs
 · cases h
end Tryst
namespace Go.Proofs.YtcbicdencgjfiaaGreatDoor
open Go.RowKit Tryst Go.ChangeShapes Go.WideShapes Go.Joins
section
variable {H:Type} {enc:TypeId × Value->H} {w:World} {base:Nat} {sp:Nat->Bool} {hd:Bool}
theorem kBool:Tryz.prog.cellsOf 4=1:=by kernel_rfl
theorem kI64:Tryz.prog.cellsOf 2=1:=by kernel_rfl
theorem kStr:Tryz.prog.cellsOf 9=1:=by kernel_rfl
theorem kVal:Tryz.prog.cellsOf 121=3:=by kernel_rfl
theorem Xf {fuel:Nat} {cs:List Value} {x:DataW H × List MemPlace} (h:DataW.trod enc Tryz.prog w base sp hd fuel 9 cs=some x):∃ s:ByteArray,cs=[.string s]/\s.size<=9223372036854775807:=by
 obtain ⟨s,rfl,_,hs⟩:=DataW.trod_string Tryz.underlying9 h;exact ⟨s,rfl,hs⟩
theorem jJC {fuel:Nat} {cs:List Value} {x:DataW H × List MemPlace} (h:DataW.trod enc Tryz.prog w base sp hd fuel 121 cs=some x) :
  ∃ (b:Bool) (n:Int) (s:ByteArray),cs=[.bool b,.int .i64 n,.string s]/\s.size<=9223372036854775807/\-9223372036854775808<=n/\n<=9223372036854775807:=by
 obtain ⟨xs,n,_,_,hlen,hxl,hf⟩:=DataW.trod_struct Tryz.underlying121 h;rw [kVal] at hlen
 match cs,hlen,xs,hxl with
 | [c0,c1,c2],_,[y0,y1,y2],_=>
  have h0:DataW.trod enc Tryz.prog w base sp hd n 4 (([c0,c1,c2].drop 0).take (Tryz.prog.cellsOf 4))=some y0:=hf 0 _ rfl;have h1:DataW.trod enc Tryz.prog w base sp hd n 2 (([c0,c1,c2].drop 1).take (Tryz.prog.cellsOf 2))=some y1:=hf 1 _ rfl;have h2:DataW.trod enc Tryz.prog w base sp hd n 9 (([c0,c1,c2].drop 2).take (Tryz.prog.cellsOf 9))=some y2:=hf 2 _ rfl;rw [kBool] at h0;rw [kI64] at h1;rw [kStr] at h2;obtain ⟨b,e0,_⟩:=DataW.trod_bool Tryz.underlying4 h0;obtain ⟨i,e1,_,hw⟩:=DataW.trod_int Tryz.underlying2 h1;obtain ⟨s,e2,hs⟩:=Xf h2;simp at e0 e1 e2;obtain ⟨hl,hh⟩:-9223372036854775808<=i/\i<=9223372036854775807:=by simpa [Lit.wf,IntKind.min,IntKind.max,IntKind.signed,IntKind.bits] using hw
  exact ⟨b,i,s,by rw [e0,e1,e2],hs,hl,hh⟩
theorem vQk {P:Program} {T:TypeId} {r:Reach} {b0:Nat} {v:Value} {fs:Array Field} (hs:P.underlying T=some (.struct fs)) (hv:Value.okWide P w r b0 T v):∃ cs:Array Value,v=.agg cs/\v.cells.toList=cs.toList:=by
 obtain ⟨cs,rfl,_⟩:=okWide_struct hs hv;exact ⟨cs,rfl,rfl⟩
theorem zJQ {cs:Array Value} {l:List Value} (h:cs.toList=l):(.agg cs:Value)=.agg l.toArray:=by rw [<- h]
end
end Go.Proofs.YtcbicdencgjfiaaGreatDoor
namespace Go.Proofs.YtcbicdencgjfiaaGreatDoor
open Go.RowKit Tryst
def f0:FB:=⟨⟨#[120]⟩,true,7,⟨#[]⟩⟩
theorem xJa {w:World} (h:w.ShapedOpen Tryz.prog):MaxW w:=by
 obtain ⟨m,hm⟩:=Go.Proofs.cell_of_shapedOpen_int (zero:=#[.int .i64 0]) (t:=3) (g:=0) h (of_decide_eq_true (by kernel_rfl)) (by kernel_rfl) rfl (by kernel_rfl) (by kernel_rfl) Tryz.underlying3;exact ⟨⟨m,hm⟩,(zQn hm).1⟩
theorem xJc (w:World) (cs:Array Value) (T:TypeId):(w.alloc (.cells cs T)).heap[w.heap.size]?=some (.cells cs T (0,0)):=by show (w.heap.push _)[_]?=_;simp
end Go.Proofs.YtcbicdencgjfiaaGreatDoor
namespace Go.Proofs.YtcbicdencgjfiaaGreatDoor
open Go.RowKit Tryst
def EvS (t p:ByteArray) (q:Int) (l:List FB) (v:Value) (w:World):Prop:=∃ a c,v=.agg #[.string t,.string p,.int .u64 q,.slice a l.length c]/\Flds w a l/\Sl a c l.length
theorem EvS.at {t p:ByteArray} {q:Int} {l:List FB} {v:Value} {w':World} (h:∃ w0,Tryst2.Grow w0 w'/\EvS t p q l v w0):EvS t p q l v w':=by
 obtain ⟨w0,hg,a,c,h1,h2,h3⟩:=h;exact ⟨a,c,h1,h2.grow hg,h3⟩
theorem EvS.of {w w':World} {t p:ByteArray} {q:Int} {l:List FB} {a:Option Addr} {c:Nat} (h:Flds w' a l) (hs:Sl a c l.length) (hb:Below w.heap.size w w'):Tryst2.Grow w w'/\∃ w0,Tryst2.Grow w0 w'/\EvS t p q l (.agg #[.string t,.string p,.int .u64 q,.slice a l.length c]) w0:=
 ⟨hb,w',Tryst2.Grow.refl _,a,c,rfl,h,hs⟩
structure VB3 (w:World) (b:Nat) (x:Bool) (n:Int) (s:ByteArray):Prop where
 c0:w.cell? ⟨b,0,none⟩=some (.bool x)
 c1:w.cell? ⟨b,1,none⟩=some (.int .i64 n)
 c2:w.cell? ⟨b,2,none⟩=some (.string s)
 hz:b < w.heap.size
theorem VB3.grow {w w':World} {b:Nat} {x:Bool} {n:Int} {s:ByteArray} (h:VB3 w b x n s) (hb:Below w.heap.size w w'):VB3 w' b x n s:=by
 obtain ⟨h0,h1,h2,h6⟩:=h;exact ⟨by rw [hb.cell (p:=⟨b,0,none⟩) h6];exact h0,by rw [hb.cell (p:=⟨b,1,none⟩) h6];exact h1,by rw [hb.cell (p:=⟨b,2,none⟩) h6];exact h2,Nat.lt_of_lt_of_le h6 hb.size⟩
theorem VB3.new (w:World) (x:Bool) (n:Int) (s:ByteArray) (T:TypeId):VB3 (w.alloc (.cells #[.bool x,.int .i64 n,.string s] T)) w.heap.size x n s:=by
 constructor<;>simp [go_sem]
theorem VB3.set {w:World} {b:Nat} {x y:Bool} {n m:Int} {s u:ByteArray} (h:VB3 w b x n s):VB3 (((w.setCell ⟨b,0,none⟩ (.bool y)).setCell ⟨b,1,none⟩ (.int .i64 m)).setCell ⟨b,2,none⟩ (.string u)) b y m u:=by
 obtain ⟨h0,h1,h2,h6⟩:=h
 constructor<;>simp [Qz,h0,h1,h2,h6]
theorem VB3.away {w:World} {b c o:Nat} {x:Bool} {n:Int} {s:ByteArray} {u:Value} (h:VB3 w b x n s) (hc:c≠b):VB3 (w.setCell ⟨c,o,none⟩ u) b x n s:=by
 obtain ⟨h0,h1,h2,h6⟩:=h
 constructor<;>simp [Qz,hc,h0,h1,h2,h6]
