import Derived.Test.YtcbicdencgjfiaaGreatDoorEyeA
import Derived.Test.YtcbicdencgjfiaaGreatDoorPenF
import Derived.Test.YtcbicdencgjfiaaGreatDoorSamE14
import Derived.Test.YtcbicdencgjfiaaGreatDoorSame16
import Derived.Test.YtcbicdencgjfiaaGreatDoorStoreK
set_option linter.all false
set_option maxHeartbeats 16000000
set_option maxRecDepth 100000
namespace Go.Proofs.YtcbicdencgjfiaaGreatDoor
open Go.RowKit Tryst
theorem qYd (a b:OPB) (w:World) (hA:DO w a.d) (hB:DO w b.d):Calls Tryz.prog 18 #[a.agg,b.agg] w fun e w'=>e=.returned (.bool (qYS a b))/\Below w.heap.size w w':=by
 have CE:=Zh (fun W (hb:Below w.heap.size w W)=>qYX a.d b.d W (hA.grow hb) (hB.grow hb));obtain ⟨R,hR⟩:∃ R,qYS a b=R:=⟨_,rfl⟩;rw [hR];unfold qYS at hR;clear hA hB;obtain ⟨k,s,d,ok,id,n⟩:=a;obtain ⟨k',s',d',ok',id',n'⟩:=b;obtain ⟨pb,hpb⟩:∃ b,vJc d d'=b:=⟨_,rfl⟩;simp only at CE hR;rw [hpb] at CE hR;have HR:=Zh hR;have HX:=Zh (Var.new w 48 (OPB.mk k s d ok id n).cells);have HY:=Zh (Var.new (w.alloc (.cells (OPB.mk k s d ok id n).cells.toArray 48)) 48 (OPB.mk k' s' d' ok' id' n').cells);have HB0:=Zh (Qj (.cells (OPB.mk k' s' d' ok' id' n').cells.toArray 48) (Qj (.cells (OPB.mk k s d ok id n).cells.toArray 48) (.refl w.heap.size w)));have HX2:=Zh (HX.out.grow (Qj (.cells (OPB.mk k' s' d' ok' id' n').cells.toArray 48) (.refl _ _)));rw [show (w.alloc (.cells (OPB.mk k s d ok id n).cells.toArray 48)).heap.size=w.heap.size+1 by simp] at HY;clear hR hpb HX;unfold OPB.cells at HX2 HY HB0;unfold OPB.agg;unfold DB.agg at CE;simp only at CE HX2 HY HB0 ⊢;go_enter Tryz.func18,Tryz.ntmps18;go_upto_region 1 with fail
 revert HY HB0 HX2;generalize (w.alloc (.cells _ 48)).alloc (.cells _ 48)=Z;intro HY HB0 HX2;obtain ⟨x0,x1,x2,x3,x4,x5,x6,x7,x8,x9,x10,x11,x12⟩:=v13 (HX2.out);obtain ⟨y0,y1,y2,y3,y4,y5,y6,y7,y8,y9,y10,y11,y12⟩:=v13 (HY.out)
 by_cases h1:k=k'
 ·
  subst h1
  by_cases h2:s=s'
  ·
   subst h2
   by_cases h4:ok=ok'
   ·
    subst h4
    by_cases h5:id=id'
    ·
     subst h5
     by_cases h6:n=n'
     · subst h6;go_wp2_with fail;refine (CE.out _ HB0.out).mono ?_;rintro e w8 ⟨rfl,hb8⟩;have HX8:=Zh (HX2.out.grow hb8);have HY8:=Zh (HY.out.grow hb8);have HB8:=Zh (Qk hb8 HB0.out);clear hb8 HX2 HY x0 x1 x2 x3 x4 x5 x6 x7 x8 x9 x10 x11 x12 y0 y1 y2 y3 y4 y5 y6 y7 y8 y9 y10 y11 y12;obtain ⟨x0,x1,x2,x3,x4,x5,x6,x7,x8,x9,x10,x11,x12⟩:=v13 (HX8.out);obtain ⟨y0,y1,y2,y3,y4,y5,y6,y7,y8,y9,y10,y11,y12⟩:=v13 (HY8.out);have HN:=Zh (show R=pb by rw [<- HR.out];simp);go_wp2_with fail;go_ret;exact ⟨Qq HN.out.symm,HB8.out⟩
     ·
      have HN:=Zh (show R=false by rw [<- HR.out];simp [h6]);have b4:(n==n')=false:=by simpa using h6
      go_wp2_with fail;go_ret;exact ⟨Qq HN.out.symm,HB0.out⟩
    ·
     have HN:=Zh (show R=false by rw [<- HR.out];simp [h5]);have b4:((id:Int)==(id':Int))=false:=by simp;omega
     go_wp2_with fail;go_ret;exact ⟨Qq HN.out.symm,HB0.out⟩
   ·
    have HN:=Zh (show R=false by rw [<- HR.out];simp [h4]);have b4:(ok==ok')=false:=by simpa using h4
    go_wp2_with fail;go_ret;exact ⟨Qq HN.out.symm,HB0.out⟩
  · have HN:=Zh (show R=false by rw [<- HR.out];simp [h2]);have b4:(s.toList==s'.toList)=false:=jY9 (fun e=>h2 (Xk e));go_wp2_with fail;go_ret;exact ⟨Qq HN.out.symm,HB0.out⟩
 ·
  have HN:=Zh (show R=false by rw [<- HR.out];simp [h1]);have b4:(k==k')=false:=by simpa using h1
  go_wp2_with fail;go_ret;exact ⟨Qq HN.out.symm,HB0.out⟩
end Go.Proofs.YtcbicdencgjfiaaGreatDoor
namespace Go.Proofs.YtcbicdencgjfiaaGreatDoor
open Go.RowKit Tryst
end Go.Proofs.YtcbicdencgjfiaaGreatDoor
namespace Go.Proofs.YtcbicdencgjfiaaGreatDoor
open Go.RowKit Tryst
end Go.Proofs.YtcbicdencgjfiaaGreatDoor
namespace Go.Proofs.YtcbicdencgjfiaaGreatDoor
open Go.RowKit Tryst
end Go.Proofs.YtcbicdencgjfiaaGreatDoor
namespace Go.Proofs.YtcbicdencgjfiaaGreatDoor
open Go.RowKit Tryst
theorem DOB.sets {B g:Nat} {w:World} {d:DB} (h:DOB B w d) (hg:g < B) (us:List Value) (i:Nat):DOB B (Yq w g i us) d:=h.keep (fun b hb=>Qb (by omega) us i w) (by rw [Q6];exact Nat.le_refl _)
structure CE (o y:OPB):Prop where
 k:y.kind=o.kind
 ok:y.ok=o.ok
 id:y.id=o.id
 n:y.n=o.n
 s:y.s.size<=2001
 j:y.d.j=⟨jQz o.d.j.kind,o.d.j.parts,o.d.j.need,o.d.j.window⟩
def RG (B g0 g1:Nat) (o p:OPB) (w wx:World):Prop:=∃ y1 y2:OPB,Var wx g0 48 y1.cells/\Var wx g1 48 y2.cells/\(DOB B wx y1.d/\CE o y1)/\(DOB B wx y2.d/\CE p y2)/\Below w.heap.size w wx
theorem jYu (o:OPB) (w:World) (hD:DArg w o.d) (hs:o.s.size<=9223372036854775807):Calls Tryz.prog 16 #[o.agg] w fun e w'=>∃ y:OPB,e=.returned y.agg/\DOB w.heap.size w' y.d/\CE o y/\Below w.heap.size w w':=
 (cut_c o w hD hs).mono fun e w' ⟨y,h1,h2,h3,h4,h5,h6,h7,h8,h9⟩=>⟨y,h1,h2,⟨h3,h4,h5,h6,h7,h8⟩,h9⟩
structure JR (j:JB):Prop where
 p0:-9223372036854775808<=j.parts
 p1:j.parts<=9223372036854775807
 n0:-9223372036854775808<=j.need
 n1:j.need<=9223372036854775807
 w0:-9223372036854775808<=j.window
 w1:j.window<=9223372036854775807
theorem CE.oin {o y:OPB} (h:CE o y) (ho:OPIn o):OPIn y:=⟨by rw [h.k];exact ho.k0,by rw [h.k];exact ho.k1,by rw [h.n];exact ho.n0,by rw [h.n];exact ho.n1,by rw [h.id];exact ho.i⟩
theorem CE.jin {o y:OPB} (h:CE o y) (ho:JR o.d.j):JIn y.d.j:=by
 have e:=h.j;refine ⟨?_,by rw [e];exact ho.p0,by rw [e];exact ho.p1,by rw [e];exact ho.n0,by rw [e];exact ho.n1,by rw [e];exact ho.w0,by rw [e];exact ho.w1⟩;rw [e];unfold jQz;simp only
 split
 · rw [ByteArray.size_extract];omega
 · omega
end Go.Proofs.YtcbicdencgjfiaaGreatDoor
namespace Go.Proofs.YtcbicdencgjfiaaGreatDoor
open Go Go.RowKit Tryst
theorem qYe {α:Type} (l:List α):l.map (fun x=>x)=l:=List.map_id' l
theorem qYt (x y:TB):eqTB x y=true↔TB.p x=TB.p y:=by
 unfold eqTB TB.p;simp only [Bool.and_eq_true,decide_eq_true_eq,Prod.mk.injEq]
theorem qYx (x y:LB):eqLB x y=true↔LB.p x=LB.p y:=by
 unfold eqLB LB.p;simp only [Bool.and_eq_true,decide_eq_true_eq,Prod.mk.injEq]
theorem kY0 (x y:KpB):eqKp x y=true↔KpB.p x=KpB.p y:=by
 unfold eqKp KpB.p;simp only [Bool.and_eq_true,decide_eq_true_eq,Prod.mk.injEq]
theorem qYm (x y:DeadB):eqDd x y=true↔DeadB.p x=DeadB.p y:=by
 unfold eqDd DeadB.p;simp only [Bool.and_eq_true,decide_eq_true_eq,Prod.mk.injEq]
theorem kY7 (x y:OB):eqO x y=true↔OB.p x=OB.p y:=by
 unfold eqO OB.p;simp only [Bool.and_eq_true,decide_eq_true_eq,Prod.mk.injEq]
theorem kYC (l m:List Nat):qYC eqN l m=true↔l=m:=by
 have h:=qYI (f:=eqN) (p:=fun x=>x) (l:=l) (m:=m) (fun x _ y _=>by unfold eqN;rw [decide_eq_true_eq]);rw [qYe,qYe] at h;exact h
theorem qYb (x y:UB):eqUB x y=true↔UB.p x=UB.p y:=by
 unfold eqUB UB.p;simp only [Bool.and_eq_true,decide_eq_true_eq,Prod.mk.injEq,kYC]
 constructor
 · rintro ⟨a,b,c,d,e⟩;exact ⟨a,b,e,c,d⟩
 · rintro ⟨a,b,e,c,d⟩;exact ⟨a,b,c,d,e⟩
theorem qYo (x y:InB):eqIn x y=true↔InB.p x=InB.p y:=by
 unfold eqIn InB.p InB.key;simp only [Bool.and_eq_true,decide_eq_true_eq,Prod.mk.injEq,V.mk.injEq];rw [qYI (p:=KpB.p) (fun a _ b _=>kY0 a b)]
 constructor
 · rintro ⟨⟨a,b,c⟩,d⟩;exact ⟨⟨a,b,by rw [c]⟩,d⟩
 · rintro ⟨⟨a,b,c⟩,d⟩;exact ⟨⟨a,b,Xk c⟩,d⟩
theorem qYv (x y:SubB):eqSb x y=true↔SubB.p x=SubB.p y:=by
 have h1:=vJ5 x.d y.d;have h2:qYL x.ol y.ol=true↔x.ol.map OB.p=y.ol.map OB.p:=qYI (f:=eqO) (fun a _ b _=>kY7 a b);have h3:qYC eqIn x.il y.il=true↔x.il.map InB.p=y.il.map InB.p:=qYI (fun a _ b _=>qYo a b);unfold eqSb SubB.p;simp only [Bool.and_eq_true,decide_eq_true_eq,Prod.mk.injEq,h1,h2,h3]
theorem qYM {α:Type} {f:α->α->Bool} {l m:List α} (h:l.length=m.length):(l.zip m).all (fun x=>f x.1 x.2)=qYC f l m:=by
 unfold qYC;rw [decide_eq_true h,Bool.true_and]
theorem qYQ (a b:RtB):qYK a b=true↔RtB.p a=RtB.p b:=by
 have h1:qYC eqTB a.tl b.tl=true↔a.tl.map TB.p=b.tl.map TB.p:=qYI (fun x _ y _=>qYt x y);have h2:qYC eqLB a.ll b.ll=true↔a.ll.map LB.p=b.ll.map LB.p:=qYI (fun x _ y _=>qYx x y);have h3:qYC eqUB a.ul b.ul=true↔a.ul.map UB.p=b.ul.map UB.p:=qYI (fun x _ y _=>qYb x y);have h4:qYC eqUB a.gl b.gl=true↔a.gl.map UB.p=b.gl.map UB.p:=qYI (fun x _ y _=>qYb x y);have h5:qYC eqDd a.dl b.dl=true↔a.dl.map DeadB.p=b.dl.map DeadB.p:=qYI (fun x _ y _=>qYm x y);have h6:qYC eqSb a.sl b.sl=true↔a.sl.map SubB.p=b.sl.map SubB.p:=qYI (fun x _ y _=>qYv x y);unfold qYK RtB.p;simp only [Bool.and_eq_true,decide_eq_true_eq,Prod.mk.injEq,h1,h2,h3,h4]
 constructor
 · rintro ⟨a1,a2,a3,a4,a5,a6,a7,a8,a9,a10⟩;rw [qYM a8,h5] at a9;rw [qYM a7,h6] at a10;exact ⟨a1,a3,a4,a10,a2,a5,a6,a9⟩
 ·
  rintro ⟨a1,a3,a4,a10,a2,a5,a6,a9⟩;have a8:a.dl.length=b.dl.length:=by simpa using congrArg List.length a9
  have a7:a.sl.length=b.sl.length:=by simpa using congrArg List.length a10
  exact ⟨a1,a2,a3,a4,a5,a6,a7,a8,by rw [qYM a8,h5];exact a9,by rw [qYM a7,h6];exact a10⟩
theorem qYf {p q:RtT} (hp:RtF p) (hq:RtF q) (h:rtL p=rtL q):p=q:=by
 have h1:=rtC.put p hp [];have h2:=rtC.put q hq [];rw [h,h2] at h1;exact (congrArg (·.1) h1).symm
theorem qYg {p q:OpP} (hp:p.Fits) (hq:q.Fits) (h:opL p=opL q):p=q:=by
 have h1:=opC.put p hp [];have h2:=opC.put q hq [];rw [h,h2] at h1;exact (congrArg (·.1) h1).symm
end Go.Proofs.YtcbicdencgjfiaaGreatDoor
namespace Go.Proofs.YtcbicdencgjfiaaGreatDoor
open Go.RowKit Tryst Go.ChangeShapes Go.WideShapes Go.Joins
section
variable {H:Type} {enc:TypeId × Value->H} {w:World} {base:Nat} {sp:Nat->Bool} {hd:Bool}
theorem jYA:Tryz.prog.cellsOf 43=4:=by kernel_rfl
theorem kDef:Tryz.prog.cellsOf 45=8:=by kernel_rfl
theorem kOp:Tryz.prog.cellsOf 48=13:=by kernel_rfl
theorem jY1:Tryz.prog.cellsOf 4=1:=by kernel_rfl
theorem Y9 {i:Int} (hw:(Lit.int .i64 i).wf=true):-9223372036854775808<=i/\i<=9223372036854775807:=by simpa [Lit.wf,IntKind.min,IntKind.max,IntKind.signed,IntKind.bits] using hw
theorem vQM {i:Int} (hw:(Lit.int .u64 i).wf=true):0<=i/\i<=18446744073709551615:=by simpa [Lit.wf,IntKind.min,IntKind.max,IntKind.signed,IntKind.bits] using hw
theorem kJo {fuel:Nat} {cs:List Value} {x:DataW H × List MemPlace} (h:DataW.trod enc Tryz.prog w base sp hd fuel 43 cs=some x) :
  ∃ j:JB,cs=[.string j.kind,.int .i64 j.parts,.int .i64 j.need,.int .i64 j.window]/\j.kind.size<=9223372036854775807/\JR j:=by
 obtain ⟨xs,n,_,_,hlen,hxl,hf⟩:=DataW.trod_struct Tryz.underlying43 h;rw [jYA] at hlen
 match cs,hlen,xs,hxl with
 | [c0,c1,c2,c3],_,[y0,y1,y2,y3],_=>
  have h0:DataW.trod enc Tryz.prog w base sp hd n 9 (([c0,c1,c2,c3].drop 0).take (Tryz.prog.cellsOf 9))=some y0:=hf 0 _ rfl;have h1:DataW.trod enc Tryz.prog w base sp hd n 3 (([c0,c1,c2,c3].drop 1).take (Tryz.prog.cellsOf 3))=some y1:=hf 1 _ rfl;have h2:DataW.trod enc Tryz.prog w base sp hd n 3 (([c0,c1,c2,c3].drop 2).take (Tryz.prog.cellsOf 3))=some y2:=hf 2 _ rfl;have h3:DataW.trod enc Tryz.prog w base sp hd n 3 (([c0,c1,c2,c3].drop 3).take (Tryz.prog.cellsOf 3))=some y3:=hf 3 _ rfl;rw [kStr] at h0;rw [kInt] at h1 h2 h3;obtain ⟨s,e0,hs⟩:=Xf h0;obtain ⟨i,e1,_,w1⟩:=DataW.trod_int Tryz.underlying3 h1;obtain ⟨j,e2,_,w2⟩:=DataW.trod_int Tryz.underlying3 h2;obtain ⟨k,e3,_,w3⟩:=DataW.trod_int Tryz.underlying3 h3;simp at e0 e1 e2 e3;exact ⟨⟨s,i,j,k⟩,by rw [e0,e1,e2,e3],hs,⟨(Y9 w1).1,(Y9 w1).2,(Y9 w2).1,(Y9 w2).2,(Y9 w3).1,(Y9 w3).2⟩⟩
theorem qJW {fuel:Nat} {cs:List Value} {x:DataW H × List MemPlace} (h:DataW.trod enc Tryz.prog w base sp hd fuel 41 cs=some x) :
  ∃ (a:Option Addr) (l:List PB) (c:Nat),cs=[.slice a l.length c]/\Row w a 6 (l.map PB.cells)/\(∀ y∈l,PArg w y)/\l.length<=9223372036854775807:=by
 obtain ⟨a,l,c,h1,h2,h3,h4,_⟩:=Y7 PB.cells (PArg w) (.mk ⟨#[]⟩ ⟨#[]⟩ false 0 ⟨#[]⟩ none 0 []) (by decide) Tryz.underlying41 vJ2 (fun y=>by cases y;rfl) (fun h=>kJT _ h) h;exact ⟨a,l,c,h1,h2,h3,h4⟩
theorem jJX {fuel:Nat} {cs:List Value} {x:DataW H × List MemPlace} (h:DataW.trod enc Tryz.prog w base sp hd fuel 45 cs=some x):∃ d:DB,cs=d.cells/\DArg w d/\JR d.j:=by
 obtain ⟨xs,n,_,_,hlen,hxl,hf⟩:=DataW.trod_struct Tryz.underlying45 h;rw [kDef] at hlen
 match cs,hlen,xs,hxl with
 | [c0,c1,c2,c3,c4,c5,c6,c7],_,[y0,y1,y2,y3,y4],_=>
  have h0:DataW.trod enc Tryz.prog w base sp hd n 9 (([c0,c1,c2,c3,c4,c5,c6,c7].drop 0).take (Tryz.prog.cellsOf 9))=some y0:=hf 0 _ rfl;have h1:DataW.trod enc Tryz.prog w base sp hd n 40 (([c0,c1,c2,c3,c4,c5,c6,c7].drop 1).take (Tryz.prog.cellsOf 40))=some y1:=hf 1 _ rfl;have h2:DataW.trod enc Tryz.prog w base sp hd n 41 (([c0,c1,c2,c3,c4,c5,c6,c7].drop 2).take (Tryz.prog.cellsOf 41))=some y2:=hf 2 _ rfl;have h3:DataW.trod enc Tryz.prog w base sp hd n 9 (([c0,c1,c2,c3,c4,c5,c6,c7].drop 3).take (Tryz.prog.cellsOf 9))=some y3:=hf 3 _ rfl;have h4:DataW.trod enc Tryz.prog w base sp hd n 43 (([c0,c1,c2,c3,c4,c5,c6,c7].drop 4).take (Tryz.prog.cellsOf 43))=some y4:=hf 4 _ rfl;rw [kStr] at h0 h3;rw [jYH] at h1;rw [zJk] at h2;rw [jYA] at h4;obtain ⟨nm,e0,q0⟩:=Xf h0;obtain ⟨ga,gl,gc,e1,g1,g2,g3⟩:=vQr h1;obtain ⟨wa,wl,wc,e2,w1,w2,w3⟩:=qJW h2;obtain ⟨ky,e3,q3⟩:=Xf h3;obtain ⟨j,e4,q4,q5⟩:=kJo h4;simp at e0 e1 e2 e3 e4;obtain ⟨k4,k5,k6,k7⟩:=e4;exact ⟨⟨nm,ga,gl,gc,wa,wl,wc,ky,j⟩,by rw [e0,e1,e2,e3,k4,k5,k6,k7];rfl,⟨q0,q3,q4,g1,g2,g3,w1,w2,w3⟩,q5⟩
structure OArg (w:World) (y:OPB):Prop where
 d:DArg w y.d
 j:JR y.d.j
 s:y.s.size<=9223372036854775807
 o:OPIn y
theorem xJ3 {fuel:Nat} {cs:List Value} {x:DataW H × List MemPlace} (h:DataW.trod enc Tryz.prog w base sp hd fuel 48 cs=some x):∃ y:OPB,cs=y.cells/\OArg w y:=by
 obtain ⟨xs,n,_,_,hlen,hxl,hf⟩:=DataW.trod_struct Tryz.underlying48 h;rw [kOp] at hlen
 match cs,hlen,xs,hxl with
 | [c0,c1,c2,c3,c4,c5,c6,c7,c8,c9,c10,c11,c12],_,[y0,y1,y2,y3,y4,y5],_=>
  have h0:DataW.trod enc Tryz.prog w base sp hd n 3 (([c0,c1,c2,c3,c4,c5,c6,c7,c8,c9,c10,c11,c12].drop 0).take (Tryz.prog.cellsOf 3))=some y0:=hf 0 _ rfl;have h1:DataW.trod enc Tryz.prog w base sp hd n 9 (([c0,c1,c2,c3,c4,c5,c6,c7,c8,c9,c10,c11,c12].drop 1).take (Tryz.prog.cellsOf 9))=some y1:=hf 1 _ rfl;have h2:DataW.trod enc Tryz.prog w base sp hd n 45 (([c0,c1,c2,c3,c4,c5,c6,c7,c8,c9,c10,c11,c12].drop 2).take (Tryz.prog.cellsOf 45))=some y2:=hf 2 _ rfl;have h3:DataW.trod enc Tryz.prog w base sp hd n 4 (([c0,c1,c2,c3,c4,c5,c6,c7,c8,c9,c10,c11,c12].drop 10).take (Tryz.prog.cellsOf 4))=some y3:=hf 3 _ rfl;have h4:DataW.trod enc Tryz.prog w base sp hd n 46 (([c0,c1,c2,c3,c4,c5,c6,c7,c8,c9,c10,c11,c12].drop 11).take (Tryz.prog.cellsOf 46))=some y4:=hf 4 _ rfl;have h5:DataW.trod enc Tryz.prog w base sp hd n 3 (([c0,c1,c2,c3,c4,c5,c6,c7,c8,c9,c10,c11,c12].drop 12).take (Tryz.prog.cellsOf 3))=some y5:=hf 5 _ rfl;rw [kInt] at h0 h5;rw [kStr] at h1;rw [kDef] at h2;rw [jY1] at h3;rw [show Tryz.prog.cellsOf 46=1 by kernel_rfl] at h4;obtain ⟨k,e0,_,w0⟩:=DataW.trod_int Tryz.underlying3 h0;obtain ⟨s,e1,hs⟩:=Xf h1;obtain ⟨d,e2,hd1,hd2⟩:=jJX h2;obtain ⟨b,e3,_⟩:=DataW.trod_bool Tryz.underlying4 h3;obtain ⟨i,e4,_,w4⟩:=DataW.trod_int Tryz.underlying46 h4;obtain ⟨m,e5,_,w5⟩:=DataW.trod_int Tryz.underlying3 h5;obtain ⟨i0,i1⟩:=vQM w4;obtain ⟨i,rfl⟩:=Int.eq_ofNat_of_zero_le i0;simp [DB.cells] at e0 e1 e2 e3 e4 e5;obtain ⟨k0,k1,k2,k3,k4,k5,k6,k7⟩:=e2;exact ⟨⟨k,s,d,b,i,m⟩,by rw [e0,e1,k0,k1,k2,k3,k4,k5,k6,k7,e3,e4,e5];rfl,hd1,hd2,hs,⟨(Y9 w0).1,(Y9 w0).2,(Y9 w5).1,(Y9 w5).2,(by show i<=_;omega)⟩⟩
end
