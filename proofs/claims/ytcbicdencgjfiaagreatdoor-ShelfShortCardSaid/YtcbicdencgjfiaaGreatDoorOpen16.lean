import Derived.Test.YtcbicdencgjfiaaGreatDoorCut20
import Derived.Test.YtcbicdencgjfiaaGreatDoorFew16
import Derived.Test.YtcbicdencgjfiaaGreatDoorPenL
import Derived.Test.YtcbicdencgjfiaaGreatDoorPenO
import Derived.Test.YtcbicdencgjfiaaGreatDoorTakR
set_option linter.all false
set_option maxHeartbeats 16000000
set_option maxRecDepth 100000
namespace Go.Proofs.YtcbicdencgjfiaaGreatDoor
open Go.RowKit Tryst
theorem RtW.zero (w:World):RtW w RtB.zero:=⟨Row.nil _ _ _,fun t ht=>(by cases ht),Row.nil _ _ _,Row.nil _ _ _,fun t ht=>(by cases ht),Row.nil _ _ _,fun t ht=>(by cases ht),Row.nil _ _ _,fun t ht=>(by cases ht),Row.nil _ _ _⟩
theorem RtX.zero:RtX RtB.zero:=⟨by decide,by decide,by decide,fun t ht=>(by cases ht),by decide,fun t ht=>(by cases ht),by decide,fun t ht=>(by cases ht),by decide,fun t ht=>(by cases ht),by decide,fun t ht=>(by cases ht),by decide,fun t ht=>(by cases ht)⟩
theorem lay0 (w:World) (hM:MaxW w) (hT:Tab w):Calls Tryz.prog 10 #[.agg #[.int .i64 0,.slice none 0 0,.slice none 0 0,.slice none 0 0,.int .i64 0,.slice none 0 0,.slice none 0 0,.slice none 0 0]] w fun e w'=>e=.returned (.tuple #[.string ⟨#[0,0,0,0,0,0,0,0]⟩,.int .i64 0])/\Below w.heap.size w w':=by
 have e1:Xx RtB.zero=true:=by kernel_rfl
 have e2:rtL (RtB.p RtB.zero)=[0,0,0,0,0,0,0,0]:=by decide
 have h:=qJK RtB.zero w hM hT (RtW.zero w) RtX.zero (fun _ _=>by rw [e2];decide);rw [e1,e2] at h;exact h
theorem take0 (w:World) (hM:MaxW w):Calls Tryz.prog 13 #[.string ⟨#[]⟩] w fun e w'=>e=.returned (.tuple #[.agg #[.int .i64 0,.slice none 0 0,.slice none 0 0,.slice none 0 0,.int .i64 0,.slice none 0 0,.slice none 0 0,.slice none 0 0],.int .i64 2])/\Below w.heap.size w w':=
 (xQF ⟨#[]⟩ (by decide) w hM).mono fun e w' h=>TrR.err h (by decide)
theorem layR (w:World) (hM:MaxW w) (hT:Tab w):Calls Tryz.prog 17 #[.agg #[.int .i64 10,.string ⟨#[]⟩,.string ⟨#[]⟩,.slice none 0 0,.slice none 0 0,.string ⟨#[]⟩,.string ⟨#[]⟩,.int .i64 0,.int .i64 0,.int .i64 0,.bool false,.int .u64 0,.int .i64 0]] w fun e w'=>e=.returned (.tuple #[.string ⟨#[20,0,0,0,0]⟩,.int .i64 0])/\Below w.heap.size w w':=by
 have h:=qJw ⟨10,⟨#[]⟩,.zero,false,0,0⟩ w hM hT (DO.zero w) ⟨by decide,by decide,by decide,by decide,by decide,by decide,by decide⟩ ⟨by decide,by decide,by decide,by decide,by decide⟩ (by decide);have e1:mayO ⟨10,⟨#[]⟩,.zero,false,0,0⟩=true:=by decide
 have e2:opL (OPB.p ⟨10,⟨#[]⟩,.zero,false,0,0⟩)=[20,0,0,0,0]:=by decide
 rw [e1,e2] at h;exact h
theorem kJn (w:World) (hM:MaxW w) (hT:Tab w):Calls Tryz.prog 12 #[] w fun e w'=>e=.returned (.bool true)/\Below w.heap.size w w':=by
 have HM:=Zh hM;have HT:=Zh hT;clear hM hT;go_enter Tryz.func12,Tryz.ntmps12;go_wp2_with fail;refine (lay0 _ HM.out HT.out).mono ?_;rintro e w1 ⟨rfl,b1⟩;have B1:=Zh b1;clear b1;go_wp2_with fail;refine (layR _ (HM.out.grow B1.out) (HT.out.grow B1.out)).mono ?_;rintro e w2 ⟨rfl,b2⟩;have B2:=Zh (Qk b2 B1.out);clear b2 B1;go_wp2_with fail;refine (take0 _ (HM.out.grow B2.out)).mono ?_;rintro e w3 ⟨rfl,b3⟩;have B3:=Zh (Qj (.cells #[.int .i64 0,.slice none 0 0,.slice none 0 0,.slice none 0 0,.int .i64 0,.slice none 0 0,.slice none 0 0,.slice none 0 0] 28) (Qk b3 B2.out));clear b3 B2;go_wp2_with fail;go_ret;exact ⟨rfl,B3.out⟩
end Go.Proofs.YtcbicdencgjfiaaGreatDoor
namespace Go.Proofs.YtcbicdencgjfiaaGreatDoor
open Go.RowKit Tryst
end Go.Proofs.YtcbicdencgjfiaaGreatDoor
namespace Go.Proofs.YtcbicdencgjfiaaGreatDoor
open Go.RowKit Tryst
end Go.Proofs.YtcbicdencgjfiaaGreatDoor
namespace Go.Proofs.YtcbicdencgjfiaaGreatDoor
open Go.RowKit Tryst
end Go.Proofs.YtcbicdencgjfiaaGreatDoor
namespace Go.Proofs.YtcbicdencgjfiaaGreatDoor
open Go.RowKit Tryst
theorem _root_.Tryst.Var.awayS {w:World} {g g':Nat} {T:TypeId} {cs:List Value} (h:Var w g T cs) (hg:g≠g') (us:List Value) (i:Nat):Var (Yq w g' i us) g T cs:=(Qb hg us i w).trans h
theorem DOB.sets {B g:Nat} {w:World} {d:DB} (h:DOB B w d) (hg:g < B) (us:List Value) (i:Nat):DOB B (Yq w g i us) d:=h.keep (fun b hb=>Qb (by omega) us i w) (by rw [Q6];exact Nat.le_refl _)
structure CE (o y:OPB):Prop where
 k:y.kind=o.kind
 ok:y.ok=o.ok
 id:y.id=o.id
 n:y.n=o.n
 s:y.s.size<=2001
 j:y.d.j=⟨jQz o.d.j.kind,o.d.j.parts,o.d.j.need,o.d.j.window⟩
def RG (B g0 g1:Nat) (o p:OPB) (w wx:World):Prop:=∃ y1 y2:OPB,Var wx g0 48 y1.cells/\Var wx g1 48 y2.cells/\(DOB B wx y1.d/\CE o y1)/\(DOB B wx y2.d/\CE p y2)/\Below w.heap.size w wx
theorem jYu (o:OPB) (w:World) (hD:DArg w o.d) (hs:o.s.size<=9223372036854775807):Calls Tryz.prog 16 #[o.agg] w fun e w'=>∃ y:OPB,e=.returned y.agg/\DOB w.heap.size w' y.d/\CE o y/\Below w.heap.size w w':=
 (cut_c o w hD hs).mono fun e w' ⟨y,h1,h2,h3,h4,h5,h6,h7,h8,h9⟩=>⟨y,h1,h2,⟨h3,h4,h5,h6,h7,h8⟩,h9⟩
structure JR (j:JB):Prop where
 p0:-9223372036854775808<=j.parts
 p1:j.parts<=9223372036854775807
 n0:-9223372036854775808<=j.need
 n1:j.need<=9223372036854775807
 w0:-9223372036854775808<=j.window
 w1:j.window<=9223372036854775807
theorem CE.oin {o y:OPB} (h:CE o y) (ho:OPIn o):OPIn y:=⟨by rw [h.k];exact ho.k0,by rw [h.k];exact ho.k1,by rw [h.n];exact ho.n0,by rw [h.n];exact ho.n1,by rw [h.id];exact ho.i⟩
theorem CE.jin {o y:OPB} (h:CE o y) (ho:JR o.d.j):JIn y.d.j:=by
 have e:=h.j;refine ⟨?_,by rw [e];exact ho.p0,by rw [e];exact ho.p1,by rw [e];exact ho.n0,by rw [e];exact ho.n1,by rw [e];exact ho.w0,by rw [e];exact ho.w1⟩;rw [e];unfold jQz;simp only
 split
 · rw [ByteArray.size_extract];omega
 · omega
end Go.Proofs.YtcbicdencgjfiaaGreatDoor
namespace Go.Proofs.YtcbicdencgjfiaaGreatDoor
open Go.RowKit Tryst Go.ChangeShapes Go.WideShapes Go.Joins
section
variable {H:Type} {enc:TypeId × Value->H} {w:World} {base:Nat} {sp:Nat->Bool} {hd:Bool}
theorem jYA:Tryz.prog.cellsOf 43=4:=by kernel_rfl
theorem kDef:Tryz.prog.cellsOf 45=8:=by kernel_rfl
theorem kOp:Tryz.prog.cellsOf 48=13:=by kernel_rfl
theorem jY1:Tryz.prog.cellsOf 4=1:=by kernel_rfl
theorem Y9 {i:Int} (hw:(Lit.int .i64 i).wf=true):-9223372036854775808<=i/\i<=9223372036854775807:=by simpa [Lit.wf,IntKind.min,IntKind.max,IntKind.signed,IntKind.bits] using hw
theorem vQM {i:Int} (hw:(Lit.int .u64 i).wf=true):0<=i/\i<=18446744073709551615:=by simpa [Lit.wf,IntKind.min,IntKind.max,IntKind.signed,IntKind.bits] using hw
theorem kJo {fuel:Nat} {cs:List Value} {x:DataW H × List MemPlace} (h:DataW.trod enc Tryz.prog w base sp hd fuel 43 cs=some x) :
  ∃ j:JB,cs=[.string j.kind,.int .i64 j.parts,.int .i64 j.need,.int .i64 j.window]/\j.kind.size<=9223372036854775807/\JR j:=by
 obtain ⟨xs,n,_,_,hlen,hxl,hf⟩:=DataW.trod_struct Tryz.underlying43 h;rw [jYA] at hlen
 match cs,hlen,xs,hxl with
 | [c0,c1,c2,c3],_,[y0,y1,y2,y3],_=>
  have h0:DataW.trod enc Tryz.prog w base sp hd n 9 (([c0,c1,c2,c3].drop 0).take (Tryz.prog.cellsOf 9))=some y0:=hf 0 _ rfl;have h1:DataW.trod enc Tryz.prog w base sp hd n 3 (([c0,c1,c2,c3].drop 1).take (Tryz.prog.cellsOf 3))=some y1:=hf 1 _ rfl;have h2:DataW.trod enc Tryz.prog w base sp hd n 3 (([c0,c1,c2,c3].drop 2).take (Tryz.prog.cellsOf 3))=some y2:=hf 2 _ rfl;have h3:DataW.trod enc Tryz.prog w base sp hd n 3 (([c0,c1,c2,c3].drop 3).take (Tryz.prog.cellsOf 3))=some y3:=hf 3 _ rfl;rw [kStr] at h0;rw [kInt] at h1 h2 h3;obtain ⟨s,e0,hs⟩:=Xf h0;obtain ⟨i,e1,_,w1⟩:=DataW.trod_int Tryz.underlying3 h1;obtain ⟨j,e2,_,w2⟩:=DataW.trod_int Tryz.underlying3 h2;obtain ⟨k,e3,_,w3⟩:=DataW.trod_int Tryz.underlying3 h3;simp at e0 e1 e2 e3;exact ⟨⟨s,i,j,k⟩,by rw [e0,e1,e2,e3],hs,⟨(Y9 w1).1,(Y9 w1).2,(Y9 w2).1,(Y9 w2).2,(Y9 w3).1,(Y9 w3).2⟩⟩
theorem qJW {fuel:Nat} {cs:List Value} {x:DataW H × List MemPlace} (h:DataW.trod enc Tryz.prog w base sp hd fuel 41 cs=some x) :
  ∃ (a:Option Addr) (l:List PB) (c:Nat),cs=[.slice a l.length c]/\Row w a 6 (l.map PB.cells)/\(∀ y∈l,PArg w y)/\l.length<=9223372036854775807:=by
 obtain ⟨a,l,c,h1,h2,h3,h4,_⟩:=Y7 PB.cells (PArg w) (.mk ⟨#[]⟩ ⟨#[]⟩ false 0 ⟨#[]⟩ none 0 []) (by decide) Tryz.underlying41 vJ2 (fun y=>by cases y;rfl) (fun h=>kJT _ h) h;exact ⟨a,l,c,h1,h2,h3,h4⟩
theorem jJX {fuel:Nat} {cs:List Value} {x:DataW H × List MemPlace} (h:DataW.trod enc Tryz.prog w base sp hd fuel 45 cs=some x):∃ d:DB,cs=d.cells/\DArg w d/\JR d.j:=by
 obtain ⟨xs,n,_,_,hlen,hxl,hf⟩:=DataW.trod_struct Tryz.underlying45 h;rw [kDef] at hlen
 match cs,hlen,xs,hxl with
 | [c0,c1,c2,c3,c4,c5,c6,c7],_,[y0,y1,y2,y3,y4],_=>
  have h0:DataW.trod enc Tryz.prog w base sp hd n 9 (([c0,c1,c2,c3,c4,c5,c6,c7].drop 0).take (Tryz.prog.cellsOf 9))=some y0:=hf 0 _ rfl;have h1:DataW.trod enc Tryz.prog w base sp hd n 40 (([c0,c1,c2,c3,c4,c5,c6,c7].drop 1).take (Tryz.prog.cellsOf 40))=some y1:=hf 1 _ rfl;have h2:DataW.trod enc Tryz.prog w base sp hd n 41 (([c0,c1,c2,c3,c4,c5,c6,c7].drop 2).take (Tryz.prog.cellsOf 41))=some y2:=hf 2 _ rfl;have h3:DataW.trod enc Tryz.prog w base sp hd n 9 (([c0,c1,c2,c3,c4,c5,c6,c7].drop 3).take (Tryz.prog.cellsOf 9))=some y3:=hf 3 _ rfl;have h4:DataW.trod enc Tryz.prog w base sp hd n 43 (([c0,c1,c2,c3,c4,c5,c6,c7].drop 4).take (Tryz.prog.cellsOf 43))=some y4:=hf 4 _ rfl;rw [kStr] at h0 h3;rw [jYH] at h1;rw [zJk] at h2;rw [jYA] at h4;obtain ⟨nm,e0,q0⟩:=Xf h0;obtain ⟨ga,gl,gc,e1,g1,g2,g3⟩:=vQr h1;obtain ⟨wa,wl,wc,e2,w1,w2,w3⟩:=qJW h2;obtain ⟨ky,e3,q3⟩:=Xf h3;obtain ⟨j,e4,q4,q5⟩:=kJo h4;simp at e0 e1 e2 e3 e4;obtain ⟨k4,k5,k6,k7⟩:=e4;exact ⟨⟨nm,ga,gl,gc,wa,wl,wc,ky,j⟩,by rw [e0,e1,e2,e3,k4,k5,k6,k7];rfl,⟨q0,q3,q4,g1,g2,g3,w1,w2,w3⟩,q5⟩
structure OArg (w:World) (y:OPB):Prop where
 d:DArg w y.d
 j:JR y.d.j
 s:y.s.size<=9223372036854775807
 o:OPIn y
theorem xJ3 {fuel:Nat} {cs:List Value} {x:DataW H × List MemPlace} (h:DataW.trod enc Tryz.prog w base sp hd fuel 48 cs=some x):∃ y:OPB,cs=y.cells/\OArg w y:=by
 obtain ⟨xs,n,_,_,hlen,hxl,hf⟩:=DataW.trod_struct Tryz.underlying48 h;rw [kOp] at hlen
 match cs,hlen,xs,hxl with
 | [c0,c1,c2,c3,c4,c5,c6,c7,c8,c9,c10,c11,c12],_,[y0,y1,y2,y3,y4,y5],_=>
  have h0:DataW.trod enc Tryz.prog w base sp hd n 3 (([c0,c1,c2,c3,c4,c5,c6,c7,c8,c9,c10,c11,c12].drop 0).take (Tryz.prog.cellsOf 3))=some y0:=hf 0 _ rfl;have h1:DataW.trod enc Tryz.prog w base sp hd n 9 (([c0,c1,c2,c3,c4,c5,c6,c7,c8,c9,c10,c11,c12].drop 1).take (Tryz.prog.cellsOf 9))=some y1:=hf 1 _ rfl;have h2:DataW.trod enc Tryz.prog w base sp hd n 45 (([c0,c1,c2,c3,c4,c5,c6,c7,c8,c9,c10,c11,c12].drop 2).take (Tryz.prog.cellsOf 45))=some y2:=hf 2 _ rfl;have h3:DataW.trod enc Tryz.prog w base sp hd n 4 (([c0,c1,c2,c3,c4,c5,c6,c7,c8,c9,c10,c11,c12].drop 10).take (Tryz.prog.cellsOf 4))=some y3:=hf 3 _ rfl;have h4:DataW.trod enc Tryz.prog w base sp hd n 46 (([c0,c1,c2,c3,c4,c5,c6,c7,c8,c9,c10,c11,c12].drop 11).take (Tryz.prog.cellsOf 46))=some y4:=hf 4 _ rfl;have h5:DataW.trod enc Tryz.prog w base sp hd n 3 (([c0,c1,c2,c3,c4,c5,c6,c7,c8,c9,c10,c11,c12].drop 12).take (Tryz.prog.cellsOf 3))=some y5:=hf 5 _ rfl;rw [kInt] at h0 h5;rw [kStr] at h1;rw [kDef] at h2;rw [jY1] at h3;rw [show Tryz.prog.cellsOf 46=1 by kernel_rfl] at h4;obtain ⟨k,e0,_,w0⟩:=DataW.trod_int Tryz.underlying3 h0;obtain ⟨s,e1,hs⟩:=Xf h1;obtain ⟨d,e2,hd1,hd2⟩:=jJX h2;obtain ⟨b,e3,_⟩:=DataW.trod_bool Tryz.underlying4 h3;obtain ⟨i,e4,_,w4⟩:=DataW.trod_int Tryz.underlying46 h4;obtain ⟨m,e5,_,w5⟩:=DataW.trod_int Tryz.underlying3 h5;obtain ⟨i0,i1⟩:=vQM w4;obtain ⟨i,rfl⟩:=Int.eq_ofNat_of_zero_le i0;simp [DB.cells] at e0 e1 e2 e3 e4 e5;obtain ⟨k0,k1,k2,k3,k4,k5,k6,k7⟩:=e2;exact ⟨⟨k,s,d,b,i,m⟩,by rw [e0,e1,k0,k1,k2,k3,k4,k5,k6,k7,e3,e4,e5];rfl,hd1,hd2,hs,⟨(Y9 w0).1,(Y9 w0).2,(Y9 w5).1,(Y9 w5).2,(by show i<=_;omega)⟩⟩
theorem xJ6 {r:Reach} {b0:Nat} {v:Value} {d:DataW H} {ps:List MemPlace} (hv:Value.okWide Tryz.prog w r b0 48 v) (h:DataW.Trod enc Tryz.prog w base sp hd 48 v d ps) :
  ∃ y:OPB,v=y.agg/\OArg w y:=by
 obtain ⟨cs,rfl,hcs⟩:=vQk Tryz.underlying48 hv;obtain ⟨fuel,hf⟩:=h;rw [hcs] at hf;obtain ⟨y,e,hy⟩:=xJ3 hf;exact ⟨y,zJQ e,hy⟩
end
end Go.Proofs.YtcbicdencgjfiaaGreatDoor
namespace Go.Proofs.YtcbicdencgjfiaaGreatDoor
open Go Go.RowKit Tryst Go.ChangeShapes Go.WideShapes Go.Joins
section
variable {H:Type} {enc:TypeId × Value->H} {w:World} {base:Nat} {sp:Nat->Bool} {hd:Bool}
theorem zJ5 {fuel:Nat} {cs:List Value} {x:DataW H × List MemPlace} (h:DataW.trod enc Tryz.prog w base sp hd fuel 104 cs=some x):∃ y:LB,cs=LB.cells y/\(y.producer.size<=9223372036854775807/\y.seq < 2 ^ 64/\I64 y.off):=by
 obtain ⟨xs,n,_,_,hlen,hxl,hf⟩:=DataW.trod_struct Tryz.underlying104 h;rw [show Tryz.prog.cellsOf 104=3 by kernel_rfl] at hlen
 match cs,hlen,xs,hxl with
 | [c0,c1,c2],_,[y0,y1,y2],_=>
  have h0:DataW.trod enc Tryz.prog w base sp hd n 9 (([c0,c1,c2].drop 0).take (Tryz.prog.cellsOf 9))=some y0:=hf 0 _ rfl;have h1:DataW.trod enc Tryz.prog w base sp hd n 46 (([c0,c1,c2].drop 1).take (Tryz.prog.cellsOf 46))=some y1:=hf 1 _ rfl;have h2:DataW.trod enc Tryz.prog w base sp hd n 3 (([c0,c1,c2].drop 2).take (Tryz.prog.cellsOf 3))=some y2:=hf 2 _ rfl;rw [show Tryz.prog.cellsOf 9=1 by kernel_rfl] at h0;rw [show Tryz.prog.cellsOf 46=1 by kernel_rfl] at h1;rw [show Tryz.prog.cellsOf 3=1 by kernel_rfl] at h2;obtain ⟨s0,e0,q0⟩:=Xf h0;obtain ⟨u1,e1,_,w1⟩:=DataW.trod_int Tryz.underlying46 h1;obtain ⟨z1,q1⟩:=vQM w1;obtain ⟨i1,rfl⟩:=Int.eq_ofNat_of_zero_le z1;obtain ⟨i2,e2,_,w2⟩:=DataW.trod_int Tryz.underlying3 h2;have q2:=Y9 w2;simp at e0 e1 e2;exact ⟨⟨s0,i1,i2⟩,by rw [e0,e1,e2];rfl,q0,by show i1 < _;omega,q2⟩
theorem qJM {fuel:Nat} {cs:List Value} {x:DataW H × List MemPlace} (h:DataW.trod enc Tryz.prog w base sp hd fuel 23 cs=some x) :
  ∃ (a:Option Addr) (l:List LB) (c:Nat),cs=[.slice a l.length c]/\Row w a 3 (l.map LB.cells)/\(∀ y∈l,(y.producer.size<=9223372036854775807/\y.seq < 2 ^ 64/\I64 y.off))/\l.length<=9223372036854775807/\l.length<=c:=
 Y7 LB.cells (fun y=>(y.producer.size<=9223372036854775807/\y.seq < 2 ^ 64/\I64 y.off)) ⟨⟨#[]⟩,0,0⟩ (by decide) Tryz.underlying23 (by kernel_rfl) (fun y=>rfl) (fun h=>zJ5 h) h
theorem zJH {fuel:Nat} {cs:List Value} {x:DataW H × List MemPlace} (h:DataW.trod enc Tryz.prog w base sp hd fuel 126 cs=some x):∃ y:OB,cs=OB.cells y/\(y.topic.size<=9223372036854775807/\I64 y.next):=by
 obtain ⟨xs,n,_,_,hlen,hxl,hf⟩:=DataW.trod_struct Tryz.underlying126 h;rw [show Tryz.prog.cellsOf 126=2 by kernel_rfl] at hlen
 match cs,hlen,xs,hxl with
 | [c0,c1],_,[y0,y1],_=>
  have h0:DataW.trod enc Tryz.prog w base sp hd n 9 (([c0,c1].drop 0).take (Tryz.prog.cellsOf 9))=some y0:=hf 0 _ rfl;have h1:DataW.trod enc Tryz.prog w base sp hd n 3 (([c0,c1].drop 1).take (Tryz.prog.cellsOf 3))=some y1:=hf 1 _ rfl;rw [show Tryz.prog.cellsOf 9=1 by kernel_rfl] at h0;rw [show Tryz.prog.cellsOf 3=1 by kernel_rfl] at h1;obtain ⟨s0,e0,q0⟩:=Xf h0;obtain ⟨i1,e1,_,w1⟩:=DataW.trod_int Tryz.underlying3 h1;have q1:=Y9 w1;simp at e0 e1;exact ⟨⟨s0,i1⟩,by rw [e0,e1];rfl,q0,q1⟩
theorem kJK {fuel:Nat} {cs:List Value} {x:DataW H × List MemPlace} (h:DataW.trod enc Tryz.prog w base sp hd fuel 65 cs=some x) :
  ∃ (a:Option Addr) (l:List OB) (c:Nat),cs=[.slice a l.length c]/\Row w a 2 (l.map OB.cells)/\(∀ y∈l,(y.topic.size<=9223372036854775807/\I64 y.next))/\l.length<=9223372036854775807/\l.length<=c:=
 Y7 OB.cells (fun y=>(y.topic.size<=9223372036854775807/\I64 y.next)) ⟨⟨#[]⟩,0⟩ (by decide) Tryz.underlying65 (by kernel_rfl) (fun y=>rfl) (fun h=>zJH h) h
theorem kJF {fuel:Nat} {cs:List Value} {x:DataW H × List MemPlace} (h:DataW.trod enc Tryz.prog w base sp hd fuel 155 cs=some x):∃ y:KpB,cs=KpB.cells y/\kQq (KpB.p y):=by
 obtain ⟨xs,n,_,_,hlen,hxl,hf⟩:=DataW.trod_struct Tryz.underlying155 h;rw [show Tryz.prog.cellsOf 155=3 by kernel_rfl] at hlen
 match cs,hlen,xs,hxl with
 | [c0,c1,c2],_,[y0,y1,y2],_=>
  have h0:DataW.trod enc Tryz.prog w base sp hd n 3 (([c0,c1,c2].drop 0).take (Tryz.prog.cellsOf 3))=some y0:=hf 0 _ rfl;have h1:DataW.trod enc Tryz.prog w base sp hd n 46 (([c0,c1,c2].drop 1).take (Tryz.prog.cellsOf 46))=some y1:=hf 1 _ rfl;have h2:DataW.trod enc Tryz.prog w base sp hd n 3 (([c0,c1,c2].drop 2).take (Tryz.prog.cellsOf 3))=some y2:=hf 2 _ rfl;rw [show Tryz.prog.cellsOf 3=1 by kernel_rfl] at h0;rw [show Tryz.prog.cellsOf 46=1 by kernel_rfl] at h1;rw [show Tryz.prog.cellsOf 3=1 by kernel_rfl] at h2;obtain ⟨i0,e0,_,w0⟩:=DataW.trod_int Tryz.underlying3 h0;have q0:=Y9 w0;obtain ⟨u1,e1,_,w1⟩:=DataW.trod_int Tryz.underlying46 h1;obtain ⟨z1,q1⟩:=vQM w1;obtain ⟨i1,rfl⟩:=Int.eq_ofNat_of_zero_le z1;obtain ⟨i2,e2,_,w2⟩:=DataW.trod_int Tryz.underlying3 h2;have q2:=Y9 w2;simp at e0 e1 e2;exact ⟨⟨i0,i1,i2⟩,by rw [e0,e1,e2];rfl,q0,by show i1 < _;omega,q2⟩
theorem qJ1 {fuel:Nat} {cs:List Value} {x:DataW H × List MemPlace} (h:DataW.trod enc Tryz.prog w base sp hd fuel 128 cs=some x) :
  ∃ (a:Option Addr) (l:List KpB) (c:Nat),cs=[.slice a l.length c]/\Row w a 3 (l.map KpB.cells)/\(∀ y∈l,kQq (KpB.p y))/\l.length<=9223372036854775807/\l.length<=c:=
 Y7 KpB.cells (fun y=>kQq (KpB.p y)) ⟨0,0,0⟩ (by decide) Tryz.underlying128 (by kernel_rfl) (fun y=>rfl) (fun h=>kJF h) h
def IArg (w:World) (y:InB):Prop:=Xg w y.la y.l/\(y.s.size<=9223372036854775807/\y.l.length<=9223372036854775807/\y.l.length<=y.lc)/\I64 y.n/\∀ k∈y.l,kQq (KpB.p k)
theorem kJx {fuel:Nat} {cs:List Value} {x:DataW H × List MemPlace} (h:DataW.trod enc Tryz.prog w base sp hd fuel 130 cs=some x):∃ y:InB,cs=y.cells/\IArg w y:=by
 obtain ⟨xs,n,_,_,hlen,hxl,hf⟩:=DataW.trod_struct Tryz.underlying130 h;rw [show Tryz.prog.cellsOf 130=4 by kernel_rfl] at hlen
 match cs,hlen,xs,hxl with
 | [c0,c1,c2,c3],_,[y0,y1],_=>
  have h0:DataW.trod enc Tryz.prog w base sp hd n 121 (([c0,c1,c2,c3].drop 0).take (Tryz.prog.cellsOf 121))=some y0:=hf 0 _ rfl;have h1:DataW.trod enc Tryz.prog w base sp hd n 128 (([c0,c1,c2,c3].drop 3).take (Tryz.prog.cellsOf 128))=some y1:=hf 1 _ rfl;rw [show Tryz.prog.cellsOf 121=3 by kernel_rfl] at h0;rw [show Tryz.prog.cellsOf 128=1 by kernel_rfl] at h1;obtain ⟨b,n,s,e0,q1,q2,q3⟩:=jJC h0;obtain ⟨a,l,c,e1,r1,r2,r3,r4⟩:=qJ1 h1;simp at e0 e1;obtain ⟨k0,k1,k2⟩:=e0;exact ⟨⟨b,n,s,a,l,c⟩,by rw [k0,k1,k2,e1];rfl,r1,⟨q1,r3,r4⟩,⟨q2,q3⟩,r2⟩
theorem jJr {fuel:Nat} {cs:List Value} {x:DataW H × List MemPlace} (h:DataW.trod enc Tryz.prog w base sp hd fuel 66 cs=some x) :
  ∃ (a:Option Addr) (l:List InB) (c:Nat),cs=[.slice a l.length c]/\Row w a 4 (l.map InB.cells)/\(∀ y∈l,IArg w y)/\l.length<=9223372036854775807/\l.length<=c:=
 Y7 InB.cells (fun y=>IArg w y) ⟨false,0,⟨#[]⟩,none,[],0⟩ (by decide) Tryz.underlying66 (by kernel_rfl) (fun y=>rfl) (fun h=>kJx h) h
def zJV (w:World) (y:SubB):Prop:=SArg w y/\JR y.d.j/\(∀ o∈y.ol,I64 o.next)/\(∀ i∈y.il,I64 i.n/\∀ k∈i.l,kQq (KpB.p k))/\I64 y.fails/\I64 y.taken/\I64 y.passes/\I64 y.fires/\I64 y.over
theorem vJh {fuel:Nat} {cs:List Value} {x:DataW H × List MemPlace} (h:DataW.trod enc Tryz.prog w base sp hd fuel 68 cs=some x):∃ y:SubB,cs=y.cells/\zJV w y:=by
 obtain ⟨xs,n,_,_,hlen,hxl,hf⟩:=DataW.trod_struct Tryz.underlying68 h;rw [show Tryz.prog.cellsOf 68=15 by kernel_rfl] at hlen
 match cs,hlen,xs,hxl with
 | [c0,c1,c2,c3,c4,c5,c6,c7,c8,c9,c10,c11,c12,c13,c14],_,[y0,y1,y2,y3,y4,y5,y6,y7],_=>
  have h0:DataW.trod enc Tryz.prog w base sp hd n 45 (([c0,c1,c2,c3,c4,c5,c6,c7,c8,c9,c10,c11,c12,c13,c14].drop 0).take (Tryz.prog.cellsOf 45))=some y0:=hf 0 _ rfl;have h1:DataW.trod enc Tryz.prog w base sp hd n 65 (([c0,c1,c2,c3,c4,c5,c6,c7,c8,c9,c10,c11,c12,c13,c14].drop 8).take (Tryz.prog.cellsOf 65))=some y1:=hf 1 _ rfl;have h2:DataW.trod enc Tryz.prog w base sp hd n 66 (([c0,c1,c2,c3,c4,c5,c6,c7,c8,c9,c10,c11,c12,c13,c14].drop 9).take (Tryz.prog.cellsOf 66))=some y2:=hf 2 _ rfl;have h3:DataW.trod enc Tryz.prog w base sp hd n 3 (([c0,c1,c2,c3,c4,c5,c6,c7,c8,c9,c10,c11,c12,c13,c14].drop 10).take (Tryz.prog.cellsOf 3))=some y3:=hf 3 _ rfl;have h4:DataW.trod enc Tryz.prog w base sp hd n 3 (([c0,c1,c2,c3,c4,c5,c6,c7,c8,c9,c10,c11,c12,c13,c14].drop 11).take (Tryz.prog.cellsOf 3))=some y4:=hf 4 _ rfl;have h5:DataW.trod enc Tryz.prog w base sp hd n 3 (([c0,c1,c2,c3,c4,c5,c6,c7,c8,c9,c10,c11,c12,c13,c14].drop 12).take (Tryz.prog.cellsOf 3))=some y5:=hf 5 _ rfl;have h6:DataW.trod enc Tryz.prog w base sp hd n 3 (([c0,c1,c2,c3,c4,c5,c6,c7,c8,c9,c10,c11,c12,c13,c14].drop 13).take (Tryz.prog.cellsOf 3))=some y6:=hf 6 _ rfl;have h7:DataW.trod enc Tryz.prog w base sp hd n 3 (([c0,c1,c2,c3,c4,c5,c6,c7,c8,c9,c10,c11,c12,c13,c14].drop 14).take (Tryz.prog.cellsOf 3))=some y7:=hf 7 _ rfl;rw [show Tryz.prog.cellsOf 45=8 by kernel_rfl] at h0;rw [show Tryz.prog.cellsOf 65=1 by kernel_rfl] at h1;rw [show Tryz.prog.cellsOf 66=1 by kernel_rfl] at h2;rw [show Tryz.prog.cellsOf 3=1 by kernel_rfl] at h3;rw [show Tryz.prog.cellsOf 3=1 by kernel_rfl] at h4;rw [show Tryz.prog.cellsOf 3=1 by kernel_rfl] at h5;rw [show Tryz.prog.cellsOf 3=1 by kernel_rfl] at h6;rw [show Tryz.prog.cellsOf 3=1 by kernel_rfl] at h7;obtain ⟨d,e0,hd1,hd2⟩:=jJX h0;obtain ⟨oa,ol,oc,e1,r1,r2,r3,_⟩:=kJK h1;obtain ⟨ia,il,ic,e2,p1,p2,p3,_⟩:=jJr h2;obtain ⟨i3,e3,_,w3⟩:=DataW.trod_int Tryz.underlying3 h3;have q3:=Y9 w3;obtain ⟨i4,e4,_,w4⟩:=DataW.trod_int Tryz.underlying3 h4;have q4:=Y9 w4;obtain ⟨i5,e5,_,w5⟩:=DataW.trod_int Tryz.underlying3 h5;have q5:=Y9 w5;obtain ⟨i6,e6,_,w6⟩:=DataW.trod_int Tryz.underlying3 h6;have q6:=Y9 w6;obtain ⟨i7,e7,_,w7⟩:=DataW.trod_int Tryz.underlying3 h7;have q7:=Y9 w7;simp [DB.cells] at e0 e1 e2 e3 e4 e5 e6 e7;obtain ⟨k0,k1,k2,k3,k4,k5,k6,k7⟩:=e0;exact ⟨⟨d,oa,ol,oc,ia,il,ic,i3,i4,i5,i6,i7⟩,by rw [k0,k1,k2,k3,k4,k5,k6,k7,e1,e2,e3,e4,e5,e6,e7];rfl,⟨hd1,r1,r3,fun y hy=>(r2 y hy).1,⟨p1,fun y hy=>(p2 y hy).1⟩,p3,fun y hy=>(p2 y hy).2.1⟩,hd2,fun y hy=>(r2 y hy).2,fun y hy=>(p2 y hy).2.2,q3,q4,q5,q6,q7⟩
theorem kJZ {fuel:Nat} {cs:List Value} {x:DataW H × List MemPlace} (h:DataW.trod enc Tryz.prog w base sp hd fuel 24 cs=some x) :
  ∃ (a:Option Addr) (l:List SubB) (c:Nat),cs=[.slice a l.length c]/\Row w a 15 (l.map SubB.cells)/\(∀ y∈l,zJV w y)/\l.length<=9223372036854775807/\l.length<=c:=
 Y7 SubB.cells (fun y=>zJV w y) ⟨DB.zero,none,[],0,none,[],0,0,0,0,0,0⟩ (by decide) Tryz.underlying24 (by kernel_rfl) (fun y=>rfl) (fun h=>vJh h) h
theorem xJe {fuel:Nat} {cs:List Value} {x:DataW H × List MemPlace} (h:DataW.trod enc Tryz.prog w base sp hd fuel 46 cs=some x):∃ n:Nat,cs=[.int .u64 n]/\n < 2 ^ 64:=by
 obtain ⟨u,e,_,w1⟩:=DataW.trod_int Tryz.underlying46 h;obtain ⟨z,q⟩:=vQM w1;obtain ⟨i,rfl⟩:=Int.eq_ofNat_of_zero_le z;exact ⟨i,e,by omega⟩
def qJO (w:World) (y:UB):Prop:=Row w y.ia 1 (y.ids.map idK.cells)/\(y.sub.size<=9223372036854775807/\y.ids.length<=9223372036854775807/\y.ids.length<=y.ic)/\y.id < 2 ^ 64/\(∀ n∈y.ids,n < 2 ^ 64)/\I64 y.tries/\I64 y.due
theorem vJr {fuel:Nat} {cs:List Value} {x:DataW H × List MemPlace} (h:DataW.trod enc Tryz.prog w base sp hd fuel 88 cs=some x) :
  ∃ (a:Option Addr) (l:List Nat) (c:Nat),cs=[.slice a l.length c]/\Row w a 1 (l.map (fun n:Nat=>[Value.int .u64 n]))/\(∀ y∈l,y < 2 ^ 64)/\l.length<=9223372036854775807/\l.length<=c:=
 Y7 (fun n:Nat=>[Value.int .u64 n]) (fun y=>y < 2 ^ 64) 0 (by decide) Tryz.underlying88 (by kernel_rfl) (fun y=>rfl) (fun h=>xJe h) h
theorem xJ1 {fuel:Nat} {cs:List Value} {x:DataW H × List MemPlace} (h:DataW.trod enc Tryz.prog w base sp hd fuel 90 cs=some x):∃ y:UB,cs=UB.cells y/\qJO w y:=by
 obtain ⟨xs,n,_,_,hlen,hxl,hf⟩:=DataW.trod_struct Tryz.underlying90 h;rw [show Tryz.prog.cellsOf 90=5 by kernel_rfl] at hlen
 match cs,hlen,xs,hxl with
 | [c0,c1,c2,c3,c4],_,[y0,y1,y2,y3,y4],_=>
  have h0:DataW.trod enc Tryz.prog w base sp hd n 46 (([c0,c1,c2,c3,c4].drop 0).take (Tryz.prog.cellsOf 46))=some y0:=hf 0 _ rfl;have h1:DataW.trod enc Tryz.prog w base sp hd n 9 (([c0,c1,c2,c3,c4].drop 1).take (Tryz.prog.cellsOf 9))=some y1:=hf 1 _ rfl;have h2:DataW.trod enc Tryz.prog w base sp hd n 88 (([c0,c1,c2,c3,c4].drop 2).take (Tryz.prog.cellsOf 88))=some y2:=hf 2 _ rfl;have h3:DataW.trod enc Tryz.prog w base sp hd n 3 (([c0,c1,c2,c3,c4].drop 3).take (Tryz.prog.cellsOf 3))=some y3:=hf 3 _ rfl;have h4:DataW.trod enc Tryz.prog w base sp hd n 3 (([c0,c1,c2,c3,c4].drop 4).take (Tryz.prog.cellsOf 3))=some y4:=hf 4 _ rfl;rw [show Tryz.prog.cellsOf 46=1 by kernel_rfl] at h0;rw [show Tryz.prog.cellsOf 9=1 by kernel_rfl] at h1;rw [show Tryz.prog.cellsOf 88=1 by kernel_rfl] at h2;rw [show Tryz.prog.cellsOf 3=1 by kernel_rfl] at h3;rw [show Tryz.prog.cellsOf 3=1 by kernel_rfl] at h4;obtain ⟨u0,e0,_,w0⟩:=DataW.trod_int Tryz.underlying46 h0;obtain ⟨z0,q0⟩:=vQM w0;obtain ⟨i0,rfl⟩:=Int.eq_ofNat_of_zero_le z0;obtain ⟨s1,e1,q1⟩:=Xf h1;obtain ⟨a,l,c,e2,r1,r2,r3,r4⟩:=vJr h2;obtain ⟨i3,e3,_,w3⟩:=DataW.trod_int Tryz.underlying3 h3;have q3:=Y9 w3;obtain ⟨i4,e4,_,w4⟩:=DataW.trod_int Tryz.underlying3 h4;have q4:=Y9 w4;simp at e0 e1 e2 e3 e4;exact ⟨⟨i0,s1,a,c,l,i3,i4⟩,by rw [e0,e1,e2,e3,e4];rfl,r1,⟨q1,r3,r4⟩,by show i0 < _;omega,r2,q3,q4⟩
theorem vQZ {fuel:Nat} {cs:List Value} {x:DataW H × List MemPlace} (h:DataW.trod enc Tryz.prog w base sp hd fuel 25 cs=some x) :
  ∃ (a:Option Addr) (l:List UB) (c:Nat),cs=[.slice a l.length c]/\Row w a 5 (l.map UB.cells)/\(∀ y∈l,qJO w y)/\l.length<=9223372036854775807/\l.length<=c:=
 Y7 UB.cells (fun y=>qJO w y) ⟨0,⟨#[]⟩,none,0,[],0,0⟩ (by decide) Tryz.underlying25 (by kernel_rfl) (fun y=>rfl) (fun h=>xJ1 h) h
theorem zJ4 {fuel:Nat} {cs:List Value} {x:DataW H × List MemPlace} (h:DataW.trod enc Tryz.prog w base sp hd fuel 74 cs=some x):∃ y:DeadB,cs=y.cells/\(y.sub.size<=9223372036854775807/\y.e.size<=9223372036854775807):=by
 obtain ⟨xs,n,_,_,hlen,hxl,hf⟩:=DataW.trod_struct Tryz.underlying74 h;rw [show Tryz.prog.cellsOf 74=2 by kernel_rfl] at hlen
 match cs,hlen,xs,hxl with
 | [c0,c1],_,[y0,y1],_=>
  have h0:DataW.trod enc Tryz.prog w base sp hd n 9 (([c0,c1].drop 0).take (Tryz.prog.cellsOf 9))=some y0:=hf 0 _ rfl;have h1:DataW.trod enc Tryz.prog w base sp hd n 9 (([c0,c1].drop 1).take (Tryz.prog.cellsOf 9))=some y1:=hf 1 _ rfl;rw [show Tryz.prog.cellsOf 9=1 by kernel_rfl] at h0;rw [show Tryz.prog.cellsOf 9=1 by kernel_rfl] at h1;obtain ⟨s0,e0,q0⟩:=Xf h0;obtain ⟨s1,e1,q1⟩:=Xf h1;simp at e0 e1;exact ⟨⟨s0,s1⟩,by rw [e0,e1];rfl,q0,q1⟩
theorem jJk {fuel:Nat} {cs:List Value} {x:DataW H × List MemPlace} (h:DataW.trod enc Tryz.prog w base sp hd fuel 26 cs=some x) :
  ∃ (a:Option Addr) (l:List DeadB) (c:Nat),cs=[.slice a l.length c]/\Row w a 2 (l.map DeadB.cells)/\(∀ y∈l,(y.sub.size<=9223372036854775807/\y.e.size<=9223372036854775807))/\l.length<=9223372036854775807/\l.length<=c:=
 Y7 DeadB.cells (fun y=>(y.sub.size<=9223372036854775807/\y.e.size<=9223372036854775807)) ⟨⟨#[]⟩,⟨#[]⟩⟩ (by decide) Tryz.underlying26 (by kernel_rfl) (fun y=>rfl) (fun h=>zJ4 h) h
theorem jJE {fuel:Nat} {cs:List Value} {x:DataW H × List MemPlace} (h:DataW.trod enc Tryz.prog w base sp hd fuel 28 cs=some x):∃ y:RtB,cs=y.cells/\RArg w y/\RNum y:=by
 obtain ⟨xs,n,_,_,hlen,hxl,hf⟩:=DataW.trod_struct Tryz.underlying28 h;rw [show Tryz.prog.cellsOf 28=8 by kernel_rfl] at hlen
 match cs,hlen,xs,hxl with
 | [c0,c1,c2,c3,c4,c5,c6,c7],_,[y0,y1,y2,y3,y4,y5,y6,y7],_=>
  have h0:DataW.trod enc Tryz.prog w base sp hd n 3 (([c0,c1,c2,c3,c4,c5,c6,c7].drop 0).take (Tryz.prog.cellsOf 3))=some y0:=hf 0 _ rfl;have h1:DataW.trod enc Tryz.prog w base sp hd n 22 (([c0,c1,c2,c3,c4,c5,c6,c7].drop 1).take (Tryz.prog.cellsOf 22))=some y1:=hf 1 _ rfl;have h2:DataW.trod enc Tryz.prog w base sp hd n 23 (([c0,c1,c2,c3,c4,c5,c6,c7].drop 2).take (Tryz.prog.cellsOf 23))=some y2:=hf 2 _ rfl;have h3:DataW.trod enc Tryz.prog w base sp hd n 24 (([c0,c1,c2,c3,c4,c5,c6,c7].drop 3).take (Tryz.prog.cellsOf 24))=some y3:=hf 3 _ rfl;have h4:DataW.trod enc Tryz.prog w base sp hd n 3 (([c0,c1,c2,c3,c4,c5,c6,c7].drop 4).take (Tryz.prog.cellsOf 3))=some y4:=hf 4 _ rfl;have h5:DataW.trod enc Tryz.prog w base sp hd n 25 (([c0,c1,c2,c3,c4,c5,c6,c7].drop 5).take (Tryz.prog.cellsOf 25))=some y5:=hf 5 _ rfl;have h6:DataW.trod enc Tryz.prog w base sp hd n 25 (([c0,c1,c2,c3,c4,c5,c6,c7].drop 6).take (Tryz.prog.cellsOf 25))=some y6:=hf 6 _ rfl;have h7:DataW.trod enc Tryz.prog w base sp hd n 26 (([c0,c1,c2,c3,c4,c5,c6,c7].drop 7).take (Tryz.prog.cellsOf 26))=some y7:=hf 7 _ rfl;rw [show Tryz.prog.cellsOf 3=1 by kernel_rfl] at h0;rw [show Tryz.prog.cellsOf 22=1 by kernel_rfl] at h1;rw [show Tryz.prog.cellsOf 23=1 by kernel_rfl] at h2;rw [show Tryz.prog.cellsOf 24=1 by kernel_rfl] at h3;rw [show Tryz.prog.cellsOf 3=1 by kernel_rfl] at h4;rw [show Tryz.prog.cellsOf 25=1 by kernel_rfl] at h5;rw [show Tryz.prog.cellsOf 25=1 by kernel_rfl] at h6;rw [show Tryz.prog.cellsOf 26=1 by kernel_rfl] at h7;obtain ⟨i0,e0,_,w0⟩:=DataW.trod_int Tryz.underlying3 h0;have q0:=Y9 w0;obtain ⟨ta,tl,tc,e1,t1,t2,t3⟩:=zJ8 h1;obtain ⟨la,ll,lc,e2,l1,l2,l3,_⟩:=qJM h2;obtain ⟨sa,sl,sc,e3,s1,s2,s3,_⟩:=kJZ h3;obtain ⟨i4,e4,_,w4⟩:=DataW.trod_int Tryz.underlying3 h4;have q4:=Y9 w4;obtain ⟨ua,ul,uc,e5,u1,u2,u3,_⟩:=vQZ h5;obtain ⟨ga,gl,gc,e6,g1,g2,g3,_⟩:=vQZ h6;obtain ⟨da,dl,dc,e7,d1,d2,d3,_⟩:=jJk h7;simp at e0 e1 e2 e3 e4 e5 e6 e7;exact ⟨⟨i0,ta,tl,tc,la,ll,lc,sa,sl,sc,i4,ua,ul,uc,ga,gl,gc,da,dl,dc⟩,by rw [e0,e1,e2,e3,e4,e5,e6,e7];rfl,⟨t1,t3,fun t ht=>⟨(t2 t ht).1,(t2 t ht).2.1,(t2 t ht).2.2.1⟩,l1,l3,fun y hy=>(l2 y hy).1,s1,fun y hy=>(s2 y hy).1,s3,⟨u1,u3,fun y hy=>(u2 y hy).2.1,fun y hy=>(u2 y hy).1⟩,⟨g1,g3,fun y hy=>(g2 y hy).2.1,fun y hy=>(g2 y hy).1⟩,d1,d3,d2⟩,⟨q0,q4,fun y hy=>(t2 y hy).2.2.2,fun y hy=>(l2 y hy).2,fun y hy=>⟨⟨(s2 y hy).2.1.p0,(s2 y hy).2.1.p1⟩,⟨(s2 y hy).2.1.n0,(s2 y hy).2.1.n1⟩,⟨(s2 y hy).2.1.w0,(s2 y hy).2.1.w1⟩⟩,fun y hy=>(s2 y hy).2.2.1,fun y hy=>(s2 y hy).2.2.2.1,fun y hy=>(s2 y hy).2.2.2.2,fun y hy=>(u2 y hy).2.2,fun y hy=>(g2 y hy).2.2⟩⟩
theorem zQR {r:Reach} {b0:Nat} {v:Value} {d:DataW H} {ps:List MemPlace} (hv:Value.okWide Tryz.prog w r b0 28 v) (h:DataW.Trod enc Tryz.prog w base sp hd 28 v d ps) :
  ∃ y:RtB,v=y.agg/\(RArg w y/\RNum y):=by
 obtain ⟨cs,rfl,hcs⟩:=vQk Tryz.underlying28 hv;obtain ⟨fuel,hf⟩:=h;rw [hcs] at hf;obtain ⟨y,e,hy⟩:=jJE hf;exact ⟨y,zJQ e,hy⟩
end
