import Derived.Test.YtcbicdencgjfiaaGreatDoorCut20
import Derived.Test.YtcbicdencgjfiaaGreatDoorFew16
import Derived.Test.YtcbicdencgjfiaaGreatDoorPenK
import Derived.Test.YtcbicdencgjfiaaGreatDoorPenRt
set_option linter.all false
set_option maxHeartbeats 8000000
set_option maxRecDepth 20000
namespace Go.Proofs.YtcbicdencgjfiaaGreatDoor
open Go Go.RowKit Tryst
theorem qJZ {α:Type} {f:Option α->α->Bool}:∀ {l:List α} {q:Option α},okK f q l=true->∀ x∈l,∃ p,f p x=true
 | [],_,_,x,hx=>by cases hx
 | y :: l,q,h,x,hx=>by
  rw [okK,Bool.and_eq_true] at h
  rcases List.mem_cons.1 hx with rfl | hx
  · exact ⟨q,h.1⟩
  · exact qJZ h.2 x hx
theorem jQR {r:RtB} (h:Xx r=true):∀ x∈r.sl,mayD x.d=true/\∀ i∈x.il,i.key.May:=by
 unfold Xx at h;simp only [Bool.and_eq_true] at h;obtain ⟨_,_,_,_,h5,_,_⟩:=h;unfold qQP at h5;rw [Bool.and_eq_true] at h5;intro x hx;obtain ⟨p,hp⟩:=qJZ h5.1 x hx;unfold jQr kQJ kQ9 qQM at hp;simp only [Bool.and_eq_true] at hp;obtain ⟨⟨_,_,h6,_,_,h7,_⟩,_⟩:=hp;refine ⟨h6,fun i hi=>?_⟩;obtain ⟨_,_,h8⟩:=h7;refine xQG (P:=fun i:InB=>i.key.May) (fun p x hx=>?_) _ _ h8 i hi;unfold kQ6 at hx;simp only [Bool.and_eq_true] at hx;have h9:=hx.1;unfold V.mayB at h9
 simpa using h9
theorem vJZ {α:Type} {f:α->List UInt8} {B:Nat}:∀ {l:List α},(∀ x∈l,(f x).length<=B)->(l.flatMap f).length<=l.length*B
 | [],_=>by simp
 | x :: l,h=>by
  have h1:=h x List.mem_cons_self;have h2:=vJZ (l:=l) (fun y hy=>h y (List.mem_cons_of_mem _ hy));rw [List.flatMap_cons,List.length_append,List.length_cons,Nat.succ_mul];omega
theorem qQL {α:Type} {f:α->List UInt8} {B n:Nat} {l:List α} (h:∀ x∈l,(f x).length<=B) (hn:l.length<=n):(Qf f l).length<=10+n*B:=by
 have h1:=vJZ h;have h2:=Nat.mul_le_mul_right B hn;have h3:=Jf l.length;unfold Qf;rw [List.length_append];omega
theorem qQ9 (n:Int):(numL n).length<=10:=Jf _
theorem vQ1 {s:ByteArray} {B:Nat} (h:s.size<=B):(strL s).length<=10+B:=by
 unfold strL jQM;rw [List.length_append,Qx];have:=Jf s.size;omega
theorem lay_b (v:V):v.lay.length<=11+v.s.length:=by
 obtain ⟨b,n,s⟩:=v;cases b with
 | true=>
  show ([1]++pack (fold n)).length<=_;have:=Jf (fold n);simp only [List.length_append,List.length_cons,List.length_nil];omega
 | false=>
  show ([2]++pack s.length++s).length<=_;have:=Jf s.length;simp only [List.length_append,List.length_cons,List.length_nil];omega
theorem jYf (s:ByteArray):(few9 s).size<=900:=by
 unfold few9
 split
 · simp;omega
 · omega
theorem vJF (s:ByteArray):(jQP s).size<=900:=by
 unfold jQP
 split
 · simp;omega
 · omega
theorem few_b (s:ByteArray):(few s).data.toList.length<=70:=by
 rw [Qx];exact qJC s
theorem vJp {l k:List UB} (h:k.map UB.p=(l.take 101).map jQk):(Qf outL (k.map UB.p)).length<=10+101*500:=by
 refine qQL (fun y hy=>?_) (by rw [h,List.length_map,List.length_take];omega);rw [h] at hy;obtain ⟨z,_,rfl⟩:=List.mem_map.1 hy;have h1:=Jf z.id;have h2:=vQ1 (Z7 z.sub);have h3:=qQL (f:=pack) (B:=10) (n:=31) (l:=z.ids.take 31) (fun x _=>Jf x) (by rw [List.length_take];omega);have h4:=qQ9 z.tries;have h5:=qQ9 z.due;unfold outL jQk;simp only [List.length_append];omega
theorem vQR {r:RtB} (h:Xx r=true):r.sl.length<=8:=by
 unfold Xx at h;simp only [Bool.and_eq_true] at h;obtain ⟨_,_,_,_,h5,_,_⟩:=h;unfold qQP at h5;rw [Bool.and_eq_true,decide_eq_true_eq] at h5;exact h5.2
theorem FewRt.len {r x:RtB} (h:FewRt r x) (hs8:x.sl.length<=8) (hd:∀ z∈x.sl,(defL z.d.dp).length<=80000):(rtL (RtB.p x)).length<=1450000:=by
 have t1:(Qf topL (x.tl.map TB.p)).length<=10+21*12000:=by
  have h1:x.tl.map TB.p=(x.tl.map TB.tp).map (fun t=>(t.name,t.first,t.log)):=by rw [List.map_map];rfl
  refine qQL (fun y hy=>?_) (by
   rw [h1,h.t];unfold qQt;simp only [List.length_map,List.length_take];omega)
  rw [h1,h.t] at hy;unfold qQt at hy;simp only [List.map_map,List.mem_map] at hy;obtain ⟨z,_,rfl⟩:=hy;have h2:=vQ1 (Z7 z.name);have h3:=qQ9 z.first
  have h4:=qQL (f:=strL) (B:=910) (n:=12) (l:=((z.log.take 101).map few9).take 12) (fun x hx=>by
   obtain ⟨q,_,rfl⟩:=List.mem_map.1 (List.mem_of_mem_take hx);exact vQ1 (jYf q)) (by rw [List.length_take];omega)
  unfold topL;simp only [Function.comp_apply,kQw,List.length_append];omega
 have t2:(Qf kQ5 (x.ll.map LB.p)).length<=10+51*100:=by
  refine qQL (fun y hy=>?_) (by rw [h.l,List.length_map,List.length_map,List.length_take];omega);rw [h.l,List.map_map] at hy;obtain ⟨z,_,rfl⟩:=List.mem_map.1 hy;have h2:=vQ1 (Z7 z.producer);have h3:=qQ9 z.off;have h4:=Jf z.seq;unfold kQ5;simp only [Function.comp_apply,LB.p,qQX,List.length_append];omega
 have t3:(Qf subL (x.sl.map SubB.p)).length<=10+8*127000:=by
  refine qQL (fun y hy=>?_) (by rw [List.length_map];exact hs8);obtain ⟨z,hz,rfl⟩:=List.mem_map.1 hy;have hq:z.q∈x.sl.map SubB.q:=List.mem_map.2 ⟨z,hz,rfl⟩;rw [h.s] at hq;obtain ⟨u,_,hu⟩:=List.mem_map.1 hq;have u1:z.ol=jQw u.ol:=(congrArg (fun q=>q.2.1) hu).symm;have u2:z.il.map InB.p=(u.il.take 41).map jQT:=(congrArg (fun q=>q.2.2.1) hu).symm;have h1:=hd z hz
  have h2:=qQL (f:=offL) (B:=80) (n:=21) (l:=z.ol.map OB.p) (fun y hy=>by
   rw [u1] at hy;unfold jQw at hy;rw [List.map_map] at hy;obtain ⟨q,_,rfl⟩:=List.mem_map.1 hy;have h2:=vQ1 (Z7 q.topic);have h3:=qQ9 q.next;unfold offL;simp only [Function.comp_apply,OB.p,fewO,List.length_append];omega) (by
   rw [u1];unfold jQw;simp only [List.length_map,List.length_take];omega)
  have h3:=qQL (f:=jQi) (B:=1100) (n:=41) (l:=z.il.map InB.p) (fun y hy=>by
   rw [u2] at hy;obtain ⟨q,_,rfl⟩:=List.mem_map.1 hy;have h2:=lay_b (jQT q).1;have h3:(jQT q).1.s.length<=70:=few_b q.s
   have h4:=qQL (f:=kQR) (B:=30) (n:=31) (l:=(jQT q).2) (fun y hy=>by
    have h5:=qQ9 y.1;have h6:=Jf y.2.1;have h7:=qQ9 y.2.2;unfold kQR;simp only [List.length_append];omega) (by
    show ((q.l.take 31).map KpB.p).length<=31;rw [List.length_map,List.length_take];omega)
   unfold jQi;rw [List.length_append];omega) (by
   rw [u2];simp only [List.length_map,List.length_take];omega)
  have n1:=qQ9 z.fails;have n2:=qQ9 z.taken;have n3:=qQ9 z.passes;have n4:=qQ9 z.fires;have n5:=qQ9 z.over;unfold subL SubB.p;simp only [List.length_append];omega
 have t4:=vJp h.u;have t5:=vJp h.g
 have t6:(Qf qQy (x.dl.map DeadB.p)).length<=10+41*1000:=by
  refine qQL (fun y hy=>?_) (by rw [h.d,List.length_map,List.length_map,List.length_take];omega);rw [h.d,List.map_map] at hy;obtain ⟨z,_,rfl⟩:=List.mem_map.1 hy;have h2:=vQ1 (Z7 z.sub);have h3:=vQ1 (vJF z.e);unfold qQy;simp only [Function.comp_apply,DeadB.p,kQS,List.length_append];omega
 have n1:=qQ9 x.now;have n2:=qQ9 x.total;unfold rtL RtB.p;simp only [List.length_append];omega
theorem qJK (y:RtB) (w:World) (hM:MaxW w) (hT:Tab w) (hW:RtW w y) (hX:RtX y) (hl:Xx y=true->(∀ z∈y.sl,(defL z.d.dp).length<=80000)->(rtL (RtB.p y)).length<=800000000) :
  Calls Tryz.prog 10 #[y.agg] w fun e w'=>e=.returned (.tuple #[.string (if Xx y=true then ⟨(rtL (RtB.p y)).toArray⟩ else ⟨#[]⟩),.int .i64 (if Xx y=true then 0 else 1)])/\Below w.heap.size w w':=by
 have CM:=Zh (fun W (hb:Below w.heap.size w W)=>vQJ y W (hM.grow hb) (((hW.o hX)).grow hb))
 have CP:=Zh (fun (hm:Xx y=true) W0 (hb:Below w.heap.size w W0) X b hX2=>xQ4 y (W0:=W0) (w:=X) (b:=b) (o:=[]) hX2 (hM.grow hb) (hT.grow hb) (hW.grow hb) hX (fun z hz=>qJU (jQR hm z hz).1) (fun z hz=>(jQR hm z hz).2) (by
  have h1:=hl hm (fun z hz=>xQE (fun p hp=>qQd p ((hW.sm z hz).d.wR.po p hp).1) (jQR hm z hz).1)
  simpa using h1))
 have hne:rtL (RtB.p y)≠[]:=fun e=>by
  have h1:=kQp y.now;have h2:=congrArg List.length e;unfold rtL RtB.p at h2;simp only [List.length_append,List.length_nil] at h2;omega
 obtain ⟨m,hm⟩:∃ m,Xx y=m:=⟨_,rfl⟩;rw [hm] at CM CP;rw [hm];generalize rtL (RtB.p y)=L at CP hne ⊢;clear hM hT hW hX hl hm;have HNE:=Zh hne;clear hne;unfold RtB.agg at CM CP ⊢;generalize y.tl.length=tn at CM CP ⊢;generalize y.ll.length=ln at CM CP ⊢;generalize y.sl.length=sn at CM CP ⊢;generalize y.ul.length=un at CM CP ⊢;generalize y.gl.length=gn at CM CP ⊢;generalize y.dl.length=dn at CM CP ⊢;obtain ⟨now,ta,tl,tc,la,ll,lc,sa,sl,sc,total,ua,ul,uc,ga,gl,gc,da,dl,dc⟩:=y;simp only at CM CP ⊢;have HX:=Zh (Var.new w 28 [.int .i64 now,.slice ta tn tc,.slice la ln lc,.slice sa sn sc,.int .i64 total,.slice ua un uc,.slice ga gn gc,.slice da dn dc]);have HB0:=Zh (Qj (.cells #[.int .i64 now,.slice ta tn tc,.slice la ln lc,.slice sa sn sc,.int .i64 total,.slice ua un uc,.slice ga gn gc,.slice da dn dc] 28) (.refl w.heap.size w));go_enter Tryz.func10,Tryz.ntmps10;go_upto_region 1 with fail
 revert HX HB0;simp only [List.toArray];generalize w.alloc (.cells _ 28)=Z;intro HX HB0;obtain ⟨x0,x1,x2,x3,x4,x5,x6,x7⟩:=v8 (HX.out);cases m with
 | false=>
  go_wp2_with fail;refine (CM.out _ HB0.out).mono ?_;rintro e w2 ⟨rfl,hb2⟩;have HB2:=Zh (Qk hb2 HB0.out);clear hb2;go_wp2_with fail;go_ret2;exact ⟨by simp,HB2.out⟩
 | true=>
  go_wp2_with fail;refine (CM.out _ HB0.out).mono ?_;rintro e w2 ⟨rfl,hb2⟩;have HB2:=Zh (Qk hb2 HB0.out);have HX2:=Zh (HX.out.grow hb2);clear hb2 HX HB0 x0 x1 x2 x3 x4 x5 x6 x7;have HP:=Zh (show PenS w2 (w2.alloc (.cells #[.pointer none,.slice none 0 0] 81)) w2.heap.size [] (w2.alloc (.cells #[.pointer none,.slice none 0 0] 81)) from ⟨Lib.fresh_isBuilder 81 5 w2,Qj _ (.refl _ _),Kept.refl _ _⟩);have HX3:=Zh (HX2.out.grow (Qj (.cells #[.pointer none,.slice none 0 0] 81) (.refl _ w2)));go_upto_region 4 with fail
  revert HP HX3;generalize w2.alloc (.cells #[.pointer none,.slice none 0 0] 81)=Y;intro HP HX3;obtain ⟨x0,x1,x2,x3,x4,x5,x6,x7⟩:=v8 (HX3.out);go_wp2_with fail;refine (CP.out (by trivial) w2 HB2.out _ _ HP.out).mono ?_;rintro e w3 ⟨rfl,h3⟩;have H3:=Zh h3;clear h3 HP HX3 x0 x1 x2 x3 x4 x5 x6 x7;go_wp2_with fail;refine (vQl w2.heap.size _ _ _ H3.out.bld HNE.out).mono ?_;rintro e w4 ⟨rfl,hb4⟩;have HB4:=Zh (Qk (H3.out.low.trans hb4) HB2.out);clear hb4 H3;go_wp2_with fail;go_ret2;exact ⟨by simp,HB4.out⟩
end Go.Proofs.YtcbicdencgjfiaaGreatDoor
namespace Go.Proofs.YtcbicdencgjfiaaGreatDoor
open Go Go.RowKit Tryst
end Go.Proofs.YtcbicdencgjfiaaGreatDoor
namespace Go.Proofs.YtcbicdencgjfiaaGreatDoor
open Go Go.RowKit Tryst
end Go.Proofs.YtcbicdencgjfiaaGreatDoor
namespace Go.Proofs.YtcbicdencgjfiaaGreatDoor
open Go Go.RowKit Tryst
end Go.Proofs.YtcbicdencgjfiaaGreatDoor
namespace Go.Proofs.YtcbicdencgjfiaaGreatDoor
open Go Go.RowKit Tryst
@[local go_sem] theorem idp5a (a b c d e:Value) (w:World):(Instr.index 223 (.agg #[a,b,c,d,e]) (.int .i64 0)).run Tryz.prog w=.ok a w:=by kernel_rfl
@[local go_sem] theorem idp5b (a b c d e:Value) (w:World):(Instr.index 223 (.agg #[a,b,c,d,e]) (.int .i64 1)).run Tryz.prog w=.ok b w:=by kernel_rfl
@[local go_sem] theorem idp5c (a b c d e:Value) (w:World):(Instr.index 223 (.agg #[a,b,c,d,e]) (.int .i64 2)).run Tryz.prog w=.ok c w:=by kernel_rfl
@[local go_sem] theorem idp5d (a b c d e:Value) (w:World):(Instr.index 223 (.agg #[a,b,c,d,e]) (.int .i64 3)).run Tryz.prog w=.ok d w:=by kernel_rfl
@[local go_sem] theorem idp5e (a b c d e:Value) (w:World):(Instr.index 223 (.agg #[a,b,c,d,e]) (.int .i64 4)).run Tryz.prog w=.ok e w:=by kernel_rfl
end Go.Proofs.YtcbicdencgjfiaaGreatDoor
namespace Go.Proofs.YtcbicdencgjfiaaGreatDoor
open Go Go.RowKit Tryst
end Go.Proofs.YtcbicdencgjfiaaGreatDoor
namespace Go.Proofs.YtcbicdencgjfiaaGreatDoor
open Go Go.RowKit Tryst
theorem vQ3 {s:ByteArray} (h:s.size<=1500000):StrF s:=by
 show s.data.toList.length < 2 ^ 64;rw [Qx];omega
theorem qQ5 {n:Int} (h:I64 n):NumF n:=jQS h.1 h.2
theorem zJL {l:List UB} (h1:l.length<=1500000) (h2:∀ y∈l.map UB.p,OutX y):qQR OutF (l.map UB.p):=by
 refine ⟨by rw [List.length_map];omega,fun y hy=>?_⟩;obtain ⟨a,b,⟨c,d⟩,e,f⟩:=h2 y hy;exact ⟨a,vQ3 b,⟨by omega,d⟩,qQ5 e,qQ5 f⟩
theorem RtX.f {w:World} {y:RtB} (h:RtX y) (hW:RtW w y) (hm:Xx y=true):RtF (RtB.p y):=by
 have hc:=jQR hm;refine ⟨qQ5 h.now,⟨by show (y.tl.map TB.p).length < _;rw [List.length_map];have:=h.tn;omega,fun t ht=>?_⟩,⟨by show (y.ll.map LB.p).length < _;rw [List.length_map];have:=h.ln;omega,fun t ht=>?_⟩,⟨by show (y.sl.map SubB.p).length < _;rw [List.length_map];have:=h.sn;omega,fun t ht=>?_⟩,qQ5 h.total,zJL h.un h.u,zJL h.gn h.g,⟨by show (y.dl.map DeadB.p).length < _;rw [List.length_map];have:=h.dn;omega,fun t ht=>?_⟩⟩
 · obtain ⟨a,b,c,d⟩:=h.t t ht;exact ⟨vQ3 a,qQ5 b,by omega,fun s hs=>vQ3 (d s hs)⟩
 · obtain ⟨z,hz,rfl⟩:=List.mem_map.1 (show t∈y.ll.map LB.p from ht);obtain ⟨a,b,c⟩:=h.l z hz;exact ⟨vQ3 a,b,qQ5 c⟩
 ·
  obtain ⟨z,hz,rfl⟩:=List.mem_map.1 (show t∈y.sl.map SubB.p from ht);obtain ⟨q1,⟨q2,q3⟩,⟨q4,_,q6⟩,r1,r2,r3,r4,r5⟩:=h.s z.q (List.mem_map.2 ⟨z,hz,rfl⟩);have q2:z.ol.length<=1500000:=q2;refine ⟨jYC (hW.sm z hz).d q1 (hc z hz).1,⟨by show (z.ol.map OB.p).length < _;rw [List.length_map];omega,fun o ho=>?_⟩,⟨by show (z.il.map InB.p).length < _;have:(z.il.map InB.p).length<=1500000:=q4;omega,fun i hi=>?_⟩,qQ5 r1,qQ5 r2,qQ5 r3,qQ5 r4,qQ5 r5⟩
  · obtain ⟨u,hu,rfl⟩:=List.mem_map.1 (show o∈z.ol.map OB.p from ho);exact ⟨vQ3 (q3 u hu).1,qQ5 (q3 u hu).2⟩
  · obtain ⟨u,hu,rfl⟩:=List.mem_map.1 (show i∈z.il.map InB.p from hi);obtain ⟨a,b,c,d⟩:=q6 _ hi;exact ⟨⟨(hc z hz).2 u hu,b⟩,by omega,fun k hk=>⟨qQ5 (d k hk).1,(d k hk).2.1,qQ5 (d k hk).2.2⟩⟩
 · obtain ⟨z,hz,rfl⟩:=List.mem_map.1 (show t∈y.dl.map DeadB.p from ht);obtain ⟨a,b⟩:=h.d z hz;exact ⟨vQ3 a,vQ3 b⟩
end Go.Proofs.YtcbicdencgjfiaaGreatDoor
namespace Go.Proofs.YtcbicdencgjfiaaGreatDoor
open Go Go.RowKit Tryst
def RtB.zero:RtB:=⟨0,none,[],0,none,[],0,none,[],0,0,none,[],0,none,[],0,none,[],0⟩
end Go.Proofs.YtcbicdencgjfiaaGreatDoor
namespace Go.Proofs.YtcbicdencgjfiaaGreatDoor
open Go.RowKit Tryst
theorem RtW.zero (w:World):RtW w RtB.zero:=⟨Row.nil _ _ _,fun t ht=>(by cases ht),Row.nil _ _ _,Row.nil _ _ _,fun t ht=>(by cases ht),Row.nil _ _ _,fun t ht=>(by cases ht),Row.nil _ _ _,fun t ht=>(by cases ht),Row.nil _ _ _⟩
theorem RtX.zero:RtX RtB.zero:=⟨by decide,by decide,by decide,fun t ht=>(by cases ht),by decide,fun t ht=>(by cases ht),by decide,fun t ht=>(by cases ht),by decide,fun t ht=>(by cases ht),by decide,fun t ht=>(by cases ht),by decide,fun t ht=>(by cases ht)⟩
end Go.Proofs.YtcbicdencgjfiaaGreatDoor
namespace Go.Proofs.YtcbicdencgjfiaaGreatDoor
open Go Go.RowKit Tryst
theorem kY9 {tv:Nat->Value} {o:Oper} {P0 S0:Nat} {W:World} {g:Nat} {cs:Array Value} {now total:Int} {ta la sa ua ga da:Option Addr} {tn tc ln lc sn sc un uc gn gc dn dc:Nat} (ho:o.op=.store 28 (.tmp P0) (.tmp S0)) (hp:tv P0=.pointer (some ⟨g,0,none⟩)) (hs:tv S0=.agg #[.int .i64 now,.slice ta tn tc,.slice la ln lc,.slice sa sn sc,.int .i64 total,.slice ua un uc,.slice ga gn gc,.slice da dn dc])
  (hg:W.heap[g]?=some (.cells cs 28 (0,0))) (hc:cs.size=8):(execOp (Tryst2.evOf tv) o).run Tryz.prog W=.ok .skip (Yq W g 0 [.int .i64 now,.slice ta tn tc,.slice la ln lc,.slice sa sn sc,.int .i64 total,.slice ua un uc,.slice ga gn gc,.slice da dn dc]):=by
 obtain ⟨⟨u0,c0⟩,z0⟩:=qYD hg hc (j:=0) (by decide);obtain ⟨⟨u1,c1⟩,z1⟩:=qYD hg hc (j:=1) (by decide);obtain ⟨⟨u2,c2⟩,z2⟩:=qYD hg hc (j:=2) (by decide);obtain ⟨⟨u3,c3⟩,z3⟩:=qYD hg hc (j:=3) (by decide);obtain ⟨⟨u4,c4⟩,z4⟩:=qYD hg hc (j:=4) (by decide);obtain ⟨⟨u5,c5⟩,z5⟩:=qYD hg hc (j:=5) (by decide);obtain ⟨⟨u6,c6⟩,z6⟩:=qYD hg hc (j:=6) (by decide);obtain ⟨⟨u7,c7⟩,z7⟩:=qYD hg hc (j:=7) (by decide);have hlt:=(Array.getElem?_eq_some_iff.1 hg).1;unfold execOp;rw [ho];clear hg hc;go_simp
 first | done | rfl | (simp only [Yq,Nat.zero_add,Nat.reduceAdd])
theorem qYk {tv:Nat->Value} {o:Oper} {P0 S0:Nat} {W:World} {now total:Int} {ta la sa ua ga da:Option Addr} {tn tc ln lc sn sc un uc gn gc dn dc:Nat} (ho:o.op=.store 28 (.tmp P0) (.tmp S0)) (hs:tv S0=.agg #[.int .i64 now,.slice ta tn tc,.slice la ln lc,.slice sa sn sc,.int .i64 total,.slice ua un uc,.slice ga gn gc,.slice da dn dc])
  (hb:∃ (g:Nat) (cs:Array Value),tv P0=.pointer (some ⟨g,0,none⟩)/\W.heap[g]?=some (.cells cs 28 (0,0))/\cs.size=8) :
  Tryst2.stepV Tryz.prog (fun v w''=>∀ g:Nat,tv P0=.pointer (some ⟨g,0,none⟩)->Tryst4.Only g W w''/\w''.heap[g]?=some (.cells (Tryst4.cellsOf (tv S0)).toArray 28 (0,0))/\(Tryst4.cellsOf (tv S0)).length=8) ((execOp (Tryst2.evOf tv) o).run Tryz.prog W):=by
 obtain ⟨g,cs,hp,hg,hc⟩:=hb;rw [kY9 ho hp hs hg hc,Tryst2.stepV_skip];intro g' hg';rw [hp] at hg';simp only [Value.pointer.injEq,Option.some.injEq,Addr.mk.injEq,and_true] at hg';subst hg';have hV:Var W g 28 cs.toList:=hg;have hB:Below g W (Yq W g 0 [.int .i64 now,.slice ta tn tc,.slice la ln lc,.slice sa sn sc,.int .i64 total,.slice ua un uc,.slice ga gn gc,.slice da dn dc]):=Qw (Nat.le_refl g) [.int .i64 now,.slice ta tn tc,.slice la ln lc,.slice sa sn sc,.int .i64 total,.slice ua un uc,.slice ga gn gc,.slice da dn dc] 0 _ (Below.refl g W);have hp2:=hV.put [.int .i64 now,.slice ta tn tc,.slice la ln lc,.slice sa sn sc,.int .i64 total,.slice ua un uc,.slice ga gn gc,.slice da dn dc] (by show 8=_;rw [Array.length_toList,hc]);rw [hs];exact ⟨⟨hB.os,hB.tape,hB.output,Q6 _ _ _,fun b hb=>Qb hb _ _ _⟩,hp2,rfl⟩
theorem kYA (ρ:Operand->Value) (o:Oper) (w:World) (ho:o.op=.alloc 28):(execOp ρ o).run Tryz.prog w=.ok (.value (.pointer (some ⟨w.heap.size,0,none⟩))) (w.alloc (.cells [.int .i64 0,.slice none 0 0,.slice none 0 0,.slice none 0 0,.int .i64 0,.slice none 0 0,.slice none 0 0,.slice none 0 0].toArray 28)):=by
 unfold execOp;rw [ho]
 kernel_rfl
theorem qYu {tv:Nat->Value} {o:Oper} {P0 S0:Nat} {W:World} {g:Nat} {cs:Array Value} {k dp dn dw id n:Int} {s nm ky kd:ByteArray} {ga wa:Option Addr} {gn gc wn wc:Nat} {ok:Bool} (ho:o.op=.store 48 (.tmp P0) (.tmp S0)) (hp:tv P0=.pointer (some ⟨g,0,none⟩)) (hs:tv S0=.agg #[.int .i64 k,.string s,.string nm,.slice ga gn gc,.slice wa wn wc,.string ky,.string kd,.int .i64 dp,.int .i64 dn,.int .i64 dw,.bool ok,.int .u64 id,.int .i64 n])
  (hg:W.heap[g]?=some (.cells cs 48 (0,0))) (hc:cs.size=13):(execOp (Tryst2.evOf tv) o).run Tryz.prog W=.ok .skip (Yq W g 0 [.int .i64 k,.string s,.string nm,.slice ga gn gc,.slice wa wn wc,.string ky,.string kd,.int .i64 dp,.int .i64 dn,.int .i64 dw,.bool ok,.int .u64 id,.int .i64 n]):=by
 obtain ⟨⟨u0,c0⟩,z0⟩:=qYD hg hc (j:=0) (by decide);obtain ⟨⟨u1,c1⟩,z1⟩:=qYD hg hc (j:=1) (by decide);obtain ⟨⟨u2,c2⟩,z2⟩:=qYD hg hc (j:=2) (by decide);obtain ⟨⟨u3,c3⟩,z3⟩:=qYD hg hc (j:=3) (by decide);obtain ⟨⟨u4,c4⟩,z4⟩:=qYD hg hc (j:=4) (by decide);obtain ⟨⟨u5,c5⟩,z5⟩:=qYD hg hc (j:=5) (by decide);obtain ⟨⟨u6,c6⟩,z6⟩:=qYD hg hc (j:=6) (by decide);obtain ⟨⟨u7,c7⟩,z7⟩:=qYD hg hc (j:=7) (by decide);obtain ⟨⟨u8,c8⟩,z8⟩:=qYD hg hc (j:=8) (by decide);obtain ⟨⟨u9,c9⟩,z9⟩:=qYD hg hc (j:=9) (by decide);obtain ⟨⟨u10,c10⟩,z10⟩:=qYD hg hc (j:=10) (by decide);obtain ⟨⟨u11,c11⟩,z11⟩:=qYD hg hc (j:=11) (by decide);obtain ⟨⟨u12,c12⟩,z12⟩:=qYD hg hc (j:=12) (by decide);have hlt:=(Array.getElem?_eq_some_iff.1 hg).1;unfold execOp;rw [ho];clear hg hc;go_simp
 first | done | rfl | (simp only [Yq,Nat.zero_add,Nat.reduceAdd])
theorem qYl {tv:Nat->Value} {o:Oper} {P0 S0:Nat} {W:World} {k dp dn dw id n:Int} {s nm ky kd:ByteArray} {ga wa:Option Addr} {gn gc wn wc:Nat} {ok:Bool} (ho:o.op=.store 48 (.tmp P0) (.tmp S0)) (hs:tv S0=.agg #[.int .i64 k,.string s,.string nm,.slice ga gn gc,.slice wa wn wc,.string ky,.string kd,.int .i64 dp,.int .i64 dn,.int .i64 dw,.bool ok,.int .u64 id,.int .i64 n])
  (hb:∃ (g:Nat) (cs:Array Value),tv P0=.pointer (some ⟨g,0,none⟩)/\W.heap[g]?=some (.cells cs 48 (0,0))/\cs.size=13) :
  Tryst2.stepV Tryz.prog (fun v w''=>∀ g:Nat,tv P0=.pointer (some ⟨g,0,none⟩)->Tryst4.Only g W w''/\w''.heap[g]?=some (.cells (Tryst4.cellsOf (tv S0)).toArray 48 (0,0))/\(Tryst4.cellsOf (tv S0)).length=13) ((execOp (Tryst2.evOf tv) o).run Tryz.prog W):=by
 obtain ⟨g,cs,hp,hg,hc⟩:=hb;rw [qYu ho hp hs hg hc,Tryst2.stepV_skip];intro g' hg';rw [hp] at hg';simp only [Value.pointer.injEq,Option.some.injEq,Addr.mk.injEq,and_true] at hg';subst hg';have hV:Var W g 48 cs.toList:=hg;have hB:Below g W (Yq W g 0 [.int .i64 k,.string s,.string nm,.slice ga gn gc,.slice wa wn wc,.string ky,.string kd,.int .i64 dp,.int .i64 dn,.int .i64 dw,.bool ok,.int .u64 id,.int .i64 n]):=Qw (Nat.le_refl g) [.int .i64 k,.string s,.string nm,.slice ga gn gc,.slice wa wn wc,.string ky,.string kd,.int .i64 dp,.int .i64 dn,.int .i64 dw,.bool ok,.int .u64 id,.int .i64 n] 0 _ (Below.refl g W);have hp2:=hV.put [.int .i64 k,.string s,.string nm,.slice ga gn gc,.slice wa wn wc,.string ky,.string kd,.int .i64 dp,.int .i64 dn,.int .i64 dw,.bool ok,.int .u64 id,.int .i64 n] (by show 13=_;rw [Array.length_toList,hc]);rw [hs];exact ⟨⟨hB.os,hB.tape,hB.output,Q6 _ _ _,fun b hb=>Qb hb _ _ _⟩,hp2,rfl⟩
theorem kY3 (ρ:Operand->Value) (o:Oper) (w:World) (ho:o.op=.alloc 48):(execOp ρ o).run Tryz.prog w=.ok (.value (.pointer (some ⟨w.heap.size,0,none⟩))) (w.alloc (.cells [.int .i64 0,.string ⟨#[]⟩,.string ⟨#[]⟩,.slice none 0 0,.slice none 0 0,.string ⟨#[]⟩,.string ⟨#[]⟩,.int .i64 0,.int .i64 0,.int .i64 0,.bool false,.int .u64 0,.int .i64 0].toArray 48)):=by
 unfold execOp;rw [ho]
 kernel_rfl
