import Derived.Test.YtcbicdencgjfiaaGreatDoorEyeR
import Derived.Test.YtcbicdencgjfiaaGreatDoorLayR
set_option linter.all false
set_option maxHeartbeats 4000000
set_option maxRecDepth 20000
namespace Go.Proofs.YtcbicdencgjfiaaGreatDoor
open Go Go.RowKit Tryst
theorem qQ1 {α:Type} {f:α->List UInt8} (hf:∀ x,1<=(f x).length) (l:List α):l.length<=(Qf f l).length:=by
 have:=kQ3 hf l;unfold Qf;rw [List.length_append];omega
theorem kQC {α:Type} {f:α->List UInt8} {l:List α} {x:α} (h:x∈l):(f x).length<=(Qf f l).length:=by
 have:=vQ4 (f:=f) h;unfold Qf;rw [List.length_append];omega
theorem qQT (s:ByteArray):1<=(strL s).length:=by have:=Ky s;omega
theorem xQn:∀ l:List qQp,sumI l<=(l.flatMap jQi).length
 | []=>by simp [sumI]
 | x :: l=>by
  have h1:=xQn l;have h2:=qQ1 (f:=kQR) (fun y=>qYF (kQp _)) x.2;have h3:(jQi x).length=x.1.lay.length+(Qf kQR x.2).length:=by unfold jQi;rw [List.length_append]
  unfold sumI at h1 ⊢;rw [List.map_cons,List.sum_cons,List.flatMap_cons,List.length_append];omega
theorem vQb {l:List UB} {n:Nat} (hf:qQR OutF (l.map UB.p)) (hl:(Qf outL (l.map UB.p)).length<=n) (hn:n<=1500000):l.length<=1500000/\∀ y∈l.map UB.p,OutX y:=by
 have h1:=qQ1 (f:=outL) (fun x=>qYF (jQZ _)) (l.map UB.p);rw [List.length_map] at h1;refine ⟨by omega,fun y hy=>?_⟩;obtain ⟨f1,f2,⟨f3,f4⟩,f5,f6⟩:=hf.2 y hy;have h2:=kQC (f:=outL) hy;rw [outL] at h2;simp only [List.length_append] at h2;have h3:=Ky y.2.1;have h4:=qQ1 (f:=pack) (fun x=>jQZ _) y.2.2.1;exact ⟨f1,by omega,⟨by omega,f4⟩,Y6 f5,Y6 f6⟩
theorem RtE.parts {S:Nat->Prop} {w:World} {y:RtB} (h:RtE S w y) (hf:RtF (RtB.p y)) (hl:(rtL (RtB.p y)).length<=1500000):RtW w y/\RtX y:=by
 obtain ⟨f0,ft,fl,fs,f1,fu,fg,fd⟩:=hf;unfold rtL at hl;simp only [List.length_append] at hl;obtain ⟨u1,u2⟩:=vQb (l:=y.ul) (n:=1500000) fu (by show (Qf outL (RtB.p y).2.2.2.2.2.1).length<=_;omega) (Nat.le_refl _);obtain ⟨g1,g2⟩:=vQb (l:=y.gl) (n:=1500000) fg (by show (Qf outL (RtB.p y).2.2.2.2.2.2.1).length<=_;omega) (Nat.le_refl _)
 have hsub:∀ z∈y.sl,DO w z.d/\JIn z.d.j/\SqX z.q:=by
  intro z hz;have hz2:SubB.p z∈(RtB.p y).2.2.2.1:=List.mem_map.2 ⟨z,hz,rfl⟩;obtain ⟨k0,⟨k1,k2⟩,⟨k3,k4⟩,k5,k6,k7,k8,k9⟩:=fs.2 _ hz2;have h2:=kQC (f:=subL) hz2;rw [subL] at h2;simp only [List.length_append] at h2;have hm:SubM S w z:=h.s.mem z hz;have e1:(SubB.p z).1=z.d.dp:=rfl;have e2:(SubB.p z).2.1=z.ol.map OB.p:=rfl;have e3:(SubB.p z).2.2.1=z.il.map InB.p:=rfl;rw [e1] at k0;rw [e1,e2,e3] at h2;rw [e2] at k2;rw [e3] at k4;obtain ⟨d1,d2⟩:=hm.d.parts k0 (by omega);have n1:=qQ1 (f:=offL) (fun x=>qYF (qQT _)) (z.ol.map OB.p);have n2:=qQ1 (f:=jQi) (fun x=>qYF (jJL _)) (z.il.map InB.p);have n3:=xQn (z.il.map InB.p);have n4:((z.il.map InB.p).flatMap jQi).length<=(Qf jQi (z.il.map InB.p)).length:=by unfold Qf;rw [List.length_append];omega
  rw [List.length_map] at n1;refine ⟨d1,d2,d2,⟨by show z.ol.length<=_;omega,fun o ho=>?_⟩,⟨by show (z.il.map InB.p).length<=_;omega,by show sumI (z.il.map InB.p)<=_;omega,fun i hi=>?_⟩,Y6 k5,Y6 k6,Y6 k7,Y6 k8,Y6 k9⟩
  · have ho2:OB.p o∈z.ol.map OB.p:=List.mem_map.2 ⟨o,ho,rfl⟩;have h3:=kQC (f:=offL) ho2;rw [offL] at h3;simp only [List.length_append] at h3;have h4:=Ky (OB.p o).1;exact ⟨by show (OB.p o).1.size<=_;omega,Y6 (k2 _ ho2).2⟩
  ·
   have hi:i∈z.il.map InB.p:=hi;obtain ⟨⟨q1,q2⟩,_,q3⟩:=k4 i hi;have h3:=kQC (f:=jQi) hi;rw [jQi] at h3;rw [List.length_append] at h3;have h4:=qQ1 (f:=kQR) (fun y=>qYF (kQp _)) i.2;refine ⟨?_,q2,by omega,fun k hk=>⟨Y6 (q3 k hk).1,(q3 k hk).2.1,Y6 (q3 k hk).2.2⟩⟩;unfold V.May at q1
   split at q1
   · rw [q1];simp
   · have:=q1.2;omega
 have m1:=qQ1 (f:=topL) (fun x=>qYF (qQT _)) (y.tl.map TB.p);have m2:=qQ1 (f:=kQ5) (fun x=>qYF (qQT _)) (y.ll.map LB.p);have m3:=qQ1 (f:=subL) (fun x=>qYF (qYF (qQT _))) (y.sl.map SubB.p);have m4:=qQ1 (f:=qQy) (fun x=>qYF (qQT _)) (y.dl.map DeadB.p);have e1:(RtB.p y).2.1=y.tl.map TB.p:=rfl;have e2:(RtB.p y).2.2.1=y.ll.map LB.p:=rfl;have e3:(RtB.p y).2.2.2.1=y.sl.map SubB.p:=rfl;have e4:(RtB.p y).2.2.2.2.2.2.2=y.dl.map DeadB.p:=rfl;rw [e1,e2,e3,e4] at hl;rw [List.length_map] at m1 m2 m3 m4;refine ⟨⟨h.t.row,fun t ht=>have hm:LM strK S w t.la t.lc t.log:=h.t.mem t ht;⟨hm.row,hm.sl⟩,h.l.row,h.s.row,fun z hz=>have hm:SubM S w z:=h.s.mem z hz;⟨(hsub z hz).1,hm.o.row,hm.i.row,fun i hi=>have hk:LM jQ1 S w i.la i.lc i.l:=hm.i.mem i hi;⟨hk.row,hk.sl.cap⟩⟩,h.u.row,fun z hz=>(show LM idK S w z.ia z.ic z.ids from h.u.mem z hz).row,h.g.row,fun z hz=>(show LM idK S w z.ia z.ic z.ids from h.g.mem z hz).row,h.d.row⟩,⟨Y6 f0,Y6 f1,by omega,fun t ht=>?_,by omega,fun z hz=>?_,by omega,fun q hq=>?_,u1,u2,g1,g2,by omega,fun z hz=>?_⟩⟩
 · obtain ⟨t1,t2,_,t3⟩:=ft.2 t ht;have h3:=kQC (f:=topL) ht;rw [topL] at h3;simp only [List.length_append] at h3;have h4:=Ky t.1;have h5:=qQ1 (f:=strL) qQT t.2.2;refine ⟨by omega,Y6 t2,by omega,fun s hs=>?_⟩;have h6:=kQC (f:=strL) hs;have h7:=Ky s;omega
 · have hz2:LB.p z∈y.ll.map LB.p:=List.mem_map.2 ⟨z,hz,rfl⟩;obtain ⟨t1,t2,t3⟩:=fl.2 _ hz2;have h3:=kQC (f:=kQ5) hz2;rw [kQ5] at h3;simp only [List.length_append] at h3;have h4:=Ky (LB.p z).1;exact ⟨by omega,t2,Y6 t3⟩
 · obtain ⟨z,hz,rfl⟩:=List.mem_map.1 hq;exact (hsub z hz).2.2
 · have hz2:DeadB.p z∈y.dl.map DeadB.p:=List.mem_map.2 ⟨z,hz,rfl⟩;have h3:=kQC (f:=qQy) hz2;rw [qQy] at h3;simp only [List.length_append] at h3;have h4:=Ky (DeadB.p z).1;have h5:=Ky (DeadB.p z).2;exact ⟨by show (DeadB.p z).1.size<=_;omega,by show (DeadB.p z).2.size<=_;omega⟩
end Go.Proofs.YtcbicdencgjfiaaGreatDoor
namespace Go.Proofs.YtcbicdencgjfiaaGreatDoor
open Go Go.RowKit Tryst
def RtB.zero:RtB:=⟨0,none,[],0,none,[],0,none,[],0,0,none,[],0,none,[],0,none,[],0⟩
def TrR (l:List UInt8) (w:World) (e:Ending) (w':World):Prop:=∃ y:RtB,RtE (fun g=>w.heap.size<=g) w' y/\Below w.heap.size w w'/\((e=.returned (.tuple #[y.agg,.int .i64 0])/\(rtR (l,false)).2=([],false)/\RtB.p y=(rtR (l,false)).1/\Xx y=true)∨(e=.returned (.tuple #[y.agg,.int .i64 2])/\y=RtB.zero/\((rtR (l,false)).2≠([],false)∨∃ z:RtB,RtB.p z=(rtR (l,false)).1/\Xx z=false)))
theorem RtE.zero (S:Nat->Prop) (w:World):RtE S w RtB.zero:=⟨LM.nil _ _,LM.nil _ _,LM.nil _ _,LM.nil _ _,LM.nil _ _,LM.nil _ _⟩
theorem TrR.no {l:List UInt8} {w w':World} (h:(rtR (l,false)).2≠([],false)∨∃ z:RtB,RtB.p z=(rtR (l,false)).1/\Xx z=false) (hb:Below w.heap.size w w'):TrR l w (.returned (.tuple #[RtB.zero.agg,.int .i64 2])) w':=⟨RtB.zero,RtE.zero _ _,hb,.inr ⟨rfl,rfl,h⟩⟩
theorem xQF (l:ByteArray) (hl:l.size<=1500000) (w:World) (hM:MaxW w):Calls Tryz.prog 13 #[.string l] w (TrR l.data.toList w):=by
 have HZ:=Zh (Var.new w 28 [.int .i64 0,.slice none 0 0,.slice none 0 0,.slice none 0 0,.int .i64 0,.slice none 0 0,.slice none 0 0,.slice none 0 0]);have HB0:=Zh (Qj (.cells #[.int .i64 0,.slice none 0 0,.slice none 0 0,.slice none 0 0,.int .i64 0,.slice none 0 0,.slice none 0 0,.slice none 0 0] 28) (.refl w.heap.size w));have HM:=Zh hM;have hsz:(w.alloc (.cells #[.int .i64 0,.slice none 0 0,.slice none 0 0,.slice none 0 0,.int .i64 0,.slice none 0 0,.slice none 0 0,.slice none 0 0] 28)).heap.size=w.heap.size+1:=by simp
 have HSZ:=Zh hsz;obtain ⟨L,hL⟩:∃ L,l.data.toList=L:=⟨_,rfl⟩;obtain rfl:l=⟨L.toArray⟩:=Xk (by rw [hL,Jb]);rw [hL];have hl2:L.length<=1500000:=hl;clear hM hsz hL hl;go_enter Tryz.func13,Tryz.ntmps13;go_upto_region 1 with fail
 revert HZ HB0 HSZ;simp only [List.toArray];generalize w.alloc (.cells _ 28)=W0;intro HZ HB0 HSZ;have HE:=Zh (show EyeS W0 W0.heap.size (L,false) (W0.alloc (.cells #[.string ⟨L.toArray⟩,.bool false] 99)) from ⟨Var.new W0 99 [.string ⟨L.toArray⟩,.bool false],Qj _ (.refl _ _),Nat.le_refl _,hl2⟩);have HZ1:=Zh (HZ.out.grow (Qj (.cells #[.string ⟨L.toArray⟩,.bool false] 99) (.refl W0.heap.size W0)));have HMW:=Zh (HM.out.grow HB0.out);have hzz:W0.heap.size < (W0.alloc (.cells #[.string ⟨L.toArray⟩,.bool false] 99)).heap.size:=by simp
 go_upto_region 2 with fail
 revert HE HZ1 hzz;generalize W0.alloc (.cells #[.string ⟨L.toArray⟩,.bool false] 99)=Z;intro HE HZ1 hzz;have hne:w.heap.size≠W0.heap.size:=by have:=HSZ.out;omega
 go_wp2_with fail;refine (xQ2 HE.out HMW.out).mono ?_;rintro e w2 ⟨y,rfl,hm,hp,hs,ho⟩;have HP:=Zh (show RtB.p y=(rtR (L,false)).1 from hp)
 have HC:Hid ((rtR (L,false)).2.2=false->(rtR (L,false)).2.1=[]->RtF (rtR (L,false)).1/\rtL (rtR (L,false)).1=L):=Zh (fun h1 h2=>by
  have h:=rtC.got L (rtR (L,false)).1 [] (Prod.ext rfl (Prod.ext h2 h1));rw [List.append_nil] at h;exact ⟨h.2,h.1.symm⟩)
 have HNO:Hid (∀ (w':World),Below w.heap.size w w'→((rtR (L,false)).2.2=true∨(rtR (L,false)).2.1≠[]∨Xx y=false)->TrR L w (.returned (.tuple #[RtB.zero.agg,.int .i64 2])) w'):=Zh (fun w' hb h=>TrR.no (by
  rcases h with h | h | h
  · exact .inl (fun e=>by rw [e] at h;cases h)
  · exact .inl (fun e=>h (by rw [e]))
  · exact .inr ⟨y,HP.out,h⟩) hb)
 have HYES:Hid (∀ (w':World),Below w.heap.size w w'→(rtR (L,false)).2.2=false->(rtR (L,false)).2.1=[]->Xx y=true->RtE (fun g=>w.heap.size<=g) w' y->TrR L w (.returned (.tuple #[y.agg,.int .i64 0])) w'):=Zh (fun w' hb h1 h2 h3 h4=>⟨y,h4,hb,.inl ⟨rfl,Prod.ext h2 h1,HP.out,h3⟩⟩);rw [<- HP.out] at HC;generalize (rtR (L,false)).2=s2 at hs HC HNO HYES;obtain ⟨r,d⟩:=s2;simp only at HC HNO HYES;have H3:=Zh (hs.quiet (Qj (.cells y.cells.toArray 28) (.refl w2.heap.size w2)));have Z3:=Zh ((HZ1.out.oth ho hne).grow (Qj (.cells y.cells.toArray 28) (.refl w2.heap.size w2)));have Y3:=Zh (Var.new w2 28 y.cells);have M3:=Zh (show RtE (fun g=>Z.heap.size<=g) (w2.alloc (.cells y.cells.toArray 28)) y from RtE.keep (S:=fun g=>Z.heap.size<=g) hm (fun g hg hl=>⟨(Qj (.cells y.cells.toArray 28) (.refl w2.heap.size w2)).block g hl,hg⟩) (by simp));have hz2:=ho.size;clear hm hp hs ho HE HZ1 HZ HP
 have HR:Hid (d=false->r=[]->∀ W,Below (w2.alloc (.cells y.cells.toArray 28)).heap.size (w2.alloc (.cells y.cells.toArray 28)) W->RtO W y):=Zh (fun h1 h2 W hb=>by
  obtain ⟨q1,q2⟩:=HC.out h1 h2;obtain ⟨q3,q4⟩:=M3.out.parts q1 (by rw [q2];exact hl2);exact (q3.grow hb).o q4)
 have CM:=Zh (fun (h1:d=false) (h2:r=[]) W (hb:Below (w2.alloc (.cells y.cells.toArray 28)).heap.size (w2.alloc (.cells y.cells.toArray 28)) W)=>vQJ y W (HMW.out.grow (H3.out.low.trans (hb.mono H3.out.low.size))) (HR.out h1 h2 W hb));clear HC HR;obtain ⟨m,hm⟩:∃ m,Xx y=m:=⟨_,rfl⟩;rw [hm] at CM HNO HYES;clear hm;unfold RtB.cells at H3 Z3 Y3 M3 CM;have HMM:Hid (∀ w' w5,RtE (fun g=>Z.heap.size<=g) w5 y->(∀ g,Z.heap.size<=g->g < w5.heap.size->w'.heap[g]?=w5.heap[g]?)->w5.heap.size<=w'.heap.size->RtE (fun g=>w.heap.size<=g) w' y):=Zh (fun w' w5 h hk hz=>h.keep (fun g hg hl=>⟨hk g hg hl,by have h1:=HSZ.out;have h2:Z.heap.size<=g:=hg;omega⟩) hz);dsimp only [rtK];unfold RtB.agg at CM HYES ⊢;go_upto_region 3 with fail
 revert H3 Z3 Y3 M3 CM;simp only [List.toArray];generalize w2.alloc (.cells _ 28)=w3;intro H3 Z3 Y3 M3 CM;have hlt3:w.heap.size < w2.heap.size:=by have:=HSZ.out;omega
 generalize w2.heap.size=g2 at Y3 hz2 hlt3 ⊢;have HB3:=Zh (HB0.out.trans (H3.out.low.mono (by have:=HSZ.out;omega)));generalize y.now=now at *;generalize y.total=total at *;obtain ⟨u0,u1,u2,u3,u4,u5,u6,u7⟩:=v8 (Z3.out);obtain ⟨y0,y1,y2,y3,y4,y5,y6,y7⟩:=v8 (Y3.out);have zf:=Z3.out.fz;have zl:=Z3.out.lt
 by_cases hw:d=false/\r=[]
 ·
  obtain ⟨rfl,rfl⟩:=hw;have CM2:=Zh (CM.out rfl rfl);clear CM;cases m with
  | true=>
   go_wp2_with fail;refine (qQa H3.out).mono ?_;rintro e w4 ⟨rfl,rfl⟩;go_wp2_with fail;refine (CM2.out _ (.refl _ _)).mono ?_;rintro e w5 ⟨rfl,hb5⟩;have Z5:=Zh (Z3.out.grow hb5);have Y5:=Zh (Y3.out.grow hb5);have M5:=Zh (show RtE (fun g=>Z.heap.size<=g) w5 y from M3.out.keep (fun g hg hl=>⟨hb5.block g hl,hg⟩) hb5.size);have HB5:=Zh (Qk hb5 HB3.out);clear hb5 u0 u1 u2 u3 u4 u5 u6 u7 y0 y1 y2 y3 y4 y5 y6 y7 zf zl Z3 Y3 M3 HB3;obtain ⟨u0,u1,u2,u3,u4,u5,u6,u7⟩:=v8 (Z5.out);obtain ⟨y0,y1,y2,y3,y4,y5,y6,y7⟩:=v8 (Y5.out);have zf:=Z5.out.fz;have zl:=Z5.out.lt;go_wp2_with fail;refine bodyPost_ret (v:=.tuple #[.agg #[.int .i64 now,.slice y.ta y.tl.length y.tc,.slice y.la y.ll.length y.lc,.slice y.sa y.sl.length y.sc,.int .i64 total,.slice y.ua y.ul.length y.uc,.slice y.ga y.gl.length y.gc,.slice y.da y.dl.length y.dc],.int .i64 0]) (by simp [results,Tryz.results13,go_sem, *]) rfl ?_;have hm:=HMM.out (Yq w5 w.heap.size 0 [.int .i64 now,.slice y.ta y.tl.length y.tc,.slice y.la y.ll.length y.lc,.slice y.sa y.sl.length y.sc,.int .i64 total,.slice y.ua y.ul.length y.uc,.slice y.ga y.gl.length y.gc,.slice y.da y.dl.length y.dc]) w5 M5.out (fun g hg hl=>Qb (by have:=HSZ.out;omega) _ _ _) (by rw [Q6];exact Nat.le_refl _);exact HYES.out _ (Qw (Nat.le_refl _) [.int .i64 now,.slice y.ta y.tl.length y.tc,.slice y.la y.ll.length y.lc,.slice y.sa y.sl.length y.sc,.int .i64 total,.slice y.ua y.ul.length y.uc,.slice y.ga y.gl.length y.gc,.slice y.da y.dl.length y.dc] 0 _ HB5.out) trivial trivial trivial hm
  | false=>
   go_wp2_with fail;refine (qQa H3.out).mono ?_;rintro e w4 ⟨rfl,rfl⟩;go_wp2_with fail;refine (CM2.out _ (.refl _ _)).mono ?_;rintro e w5 ⟨rfl,hb5⟩;have Z5:=Zh (Z3.out.grow hb5);have Y5:=Zh (Y3.out.grow hb5);have M5:=Zh (show RtE (fun g=>Z.heap.size<=g) w5 y from M3.out.keep (fun g hg hl=>⟨hb5.block g hl,hg⟩) hb5.size);have HB5:=Zh (Qk hb5 HB3.out);clear hb5 u0 u1 u2 u3 u4 u5 u6 u7 y0 y1 y2 y3 y4 y5 y6 y7 zf zl Z3 Y3 M3 HB3;obtain ⟨u0,u1,u2,u3,u4,u5,u6,u7⟩:=v8 (Z5.out);obtain ⟨y0,y1,y2,y3,y4,y5,y6,y7⟩:=v8 (Y5.out);have zf:=Z5.out.fz;have zl:=Z5.out.lt;go_wp2_with fail;refine bodyPost_ret (v:=.tuple #[RtB.zero.agg,.int .i64 2]) (by simp [results,Tryz.results13,go_sem,RtB.agg,RtB.zero, *]) rfl ?_;exact HNO.out _ (Qw (Nat.le_refl _) [.int .i64 0,.slice none 0 0,.slice none 0 0,.slice none 0 0,.int .i64 0,.slice none 0 0,.slice none 0 0,.slice none 0 0] 0 _ HB5.out) (by simp)
 ·
  have hwb:(!d&&r.isEmpty)=false:=by
   cases d with
   | true=>rfl
   | false=>
    cases r with
    | nil=>exact absurd ⟨rfl,rfl⟩ hw
    | cons c r=>rfl
  have HWB:=Zh hwb
  have HN:Hid (∀ w',Below w.heap.size w w'→TrR L w (.returned (.tuple #[RtB.zero.agg,.int .i64 2])) w'):=Zh (fun w' hb=>HNO.out w' hb (by
   cases d with
   | true=>exact .inl rfl
   | false=>exact .inr (.inl (fun e=>hw ⟨rfl,e⟩))))
  clear HNO HYES hw hwb CM;go_wp2_with fail;refine (qQa H3.out).mono ?_;rintro e w4 ⟨rfl,rfl⟩;rw [show (!(r,d).2&&(r,d).1.isEmpty)=false from HWB.out];go_wp2_with fail;refine bodyPost_ret (v:=.tuple #[RtB.zero.agg,.int .i64 2]) (by simp [results,Tryz.results13,go_sem,RtB.agg,RtB.zero, *]) rfl ?_;exact HN.out _ (Qw (Nat.le_refl _) [.int .i64 0,.slice none 0 0,.slice none 0 0,.slice none 0 0,.int .i64 0,.slice none 0 0,.slice none 0 0,.slice none 0 0] 0 _ HB3.out)
theorem TrR.err {l:List UInt8} {w w':World} {e:Ending} (h:TrR l w e w') (hn:(rtR (l,false)).2≠([],false)):e=.returned (.tuple #[.agg #[.int .i64 0,.slice none 0 0,.slice none 0 0,.slice none 0 0,.int .i64 0,.slice none 0 0,.slice none 0 0,.slice none 0 0],.int .i64 2])/\Below w.heap.size w w':=by
 obtain ⟨y,_,hb,⟨_,h2,_⟩ | ⟨he,rfl,_⟩⟩:=h
 · exact absurd h2 hn
 · exact ⟨he,hb⟩
