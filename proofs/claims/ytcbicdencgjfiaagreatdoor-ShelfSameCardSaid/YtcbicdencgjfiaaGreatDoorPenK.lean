import Derived.Test.YtcbicdencgjfiaaGreatDoorF16A
import Derived.Test.YtcbicdencgjfiaaGreatDoorPenF
set_option linter.all false
set_option maxHeartbeats 4000000
set_option maxRecDepth 20000
namespace Go.Proofs.YtcbicdencgjfiaaGreatDoor
open Go Go.RowKit Tryst
theorem subT:SliceOf Tryz.prog 24 68 15 208:=.mk' Tryz.underlying24 (z:=.agg #[.string ⟨#[]⟩,.slice none 0 0,.slice none 0 0,.string ⟨#[]⟩,.string ⟨#[]⟩,.int .i64 0,.int .i64 0,.int .i64 0,.slice none 0 0,.slice none 0 0,.int .i64 0,.int .i64 0,.int .i64 0,.int .i64 0,.int .i64 0]) (by kernel_rfl) rfl (by decide) (by decide)
theorem deadT:SliceOf Tryz.prog 26 74 2 32:=.mk' Tryz.underlying26 (z:=.agg #[.string ⟨#[]⟩,.string ⟨#[]⟩]) (by kernel_rfl) rfl (by decide) (by decide)
abbrev I64 (n:Int):Prop:=-9223372036854775808<=n/\n<=9223372036854775807
def _root_.Tryst.TB.p (x:TB):TopT:=(x.name,x.first,x.log)
def _root_.Tryst.LB.p (x:LB):xQh:=(x.producer,x.seq,x.off)
def _root_.Tryst.OB.p (x:OB):OffT:=(x.topic,x.next)
def DeadB.p (x:DeadB):kJE:=(x.sub,x.e)
def SubB.p (x:SubB):SubT:=(x.d.dp,x.ol.map OB.p,x.il.map InB.p,x.fails,x.taken,x.passes,x.fires,x.over)
def RtB.p (x:RtB):RtT:=(x.now,x.tl.map TB.p,x.ll.map LB.p,x.sl.map SubB.p,x.total,x.ul.map UB.p,x.gl.map UB.p,x.dl.map DeadB.p)
def SubB.q (x:SubB):JB × List OB × List qQp × Int × Int × Int × Int × Int:=(x.d.j,x.ol,x.il.map InB.p,x.fails,x.taken,x.passes,x.fires,x.over)
def zQQ (x:SubB):JB × List OB × List qQp × Int × Int × Int × Int × Int:=(⟨jQz x.d.j.kind,x.d.j.parts,x.d.j.need,x.d.j.window⟩,jQw x.ol,(x.il.take 41).map jQT,x.fails,x.taken,x.passes,x.fires,x.over)
def jQP (e:ByteArray):ByteArray:=if 900 < e.size then e.extract 0 900 else e
def kQS (x:DeadB):DeadB:=⟨Q7 x.sub,jQP x.e⟩
structure RtM (S:Nat->Prop) (w:World) (x:RtB):Prop where
 t:LM topK S w x.ta x.tc x.tl
 l:LM Z9 S w x.la x.lc x.ll
 s:LM subF S w x.sa x.sc x.sl
 u:LM outK S w x.ua x.uc x.ul
 g:LM outK S w x.ga x.gc x.gl
 d:LM Kk S w x.da x.dc x.dl
structure FewRt (r x:RtB):Prop where
 now:x.now=r.now
 total:x.total=r.total
 t:x.tl.map TB.tp=(qQt (r.tl.map TB.tp)).map (fun t=>⟨t.name,t.first,t.log.take 12⟩)
 l:x.ll=(r.ll.take 51).map qQX
 s:x.sl.map SubB.q=(r.sl.take 9).map zQQ
 u:x.ul.map UB.p=(r.ul.take 101).map jQk
 g:x.gl.map UB.p=(r.gl.take 101).map jQk
 d:x.dl=(r.dl.take 41).map kQS
structure SubW (w:World) (x:SubB):Prop where
 d:DO w x.d
 o:Row w x.oa 2 (x.ol.map OB.cells)
 i:Row w x.ia 4 (x.il.map InB.cells)
 k:∀ y∈x.il,Row w y.la 3 (y.l.map KpB.cells)/\y.l.length<=y.lc
theorem SubW.grow {w W:World} {x:SubB} (h:SubW w x) (hb:Below w.heap.size w W):SubW W x:=⟨h.d.grow hb,Row.grow h.o hb,Row.grow h.i hb,fun y hy=>⟨Row.grow (h.k y hy).1 hb,(h.k y hy).2⟩⟩
structure RtW (w:World) (x:RtB):Prop where
 t:Row w x.ta 3 (x.tl.map TB.cells)
 tm:∀ t∈x.tl,Row w t.la 1 (t.log.map strK.cells)/\Sl t.la t.lc t.log.length
 l:Row w x.la 3 (x.ll.map LB.cells)
 s:Row w x.sa 15 (x.sl.map SubB.cells)
 sm:∀ y∈x.sl,SubW w y
 u:Row w x.ua 5 (x.ul.map UB.cells)
 um:∀ y∈x.ul,Row w y.ia 1 (y.ids.map idK.cells)
 g:Row w x.ga 5 (x.gl.map UB.cells)
 gm:∀ y∈x.gl,Row w y.ia 1 (y.ids.map idK.cells)
 d:Row w x.da 2 (x.dl.map DeadB.cells)
theorem RtW.grow {w W:World} {x:RtB} (h:RtW w x) (hb:Below w.heap.size w W):RtW W x:=
 ⟨Row.grow h.t hb,fun t ht=>⟨Row.grow (h.tm t ht).1 hb,(h.tm t ht).2⟩,Row.grow h.l hb,Row.grow h.s hb,fun y hy=>(h.sm y hy).grow hb,Row.grow h.u hb,fun y hy=>Row.grow (h.um y hy) hb,Row.grow h.g hb,fun y hy=>Row.grow (h.gm y hy) hb,Row.grow h.d hb⟩
def TopX (y:TopT):Prop:=y.1.size<=1500000/\I64 y.2.1/\y.2.2.length<=1500000/\∀ s∈y.2.2,s.size<=1500000
def LastX (y:xQh):Prop:=y.1.size<=1500000/\y.2.1 < 2 ^ 64/\I64 y.2.2
def kQq (y:jJU):Prop:=I64 y.1/\y.2.1 < 2 ^ 64/\I64 y.2.2
def jYJ (y:qQp):Prop:=y.1.s.length<=1500000/\I64 y.1.n/\y.2.length<=1500000/\∀ k∈y.2,kQq k
def sumI (l:List qQp):Nat:=(l.map fun y=>y.2.length).sum
def SqX (q:JB × List OB × List qQp × Int × Int × Int × Int × Int):Prop:=JIn q.1/\(q.2.1.length<=1500000/\∀ y∈q.2.1,y.topic.size<=1500000/\I64 y.next)/\(q.2.2.1.length<=1500000/\sumI q.2.2.1<=1000000000/\∀ y∈q.2.2.1,jYJ y)/\I64 q.2.2.2.1/\I64 q.2.2.2.2.1/\I64 q.2.2.2.2.2.1/\I64 q.2.2.2.2.2.2.1/\I64 q.2.2.2.2.2.2.2
def OutX (y:OutT):Prop:=y.1 < 2 ^ 64/\y.2.1.size<=1500000/\(y.2.2.1.length<=1500000/\∀ n∈y.2.2.1,n < 2 ^ 64)/\I64 y.2.2.2.1/\I64 y.2.2.2.2
def DeadX (y:DeadB):Prop:=y.sub.size<=1500000/\y.e.size<=1500000
structure RtX (x:RtB):Prop where
 now:I64 x.now
 total:I64 x.total
 tn:x.tl.length<=1500000
 t:∀ y∈x.tl.map TB.p,TopX y
 ln:x.ll.length<=1500000
 l:∀ y∈x.ll,LastX y.p
 sn:x.sl.length<=1500000
 s:∀ y∈x.sl.map SubB.q,SqX y
 un:x.ul.length<=1500000
 u:∀ y∈x.ul.map UB.p,OutX y
 gn:x.gl.length<=1500000
 g:∀ y∈x.gl.map UB.p,OutX y
 dn:x.dl.length<=1500000
 d:∀ y∈x.dl,DeadX y
theorem vQQ:∀ l:List InB,Xj l=sumI (l.map InB.p)
 | []=>rfl
 | x :: l=>by
  rw [Xj,vQQ l];unfold sumI InB.p;simp
theorem RtW.o {w:World} {x:RtB} (h:RtW w x) (k:RtX x):RtO w x:=by
 have kt:∀ y∈x.tl,TopX y.p:=fun y hy=>k.t _ (List.mem_map.2 ⟨y,hy,rfl⟩)
 have ks:∀ y∈x.sl,SqX y.q:=fun y hy=>k.s _ (List.mem_map.2 ⟨y,hy,rfl⟩)
 have ku:∀ y∈x.ul,OutX (UB.p y):=fun y hy=>k.u _ (List.mem_map.2 ⟨y,hy,rfl⟩)
 have kg:∀ y∈x.gl,OutX (UB.p y):=fun y hy=>k.g _ (List.mem_map.2 ⟨y,hy,rfl⟩)
 refine ⟨⟨h.t,fun t ht=>⟨zQ9.2 (h.tm t ht).1,(h.tm t ht).2⟩⟩,fun t ht=>?_,k.tn,h.l,k.ln,fun y hy=>(k.l y hy).1,⟨h.s,fun y hy=>?_⟩,k.sn,k.total,h.u,k.un,fun y hy=>(ku y hy).2.1,h.g,k.gn,fun y hy=>(kg y hy).2.1,⟨h.d,k.d⟩,k.dn⟩
 · obtain ⟨h1,h2,h3,h4⟩:=kt t ht;exact ⟨Nat.le_trans h1 (by decide),fun s hs=>Nat.le_trans (h4 s hs) (by decide),Nat.le_trans h3 (by decide),h2.1,h2.2⟩
 ·
  obtain ⟨h1,⟨h2,h3⟩,⟨h4,h5,h6⟩,r1,r2,r3,r4,r5⟩:=ks y hy;have hm:=h.sm y hy;have hi:∀ z∈y.il,jYJ (InB.p z):=fun z hz=>h6 _ (List.mem_map.2 ⟨z,hz,rfl⟩)
  refine ⟨hm.d,hm.o,fun z hz=>(h3 z hz).1,h2,⟨hm.i,fun z hz=>(hm.k z hz).1,fun z hz=>(hm.k z hz).2,fun z hz c hc=>?_⟩,?_,fun z hz=>?_,fun z hz=>?_,?_,r1,r2,r3,r4,r5⟩
  · obtain ⟨_,_,_,h7⟩:=hi z hz;exact (h7 _ (List.mem_map.2 ⟨c,hc,rfl⟩)).2.1
  · have h4:(y.il.map InB.p).length<=1500000:=h4;rw [List.length_map] at h4;exact h4
  · have h7:(z.l.map KpB.p).length<=1500000:=(hi z hz).2.2.1;rw [List.length_map] at h7;exact h7
  · have h7:z.s.data.toList.length<=1500000:=(hi z hz).1;rw [Qx] at h7;exact h7
  · rw [vQQ];exact h5
theorem RtM.w {S:Nat->Prop} {w:World} {x:RtB} (h:RtM S w x):RtW w x:=
 ⟨h.t.row,fun t ht=>have hm:LM strK S w t.la t.lc t.log:=h.t.mem t ht;⟨hm.row,hm.sl⟩,h.l.row,h.s.row,fun y hy=>have hm:SubE S w y:=h.s.mem y hy;⟨hm.d.o,hm.o.row,hm.i.row,fun z hz=>have hk:LM jQ1 S w z.la z.lc z.l:=hm.i.mem z hz;⟨hk.row,hk.sl.cap⟩⟩,h.u.row,fun y hy=>(show LM idK S w y.ia y.ic y.ids from h.u.mem y hy).row,h.g.row,fun y hy=>(show LM idK S w y.ia y.ic y.ids from h.g.mem y hy).row,h.d.row⟩
structure RNum (r:RtB):Prop where
 now:I64 r.now
 total:I64 r.total
 t:∀ y∈r.tl,I64 y.first
 l:∀ y∈r.ll,y.seq < 2 ^ 64/\I64 y.off
 j:∀ y∈r.sl,I64 y.d.j.parts/\I64 y.d.j.need/\I64 y.d.j.window
 o:∀ y∈r.sl,∀ o∈y.ol,I64 o.next
 i:∀ y∈r.sl,∀ i∈y.il,I64 i.n/\∀ k∈i.l,kQq (KpB.p k)
 c:∀ y∈r.sl,I64 y.fails/\I64 y.taken/\I64 y.passes/\I64 y.fires/\I64 y.over
 u:∀ y∈r.ul,y.id < 2 ^ 64/\(∀ n∈y.ids,n < 2 ^ 64)/\I64 y.tries/\I64 y.due
 g:∀ y∈r.gl,y.id < 2 ^ 64/\(∀ n∈y.ids,n < 2 ^ 64)/\I64 y.tries/\I64 y.due
theorem qJn:∀ l:List qQp,(∀ y∈l,y.2.length<=31)->sumI l<=l.length*31
 | [],_=>by simp [sumI]
 | x :: l,h=>by
  have h1:=qJn l (fun y hy=>h y (List.mem_cons_of_mem _ hy));have h2:=h x List.mem_cons_self;unfold sumI at h1 ⊢;simp only [List.map_cons,List.sum_cons,List.length_cons];omega
theorem kQ8 (s:ByteArray):(Q7 s).size<=1500000:=Nat.le_trans (Z7 s) (by decide)
theorem qJt {l:List UB} {k:List UB} (h:k.map UB.p=(l.take 101).map jQk) (hl:∀ y∈l,y.id < 2 ^ 64/\(∀ n∈y.ids,n < 2 ^ 64)/\I64 y.tries/\I64 y.due):k.length<=1500000/\∀ y∈k.map UB.p,OutX y:=by
 constructor
 · have h1:=congrArg List.length h;simp only [List.length_map,List.length_take] at h1;omega
 · intro y hy;rw [h] at hy;obtain ⟨z,hz,rfl⟩:=List.mem_map.1 hy;obtain ⟨h1,h2,h3,h4⟩:=hl z (List.mem_of_mem_take hz);refine ⟨h1,kQ8 _,⟨?_,fun n hn=>h2 n (List.mem_of_mem_take hn)⟩,h3,h4⟩;show (z.ids.take 31).length<=1500000;rw [List.length_take];omega
theorem jYv (s:ByteArray):(few s).data.toList.length<=1500000:=by
 rw [Qx];exact Nat.le_trans (qJC s) (by decide)
theorem vJj (s:ByteArray):(jQz s).size<=1500000:=by
 unfold jQz
 split
 · simp;omega
 · omega
theorem FewRt.x {r x:RtB} (h:FewRt r x) (k:RNum r):RtX x:=by
 obtain ⟨u1,u2⟩:=qJt h.u k.u;obtain ⟨g1,g2⟩:=qJt h.g k.g
 have ht:x.tl.length<=1500000:=by
  have h1:=congrArg List.length h.t;unfold qQt at h1;simp only [List.length_map,List.length_take] at h1;omega
 have hs:x.sl.length<=1500000:=by
  have h1:=congrArg List.length h.s;simp only [List.length_map,List.length_take] at h1;omega
 refine ⟨by rw [h.now];exact k.now,by rw [h.total];exact k.total,ht,fun y hy=>?_,?_,fun y hy=>?_,hs,fun y hy=>?_,u1,u2,g1,g2,?_,fun y hy=>?_⟩
 ·
  have h1:x.tl.map TB.p=(x.tl.map TB.tp).map (fun t=>(t.name,t.first,t.log)):=by rw [List.map_map];rfl
  rw [h1,h.t] at hy;unfold qQt at hy;simp only [List.map_map,List.mem_map] at hy;obtain ⟨z,hz,rfl⟩:=hy;rw [<- List.map_take] at hz;obtain ⟨t,ht2,rfl⟩:=List.mem_map.1 hz;refine ⟨?_,k.t t (List.mem_of_mem_take ht2),?_,fun s hs=>?_⟩
  · show (kQw t.tp).name.size<=1500000;exact kQ8 _
  · show ((kQw t.tp).log.take 12).length<=1500000;rw [List.length_take];omega
  ·
   have hs2:s∈(kQw t.tp).log:=List.mem_of_mem_take hs;unfold kQw at hs2;obtain ⟨q,_,rfl⟩:=List.mem_map.1 hs2;show (few9 q).size<=1500000;unfold few9
   split
   · simp;omega
   · omega
 · rw [h.l,List.length_map,List.length_take];omega
 · rw [h.l] at hy;obtain ⟨z,hz,rfl⟩:=List.mem_map.1 hy;obtain ⟨h1,h2⟩:=k.l z (List.mem_of_mem_take hz);exact ⟨kQ8 _,h1,h2⟩
 ·
  rw [h.s] at hy;obtain ⟨z,hz,rfl⟩:=List.mem_map.1 hy;have hz2:=List.mem_of_mem_take hz;obtain ⟨j1,j2,j3⟩:=k.j z hz2;obtain ⟨c1,c2,c3,c4,c5⟩:=k.c z hz2;refine ⟨⟨vJj _,j1.1,j1.2,j2.1,j2.2,j3.1,j3.2⟩,⟨?_,fun o ho=>?_⟩,⟨?_,?_,fun i hi=>?_⟩,c1,c2,c3,c4,c5⟩
  · show (jQw z.ol).length<=1500000;unfold jQw;rw [List.length_map,List.length_take];omega
  · have ho:o∈jQw z.ol:=ho;unfold jQw at ho;obtain ⟨q,hq,rfl⟩:=List.mem_map.1 ho;exact ⟨kQ8 _,k.o z hz2 q (List.mem_of_mem_take hq)⟩
  · show ((z.il.take 41).map jQT).length<=1500000;rw [List.length_map,List.length_take];omega
  ·
   show sumI ((z.il.take 41).map jQT)<=1000000000
   have h1:=qJn ((z.il.take 41).map jQT) (fun y hy=>by
    obtain ⟨q,_,rfl⟩:=List.mem_map.1 hy;show ((q.l.take 31).map KpB.p).length<=31;rw [List.length_map,List.length_take];omega)
   rw [List.length_map,List.length_take] at h1;omega
  ·
   have hi:i∈(z.il.take 41).map jQT:=hi;obtain ⟨q,hq,rfl⟩:=List.mem_map.1 hi;obtain ⟨i1,i2⟩:=k.i z hz2 q (List.mem_of_mem_take hq);refine ⟨jYv _,i1,?_,fun c hc=>?_⟩
   · show ((q.l.take 31).map KpB.p).length<=1500000;rw [List.length_map,List.length_take];omega
   · have hc:c∈(q.l.take 31).map KpB.p:=hc;obtain ⟨e,he,rfl⟩:=List.mem_map.1 hc;exact i2 e (List.mem_of_mem_take he)
 · rw [h.d,List.length_map,List.length_take];omega
 ·
  rw [h.d] at hy;obtain ⟨z,_,rfl⟩:=List.mem_map.1 hy;refine ⟨kQ8 _,?_⟩;show (jQP z.e).size<=1500000;unfold jQP
  split
  · simp;omega
  · omega
end Go.Proofs.YtcbicdencgjfiaaGreatDoor
namespace Go.Proofs.YtcbicdencgjfiaaGreatDoor
open Go Go.RowKit Tryst
def Puts (F:FuncId) (v:Value) (bs:List UInt8) (W0:World) (b:Nat):Prop:=∀ (Y w:World) (o:List UInt8),PenS W0 Y b o w->o.length+bs.length<=800000000->Calls Tryz.prog F #[.pointer (some ⟨b,0,none⟩),v] w (PenR W0 Y b (o++bs))
theorem kQK {α β:Type} (f:α->List UInt8) (p:β->α) (l:List β):Qf f (l.map p)=Qf (fun y=>f (p y)) l:=by
 unfold Qf;rw [List.length_map,List.flatMap_map]
theorem qJN {f:DeadB->List UInt8} (a:Option Addr) (c:Nat) (l:List DeadB) {W0 Y w:World} {b:Nat} {o:List UInt8} (h:PenS W0 Y b o w) (hR:Row W0 a 2 (l.map Kk.cells)) (HC:∀ y∈l,Puts 83 (Kk.val y) (f y) W0 b) (hl:o.length+(Qf f l).length<=800000000) (hn:l.length<=1500000) :
  Calls Tryz.prog 82 #[.pointer (some ⟨b,0,none⟩),.slice a l.length c,.func (.func 83) #[.pointer (some ⟨b,0,none⟩)] #[]] w (PenR W0 Y b (o++Qf f l)):=by
 have H0:=Zh h;have HS:=Zh hR;have HC2:=Zh HC;unfold Qf at hl ⊢;rw [List.length_append] at hl;have hpk:=Jf l.length;clear h hR HC;go_enter Tryz.func82,Tryz.ntmps82;go_wp2_with fail;refine (jQD l.length (by omega) H0.out (by omega)).mono ?_;rintro e w1 ⟨rfl,h1⟩;have H1:=Zh h1;clear h1 H0;go_wp2_with fail;go_loopw [15] (fun i wr=>PLR W0 Y b o f l i wr) (fun i _=>l.length - (intOf i).toNat)
 case atStart=>exact ⟨0,by omega,rfl,Zh (by rw [List.take_zero,List.flatMap_nil,List.append_nil];exact H1.out)⟩
 case round=>
  clear H1;obtain ⟨k,hk,rfl,HP⟩:=hrel;obtain ⟨wo,rfl⟩:∃ wo,wo=wr:=⟨_,rfl⟩
  by_cases hlt:k < l.length
  ·
   have hrow:=Row.grow HS.out HP.out.low;obtain ⟨g,j,ha,hb⟩:=Row.head hrow (i:=k) (by simpa using hlt);subst ha;have hat:=(Row.at hrow (i:=k) (by simpa using hlt)).2;rw [List.getElem_map] at hat;have hHC:=HC2.out l[k] (List.getElem_mem hlt);have hfl:=jQE f hlt;have HFN:=Zh (Xy f hlt);have hlen:(pack l.length++l.flatMap f).length=(pack l.length).length+(l.flatMap f).length:=List.length_append;generalize l[k]=y at hat hHC hfl HFN;clear hrow;obtain ⟨su,ev⟩:=y;have f0:wo.cell? ⟨g,j+k*2,none⟩=some (.string su):=hat 0 (by decide);have f1:wo.cell? ⟨g,j+k*2+1,none⟩=some (.string ev):=hat 1 (by decide);have HK:Hid (Puts 83 (.agg #[.string su,.string ev]) (f (DeadB.mk su ev)) W0 b):=Zh hHC;clear hat hHC;generalize f (DeadB.mk su ev)=bs at HK hfl HFN;have B0:=Zh (Qj (.cells #[.string su,.string ev] 74) (.refl wo.heap.size wo));have H1:=Zh (HP.out.enter B0.out);go_wp2_with fail;refine (HK.out _ _ _ H1.out (by rw [List.length_append,List.length_append];omega)).mono ?_;rintro e w2 ⟨rfl,h2⟩;have H2:=Zh ((HP.out.leave B0.out h2).tto (l':=o++pack l.length++(l.take (k+1)).flatMap f) (by rw [HFN.out,List.append_assoc _ _ bs]));clear h2 HP HFN hfl f0 f1 HK B0 H1;go_wp2_with fail;go_roundw
   case rel=>exact ⟨k+1,by omega,by go_num,H2⟩
   case measure=>simp [intOf]<;>omega
  · have H3:=Zh (HP.out.tto (l':=o++(pack l.length++l.flatMap f)) (by rw [List.take_of_length_le (by omega),List.append_assoc]));go_wp2_with fail;go_end0;exact ⟨rfl,H3.out⟩
theorem xJV (y:DeadB) {W0:World} {b:Nat} :Puts 83 (Kk.val y) (qQy (DeadB.p y)) W0 b:=by
 intro Y w o h hl;have H0:=Zh h;have hbw:=h.lt;clear h;obtain ⟨su,ev⟩:=y;show Calls Tryz.prog 83 #[.pointer (some ⟨b,0,none⟩),.agg #[.string su,.string ev]] w _;unfold DeadB.p qQy at hl ⊢;simp only [List.length_append] at hl ⊢;have HX:=Zh (Var.new w 74 [.string su,.string ev]);have B0:=Zh (Qj (.cells #[.string su,.string ev] 74) (.refl w.heap.size w));have H1:=Zh (H0.out.enter B0.out);go_enter Tryz.func83,Tryz.ntmps83;go_upto_region 1 with fail
 revert HX B0 H1;simp only [List.toArray];generalize w.alloc (.cells _ 74)=Z;intro HX B0 H1;have hgb:w.heap.size≠b:=by omega
 generalize w.heap.size=g at HX hgb ⊢;obtain ⟨x0,x1⟩:=v2 (HX.out);go_wp2_with fail;refine (Zg su H1.out (by omega)).mono ?_;rintro e w2 ⟨rfl,h2⟩;have H2:=Zh h2;clear h2 H1 x0 x1;obtain ⟨x0,x1⟩:=v2 ((Var.kept H2.out HX.out hgb (by decide)));go_wp2_with fail;refine (Zg ev H2.out (by simp only [List.length_append];omega)).mono ?_;rintro e w3 ⟨rfl,h3⟩;have H3:=Zh h3;clear h3 H2 x0 x1;obtain ⟨x0,x1⟩:=v2 ((Var.kept H3.out HX.out hgb (by decide)));go_wp2_with fail;go_end0;exact ⟨rfl,(H0.out.leave B0.out H3.out).tto (by simp only [List.append_assoc])⟩
theorem xJh (y:LB) {W0:World} {b:Nat} (h0:y.seq < 2 ^ 64) (h1:I64 y.off):Puts 77 (Z9.val y) (kQ5 (LB.p y)) W0 b:=by
 intro Y w o h hl;have H0:=Zh h;have hbw:=h.lt;clear h;obtain ⟨pr,sq,of⟩:=y;show Calls Tryz.prog 77 #[.pointer (some ⟨b,0,none⟩),.agg #[.string pr,.int .u64 sq,.int .i64 of]] w _;unfold LB.p kQ5 at hl ⊢;simp only [List.length_append] at hl ⊢;simp only at h0 h1;have HX:=Zh (Var.new w 104 [.string pr,.int .u64 sq,.int .i64 of]);have B0:=Zh (Qj (.cells #[.string pr,.int .u64 sq,.int .i64 of] 104) (.refl w.heap.size w));have H1:=Zh (H0.out.enter B0.out);go_enter Tryz.func77,Tryz.ntmps77;go_upto_region 1 with fail
 revert HX B0 H1;simp only [List.toArray];generalize w.alloc (.cells _ 104)=Z;intro HX B0 H1;have hgb:w.heap.size≠b:=by omega
 generalize w.heap.size=g at HX hgb ⊢;obtain ⟨x0,x1,x2⟩:=v3 (HX.out);go_wp2_with fail;refine (Zg pr H1.out (by omega)).mono ?_;rintro e w2 ⟨rfl,h2⟩;have H2:=Zh h2;clear h2 H1 x0 x1 x2;obtain ⟨x0,x1,x2⟩:=v3 ((Var.kept H2.out HX.out hgb (by decide)));go_wp2_with fail;refine (jQD sq h0 H2.out (by simp only [List.length_append];omega)).mono ?_;rintro e w3 ⟨rfl,h3⟩;have H3:=Zh h3;clear h3 H2 x0 x1 x2;obtain ⟨x0,x1,x2⟩:=v3 ((Var.kept H3.out HX.out hgb (by decide)));go_wp2_with fail;refine (Jk of h1.1 h1.2 H3.out (by simp only [List.length_append];omega)).mono ?_;rintro e w4 ⟨rfl,h4⟩;have H4:=Zh h4;clear h4 H3 x0 x1 x2;obtain ⟨x0,x1,x2⟩:=v3 ((Var.kept H4.out HX.out hgb (by decide)));go_wp2_with fail;go_end0;exact ⟨rfl,(H0.out.leave B0.out H4.out).tto (by simp only [List.append_assoc])⟩
theorem qY8 (y:OB) {W0:World} {b:Nat} (h0:I64 y.next):Puts 141 (offK.val y) (offL (OB.p y)) W0 b:=by
 intro Y w o h hl;have H0:=Zh h;have hbw:=h.lt;clear h;obtain ⟨tp,nx⟩:=y;show Calls Tryz.prog 141 #[.pointer (some ⟨b,0,none⟩),.agg #[.string tp,.int .i64 nx]] w _;unfold OB.p offL at hl ⊢;simp only [List.length_append] at hl ⊢;simp only at h0;have HX:=Zh (Var.new w 126 [.string tp,.int .i64 nx]);have B0:=Zh (Qj (.cells #[.string tp,.int .i64 nx] 126) (.refl w.heap.size w));have H1:=Zh (H0.out.enter B0.out);go_enter Tryz.func141,Tryz.ntmps141;go_upto_region 1 with fail
 revert HX B0 H1;simp only [List.toArray];generalize w.alloc (.cells _ 126)=Z;intro HX B0 H1;have hgb:w.heap.size≠b:=by omega
 generalize w.heap.size=g at HX hgb ⊢;obtain ⟨x0,x1⟩:=v2 (HX.out);go_wp2_with fail;refine (Zg tp H1.out (by omega)).mono ?_;rintro e w2 ⟨rfl,h2⟩;have H2:=Zh h2;clear h2 H1 x0 x1;obtain ⟨x0,x1⟩:=v2 ((Var.kept H2.out HX.out hgb (by decide)));go_wp2_with fail;refine (Jk nx h0.1 h0.2 H2.out (by simp only [List.length_append];omega)).mono ?_;rintro e w3 ⟨rfl,h3⟩;have H3:=Zh h3;clear h3 H2 x0 x1;obtain ⟨x0,x1⟩:=v2 ((Var.kept H3.out HX.out hgb (by decide)));go_wp2_with fail;go_end0;exact ⟨rfl,(H0.out.leave B0.out H3.out).tto (by simp only [List.append_assoc])⟩
theorem xJg (y:KpB) {W0:World} {b:Nat} (h0:I64 y.part) (h1:y.id < 2 ^ 64) (h2:I64 y.time):Puts 193 (jQ1.val y) (kQR (KpB.p y)) W0 b:=by
 intro Y w o h hl;have H0:=Zh h;have hbw:=h.lt;clear h;obtain ⟨pt,ki,tm⟩:=y;show Calls Tryz.prog 193 #[.pointer (some ⟨b,0,none⟩),.agg #[.int .i64 pt,.int .u64 ki,.int .i64 tm]] w _;unfold KpB.p kQR at hl ⊢;simp only [List.length_append] at hl ⊢;simp only at h0 h1 h2;have HX:=Zh (Var.new w 155 [.int .i64 pt,.int .u64 ki,.int .i64 tm]);have B0:=Zh (Qj (.cells #[.int .i64 pt,.int .u64 ki,.int .i64 tm] 155) (.refl w.heap.size w));have H1:=Zh (H0.out.enter B0.out);go_enter Tryz.func193,Tryz.ntmps193;go_upto_region 1 with fail
 revert HX B0 H1;simp only [List.toArray];generalize w.alloc (.cells _ 155)=Z;intro HX B0 H1;have hgb:w.heap.size≠b:=by omega
 generalize w.heap.size=g at HX hgb ⊢;obtain ⟨x0,x1,x2⟩:=v3 (HX.out);go_wp2_with fail;refine (Jk pt h0.1 h0.2 H1.out (by omega)).mono ?_;rintro e w2 ⟨rfl,h2⟩;have H2:=Zh h2;clear h2 H1 x0 x1 x2;obtain ⟨x0,x1,x2⟩:=v3 ((Var.kept H2.out HX.out hgb (by decide)));go_wp2_with fail;refine (jQD ki h1 H2.out (by simp only [List.length_append];omega)).mono ?_;rintro e w3 ⟨rfl,h3⟩;have H3:=Zh h3;clear h3 H2 x0 x1 x2;obtain ⟨x0,x1,x2⟩:=v3 ((Var.kept H3.out HX.out hgb (by decide)));go_wp2_with fail;refine (Jk tm h2.1 h2.2 H3.out (by simp only [List.length_append];omega)).mono ?_;rintro e w4 ⟨rfl,h4⟩;have H4:=Zh h4;clear h4 H3 x0 x1 x2;obtain ⟨x0,x1,x2⟩:=v3 ((Var.kept H4.out HX.out hgb (by decide)));go_wp2_with fail;go_end0;exact ⟨rfl,(H0.out.leave B0.out H4.out).tto (by simp only [List.append_assoc])⟩
theorem qY1 (y:TB) {W0:World} {b:Nat} (h0:I64 y.first) (hS:Strs W0 y.la y.log) (hn:y.log.length<=1500000):Puts 75 (topK.val y) (topL (TB.p y)) W0 b:=by
 intro Y w o h hl;have HG:=Zh (fun (Z wx:World) (ox:List UInt8) (hx:PenS W0 Z b ox wx) hlx=>jJe y.la y.lc y.log hx hS hlx hn);clear hS;have H0:=Zh h;have hbw:=h.lt;clear h;obtain ⟨nm,fi,la,lg,lc⟩:=y;show Calls Tryz.prog 75 #[.pointer (some ⟨b,0,none⟩),.agg #[.string nm,.int .i64 fi,.slice la lg.length lc]] w _;unfold TB.p topL at hl ⊢;simp only [List.length_append] at hl ⊢;simp only at h0 HG hn;have HX:=Zh (Var.new w 64 [.string nm,.int .i64 fi,.slice la lg.length lc]);have B0:=Zh (Qj (.cells #[.string nm,.int .i64 fi,.slice la lg.length lc] 64) (.refl w.heap.size w));have H1:=Zh (H0.out.enter B0.out);go_enter Tryz.func75,Tryz.ntmps75;go_upto_region 1 with fail
 revert HX B0 H1;simp only [List.toArray];generalize w.alloc (.cells _ 64)=Z;intro HX B0 H1;have hgb:w.heap.size≠b:=by omega
 generalize w.heap.size=g at HX hgb ⊢;obtain ⟨x0,x1,x2⟩:=v3 (HX.out);go_wp2_with fail;refine (Zg nm H1.out (by omega)).mono ?_;rintro e w2 ⟨rfl,h2⟩;have H2:=Zh h2;clear h2 H1 x0 x1 x2;obtain ⟨x0,x1,x2⟩:=v3 ((Var.kept H2.out HX.out hgb (by decide)));go_wp2_with fail;refine (Jk fi h0.1 h0.2 H2.out (by simp only [List.length_append];omega)).mono ?_;rintro e w3 ⟨rfl,h3⟩;have H3:=Zh h3;clear h3 H2 x0 x1 x2;obtain ⟨x0,x1,x2⟩:=v3 ((Var.kept H3.out HX.out hgb (by decide)));go_wp2_with fail;refine (HG.out _ _ _ H3.out (by simp only [List.length_append];omega)).mono ?_;rintro e w4 ⟨rfl,h4⟩;have H4:=Zh h4;clear h4 H3 x0 x1 x2;obtain ⟨x0,x1,x2⟩:=v3 ((Var.kept H4.out HX.out hgb (by decide)));go_wp2_with fail;go_end0;exact ⟨rfl,(H0.out.leave B0.out H4.out).tto (by simp only [List.append_assoc])⟩
