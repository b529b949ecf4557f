import Derived.Test.YtcbicdencgjfiaaGreatDoorPenK
set_option linter.all false
set_option maxHeartbeats 8000000
set_option maxRecDepth 20000
namespace Go.Proofs.YtcbicdencgjfiaaGreatDoor
open Go Go.RowKit Tryst
theorem LM.ofS {S:Nat->Prop} {w:World} {base:Nat} {la:Option Addr} {n lc:Nat} {log:List ByteArray} (h:ROwn 9 1 w base (.slice la n lc) (log.map fun s=>[Value.string s])) (hn:n=log.length) (hS:∀ b o,la=some ⟨b,o,none⟩->S b):LM strK S w la lc log:=by
 obtain ⟨a,c,e,h1,h2,h3⟩:=ROwn.row h (fun x hx=>by obtain ⟨s,_,rfl⟩:=List.mem_map.1 hx;rfl) (by decide);rw [List.length_map] at e h2;cases e;exact ⟨h1,h2,fun b o e=>⟨hS b o e,(h3 b o e).2.1⟩,fun y hy=>trivial⟩
theorem qJa.o {base:Nat} {L:List Tp} {v:Value} {w:World} (h:qJa base L v w):∃ ys,FwO topK base ys v w/\ys.map TB.tp=qQt L:=by
 obtain ⟨a,c,l,rfl,h1,h2,h3⟩:=h;refine ⟨l,⟨h2,fun y hy=>?_⟩,h1⟩;obtain ⟨i,hi,rfl⟩:=List.mem_iff_getElem.1 hy;have h4:=h3 i hi hi;refine LM.ofS h4 rfl (fun b o e=>⟨(h4.lt b (by rw [e];rfl)).1,fun A n c hv hb=>?_⟩);obtain ⟨cur,hc⟩:=ROwn.typed h2 A n c hv;exact kQ4 h4 (g:=A.block) hc (by decide) ⟨b,o,none⟩ _ _ (by rw [e]) (by simpa using hb.symm)
structure FwP {β:Type} (X:EK β) (S:Nat->Prop) (ys:List β) (v:Value) (w:World):Prop where
 row:ROwn X.T X.k w 0 v (ys.map X.cells)
 blk:∀ A n c,v=.slice (some A) n c->S A.block
 mem:∀ y∈ys,X.E (fun g=>S g/\Away v g) w y
theorem FwP.keep {β:Type} {X:EK β} {S S':Nat->Prop} {ys:List β} {v:Value} {w w':World} (h:FwP X S ys v w) (hk:∀ g,S g->g < w.heap.size->w'.heap[g]?=w.heap[g]?/\S' g) (hz:w.heap.size<=w'.heap.size):FwP X S' ys v w':=
 ⟨jQN h.row (fun A n c e=>(hk _ (h.blk A n c e) (h.row.lt _ (by rw [e];rfl)).2).1),fun A n c e=>(hk _ (h.blk A n c e) (h.row.lt _ (by rw [e];rfl)).2).2,fun y hy=>X.keep (h.mem y hy) (fun g hg hl=>⟨(hk g hg.1 hl).1,(hk g hg.1 hl).2,hg.2⟩) hz⟩
theorem FwP.lm {β:Type} {X:EK β} {S:Nat->Prop} {ys:List β} {v:Value} {w:World} (hk:0 < X.k) (h:FwP X S ys v w):∃ a c,v=.slice a ys.length c/\LM X S w a c ys:=by
 obtain ⟨a,c,h1,h2,h3,h4⟩:=ROwn.row h.row (fun x hx=>by
  obtain ⟨y,_,rfl⟩:=List.mem_map.1 hx;exact X.len y) hk
 rw [List.length_map] at h1 h3;exact ⟨a,c,h1,h2,h3,fun b o e=>⟨h.blk ⟨b,o,none⟩ _ _ (by rw [h1,e]),(h4 b o e).2.1⟩,fun y hy=>X.keep (h.mem y hy) (fun g hg _=>⟨rfl,hg.1⟩) (Nat.le_refl _)⟩
theorem FwT.p {β γ:Type} {X:EK β} {p:β->γ} {ts:List γ} {base lo hi:Nat} {v:Value} {w:World} (h:∃ w0,Tryst4.Same base lo hi w0 w/\FwT X p ts lo hi v w0):∃ ys,FwP X (fun g=>lo<=g/\g < hi) ys v w/\ys.map p=ts:=by
 obtain ⟨ys,h1,h2,h3,h4⟩:=FwT.at h;exact ⟨ys,⟨h1.row.lower (Nat.zero_le _),fun A n c e=>⟨(h1.row.lt _ (by rw [e];rfl)).1,h3 A n c e⟩,h4⟩,h2⟩
structure OffS (S:Nat->Prop) (X Y:World):Prop where
 size:X.heap.size<=Y.heap.size
 same:∀ g,g < X.heap.size->¬ S g->Y.heap[g]?=X.heap[g]?
theorem OffS.refl (S:Nat->Prop) (X:World):OffS S X X:=⟨Nat.le_refl _,fun _ _ _=>rfl⟩
theorem OffS.trans {S:Nat->Prop} {X Y Z:World} (h:OffS S X Y) (k:OffS S Y Z):OffS S X Z:=⟨Nat.le_trans h.size k.size,fun g hg hn=>(k.same g (Nat.lt_of_lt_of_le hg h.size) hn).trans (h.same g hg hn)⟩
theorem OffS.below {S:Nat->Prop} {X Y:World} (h:Below X.heap.size X Y):OffS S X Y:=⟨h.size,fun g hg _=>h.block g hg⟩
theorem OffS.sets {S:Nat->Prop} {X:World} {g:Nat} (hg:S g) (us:List Value) (i:Nat):OffS S X (Yq X g i us):=⟨by rw [Q6];exact Nat.le_refl _,fun k _ hn=>Qb (fun e=>hn (by rw [e];exact hg)) us i X⟩
theorem OffS.set {S:Nat->Prop} {X:World} {g o:Nat} (hg:S g) (v:Value):OffS S X (X.setCell ⟨g,o,none⟩ v):=⟨by simp,fun k _ hn=>Below.heap_setCell _ _ _ _ (fun e=>hn (by rw [show k=g from e];exact hg))⟩
def cutT (t:TB):TB:=if 12 < t.log.length then ⟨t.name,t.first,t.la,t.log.take 12,t.lc⟩ else t
def X8 (k:Nat) (l:List TB):List TB:=(l.take k).map cutT++l.drop k
theorem qJ5 (l:List TB):X8 0 l=l:=by simp [X8]
theorem zQH (k:Nat) (l:List TB):(X8 k l).length=l.length:=by simp [X8];omega
theorem vQI {k:Nat} {l:List TB} (h:k < l.length):(X8 k l)[k]?=some l[k]:=by
 unfold X8;rw [List.getElem?_append_right (by simp;omega)];simp [Nat.min_eq_left (Nat.le_of_lt h),List.getElem?_eq_getElem h]
theorem kQa {k:Nat} {l:List TB} (h:k < l.length):X8 (k+1) l=(X8 k l).set k (cutT l[k]):=by
 unfold X8;rw [List.set_append_right _ _ (by simp;omega),List.take_succ_eq_append_getElem h,List.map_append,List.append_assoc,List.drop_eq_getElem_cons h];simp only [List.length_map,List.length_take,Nat.min_eq_left (Nat.le_of_lt h),Nat.sub_self,List.set_cons_zero,List.map_cons,List.map_nil,List.singleton_append]
theorem kJU {k:Nat} {l:List TB} (h:l.length<=k):X8 k l=l.map cutT:=by
 unfold X8;rw [List.take_of_length_le h,List.drop_eq_nil_of_le h,List.append_nil]
def CtTR (w X:World) (S:Nat->Prop) (ts:List TB) (vt:Value) (i:Value) (wr:World):Prop:=∃ k:Nat,k<=ts.length/\i=.int .i64 k/\Hid (FwP topK S (X8 k ts) vt wr)/\Hid (OffS S X wr)/\Hid (Below w.heap.size w wr)
theorem LM.strTake {S:Nat->Prop} {w:World} {a:Option Addr} {c:Nat} {l:List ByteArray} (h:LM strK S w a c l) (n:Nat):LM strK S w a c (l.take n):=
 ⟨by rw [List.map_take];exact Row.take h.row n,⟨by have:=h.sl.cap;rw [List.length_take];omega,h.sl.spot,h.sl.zero⟩,h.at',fun y _=>trivial⟩
theorem kJc {S:Nat->Prop} {w:World} {gt c k:Nat} {ts:List TB} (hk:k < ts.length) (h:FwP topK S (X8 k ts) (.slice (some ⟨gt,0,none⟩) ts.length c) w) (h12:12 < ts[k].log.length) :
  FwP topK S (X8 (k+1) ts) (.slice (some ⟨gt,0,none⟩) ts.length c) (w.setCell ⟨gt,k*3+2,none⟩ (.slice ts[k].la 12 ts[k].lc)):=by
 have hkl:k < (X8 k ts).length:=by rw [zQH];exact hk
 have hek:(X8 k ts)[k]=ts[k]:=by
  have:=vQI hk;rw [List.getElem?_eq_getElem hkl] at this;exact Option.some.inj this
 have hrow:ROwn 64 3 w 0 (.slice (some ⟨gt,0,none⟩) ts.length c) ((X8 k ts).map TB.cells):=h.row;obtain ⟨g2,c2,hv,_,_,_,_,hst⟩:=ROwn.block hrow (TB.cells_len _) (by rw [List.length_map];omega);simp only [Value.slice.injEq,Option.some.injEq,Addr.mk.injEq,true_and,and_true] at hv;obtain ⟨rfl,-,rfl⟩:=hv;have h1:=hst k (by rw [List.length_map];exact hkl) 2 (by decide) (.slice ts[k].la 12 ts[k].lc);have hcut:cutT ts[k]=⟨ts[k].name,ts[k].first,ts[k].la,ts[k].log.take 12,ts[k].lc⟩:=by unfold cutT;rw [if_pos h12]
 have e:(((X8 k ts).map TB.cells).set k ((((X8 k ts).map TB.cells)[k]'(by rw [List.length_map];exact hkl)).set 2 (.slice ts[k].la 12 ts[k].lc)))=(X8 (k+1) ts).map TB.cells:=by
  rw [kQa hk,List.map_set,List.getElem_map,hek,hcut]
  congr 1
  unfold TB.cells;simp only [List.set_cons_succ,List.set_cons_zero,List.length_take];rw [Nat.min_eq_left (by omega)]
 rw [e] at h1
 have hkp:∀ y∈X8 k ts,topK.E (fun g=>S g/\Away (.slice (some ⟨gt,0,none⟩) ts.length c) g) (w.setCell ⟨gt,k*3+2,none⟩ (.slice ts[k].la 12 ts[k].lc)) y:=fun y hy=>
  topK.keep (h.mem y hy) (fun g hg _=>⟨Below.heap_setCell _ _ _ _ (fun e=>hg.2 ⟨gt,0,none⟩ _ _ rfl e.symm),hg⟩) (by simp)
 refine ⟨h1,h.blk,fun y hy=>?_⟩;rw [kQa hk] at hy
 rcases List.mem_or_eq_of_mem_set hy with hy | rfl
 · exact hkp y hy
 · rw [hcut];exact LM.strTake (hkp ts[k] (by rw [<- hek];exact List.getElem_mem hkl)) 12
theorem qJV {k:Nat} {ts:List TB} (hk:k < ts.length) (h12:¬ 12 < ts[k].log.length):X8 (k+1) ts=X8 k ts:=by
 rw [kQa hk,show cutT ts[k]=ts[k] by unfold cutT;rw [if_neg h12]];have h:=vQI hk;have hkl:k < (X8 k ts).length:=by rw [zQH];exact hk
 rw [List.getElem?_eq_getElem hkl] at h;rw [<- Option.some.inj h,List.set_getElem_self]
def SbR (w A:World) (g3:Nat) (c1 c2:List Value) (sl:List SubB) (i:Value) (wr:World):Prop:=∃ (k:Nat) (ys:List SubB) (v:Value),k<=9/\k<=sl.length/\i=.int .i64 k/\Hid (Var wr g3 28 (c1++v :: c2))/\Hid (FwO subF A.heap.size ys v wr)/\Hid (OffS (fun g=>g=g3) A wr)/\Hid (Below w.heap.size w wr)/\Hid (ys.map SubB.q=(sl.take k).map zQQ)
theorem jYS {w:World} {b o:Nat} {l:List SubB} (h:Row w (some ⟨b,o,none⟩) 15 (l.map SubB.cells)) {i:Nat} (hi:i < l.length):b < w.heap.size/\SubAt w b (o+i*15) l[i]:=by
 obtain ⟨h1,h2⟩:=Row.at h (i:=i) (by simpa using hi);simp only [List.getElem_map] at h2;exact ⟨h1,h2 0 (by omega),h2 1 (by omega),h2 2 (by omega),h2 3 (by omega),h2 4 (by omega),h2 5 (by omega),h2 6 (by omega),h2 7 (by omega),h2 8 (by omega),h2 9 (by omega),h2 10 (by omega),h2 11 (by omega),h2 12 (by omega),h2 13 (by omega),h2 14 (by omega)⟩
def DjT (j:JB) (lo hi:Nat) (v:Value) (w:World):Prop:=w.heap.size=hi/\∃ d:DB,v=d.agg/\DOB lo w d/\d.j=j
theorem DjT.at {j:JB} {base lo hi:Nat} {v:Value} {w:World} (h:∃ w0,Tryst4.Same base lo hi w0 w/\DjT j lo hi v w0):∃ d:DB,v=d.agg/\DOS (fun g=>lo<=g/\g < hi) w d/\d.j=j:=by
 obtain ⟨w0,hs,hz,d,e,hd,hj⟩:=h;exact ⟨d,e,(DOS.of hd (S:=fun g=>lo<=g) (fun _ h=>h)).keep (fun g hg hl=>⟨hs.block g (.inr ⟨hg,by omega⟩) hl,hg,by omega⟩) hs.size,hj⟩
def DdR (w A:World) (g3:Nat) (c1:List Value) (dl:List DeadB) (i:Value) (wr:World):Prop:=∃ (k:Nat) (v:Value),k<=41/\k<=dl.length/\i=.int .i64 k/\Hid (Var wr g3 28 (c1++[v]))/\Hid (FwO Kk A.heap.size ((dl.take k).map kQS) v wr)/\Hid (OffS (fun g=>g=g3) A wr)/\Hid (Below w.heap.size w wr)
theorem xJD {w:World} {b o:Nat} {l:List DeadB} (h:Row w (some ⟨b,o,none⟩) 2 (l.map DeadB.cells)) {i:Nat} (hi:i < l.length):b < w.heap.size/\w.cell? ⟨b,o+i*2,none⟩=some (.string l[i].sub)/\w.cell? ⟨b,o+i*2+1,none⟩=some (.string l[i].e):=by
 obtain ⟨h1,h2⟩:=Row.at h (i:=i) (by simpa using hi);simp only [List.getElem_map] at h2;exact ⟨h1,h2 0 (by omega),h2 1 (by omega)⟩
theorem xJF (ρ:Operand->Value) (o:Oper) (w:World) (ho:o.op=.alloc 74):(execOp ρ o).run Tryz.prog w=.ok (.value (.pointer (some ⟨w.heap.size,0,none⟩))) (w.alloc (.cells [.string ⟨#[]⟩,.string ⟨#[]⟩].toArray 74)):=by
 unfold execOp;rw [ho]
 kernel_rfl
structure SArg (w:World) (x:SubB):Prop where
 d:DArg w x.d
 o:Offs w x.oa x.ol
 on:x.ol.length<=9223372036854775807
 os:∀ y∈x.ol,y.topic.size<=9223372036854775807
 i:InsA w x.ia x.il
 im:x.il.length<=9223372036854775807
 is:∀ y∈x.il,y.s.size<=9223372036854775807/\y.l.length<=9223372036854775807/\y.l.length<=y.lc
theorem SArg.grow {w W:World} {x:SubB} (h:SArg w x) (hb:Below w.heap.size w W):SArg W x:=⟨h.d.grow hb,Row.grow h.o hb,h.on,h.os,h.i.grow hb,h.im,h.is⟩
structure UArg (w:World) (a:Option Addr) (l:List UB):Prop where
 row:Zj w a l
 n:l.length<=9223372036854775807
 s:∀ x∈l,x.sub.size<=9223372036854775807/\x.ids.length<=9223372036854775807/\x.ids.length<=x.ic
 i:∀ x∈l,Row w x.ia 1 (x.ids.map idK.cells)
theorem UArg.grow {w W:World} {a:Option Addr} {l:List UB} (h:UArg w a l) (hb:Below w.heap.size w W):UArg W a l:=⟨Row.grow h.row hb,h.n,h.s,fun x hx=>Row.grow (h.i x hx) hb⟩
structure RArg (w:World) (r:RtB):Prop where
 t:qQu w r.ta r.tl
 tn:r.tl.length<=9223372036854775807
 ts:∀ t∈r.tl,t.name.size<=9223372036854775807/\(∀ s∈t.log,s.size<=9223372036854775807)/\t.log.length<=9223372036854775807
 l:qQF w r.la r.ll
 ln:r.ll.length<=9223372036854775807
 ls:∀ x∈r.ll,x.producer.size<=9223372036854775807
 s:Row w r.sa 15 (r.sl.map SubB.cells)
 sm:∀ x∈r.sl,SArg w x
 sn:r.sl.length<=9223372036854775807
 u:UArg w r.ua r.ul
 g:UArg w r.ga r.gl
 d:Row w r.da 2 (r.dl.map DeadB.cells)
 dn:r.dl.length<=9223372036854775807
 ds:∀ x∈r.dl,x.sub.size<=9223372036854775807/\x.e.size<=9223372036854775807
theorem RArg.grow {w W:World} {r:RtB} (h:RArg w r) (hb:Below w.heap.size w W):RArg W r:=
 ⟨qQu.grow h.t hb,h.tn,h.ts,Row.grow h.l hb,h.ln,h.ls,Row.grow h.s hb,fun x hx=>(h.sm x hx).grow hb,h.sn,h.u.grow hb,h.g.grow hb,Row.grow h.d hb,h.dn,h.ds⟩
def BtT (now total:Int) (vs:Nat->Value) (_ _:Nat) (v:Value) (_:World):Prop:=v=.agg #[.int .i64 now,vs 6,vs 9,.slice none 0 0,.int .i64 total,vs 12,vs 15,.slice none 0 0]/\(∃ a n c,vs 6=.slice a n c)/\(∃ a n c,vs 9=.slice a n c)/\(∃ a n c,vs 12=.slice a n c)/\∃ a n c,vs 15=.slice a n c
def NbT (T:TypeId) (zs:List Value) (lo hi:Nat) (v:Value) (w:World):Prop:=∃ g,v=.pointer (some ⟨g,0,none⟩)/\lo<=g/\g < hi/\Var w g T zs
theorem vJb (r:RtB) (w:World) (h:RArg w r):Calls Tryz.prog 24 #[.slice r.ta r.tl.length r.tc] w fun e w'=>∃ v,e=.returned v/\FwT topK TB.tp (qQt (r.tl.map TB.tp)) w.heap.size w'.heap.size v w'/\Below w.heap.size w w':=
 (vJR r.ta r.tc r.tl h.tn h.ts w h.t).mono fun e w' ⟨v,h1,h2,h3⟩=>⟨v,h1,⟨rfl,qJa.o h2⟩,h3⟩
theorem zJh (r:RtB) (w:World) (h:RArg w r):Calls Tryz.prog 25 #[.slice r.la r.ll.length r.lc] w fun e w'=>∃ v,e=.returned v/\FwT Z9 (fun x=>x) ((r.ll.take 51).map qQX) w.heap.size w'.heap.size v w'/\Below w.heap.size w w':=
 (kJ9 r.la r.lc r.ll h.ln h.ls w h.l).mono fun e w' ⟨v,h1,h2,h3⟩=>⟨v,h1,⟨rfl,_,⟨h2,fun y hy=>trivial⟩,by rw [show (fun x:LB=>x)=id from rfl,List.map_id]⟩,h3⟩
theorem jJ1 (a:Option Addr) (c:Nat) (l:List UB) (w:World) (h:UArg w a l):Calls Tryz.prog 26 #[.slice a l.length c] w fun e w'=>∃ v,e=.returned v/\FwT outK UB.p ((l.take 101).map jQk) w.heap.size w'.heap.size v w'/\Below w.heap.size w w':=
 (qJq a c l h.n h.s w h.row h.i).mono fun e w' ⟨v,ys,h1,h2,h3⟩=>⟨v,h1,⟨rfl,ys,h2.o,h3⟩,h2.low⟩
def RtB.zeros:List Value:=[.int .i64 0,.slice none 0 0,.slice none 0 0,.slice none 0 0,.int .i64 0,.slice none 0 0,.slice none 0 0,.slice none 0 0]
theorem qY3 (ρ:Operand->Value) (o:Oper) (w:World) (ho:o.op=.alloc 28):(execOp ρ o).run Tryz.prog w=.ok (.value (.pointer (some ⟨w.heap.size,0,none⟩))) (w.alloc (.cells RtB.zeros.toArray 28)):=by
 unfold execOp;rw [ho]
 kernel_rfl
theorem qJi (r:RtB) (w:World) (hA:RArg w r):Calls Tryz.prog 9 #[r.agg] w fun e w'=>∃ x:RtB,e=.returned x.agg/\RtM (fun g=>w.heap.size<=g) w' x/\FewRt r x/\Below w.heap.size w w':=by
 have HA:=Zh (fun W (hb:Below w.heap.size w W)=>hA.grow hb);have C12:=Zh (fun W (hb:Below w.heap.size w W)=>vJb r W (hA.grow hb));have C13:=Zh (fun W (hb:Below w.heap.size w W)=>zJh r W (hA.grow hb));have CU:=Zh (fun W (hb:Below w.heap.size w W)=>jJ1 r.ua r.uc r.ul W (hA.u.grow hb));have CG:=Zh (fun W (hb:Below w.heap.size w W)=>jJ1 r.ga r.gc r.gl W (hA.g.grow hb));clear hA;obtain ⟨now,ta,tl,tc,la,ll,lc,sa,sl,sc,total,ua,ul,uc,ga,gl,gc,da,dl,dc⟩:=r;simp only at C12 C13 CU CG;unfold RtB.agg;simp only;generalize hTS:qQt (tl.map TB.tp)=TS at C12;generalize hLS:(ll.take 51).map qQX=LS at C13;generalize hUS:(ul.take 101).map jQk=US at CU;generalize hGS:(gl.take 101).map jQk=GS at CG;have HTS:=Zh hTS;have HLS:=Zh hLS;have HUS:=Zh hUS;have HGS:=Zh hGS;clear hTS hLS hUS hGS;have VS:=Zh ((Var.new w 28 [.int .i64 now,.slice ta tl.length tc,.slice la ll.length lc,.slice sa sl.length sc,.int .i64 total,.slice ua ul.length uc,.slice ga gl.length gc,.slice da dl.length dc]).grow (Qj (.cells #[.int .i64 0,.slice none 0 0,.slice none 0 0,.slice none 0 0,.int .i64 0,.slice none 0 0,.slice none 0 0,.slice none 0 0] 28) (.refl _ _)));have VR:=Zh (Var.new (w.alloc (.cells #[.int .i64 now,.slice ta tl.length tc,.slice la ll.length lc,.slice sa sl.length sc,.int .i64 total,.slice ua ul.length uc,.slice ga gl.length gc,.slice da dl.length dc] 28)) 28 RtB.zeros);have B0:=Zh (Qj (.cells #[.int .i64 0,.slice none 0 0,.slice none 0 0,.slice none 0 0,.int .i64 0,.slice none 0 0,.slice none 0 0,.slice none 0 0] 28) (Qj (.cells #[.int .i64 now,.slice ta tl.length tc,.slice la ll.length lc,.slice sa sl.length sc,.int .i64 total,.slice ua ul.length uc,.slice ga gl.length gc,.slice da dl.length dc] 28) (.refl w.heap.size w)));unfold RtB.zeros at VR;go_enter Tryz.func9,Tryz.ntmps9;go_upto_region 1 with fail
 revert VS VR B0;simp only [List.toArray,World.size_alloc];generalize (w.alloc (.cells _ 28)).alloc (.cells _ 28)=X;intro VS VR B0;obtain ⟨s0,s1,s2,s3,s4,s5,s6,s7⟩:=v8 (VS.out);have hzs:=VS.out.lt;have hzr:=VR.out.lt;refine Tryst4.wp_region_owns [.is (.pointer (some ⟨w.heap.size,0,none⟩)),.is (.int .i64 now),.is (.pointer (some ⟨w.heap.size,4,none⟩)),.is (.int .i64 total),.is (.pointer (some ⟨w.heap.size,1,none⟩)),.is (.slice ta tl.length tc),.own (FwT topK TB.tp TS),.is (.pointer (some ⟨w.heap.size,2,none⟩)),.is (.slice la ll.length lc),.own (FwT Z9 (fun x=>x) LS),.is (.pointer (some ⟨w.heap.size,5,none⟩)),.is (.slice ua ul.length uc),.own (FwT outK UB.p US),.is (.pointer (some ⟨w.heap.size,6,none⟩)),.is (.slice ga gl.length gc),.own (FwT outK UB.p GS),.dep [6,9,12,15] (BtT now total),.own (NbT 28 RtB.zeros)] (by kernel_rfl) (by kernel_rfl) (by kernel_rfl) ?obl ?fin
 case obl=>
  simp only [Tryst4.AllObl,Tryst4.Obl,Tryst4.depsS,Tryst4.Rsp.R,Tryst4.Rsp.made,Tryst4.val,YL,YO,Op.operands,Call.operands]
  repeat' apply And.intro
  any_goals trivial
  all_goals (intro tv lo hi w' hg hold hd;(try simp at hold);obtain ⟨hcg,hfg,hsg⟩:=YG hg)
  all_goals first | (go_simp;done) | (go_simp;go_at_call 24;refine (C12.out _ (Tryst2.Grow.below hg B0.out)).mono ?_;rintro e w2 ⟨v2,rfl,ho,hb2⟩;exact ⟨hb2,ho⟩) | (go_simp;go_at_call 25;refine (C13.out _ (Tryst2.Grow.below hg B0.out)).mono ?_;rintro e w2 ⟨v2,rfl,ho,hb2⟩;exact ⟨hb2,ho⟩) | (go_simp;go_at_call 26;(first | with_reducible refine (CU.out _ (Tryst2.Grow.below hg B0.out)).mono ?_ | with_reducible refine (CG.out _ (Tryst2.Grow.below hg B0.out)).mono ?_);rintro e w2 ⟨v2,rfl,ho,hb2⟩;exact ⟨hb2,ho⟩) | (obtain ⟨e10,e12,⟨_,_,h6⟩,⟨_,_,h9⟩,⟨_,_,h12⟩,⟨_,_,h15⟩,-⟩:=hd;obtain ⟨a6,n6,c6,e6⟩:=h6.sl;obtain ⟨a9,n9,c9,e9⟩:=h9.sl;obtain ⟨a1,n1,c1,e1⟩:=h12.sl;obtain ⟨a5,n5,c5,e5⟩:=h15.sl;go_simp;exact ⟨by simp [Tryst4.mask,Tryst4.val,e6,e9,e1,e5],⟨a6,n6,c6,by simp [Tryst4.mask,Tryst4.val,e6]⟩,⟨a9,n9,c9,by simp [Tryst4.mask,Tryst4.val,e9]⟩,⟨a1,n1,c1,by simp [Tryst4.mask,Tryst4.val,e1]⟩,a5,n5,c5,by simp [Tryst4.mask,Tryst4.val,e5]⟩) | (rw [qY3 _ _ _ rfl,Tryst2.stepV_value];exact ⟨Tryst2.Grow.alloc (Tryst2.Grow.refl _) _,_,rfl,Nat.le_refl _,by simp,Var.new _ _ RtB.zeros⟩)
 case fin=>
  intro tv w' lo hi hg hR hL hT;simp only [Tryst4.allT,Tryst4.Rsp.R,Tryst4.val,Nat.reduceAdd,YL,YO] at hR;simp only [YL,Nat.reduceAdd] at hL hT;obtain ⟨hcg,hfg,hsg⟩:=YG hg;simp only [YP,YL,Act.put,hR];obtain ⟨-,-,-,-,-,-,h6,-,-,h9,-,-,h12,-,-,h15,⟨_,_,h16,-,-,-,-⟩,⟨w7,s7',g3,e3,l3,u3,h17⟩,-⟩:=hR;obtain ⟨ts,P6,m6⟩:=FwT.p h6;obtain ⟨ls,P9,m9⟩:=FwT.p h9;obtain ⟨us,P12,m12⟩:=FwT.p h12;obtain ⟨gs,P15,m15⟩:=FwT.p h15;obtain ⟨at',ct,et,-⟩:=P6.lm (by decide);obtain ⟨al,cl,el,L9⟩:=P9.lm (by decide);obtain ⟨au,cu,eu,L12⟩:=P12.lm (by decide);obtain ⟨ag,cg,eg,L15⟩:=P15.lm (by decide)
  have e16:tv 25=.agg #[.int .i64 now,.slice at' ts.length ct,.slice al ls.length cl,.slice none 0 0,.int .i64 total,.slice au us.length cu,.slice ag gs.length cg,.slice none 0 0]:=by
   simp [Tryst4.mask,Tryst4.val] at h16;rw [h16,et,el,eu,eg]
  have t1:=hT 6 17 (by decide) (by decide) (by decide);have t2:=hT 9 17 (by decide) (by decide) (by decide);have t3:=hT 12 17 (by decide) (by decide) (by decide);have t4:=hT 15 17 (by decide) (by decide) (by decide);have t5:=hT 6 9 (by decide) (by decide) (by decide);have t6:=hT 6 12 (by decide) (by decide) (by decide);have t7:=hT 6 15 (by decide) (by decide) (by decide);have q6:=hL 6 (by decide);have q9:=hL 9 (by decide);have q12:=hL 12 (by decide);have q15:=hL 15 (by decide);have q17:=hL 17 (by decide);have hzX:=VR.out.lt;have V3:=Zh (show Var w' g3 28 RtB.zeros from (s7'.block g3 (.inr ⟨l3,u3⟩) h17.lt).trans h17);have B1:=Zh (Tryst2.Grow.below hg B0.out);have hbX:=Tryst2.Grow.below hg (.refl X.heap.size X);have VS1:=Zh (VS.out.grow hbX);have VR1:=Zh (VR.out.grow hbX);rw [et] at P6;simp only [e3,e16];have HP6:=Zh (P6.keep (S':=fun g=>lo 6<=g/\g < hi 6) (w':=Yq w' g3 0 [.int .i64 now,.slice at' ts.length ct,.slice al ls.length cl,.slice none 0 0,.int .i64 total,.slice au us.length cu,.slice ag gs.length cg,.slice none 0 0]) (fun g hg _=>⟨Qb (by omega) _ _ _,hg⟩) (by rw [Q6];exact Nat.le_refl _));have HL9:=Zh (L9.keep (S':=fun g=>w.heap.size+2<=g/\g < w'.heap.size/\g≠g3/\¬ (lo 6<=g/\g < hi 6)) (w':=Yq w' g3 0 [.int .i64 now,.slice at' ts.length ct,.slice al ls.length cl,.slice none 0 0,.int .i64 total,.slice au us.length cu,.slice ag gs.length cg,.slice none 0 0]) (fun g hg _=>⟨Qb (by omega) _ _ _,by omega⟩) (by rw [Q6];exact Nat.le_refl _));have HL12:=Zh (L12.keep (S':=fun g=>w.heap.size+2<=g/\g < w'.heap.size/\g≠g3/\¬ (lo 6<=g/\g < hi 6)) (w':=Yq w' g3 0 [.int .i64 now,.slice at' ts.length ct,.slice al ls.length cl,.slice none 0 0,.int .i64 total,.slice au us.length cu,.slice ag gs.length cg,.slice none 0 0]) (fun g hg _=>⟨Qb (by omega) _ _ _,by omega⟩) (by rw [Q6];exact Nat.le_refl _));have HL15:=Zh (L15.keep (S':=fun g=>w.heap.size+2<=g/\g < w'.heap.size/\g≠g3/\¬ (lo 6<=g/\g < hi 6)) (w':=Yq w' g3 0 [.int .i64 now,.slice at' ts.length ct,.slice al ls.length cl,.slice none 0 0,.int .i64 total,.slice au us.length cu,.slice ag gs.length cg,.slice none 0 0]) (fun g hg _=>⟨Qb (by omega) _ _ _,by omega⟩) (by rw [Q6];exact Nat.le_refl _));have VS2:=Zh (show Var (Yq w' g3 0 [.int .i64 now,.slice at' ts.length ct,.slice al ls.length cl,.slice none 0 0,.int .i64 total,.slice au us.length cu,.slice ag gs.length cg,.slice none 0 0]) w.heap.size 28 _ from (Qb (by omega) _ _ _).trans VS1.out);have VR2:=Zh (show Var (Yq w' g3 0 [.int .i64 now,.slice at' ts.length ct,.slice al ls.length cl,.slice none 0 0,.int .i64 total,.slice au us.length cu,.slice ag gs.length cg,.slice none 0 0]) (w.heap.size+1) 28 _ from (Qb (by omega) _ _ _).trans VR1.out);have V32:=Zh (V3.out.put [.int .i64 now,.slice at' ts.length ct,.slice al ls.length cl,.slice none 0 0,.int .i64 total,.slice au us.length cu,.slice ag gs.length cg,.slice none 0 0] rfl);have B2:=Zh (Qw (show w.heap.size<=g3 by omega) [.int .i64 now,.slice at' ts.length ct,.slice al ls.length cl,.slice none 0 0,.int .i64 total,.slice au us.length cu,.slice ag gs.length cg,.slice none 0 0] 0 _ B1.out);have V3z:=V3.out;unfold RtB.zeros at V3z;obtain ⟨z0,z1,z2,z3,z4,z5,z6,z7⟩:=v8 (V3z);have zf:=V3z.fz;have hz3:=V3z.lt;have g3a:w.heap.size+2<=g3:=by omega
  have g36:¬ (lo 6<=g3/\g3 < hi 6):=by omega
  have hp6:w.heap.size+2<=lo 6:=by omega
  generalize lo 6=p6 at HP6 HL9 HL12 HL15 g36 hp6;generalize hi 6=r6 at HP6 HL9 HL12 HL15 g36;clear hg hL hT hcg hfg hsg h6 h9 h12 h15 h16 s7' h17 P6 P9 P12 P15 L9 L12 L15 e3 e16 et el eu eg V3 B1 hbX VS1 VR1 V3z s0 s1 s2 s3 s4 s5 s6 s7 t1 t2 t3 t4 t5 t6 t7 q6 q9 q12 q15 q17 l3 u3 VS VR B0 C12 C13 CU CG
  have hts:ts.length<=21:=by
   have h:=congrArg List.length m6;rw [List.length_map,<- HTS.out] at h;unfold qQt at h;simp only [List.length_map,List.length_take] at h;omega
  obtain ⟨Z,hZ⟩:∃ Z,Z=Yq w' g3 0 [.int .i64 now,.slice at' ts.length ct,.slice al ls.length cl,.slice none 0 0,.int .i64 total,.slice au us.length cu,.slice ag gs.length cg,.slice none 0 0]:=⟨_,rfl⟩;have hzZ:Z.heap.size=w'.heap.size:=by rw [hZ,Q6]
  rw [<- hZ] at HP6 HL9 HL12 HL15 VS2 VR2 V32 B2;go_wp2_with fail;go_loopw [4] (fun i wr=>CtTR w Z (fun g=>p6<=g/\g < r6) ts (.slice at' ts.length ct) i wr) (fun i _=>ts.length - (intOf i).toNat)
  case atStart=>
   subst hZ;exact ⟨0,by omega,rfl,Zh (by rw [qJ5];exact HP6.out),Zh (OffS.refl _ _),B2⟩
  case round=>
   clear HP6 B2 z0 z1 z2 z3 z4 z5 z6 z7 zf;obtain ⟨k,hk,rfl,HP,HO,HW⟩:=hrel;obtain ⟨wo,rfl⟩:∃ wo,wo=wr:=⟨_,rfl⟩;have V3o:=Zh (show Var wo g3 28 [.int .i64 now,.slice at' ts.length ct,.slice al ls.length cl,.slice none 0 0,.int .i64 total,.slice au us.length cu,.slice ag gs.length cg,.slice none 0 0] from (HO.out.same g3 (by omega) g36).trans V32.out);obtain ⟨z0,z1,z2,z3,z4,z5,z6,z7⟩:=v8 (V3o.out);have hzo:=V3o.out.lt
   by_cases hlt:k < ts.length
   ·
    have hkl:k < (X8 k ts).length:=by rw [zQH];exact hlt
    have hek:(X8 k ts)[k]=ts[k]:=by
     have:=vQI hlt;rw [List.getElem?_eq_getElem hkl] at this;exact Option.some.inj this
    have hrow:ROwn 64 3 wo 0 (.slice at' ts.length ct) ((X8 k ts).map TB.cells):=HP.out.row;obtain ⟨gt,c2,hv,_,hgt,hfz,hcl,_⟩:=ROwn.block hrow (TB.cells_len _) (by rw [List.length_map];omega);simp only [Value.slice.injEq] at hv;obtain ⟨rfl,-,rfl⟩:=hv;have hS:p6<=gt/\gt < r6:=HP.out.blk ⟨gt,0,none⟩ _ _ rfl;have f0:=hcl k (by rw [List.length_map];exact hkl) 0 (by decide);have f1:=hcl k (by rw [List.length_map];exact hkl) 1 (by decide);have f2:=hcl k (by rw [List.length_map];exact hkl) 2 (by decide);rw [List.getElem_map,hek] at f0 f1 f2;have hM:LM strK _ wo ts[k].la ts[k].lc ts[k].log:=HP.out.mem ts[k] (by rw [<- hek];exact List.getElem_mem hkl);have hcap:=hM.sl.cap;simp only [TB.cells,List.getElem?_cons_zero,List.getElem?_cons_succ,Nat.add_zero] at f0 f1 f2;have x1:(k:Int) < ts.length:=by omega
    have x2:(0:Int)<=k:=by omega
    have hf2:=hfz (k*3+2);clear hM hcl hek
    by_cases h12:12 < ts[k].log.length
    ·
     have y1:(12:Int) < ts[k].log.length:=by omega
     have y2:(12:Int)<=ts[k].lc:=by omega
     have y3:12<=ts[k].lc:=by omega
     have HN:=Zh (fun W (hb:Below wo.heap.size wo W)=>kJc hlt (HP.out.keep (w':=W) (S':=fun g=>p6<=g/\g < r6) (fun g hg hl=>⟨hb.block g hl,hg⟩) hb.size) h12);go_upto_region 6 with fail
     refine Tryst2.wp_region_text 10 (by kernel_rfl) (by kernel_rfl) ?_
     iterate 10 ((first | refine Tryst2.TW.skip (by rfl) ?_ | (refine' Tryst2.TW.op _ ?_ (by rfl) ?_;rotate_left;focus (intro w' hg;obtain ⟨hcg,hfg,hsg⟩:=YG hg;first | (go_simp;done) | (go_simp;with_reducible rfl) )));simp only [Act.put,List.setIfInBounds_toArray,List.set_cons_zero,List.set_cons_succ])
     intro w' hg;obtain ⟨hcg,hfg,hsg⟩:=YG hg
     try change wpList _ _ _ [] _ _
     have hb9:=Tryst2.Grow.below hg (.refl wo.heap.size wo);have HN9:=Zh (HN.out w' hb9);have HO9:=Zh ((HO.out.trans (OffS.below hb9)).trans (OffS.set (S:=fun g=>p6<=g/\g < r6) (o:=k*3+2) hS (.slice ts[k].la 12 ts[k].lc)));have HW9:=Zh (bset (.slice ts[k].la 12 ts[k].lc) (p:=⟨gt,k*3+2,none⟩) (by show w.heap.size<=gt;omega) (Qk hb9 HW.out));have k2:=(hcg gt (k*3+2) hgt).trans f2;have k3:=(hfg gt (k*3+2) hgt).trans hf2;have hgt9:gt < w'.heap.size:=Nat.lt_of_lt_of_le hgt hb9.size;clear hg hcg hfg hsg hb9 HN HP HO HW f0 f1 f2 hf2 hfz z0 z1 z2 z3 z4 z5 z6 z7 hzo;go_wp2_with fail;go_roundw
     case rel=>exact ⟨k+1,by omega,by go_num,HN9,HO9,HW9⟩
     case measure=>simp [intOf]<;>omega
    ·
     have y1:¬ (12:Int) < ts[k].log.length:=by omega
     have HN:=Zh (show FwP topK (fun g=>p6<=g/\g < r6) (X8 (k+1) ts) _ wo by rw [qJV hlt h12];exact HP.out);clear HP;go_wp2_with fail;go_roundw
     case rel=>exact ⟨k+1,by omega,by go_num,HN,HO,HW⟩
     case measure=>simp [intOf]<;>omega
   ·
    have hke:k=ts.length:=by omega
    subst hke;obtain ⟨ts2,hts2⟩:∃ ts2,ts.map cutT=ts2:=⟨_,rfl⟩;have HP2:=Zh (show FwP topK (fun g=>p6<=g/\g < r6) ts2 (.slice at' ts.length ct) wo by rw [<- hts2,<- kJU (Nat.le_refl _)];exact HP.out);obtain ⟨a6,c6,e6,LT⟩:=HP2.out.lm (by decide);have htl:ts2.length=ts.length:=by rw [<- hts2,List.length_map]
    simp only [Value.slice.injEq] at e6;obtain ⟨rfl,-,rfl⟩:=e6
    have M6:=Zh (show ts2.map TB.tp=TS.map (fun t=>⟨t.name,t.first,t.log.take 12⟩) by
     rw [<- hts2,<- m6,List.map_map,List.map_map];refine List.map_congr_left (fun t _=>?_);show (cutT t).tp=_;unfold cutT
     by_cases h:12 < t.log.length
     · rw [if_pos h];rfl
     · rw [if_neg h];show t.tp=⟨t.name,t.first,t.log.take 12⟩;rw [List.take_of_length_le (by omega)];rfl)
    have hzA:=HO.out.size;have LTa:=Zh (LT.keep (w':=wo) (S':=fun g=>w.heap.size+2<=g/\g < wo.heap.size/\g≠g3) (fun g hg hl=>⟨rfl,by omega⟩) (Nat.le_refl _));have LLa:=Zh (HL9.out.keep (w':=wo) (S':=fun g=>w.heap.size+2<=g/\g < wo.heap.size/\g≠g3) (fun g hg hl=>⟨HO.out.same g hl hg.2.2.2,by omega⟩) hzA);have LUa:=Zh (HL12.out.keep (w':=wo) (S':=fun g=>w.heap.size+2<=g/\g < wo.heap.size/\g≠g3) (fun g hg hl=>⟨HO.out.same g hl hg.2.2.2,by omega⟩) hzA);have LGa:=Zh (HL15.out.keep (w':=wo) (S':=fun g=>w.heap.size+2<=g/\g < wo.heap.size/\g≠g3) (fun g hg hl=>⟨HO.out.same g hl hg.2.2.2,by omega⟩) hzA);have VSa:=Zh (show Var wo w.heap.size 28 _ from (HO.out.same w.heap.size (by omega) (by omega)).trans VS2.out);have VRa:=Zh (show Var wo (w.heap.size+1) 28 _ from (HO.out.same (w.heap.size+1) (by omega) (by omega)).trans VR2.out);have hg3N:g3 < wo.heap.size:=by omega
    have hwN:w.heap.size+2<=wo.heap.size:=by omega
    clear HP HP2 LT HL9 HL12 HL15 VS2 VR2 V32 HO hts2;go_wp2_with fail;clear z0 z1 z2 z3 z4 z5 z6 z7 hzo;go_loopw [5] (fun i wr=>SbR w wo g3 [.int .i64 now,.slice at' ts.length ct,.slice al ls.length cl] [.int .i64 total,.slice au us.length cu,.slice ag gs.length cg,.slice none 0 0] sl i wr) (fun i _=>sl.length - (intOf i).toNat)
    case atStart=>exact ⟨0,[],_,by omega,by omega,rfl,V3o,Zh (FwO.nil _ _ _),Zh (OffS.refl _ _),HW,Zh rfl⟩
    case round=>
     clear V3o HW;obtain ⟨k2,ys,v,hk9,hkl,rfl,V3,HY,HO,HW,HQ⟩:=hrel;obtain ⟨wq,rfl⟩:∃ wq,wq=wr:=⟨_,rfl⟩;have hzq:=HO.out.size;have VSq:=Zh (show Var wq w.heap.size 28 _ from (HO.out.same w.heap.size (by omega) (by omega)).trans VSa.out);simp only [List.cons_append,List.nil_append] at V3;obtain ⟨s0,s1,s2,s3,s4,s5,s6,s7⟩:=v8 (VSq.out);obtain ⟨z0,z1,z2,z3,z4,z5,z6,z7⟩:=v8 (V3.out);have zf:=V3.out.fz
     by_cases hlt:k2 < sl.length/\k2 < 9
     ·
      obtain ⟨hl1,hl2⟩:=hlt;have hrow:Row wq sa 15 (sl.map SubB.cells):=(HA.out wq HW.out).s;obtain ⟨b,o,ha,hb⟩:=Row.head hrow (i:=k2) (by simpa using hl1);subst ha;obtain ⟨_,f0,f1,f2,f3,f4,f5,f6,f7,f8,f9,f10,f11,f12,f13,f14⟩:=jYS hrow hl1;have hSA:=(HA.out wq HW.out).sm sl[k2] (List.getElem_mem hl1);have HL2:Hid ((sl.take (k2+1)).map zQQ=(sl.take k2).map zQQ++[zQQ sl[k2]]):=Zh (by rw [List.take_succ_eq_append_getElem hl1,List.map_append];rfl);have hyl:ys.length<=9:=by have:=congrArg List.length HQ.out;simp at this;omega
      have x1:(k2:Int) < sl.length:=by omega
      have x2:(0:Int)<=k2:=by omega
      have x3:(k2:Int) < 9:=by omega
      obtain ⟨x,hx⟩:∃ x,sl[k2]=x:=⟨_,rfl⟩;rw [hx] at f0 f1 f2 f3 f4 f5 f6 f7 f8 f9 f10 f11 f12 f13 f14 HL2 hSA;have VU:=Zh (Var.new wq 68 x.cells);have BU:=Zh (Qj (.cells x.cells.toArray 68) (.refl wq.heap.size wq));have CD:=Zh (fun W (hb:Below wq.heap.size wq W)=>qJx x.d W (hSA.d.grow hb));have CO:=Zh (fun W (hb:Below wq.heap.size wq W)=>xJR x.oa x.oc x.ol hSA.on hSA.os W (Row.grow hSA.o hb));have CI:=Zh (fun W (hb:Below wq.heap.size wq W)=>kJC x.ia x.ic x.il hSA.im hSA.is W (hSA.i.grow hb));clear hx hSA hrow;obtain ⟨⟨xn,xga,xgl,xgc,xwa,xwl,xwc,xk,⟨xkd,xp,xnd,xw⟩⟩,oa,ol,oc,ia,il,ic,fa,tk,pa,fi,ov⟩:=x;unfold SubB.cells at VU BU;rw [show zQQ (SubB.mk ⟨xn,xga,xgl,xgc,xwa,xwl,xwc,xk,⟨xkd,xp,xnd,xw⟩⟩ oa ol oc ia il ic fa tk pa fi ov)=(⟨jQz xkd,xp,xnd,xw⟩,jQw ol,(il.take 41).map jQT,fa,tk,pa,fi,ov) from rfl] at HL2;unfold DB.agg at CD;simp only at f0 f1 f2 f3 f4 f5 f6 f7 f8 f9 f10 f11 f12 f13 f14 HL2 VU BU CD CO CI;generalize jQw ol=OS at CO HL2;generalize (il.take 41).map jQT=IS at CI HL2;go_upto_region 11 with fail
      have HZ1:Hid ((wq.alloc (.cells #[.string xn,.slice xga xgl.length xgc,.slice xwa xwl.length xwc,.string xk,.string xkd,.int .i64 xp,.int .i64 xnd,.int .i64 xw,.slice oa ol.length oc,.slice ia il.length ic,.int .i64 fa,.int .i64 tk,.int .i64 pa,.int .i64 fi,.int .i64 ov] 68)).heap.size=wq.heap.size+1):=Zh (by simp);revert VU BU HZ1;simp only [List.toArray];generalize wq.alloc (.cells _ 68)=Y;intro VU BU HZ1;have hzu:=VU.out.lt;have hzY:Y.heap.size=wq.heap.size+1:=HZ1.out;obtain ⟨u0,u1,u2,u3,u4,u5,u6,u7,u8,u9,u10,u11,u12,u13,u14⟩:=v15 (VU.out);clear f0 f1 f2 f3 f4 f5 f6 f7 f8 f9 f10 f11 f12 f13 f14 s0 s1 s2 s3 s4 s5 s6 s7 z0 z1 z2 z3 z4 z5 z6 z7 zf;refine Tryst4.wp_region_owns [.is (.pointer (some ⟨wq.heap.size,0,none⟩)),.is (.agg #[.string xn,.slice xga xgl.length xgc,.slice xwa xwl.length xwc,.string xk,.string xkd,.int .i64 xp,.int .i64 xnd,.int .i64 xw]),.own (DjT ⟨jQz xkd,xp,xnd,xw⟩),.is (.pointer (some ⟨wq.heap.size,8,none⟩)),.is (.slice oa ol.length oc),.own (FwT offK (fun x=>x) OS),.is (.pointer (some ⟨wq.heap.size,9,none⟩)),.is (.slice ia il.length ic),.own (FwT Kb InB.p IS),.is (.pointer (some ⟨wq.heap.size,0,none⟩))] (by kernel_rfl) (by kernel_rfl) (by kernel_rfl) ?obl ?fin
      case obl=>
       simp only [Tryst4.AllObl,Tryst4.Obl,Tryst4.depsS,Tryst4.Rsp.R,Tryst4.Rsp.made,Tryst4.val,YL,YO,Op.operands,Call.operands]
       repeat' apply And.intro
       any_goals trivial
       all_goals (intro tv lo hi w' hg hold hd;(try simp at hold);obtain ⟨hcg,hfg,hsg⟩:=YG hg)
       all_goals first | (go_simp;done) | (go_simp;go_at_call 27;refine (CD.out _ (Tryst2.Grow.below hg BU.out)).mono ?_;rintro e w2 ⟨d',rfl,ho,hb2,hj⟩;exact ⟨hb2,rfl,d',rfl,ho,hj⟩) | (go_simp;go_at_call 28;refine (CO.out _ (Tryst2.Grow.below hg BU.out)).mono ?_;rintro e w2 ⟨a2,c2,rfl,ho,hb2⟩;exact ⟨hb2,rfl,OS,⟨ho,fun y hy=>trivial⟩,by rw [show (fun x:OB=>x)=id from rfl,List.map_id]⟩) | (go_simp;go_at_call 29;refine (CI.out _ (Tryst2.Grow.below hg BU.out)).mono ?_;rintro e w2 ⟨v2,ys2,rfl,ho,hm2⟩;exact ⟨ho.low,rfl,ys2,ho.o,hm2⟩)
      case fin=>
       intro tv w' lo hi hg hR hL hT;simp only [Tryst4.allT,Tryst4.Rsp.R,Tryst4.val,Nat.reduceAdd,YL,YO] at hR;simp only [YL,Nat.reduceAdd] at hL hT;obtain ⟨hcg,hfg,hsg⟩:=YG hg;simp only [YP,YL,Act.put,hR];obtain ⟨-,-,h2,-,-,h5,-,-,h8,-,-⟩:=hR;obtain ⟨d',e2,HD,hj⟩:=DjT.at h2;obtain ⟨os,P5,m5⟩:=FwT.p h5;obtain ⟨is,P8,m8⟩:=FwT.p h8;obtain ⟨ao,co,e5,L5⟩:=P5.lm (by decide);obtain ⟨ai,ci,e8,L8⟩:=P8.lm (by decide);have q2:=hL 2 (by decide);have q5:=hL 5 (by decide);have q8:=hL 8 (by decide);have hbg:=Tryst2.Grow.below hg (.refl Y.heap.size Y);have HBg:=Zh hbg;have VUg:=Zh (VU.out.grow hbg)
       have hYz:Y.heap.size=wq.heap.size+1:=by
        have h:=hzY;exact h
       unfold DB.agg at e2;simp only [e2,e5,e8];have HDh:=Zh HD;have L5h:=Zh L5;have L8h:=Zh L8;have HJ:=Zh hj;have M5:=Zh m5;have M8:=Zh m8;clear hL hT h2 h5 h8 e2 e5 e8 P5 P8 hcg hfg hsg HD L5 L8 hj m5 m8 u0 u1 u2 u3 u4 u5 u6 u7 u8 u9 u10 u11 u12 u13 u14 CD CO CI VU;have huw:wq.heap.size < w'.heap.size:=VUg.out.lt;obtain ⟨u0,u1,u2,u3,u4,u5,u6,u7,u8,u9,u10,u11,u12,u13,u14⟩:=v15 (VUg.out);have uf:=VUg.out.fz;clear hg;go_upto_region 12 with fail
       refine Qg (fun W=>Hid (Var W wq.heap.size 68 [.string d'.name,.slice d'.ga d'.gl.length d'.gc,.slice d'.wa d'.wl.length d'.wc,.string d'.key,.string d'.j.kind,.int .i64 d'.j.parts,.int .i64 d'.j.need,.int .i64 d'.j.window,.slice ao os.length co,.slice ai is.length ci,.int .i64 fa,.int .i64 tk,.int .i64 pa,.int .i64 fi,.int .i64 ov])/\Hid (OffS (fun g=>g=wq.heap.size) w' W)/\Hid (Below w.heap.size w W)) ⟨zQB [.slice ai is.length ci] _ 9 _ (zQB [.slice ao os.length co] _ 8 _ (zQB [.string d'.name,.slice d'.ga d'.gl.length d'.gc,.slice d'.wa d'.wl.length d'.wc,.string d'.key,.string d'.j.kind,.int .i64 d'.j.parts,.int .i64 d'.j.need,.int .i64 d'.j.window] _ 0 _ VUg.out)),?_,?_⟩ ?_
       · exact ((OffS.sets (S:=fun g=>g=wq.heap.size) rfl [.string d'.name,.slice d'.ga d'.gl.length d'.gc,.slice d'.wa d'.wl.length d'.wc,.string d'.key,.string d'.j.kind,.int .i64 d'.j.parts,.int .i64 d'.j.need,.int .i64 d'.j.window] 0).trans (OffS.sets (S:=fun g=>g=wq.heap.size) rfl [.slice ao os.length co] 8)).trans (OffS.sets (S:=fun g=>g=wq.heap.size) rfl [.slice ai is.length ci] 9)
       · exact Qw (by omega) [.slice ai is.length ci] 9 _ (Qw (by omega) [.slice ao os.length co] 8 _ (Qw (by omega) [.string d'.name,.slice d'.ga d'.gl.length d'.gc,.slice d'.wa d'.wl.length d'.wc,.string d'.key,.string d'.j.kind,.int .i64 d'.j.parts,.int .i64 d'.j.need,.int .i64 d'.j.window] 0 _ (Qk HBg.out (Qk BU.out HW.out))))
       rintro W ⟨VW,OW,BW⟩;have hYw:=HBg.out.size;have hWz:=OW.out.size;have HK:∀ g,g < wq.heap.size->W.heap[g]?=wq.heap[g]?:=fun g hg=>(OW.out.same g (by omega) (by omega)).trans ((HBg.out.block g (by omega)).trans (BU.out.block g hg))
       have hvl:∀ A n c,v=.slice (some A) n c->A.block < wq.heap.size:=fun A n c e=>(HY.out.row.lt A.block (by rw [e];rfl)).2
       have HYW:=Zh (HY.out.keep (fun g _ hl=>HK g hl) (by omega:wq.heap.size<=W.heap.size))
       have HYE:Hid (subF.E (fun g=>wo.heap.size<=g/\Away v g) W (SubB.mk d' ao os co ai is ci fa tk pa fi ov)):=Zh
        ⟨HDh.out.keep (fun g hg hl=>⟨OW.out.same g hl (by omega),by omega,fun A n c e he=>by have:=hvl A n c e;omega⟩) hWz,L5h.out.keep (fun g hg hl=>⟨OW.out.same g hl (by omega),by omega,fun A n c e he=>by have:=hvl A n c e;omega⟩) hWz,L8h.out.keep (fun g hg hl=>⟨OW.out.same g hl (by omega),by omega,fun A n c e he=>by have:=hvl A n c e;omega⟩) hWz⟩
       have V3W:=Zh (show Var W g3 28 _ from (HK g3 (by omega)).trans V3.out);have HKo:Hid (∀ g,g < wo.heap.size->g≠g3->W.heap[g]?=wo.heap[g]?):=Zh (fun g hg hn=>(HK g (by omega)).trans (HO.out.same g hg hn));have HRW:=Zh (show ROwn 68 15 W wo.heap.size v (ys.map SubB.cells) from HYW.out.row);have HG:=Zh (Var.new W 68 [.string d'.name,.slice d'.ga d'.gl.length d'.gc,.slice d'.wa d'.wl.length d'.wc,.string d'.key,.string d'.j.kind,.int .i64 d'.j.parts,.int .i64 d'.j.need,.int .i64 d'.j.window,.slice ao os.length co,.slice ai is.length ci,.int .i64 fa,.int .i64 tk,.int .i64 pa,.int .i64 fi,.int .i64 ov]);have HLN:=Zh (show (ys.map SubB.cells).length=ys.length by rw [List.length_map])
       have HQ2:Hid ((ys++[SubB.mk d' ao os co ai is ci fa tk pa fi ov]).map SubB.q=(sl.take (k2+1)).map zQQ):=Zh (by
        rw [List.map_append,HQ.out,HL2.out,List.map_cons,List.map_nil];unfold SubB.q;simp only;rw [HJ.out,<- M5.out,<- M8.out,show (fun x:OB=>x)=id from rfl,List.map_id])
       clear u0 u1 u2 u3 u4 u5 u6 u7 u8 u9 u10 u11 u12 u13 u14 uf HK V3 HY HO HW VUg HBg BU HDh L5h L8h M5 M8 HQ HL2 OW;obtain ⟨u0,u1,u2,u3,u4,u5,u6,u7,u8,u9,u10,u11,u12,u13,u14⟩:=v15 (VW.out);obtain ⟨z0,z1,z2,z3,z4,z5,z6,z7⟩:=v8 (V3W.out);have zf:=V3W.out.fz;have hz3W:=V3W.out.lt;have huW:=VW.out.lt;go_wp2_with (at_builtin;refine Q8 subT rfl _ _ rfl wo.heap.size v (ys.map SubB.cells) ys.length HLN.out rfl (HRW.out.alloc _) [.string d'.name,.slice d'.ga d'.gl.length d'.gc,.slice d'.wa d'.wl.length d'.wc,.string d'.key,.string d'.j.kind,.int .i64 d'.j.parts,.int .i64 d'.j.need,.int .i64 d'.j.window,.slice ao os.length co,.slice ai is.length ci,.int .i64 fa,.int .i64 tk,.int .i64 pa,.int .i64 fi,.int .i64 ov] rfl (subF.one (SubB.mk d' ao os co ai is ci fa tk pa fi ov)) W.heap.size rfl (fun j _=>HG.out.cell j) ?a3 ?a4 ?_)
       case a3=>omega
       case a4=>simp;omega
       intro g' cap w5 hr hb hst hat _;have hal:=Qj (.cells ([.string d'.name,.slice d'.ga d'.gl.length d'.gc,.slice d'.wa d'.wl.length d'.wc,.string d'.key,.string d'.j.kind,.int .i64 d'.j.parts,.int .i64 d'.j.need,.int .i64 d'.j.window,.slice ao os.length co,.slice ai is.length ci,.int .i64 fa,.int .i64 tk,.int .i64 pa,.int .i64 fi,.int .i64 ov]).toArray 68) (.refl W.heap.size W);have HYn:=Zh (FwO.put (HYW.out.keep (fun g _ hl=>hal.block g hl) hal.size) (subF.keep HYE.out (fun g hg hl=>⟨hal.block g hl,hg⟩) hal.size) (by simp;omega) hr hb (fun k hk ha=>hst k (by simpa using hk) ha) (by rcases hat with h | h;exact .inl h;exact .inr (by rw [h];simp)));have V35:=Zh ((V3W.out.grow hal).growB (by omega) hb);have HK5:Hid (∀ g,g < wo.heap.size->g≠g3->w5.heap[g]?=wo.heap[g]?):=Zh (fun g hg hn=>(hb.block g hg).trans ((hal.block g (by omega)).trans (HKo.out g hg hn)));have B5:=Zh (Qk hal BW.out |>.trans (hb.mono (by omega)));have hw5:wo.heap.size<=w5.heap.size:=by have h1:=hb.size;have h2:=hal.size;omega
       clear hr hb hst hat hal HYW HYE V3W HKo HRW HG HLN BW VW u0 u1 u2 u3 u4 u5 u6 u7 u8 u9 u10 u11 u12 u13 u14 z0 z1 z2 z3 z4 z5 z6 z7 zf;obtain ⟨z0,z1,z2,z3,z4,z5,z6,z7⟩:=v8 (V35.out);have zf:=V35.out.fz;have hz35:=V35.out.lt;go_wp2_with fail;refine ⟨?_,?measure⟩
       iterate 150 (first | apply Exists.intro | skip)
       refine ⟨?rel,rfl⟩
       case rel=>exact ⟨k2+1,_,_,by omega,by omega,by go_num,Zh (V35.out.set 3 _),Zh (HYn.out.keep (fun g hg _=>Below.heap_setCell _ _ _ _ (show g≠g3 by omega)) (by simp)),Zh ⟨by simp;omega,fun g hg hn=>(Below.heap_setCell _ _ _ _ (show g≠g3 from hn)).trans (HK5.out g hg hn)⟩,Zh (bset _ (p:=⟨g3,3,none⟩) (by show w.heap.size<=g3;omega) B5.out),HQ2⟩
       case measure=>simp [intOf]<;>omega
     ·
      have HQe:Hid (ys.map SubB.q=(sl.take 9).map zQQ):=Zh (HQ.out.trans (zQs hlt hk9));obtain ⟨as',cs',es,LS2⟩:=HY.out.lm (by decide);subst es;have LTb:=Zh (LTa.out.keep (w':=wq) (S':=fun g=>w.heap.size+2<=g/\g < wq.heap.size/\g≠g3) (fun g hg hl=>⟨HO.out.same g hl hg.2.2,by omega⟩) hzq);have LLb:=Zh (LLa.out.keep (w':=wq) (S':=fun g=>w.heap.size+2<=g/\g < wq.heap.size/\g≠g3) (fun g hg hl=>⟨HO.out.same g hl hg.2.2,by omega⟩) hzq);have LUb:=Zh (LUa.out.keep (w':=wq) (S':=fun g=>w.heap.size+2<=g/\g < wq.heap.size/\g≠g3) (fun g hg hl=>⟨HO.out.same g hl hg.2.2,by omega⟩) hzq);have LGb:=Zh (LGa.out.keep (w':=wq) (S':=fun g=>w.heap.size+2<=g/\g < wq.heap.size/\g≠g3) (fun g hg hl=>⟨HO.out.same g hl hg.2.2,by omega⟩) hzq);have LSb:=Zh (LS2.keep (w':=wq) (S':=fun g=>w.heap.size+2<=g/\g < wq.heap.size/\g≠g3) (fun g hg hl=>⟨rfl,by omega⟩) (Nat.le_refl _));have VRb:=Zh (show Var wq (w.heap.size+1) 28 _ from (HO.out.same (w.heap.size+1) (by omega) (by omega)).trans VRa.out);have hg3q:g3 < wq.heap.size:=by omega
      have hwq:w.heap.size+2<=wq.heap.size:=by omega
      clear LS2 LTa LLa LUa LGa HY HO HQ
      by_cases hks:k2 < sl.length
      all_goals
       first | (have h9:k2=9:=(by omega);subst h9) | have y1:¬ (k2:Int) < sl.length:=by omega
       go_wp2_with fail;clear s0 s1 s2 s3 s4 s5 s6 s7 z0 z1 z2 z3 z4 z5 z6 z7 zf;go_loopw [7] (fun i wr=>DdR w wq g3 [.int .i64 now,.slice at' ts.length ct,.slice al ls.length cl,.slice as' ys.length cs',.int .i64 total,.slice au us.length cu,.slice ag gs.length cg] dl i wr) (fun i _=>dl.length - (intOf i).toNat)
       case atStart=>exact ⟨0,_,by omega,by omega,rfl,V3,Zh (FwO.nil _ _ _),Zh (OffS.refl _ _),HW⟩
       case round=>
        clear V3 HW;obtain ⟨k3,v,hk41,hkd,rfl,V3,HY,HO,HW⟩:=hrel;obtain ⟨wx,rfl⟩:∃ wx,wx=wr:=⟨_,rfl⟩;have hzx:=HO.out.size;have VSx:=Zh (show Var wx w.heap.size 28 _ from (HO.out.same w.heap.size (by omega) (by omega)).trans VSq.out);simp only [List.cons_append,List.nil_append] at V3;obtain ⟨s0,s1,s2,s3,s4,s5,s6,s7⟩:=v8 (VSx.out);obtain ⟨z0,z1,z2,z3,z4,z5,z6,z7⟩:=v8 (V3.out);have zf:=V3.out.fz;have hzs3:=VSx.out.lt
        by_cases hltd:k3 < dl.length/\k3 < 41
        ·
         obtain ⟨hd1,hd2⟩:=hltd;have hrow:Row wx da 2 (dl.map DeadB.cells):=(HA.out wx HW.out).d;obtain ⟨b5,o5,ha5,hb5⟩:=Row.head hrow (i:=k3) (by simpa using hd1);subst ha5;obtain ⟨_,f0,f1⟩:=xJD hrow hd1;have CF:=Zh (fun W=>jQn dl[k3].sub ((HA.out wx HW.out).ds _ (List.getElem_mem hd1)).1 W);have HL3:Hid ((dl.take (k3+1)).map kQS=(dl.take k3).map kQS++[⟨Q7 dl[k3].sub,jQP dl[k3].e⟩]):=Zh (by rw [List.take_succ_eq_append_getElem hd1,List.map_append];rfl);have x1:(k3:Int) < dl.length:=by omega
         have x2:(0:Int)<=k3:=by omega
         have x3:(k3:Int) < 41:=by omega
         generalize dl[k3].sub=su at f0 CF HL3;generalize dl[k3].e=ee at f1 HL3;generalize Q7 su=s2' at CF HL3;clear hrow;go_upto_region 16 with fail
         refine Tryst4.wp_region_owns [.is (.pointer (some ⟨w.heap.size,7,none⟩)),.is (.slice (some ⟨b5,o5,none⟩) dl.length dc),.is (.int .i64 (k3:Int)),.is (.pointer (some ⟨b5,o5+k3*2,none⟩)),.is (.pointer (some ⟨b5,o5+k3*2,none⟩)),.is (.string su),.is (.string s2'),.is (.pointer (some ⟨w.heap.size,7,none⟩)),.is (.slice (some ⟨b5,o5,none⟩) dl.length dc),.is (.int .i64 (k3:Int)),.is (.pointer (some ⟨b5,o5+k3*2,none⟩)),.is (.pointer (some ⟨b5,o5+k3*2+1,none⟩)),.is (.string ee),.is (.agg #[.string s2',.string ee]),.own (NbT 74 [.string ⟨#[]⟩,.string ⟨#[]⟩])] (by kernel_rfl) (by kernel_rfl) (by kernel_rfl) ?obl ?fin
         case obl=>
          simp only [Tryst4.AllObl,Tryst4.Obl,Tryst4.depsS,Tryst4.Rsp.R,Tryst4.Rsp.made,Tryst4.val,YL,YO,Op.operands,Call.operands]
          repeat' apply And.intro
          any_goals trivial
          all_goals (intro tv lo hi w' hg hold hd;(try simp at hold);obtain ⟨hcg,hfg,hsg⟩:=YG hg)
          all_goals first | (go_simp;done) | (go_simp;go_at_call 30;refine (CF.out _).mono ?_;rintro e w2 ⟨rfl,rfl⟩;exact ⟨Tryst2.Grow.refl _,rfl⟩) | (rw [xJF _ _ _ rfl,Tryst2.stepV_value];exact ⟨Tryst2.Grow.alloc (Tryst2.Grow.refl _) _,_,rfl,Nat.le_refl _,by simp,Var.new _ _ [.string ⟨#[]⟩,.string ⟨#[]⟩]⟩)
         case fin=>
          intro tv w' lo hi hg hR hL hT;simp only [Tryst4.allT,Tryst4.Rsp.R,Tryst4.val,Nat.reduceAdd,YL,YO] at hR;simp only [YL,Nat.reduceAdd] at hL hT;obtain ⟨hcg,hfg,hsg⟩:=YG hg;simp only [YP,YL,Act.put,hR];obtain ⟨-,-,-,-,-,-,-,-,-,-,-,-,-,-,⟨w8,s8,gd,ed,ld,ud,hd⟩,-⟩:=hR;have VD:=Zh (show Var w' gd 74 [.string ⟨#[]⟩,.string ⟨#[]⟩] from (s8.block gd (.inr ⟨ld,ud⟩) hd.lt).trans hd);have q14:=hL 14 (by decide);have hbg:=Tryst2.Grow.below hg (.refl wx.heap.size wx);have HBg:=Zh hbg;have hzg:=hbg.size;have hgd:wx.heap.size<=gd:=by omega
          simp only [ed];clear hL hT hcg hfg hsg s8 ed ld ud hd hbg f0 f1 s0 s1 s2 s3 s4 s5 s6 s7 z0 z1 z2 z3 z4 z5 z6 z7 zf hg CF;obtain ⟨d0,d1⟩:=v2 (VD.out);have df:=VD.out.fz;have hzd:=VD.out.lt;go_upto_region 17 with fail
          refine Qg (fun W=>Hid (Var W gd 74 [.string s2',.string ee])/\Hid (OffS (fun g=>g=gd) w' W)/\Hid (Below w.heap.size w W)) ⟨zQB [.string s2',.string ee] _ 0 _ VD.out,OffS.sets (S:=fun g=>g=gd) rfl [.string s2',.string ee] 0,Qw (by omega) [.string s2',.string ee] 0 _ (Qk HBg.out HW.out)⟩ ?_;rintro W ⟨VW,OW,BW⟩;have hWz:=OW.out.size;have HK:Hid (∀ g,g < wx.heap.size->W.heap[g]?=wx.heap[g]?):=Zh (fun g hg=>(OW.out.same g (by omega) (by omega)).trans (HBg.out.block g hg));clear d0 d1 df hzd VD OW HBg;obtain ⟨d0,d1⟩:=v2 (VW.out);have df:=VW.out.fz;have hzd:=VW.out.lt
          by_cases h900:900 < ee.size
          case' pos=>
           have y5:(900:Int) < ee.size:=by omega
           have HC:Hid (jQP ee=ee.extract 0 900):=Zh (by unfold jQP;rw [if_pos h900]);go_upto_region 19 with fail
           refine Qg (fun W2=>Hid (Var W2 gd 74 [.string s2',.string (jQP ee)])/\Hid (∀ g,g < wx.heap.size->W2.heap[g]?=wx.heap[g]?)/\Hid (Below w.heap.size w W2)/\wx.heap.size<=W2.heap.size) ⟨by rw [HC.out];exact VW.out.set 1 (.string (ee.extract 0 900)),fun g hg=>(Below.heap_setCell _ _ _ _ (show g≠gd by omega)).trans (HK.out g hg),bset _ (p:=⟨gd,1,none⟩) (by show w.heap.size<=gd;omega) BW.out,by simp;omega⟩ ?_;clear VW HK BW d0 d1 df hzd hWz;rintro W2 ⟨VW,HK,BW,hWz⟩
          case' neg=>
           have y5:¬ (900:Int) < ee.size:=by omega
           have HC:Hid (jQP ee=ee):=Zh (by unfold jQP;rw [if_neg h900]);go_upto_region 19 with fail
           refine Qg (fun W2=>Hid (Var W2 gd 74 [.string s2',.string (jQP ee)])/\Hid (∀ g,g < wx.heap.size->W2.heap[g]?=wx.heap[g]?)/\Hid (Below w.heap.size w W2)/\wx.heap.size<=W2.heap.size) ⟨by rw [HC.out];exact VW.out,HK.out,BW.out,by omega⟩ ?_;clear VW HK BW d0 d1 df hzd hWz;rintro W2 ⟨VW,HK,BW,hWz⟩
          all_goals
           clear y5 HC h900;generalize jQP ee=ce at HL3 VW;obtain ⟨L,hL9⟩:∃ L,(dl.take k3).map kQS=L:=⟨_,rfl⟩;have hLn:L.length=k3:=by rw [<- hL9,List.length_map,List.length_take];omega
           rw [hL9] at HY HL3;have HLN:=Zh (show (L.map DeadB.cells).length=k3 by rw [List.length_map];exact hLn);clear hL9 hLn;have HYW:=Zh (HY.out.keep (fun g _ hl=>HK.out g hl) hWz);have V3W:=Zh (show Var W2 g3 28 _ from (HK.out g3 (by omega)).trans V3.out);have HKo:Hid (∀ g,g < wq.heap.size->g≠g3->W2.heap[g]?=wq.heap[g]?):=Zh (fun g hg hn=>(HK.out g (by omega)).trans (HO.out.same g hg hn));have HRW:=Zh (show ROwn 74 2 W2 wq.heap.size v (L.map DeadB.cells) from HYW.out.row);have HG:=Zh (Var.new W2 74 [.string s2',.string ce]);clear HK V3 HY HO HW;obtain ⟨d0,d1⟩:=v2 (VW.out);obtain ⟨z0,z1,z2,z3,z4,z5,z6,z7⟩:=v8 (V3W.out);have zf:=V3W.out.fz;have hz3W:=V3W.out.lt;have hzd:=VW.out.lt;go_wp2_with (at_builtin;refine Q8 deadT rfl _ _ rfl wq.heap.size v (L.map DeadB.cells) k3 HLN.out rfl (HRW.out.alloc _) [.string s2',.string ce] rfl (Kk.one ⟨s2',ce⟩) W2.heap.size rfl (fun j _=>HG.out.cell j) ?a3 ?a4 ?_)
           case a3=>omega
           case a4=>first | omega | (simp;omega)
           intro g' cap w5 hr hb hst hat _;have hal:=Qj (.cells #[.string s2',.string ce] 74) (.refl W2.heap.size W2);have hr':ROwn Kk.T Kk.k w5 wq.heap.size (.slice (some ⟨g',0,none⟩) (k3+1) cap) (L.map Kk.cells++[Kk.cells ⟨s2',ce⟩]):=hr;have HYn:=Zh (FwO.put (X:=Kk) (y:=⟨s2',ce⟩) (HYW.out.keep (fun g _ hl=>hal.block g hl) hal.size) trivial (by simp;omega) hr' hb (fun k hk ha=>hst k (by simpa using hk) ha) (by rcases hat with h | h;exact .inl h;exact .inr (by rw [h];simp)));have V35:=Zh ((V3W.out.grow hal).growB (by omega) hb);have HK5:Hid (∀ g,g < wq.heap.size->g≠g3->w5.heap[g]?=wq.heap[g]?):=Zh (fun g hg hn=>(hb.block g hg).trans ((hal.block g (by omega)).trans (HKo.out g hg hn)));have B5:=Zh (Qk hal BW.out |>.trans (hb.mono (by omega)));have hw5:wq.heap.size<=w5.heap.size:=by have h1:=hb.size;have h2:=hal.size;omega
           clear hr hr' hb hst hat hal HYW V3W HKo HRW HG HLN BW VW d0 d1 z0 z1 z2 z3 z4 z5 z6 z7 zf;obtain ⟨z0,z1,z2,z3,z4,z5,z6,z7⟩:=v8 (V35.out);have zf:=V35.out.fz;have hz35:=V35.out.lt;go_wp2_with fail;refine ⟨?rel,?measure⟩
           case rel=>exact ⟨k3+1,_,by omega,by omega,by go_num,Zh (V35.out.set 7 _),Zh (by rw [HL3.out];exact HYn.out.keep (fun g hg _=>Below.heap_setCell _ _ _ _ (show g≠g3 by omega)) (by simp)),Zh ⟨by simp;omega,fun g hg hn=>(Below.heap_setCell _ _ _ _ (show g≠g3 from hn)).trans (HK5.out g hg hn)⟩,Zh (bset _ (p:=⟨g3,7,none⟩) (by show w.heap.size<=g3;omega) B5.out)⟩
           case measure=>simp [intOf]<;>omega
        ·
         have HDe:Hid ((dl.take k3).map kQS=(dl.take 41).map kQS):=Zh (zQs hltd hk41);have VRx:=Zh (show Var wx (w.heap.size+1) 28 _ from (HO.out.same (w.heap.size+1) (by omega) (by omega)).trans VRb.out);obtain ⟨r0,r1,r2,r3,r4,r5,r6,r7⟩:=v8 (VRx.out);have rf:=VRx.out.fz;have hzr3:=VRx.out.lt;have hzr4:=V3.out.lt;obtain ⟨ad,cd,ed,LD⟩:=HY.out.lm (by decide);obtain ⟨dn,hdn⟩:∃ dn,((dl.take k3).map kQS).length=dn:=⟨_,rfl⟩;rw [hdn] at ed;subst ed
         have HF:Hid (∀ Wf:World,(∀ g,w.heap.size+2<=g->g < wx.heap.size->Wf.heap[g]?=wx.heap[g]?)->wx.heap.size<=Wf.heap.size->∃ X:RtB,Value.agg #[.int .i64 now,.slice at' ts.length ct,.slice al ls.length cl,.slice as' ys.length cs',.int .i64 total,.slice au us.length cu,.slice ag gs.length cg,.slice ad dn cd]=X.agg/\RtM (fun g=>w.heap.size<=g) Wf X/\FewRt ⟨now,ta,tl,tc,la,ll,lc,sa,sl,sc,total,ua,ul,uc,ga,gl,gc,da,dl,dc⟩ X):=Zh (fun Wf hk hz=>by
          have hk2:∀ g,(w.heap.size+2<=g/\g < wq.heap.size/\g≠g3)->g < wq.heap.size->Wf.heap[g]?=wq.heap[g]?/\w.heap.size<=g:=fun g hg hl=>⟨(hk g hg.1 (by omega)).trans (HO.out.same g hl hg.2.2),by omega⟩
          refine ⟨⟨now,at',ts2,ct,al,ls,cl,as',ys,cs',total,au,us,cu,ag,gs,cg,ad,(dl.take k3).map kQS,cd⟩,?_,⟨LTb.out.keep hk2 (by omega),LLb.out.keep hk2 (by omega),LSb.out.keep hk2 (by omega),LUb.out.keep hk2 (by omega),LGb.out.keep hk2 (by omega),LD.keep (fun g hg hl=>⟨hk g (by omega) hl,by omega⟩) hz⟩,⟨rfl,rfl,?_,?_,HQe.out,?_,?_,HDe.out⟩⟩
          · unfold RtB.agg;simp only;rw [htl,hdn]
          · show ts2.map TB.tp=_;rw [M6.out,<- HTS.out]
          · show ls=_;rw [HLS.out,<- m9,List.map_id']
          · show us.map UB.p=_;rw [HUS.out,m12]
          · show gs.map UB.p=_;rw [HGS.out,m15])
         by_cases hkd2:k3 < dl.length
         all_goals
          first | (have h41:k3=41:=(by omega);subst h41) | have y6:¬ (k3:Int) < dl.length:=by omega
          clear hdn LD HY;go_wp2_with fail;refine bodyPost_ret (v:=.agg #[.int .i64 now,.slice at' ts.length ct,.slice al ls.length cl,.slice as' ys.length cs',.int .i64 total,.slice au us.length cu,.slice ag gs.length cg,.slice ad dn cd]) (by simp [results,Tryz.results9,go_sem, *]) rfl ?_;obtain ⟨X,hX,hM,hP⟩:=HF.out (Yq wx (w.heap.size+1) 0 [.int .i64 now,.slice at' ts.length ct,.slice al ls.length cl,.slice as' ys.length cs',.int .i64 total,.slice au us.length cu,.slice ag gs.length cg,.slice ad dn cd]) (fun g hg _=>Qb (by omega) _ _ _) (by rw [Q6];exact Nat.le_refl _);exact ⟨X,by rw [hX];rfl,hM,hP,Qw (by omega) [.int .i64 now,.slice at' ts.length ct,.slice al ls.length cl,.slice as' ys.length cs',.int .i64 total,.slice au us.length cu,.slice ag gs.length cg,.slice ad dn cd] 0 _ HW.out⟩
