import Derived.Deep.CutRange
import Derived.BigRegion
import Derived.Test.YtcbicdencgjfiaaGreatDoorProg
import Derived.Deep.RegionWith
import Derived.Deep.Cut
import Derived.Laws.CopyOwn
import Derived.Laws.CopyRow
import Derived.Lib.AppendZerosOnto
import Derived.Lib.LazyBuf
import Derived.Lib.BufferMore
import Derived.Lib.Overlaps
import Derived.ArgAppend
import Derived.Test.YtcbicdencgjfiaaGreatDoorFacts
import Derived.Test.YtcbicdencgjfiaaGreatDoorFwP5
import Derived.Test.YtcbicdencgjfiaaGreatDoorGlob5
import Derived.Test.YtcbicdencgjfiaaGreatDoorHold5
import Derived.Test.YtcbicdencgjfiaaGreatDoorMay5
import Derived.Test.YtcbicdencgjfiaaGreatDoorPSm5
import Derived.Test.YtcbicdencgjfiaaGreatDoorPutU
import Derived.Test.YtcbicdencgjfiaaGreatDoorSamT
import Derived.Test.YtcbicdencgjfiaaGreatDoorTopAD
set_option linter.all false
set_option maxHeartbeats 20000000
set_option maxRecDepth 20000
namespace Tryst
structure Codec {α:Type} (f:List UInt8 × Bool->α × (List UInt8 × Bool)) (lay:α->List UInt8) (fit:α->Prop):Prop where
 put:∀ x,fit x->∀ t,f (lay x++t,false)=(x,(t,false))
 got:∀ l y r,f (l,false)=(y,(r,false))->l=lay y++r/\fit y
 bad:∀ l,(f (l,true)).2=(l,true)
theorem xQm {α:Type} (x:α × (List UInt8 × Bool)) {b:Bool} (h:x.2.2=b):x=(x.1,(x.2.1,b)):=by subst h;rfl
theorem jQf (x:List UInt8 × Bool) {b:Bool} (h:x.2=b):x=(x.1,b):=by subst h;rfl
section
variable {α β:Type} {f:List UInt8 × Bool->α × (List UInt8 × Bool)} {g:List UInt8 × Bool->β × (List UInt8 × Bool)} {lf:α->List UInt8} {lg:β->List UInt8} {pf:α->Prop} {pg:β->Prop}
theorem Codec.short (h:Codec f lf pf) {x:α} (hx:pf x) {j:Nat} (hj:j < (lf x).length):(f ((lf x).take j,false)).2.2=true:=by
 cases e:(f ((lf x).take j,false)).2.2 with
 | true=>rfl
 | false=>
  exfalso;obtain ⟨h1,h2⟩:=h.got _ (f ((lf x).take j,false)).1 (f ((lf x).take j,false)).2.1 (xQm _ e);have h3:=h.put x hx [];rw [List.append_nil] at h3
  have h4:lf x=lf (f ((lf x).take j,false)).1++((f ((lf x).take j,false)).2.1++(lf x).drop j):=by
   rw [<- List.append_assoc,<- h1,List.take_append_drop]
  rw [h4] at h3;generalize (f ((lf x).take j,false)).1=y at h1 h2 h3;generalize (f ((lf x).take j,false)).2.1=r at h1 h3;rw [h.put y h2] at h3;have h5:=congrArg (fun z=>z.2.1.length) h3;simp only [List.length_append,List.length_drop,List.length_nil] at h5;omega
def seqR (f:List UInt8 × Bool->α × (List UInt8 × Bool)) (g:List UInt8 × Bool->β × (List UInt8 × Bool)) (s:List UInt8 × Bool):(α × β) × (List UInt8 × Bool):=(((f s).1,(g (f s).2).1),(g (f s).2).2)
theorem Codec.seq (h:Codec f lf pf) (k:Codec g lg pg):Codec (seqR f g) (fun p=>lf p.1++lg p.2) (fun p=>pf p.1/\pg p.2) where
 put:=fun x hx t=>by
  unfold seqR;rw [List.append_assoc,h.put x.1 hx.1,k.put x.2 hx.2]
 got:=fun l y r e=>by
  unfold seqR at e;have e1:=congrArg (·.1.1) e;have e2:=congrArg (·.1.2) e;have e3:=congrArg (·.2) e;simp only at e1 e2 e3
  have hb:(f (l,false)).2.2=false:=by
   cases hb:(f (l,false)).2.2 with
   | false=>rfl
   | true=>
    rw [jQf _ hb,k.bad] at e3;cases e3
  obtain ⟨h6,h7⟩:=h.got l _ (f (l,false)).2.1 (xQm _ hb)
  have h8:g ((f (l,false)).2.1,false)=(y.2,(r,false)):=by
   rw [<- jQf _ hb];exact Prod.ext e2 e3
  obtain ⟨h9,h10⟩:=k.got _ _ _ h8;rw [e1] at h6 h7;rw [h9] at h6;exact ⟨by rw [List.append_assoc];exact h6,h7,h10⟩
 bad:=fun l=>by
  unfold seqR;rw [h.bad l,k.bad l]
theorem Codec.iso (h:Codec f lf pf) (tu:α->β) (of:β->α) (h1:∀ x,pf x->of (tu x)=x) (h2:∀ y,tu (of y)=y):Codec (fun s=>(tu (f s).1,(f s).2)) (fun y=>lf (of y)) (fun y=>pf (of y)) where
 put:=fun y hy t=>by
  rw [h.put _ hy,h2]
 got:=fun l y r e=>by
  have e1:=congrArg (·.1) e;have e2:=congrArg (·.2) e;simp only at e1 e2;obtain ⟨h3,h4⟩:=h.got l (f (l,false)).1 r (Prod.ext rfl e2);rw [<- e1,h1 _ h4];exact ⟨h3,h4⟩
 bad:=fun l=>h.bad l
def Yv (f:List UInt8 × Bool->α × (List UInt8 × Bool)):Nat->List UInt8 × Bool->List α × (List UInt8 × Bool)
 | 0,s=>([],s)
 | n+1,s=>if s.2=true then ([],s) else ((f s).1 :: (Yv f n (f s).2).1,(Yv f n (f s).2).2)
theorem jQu (f:List UInt8 × Bool->α × (List UInt8 × Bool)) (n:Nat) (l:List UInt8):Yv f n (l,true)=([],(l,true)):=by
 cases n with
 | zero=>rfl
 | succ n=>unfold Yv;rw [if_pos rfl]
theorem vQz (h:Codec f lf pf):∀ (xs:List α),(∀ x∈xs,pf x)->∀ t,Yv f xs.length (xs.flatMap lf++t,false)=(xs,(t,false))
 | [],_,t=>rfl
 | x :: xs,hx,t=>by
  show (if false=true then _ else _)=_;rw [if_neg (by simp),List.flatMap_cons,List.append_assoc,h.put x (hx x List.mem_cons_self),vQz h xs (fun y hy=>hx y (List.mem_cons_of_mem _ hy))]
theorem vQa (h:Codec f lf pf):∀ (n:Nat) (l:List UInt8) (ys:List α) (r:List UInt8),Yv f n (l,false)=(ys,(r,false))->ys.length=n/\l=ys.flatMap lf++r/\∀ y∈ys,pf y
 | 0,l,ys,r,e=>by
  cases e;exact ⟨rfl,rfl,fun y hy=>by cases hy⟩
 | n+1,l,ys,r,e=>by
  unfold Yv at e;rw [if_neg (by simp)] at e;have e1:=congrArg (·.1) e;have e2:=congrArg (·.2) e;simp only at e1 e2
  have hb:(f (l,false)).2.2=false:=by
   cases hb:(f (l,false)).2.2 with
   | false=>rfl
   | true=>
    rw [jQf _ hb,jQu] at e2;cases e2
  have h2:(f (l,false)).2=((f (l,false)).2.1,false):=jQf _ hb;obtain ⟨h3,h4⟩:=h.got l (f (l,false)).1 (f (l,false)).2.1 (Prod.ext rfl h2);rw [h2] at e1 e2;obtain ⟨h5,h6,h7⟩:=vQa h n (f (l,false)).2.1 _ r (Prod.ext rfl e2);subst e1;refine ⟨by rw [List.length_cons,h5],?_,fun y hy=>?_⟩
  · rw [List.flatMap_cons,List.append_assoc,<- h6];exact h3
  ·
   rcases List.mem_cons.1 hy with rfl | hy
   · exact h4
   · exact h7 y hy
end
def idR (s:List UInt8 × Bool):Nat × (List UInt8 × Bool):=if s.2=true then (0,s) else if (unp s.1).2.2=0 then ((unp s.1).1,(s.1.drop (unp s.1).2.1,false)) else (0,(s.1,true))
theorem idC:Codec idR pack (fun n=>n < 2 ^ 64) where
 put:=fun n hn t=>by
  unfold idR;rw [if_neg (by simp),kQt n hn t,if_pos rfl,List.drop_left]
 got:=fun l y r e=>by
  unfold idR at e;rw [if_neg (by simp)] at e
  split at e
  · rename_i h;simp only [Prod.mk.injEq,and_true] at e;obtain ⟨e1,e2⟩:=e;obtain ⟨h1,h2,h3,h4,h5⟩:=qQf (l:=l) (n:=(unp l).1) (k:=(unp l).2.1) (by rw [<- h]);rw [<- e1,<- e2,<- h5,List.take_append_drop];exact ⟨rfl,h1⟩
  · cases e
 bad:=fun l=>by unfold idR;rw [if_pos rfl]
def numR (s:List UInt8 × Bool):Int × (List UInt8 × Bool):=(Kw (idR s).1,(idR s).2)
theorem numC:Codec numR (fun n=>pack (fold n)) (fun n=>fold n < 2 ^ 64):=idC.iso Kw fold (fun n _=>zQS n) zQb
def X7 (s:List UInt8 × Bool):List UInt8 × (List UInt8 × Bool):=if (idR s).2.2=true then ([],(idR s).2) else if (idR s).1<=(idR s).2.1.length then ((idR s).2.1.take (idR s).1,((idR s).2.1.drop (idR s).1,false)) else ([],((idR s).2.1,true))
theorem qJy:Codec X7 jQM (fun t=>t.length < 2 ^ 64) where
 put:=fun x hx t=>by
  unfold X7 jQM;rw [List.append_assoc,idC.put _ hx];simp
 got:=fun l y r e=>by
  unfold X7 at e
  split at e
  · rename_i h;rw [jQf _ h] at e;cases e
  ·
   rename_i h;have hb:(idR (l,false)).2.2=false:=by simpa using h
   obtain ⟨h1,h2⟩:=idC.got l (idR (l,false)).1 (idR (l,false)).2.1 (xQm _ hb)
   split at e
   ·
    rename_i hle;simp only [Prod.mk.injEq,and_true] at e;obtain ⟨e1,e2⟩:=e;have hl:y.length=(idR (l,false)).1:=by rw [<- e1,List.length_take];omega
    refine ⟨?_,by rw [hl];exact h2⟩;unfold jQM;rw [hl,List.append_assoc,<- e1,<- e2,List.take_append_drop];exact h1
   · cases e
 bad:=fun l=>by
  unfold X7;have h:=idC.bad l;rw [if_pos (by rw [h]),h]
def qQ3 (s:List UInt8 × Bool):Bool × (List UInt8 × Bool):=if s.2=true then (false,s) else match s.1 with
 | c :: r=>if c.toNat<=1 then (c==1,(r,false)) else (false,(s.1,true))
 | []=>(false,([],true))
def zQG (b:Bool):List UInt8:=[if b=true then 1 else 0]
theorem qY2:Codec qQ3 zQG (fun _=>True) where
 put:=fun x _ t=>by cases x<;>rfl
 got:=fun l y r e=>by
  unfold qQ3 at e;rw [if_neg (by simp)] at e;cases l with
  | nil=>cases e
  | cons c l=>
   simp only at e
   split at e
   ·
    rename_i h;simp only [Prod.mk.injEq,and_true] at e;obtain ⟨rfl,rfl⟩:=e;refine ⟨?_,trivial⟩
    have hc:c=0∨c=1:=by
     rcases Nat.lt_or_ge c.toNat 1 with h1 | h1
     · left;exact UInt8.toNat_inj.1 (by show c.toNat=0;omega)
     · right;exact UInt8.toNat_inj.1 (by show c.toNat=1;omega)
    rcases hc with rfl | rfl<;>rfl
   · cases e
 bad:=fun l=>by unfold qQ3;rw [if_pos rfl]
def Q0 {α:Type} (f:List UInt8 × Bool->α × (List UInt8 × Bool)) (s:List UInt8 × Bool):List α × (List UInt8 × Bool):=Yv f (idR s).1 (if (idR s).2.1.length < (idR s).1 then ((idR s).2.1,true) else (idR s).2)
def Qf {α:Type} (lay:α->List UInt8) (l:List α):List UInt8:=pack l.length++l.flatMap lay
theorem Codec.some {α:Type} {f:List UInt8 × Bool->α × (List UInt8 × Bool)} {lf:α->List UInt8} {pf:α->Prop} (h:Codec f lf pf) (h1:∀ x,1<=(lf x).length):Codec (Q0 f) (Qf lf) (fun l=>l.length < 2 ^ 64/\∀ x∈l,pf x) where
 put:=fun x hx t=>by
  unfold Q0 Qf;rw [List.append_assoc,idC.put _ hx.1]
  have hl:x.length<=(x.flatMap lf++t).length:=by
   rw [List.length_append]
   have:x.length<=(x.flatMap lf).length:=by
    clear hx
    induction x with
    | nil=>simp
    | cons a x ih=>
     rw [List.flatMap_cons,List.length_append,List.length_cons];have:=h1 a;omega
   omega
  simp only;rw [if_neg (by omega)];exact vQz h x hx.2 t
 got:=fun l y r e=>by
  unfold Q0 at e
  split at e
  · rw [jQu] at e;cases e
  ·
   have hb:(idR (l,false)).2.2=false:=by
    cases hb:(idR (l,false)).2.2 with
    | false=>rfl
    | true=>
     rw [jQf _ hb,jQu] at e;cases e
   have h2:(idR (l,false)).2=((idR (l,false)).2.1,false):=jQf _ hb;obtain ⟨h3,h4⟩:=idC.got l (idR (l,false)).1 (idR (l,false)).2.1 (Prod.ext rfl h2);rw [h2] at e;obtain ⟨h5,h6,h7⟩:=vQa h _ _ _ _ e;refine ⟨?_,by rw [h5];exact h4,h7⟩;unfold Qf;rw [h5,List.append_assoc,<- h6];exact h3
 bad:=fun l=>by
  unfold Q0;have h:=idC.bad l;rw [h];simp only
  split
  · rw [jQu]
  · rw [jQu]
end Tryst
namespace Tryst
open Go Go.Lib
end Tryst
namespace Tryst
open Go Go.RowKit Go.Lib
end Tryst
namespace Go.Proofs.YtcbicdencgjfiaaGreatDoor
open Go.RowKit Tryst
theorem RB.set0 {g m:Nat} {s:ByteArray} {w v:World} (h:RB g s m w v) (hg:g < w.heap.size) (s':ByteArray):RB g s' m w (v.setCell ⟨g,0,none⟩ (.string s')):=
 ⟨h.p.set0 s',h.x.away (by omega) _,fun j=>by rw [Qv];exact h.z j⟩
end Go.Proofs.YtcbicdencgjfiaaGreatDoor
namespace Tryst
open Go Go.RowKit
open Go.Lib
end Tryst
namespace Go.Proofs.YtcbicdencgjfiaaGreatDoor
open Go.RowKit Tryst
end Go.Proofs.YtcbicdencgjfiaaGreatDoor
namespace Tryst
open Go Go.RowKit Go.Lib
theorem POwn.one {w:World} {S:Nat->Prop} {g:Nat} {T:TypeId} {op r0 r1:ByteArray} {r2:Bool} {r3:Int} {r4:ByteArray} {r5:Option Addr} {r6:Nat} {r7:List PB} (ho:op.size<=1500000) (hS:S g) (h:w.heap[g]?=some (.cells #[.string r0,.string r1,.bool r2,.int .i64 r3,.string r4,.slice r5 r7.length r6] T (0,0))) (hX:POwn w S (.mk r0 r1 r2 r3 r4 r5 r6 r7)):POwn w S (.mk op ⟨#[]⟩ false 0 ⟨#[]⟩ (some ⟨g,0,none⟩) 1 [.mk r0 r1 r2 r3 r4 r5 r6 r7]):=by
 have hz:=(Array.getElem?_eq_some_iff.1 h).1;refine .mk _ _ _ _ _ _ _ _ ho (by decide) (by decide) (by simp) (by omega) ?_ ⟨by simp,fun A e=>by cases e;rfl,fun e=>by cases e⟩ (fun b o e=>by cases e;exact ⟨hS,hz⟩) (fun b o e=>by cases e;exact ⟨_,_,h⟩) (fun x hx=>by rw [List.mem_singleton] at hx;subst hx;exact hX);intro i hi;obtain rfl:i=0:=by simpa using hi
 refine ⟨g,0,rfl,hz,fun j hj=>?_⟩;have hj6:j=0∨j=1∨j=2∨j=3∨j=4∨j=5:=by omega
 rcases hj6 with rfl | rfl | rfl | rfl | rfl | rfl<;>simp [World.cell?,h,PB.cells,PB.op,PB.s,PB.num,PB.n,PB.vs,PB.a,PB.c,PB.l]
end Tryst
namespace Go.Proofs.YtcbicdencgjfiaaGreatDoor
open Go.RowKit Tryst
section
variable {g B V gs:Nat} {w4 w5:World} {a0 a1 a2 a3 a4 a5:Value} {T:TypeId} {op r0 r1:ByteArray} {r2:Bool} {r3:Int} {r4:ByteArray} {r5:Option Addr} {r6:Nat} {r7:List PB}
end
section
variable {g B V V2 gs:Nat} {w4 w5:World} {a0 a1 a2 a3 a4 a5:Value} {T:TypeId} {op r0 r1:ByteArray} {r2:Bool} {r3:Int} {r4:ByteArray} {r5:Option Addr} {r6:Nat} {r7:List PB} {s0 s1:ByteArray} {s2:Bool} {s3:Int} {s4:ByteArray} {s5:Option Addr} {s6:Nat} {s7:List PB}
end
structure KT (g k A:Nat) (t:ByteArray) (w v:World) (r0 r1:ByteArray) (r2:Bool) (r3:Int) (r4:ByteArray) (r5:Option Addr) (r6:Nat) (r7:List PB):Prop where
 r:RB g t k w v
 b:BX v A r0 r1 r2 r3 r4 (.slice r5 r7.length r6)
 o:POwn v (fun b=>w.heap.size < b) (PB.mk r0 r1 r2 r3 r4 r5 r6 r7)
 a:w.heap.size < A
section
variable {g k k' A:Nat} {t t':ByteArray} {w v v':World} {r0 r1:ByteArray} {r2:Bool} {r3:Int} {r4:ByteArray} {r5:Option Addr} {r6:Nat} {r7:List PB}
theorem KT.step (h:KT g k A t w v r0 r1 r2 r3 r4 r5 r6 r7) (hz:g < w.heap.size) (hp:ParP g t' k' 292 v v'):KT g k' A t' w v' r0 r1 r2 r3 r4 r5 r6 r7:=
 ⟨h.r.step hz hp,(hp.block A (Array.getElem?_eq_some_iff.1 h.b).1 (by have:=h.a;omega)).trans h.b,h.o.keep (fun j hj hlt=>⟨hp.block j hlt (by omega),hj⟩) hp.size,h.a⟩
theorem KT.grow (h:KT g k A t w v r0 r1 r2 r3 r4 r5 r6 r7) (hb:Below v.heap.size v v'):KT g k A t w v' r0 r1 r2 r3 r4 r5 r6 r7:=
 ⟨h.r.grow hb,h.b.grow hb,h.o.grow hb (fun _ h=>h),h.a⟩
theorem KT.new (h:RB g t k w v) (o:POwn v (fun b=>w.heap.size < b) (PB.mk r0 r1 r2 r3 r4 r5 r6 r7)):KT g k v.heap.size t w (v.alloc (.cells #[.string r0,.string r1,.bool r2,.int .i64 r3,.string r4,.slice r5 r7.length r6] 123)) r0 r1 r2 r3 r4 r5 r6 r7:=
 ⟨h.grow (Qj _ (.refl _ _)),BX.new v r0 r1 r2 r3 r4 _,o.grow (Qj _ (.refl _ _)) (fun _ h=>h),h.x.hz⟩
end
end Go.Proofs.YtcbicdencgjfiaaGreatDoor
namespace Tryst
open Go Go.RowKit Go.Lib
def Xv (s:List UInt8):Option Pr:=
 match Yy 8 s with
 | some (p,[])=>if mayP p=true then some p else none
 | _=>none
def zQf:Pr:=.mk ⟨#[]⟩ ⟨#[]⟩ false 0 ⟨#[]⟩ []
end Tryst
namespace Go.Proofs.YtcbicdencgjfiaaGreatDoor
open Go.RowKit Tryst
end Go.Proofs.YtcbicdencgjfiaaGreatDoor
namespace Go.Proofs.YtcbicdencgjfiaaGreatDoor
open Go.RowKit Tryst
theorem strT:SliceOf Tryz.prog 40 9 1 16:=.mk' Tryz.underlying40 (z:=.string ⟨#[]⟩) (by kernel_rfl) rfl (by decide) (by decide)
end Go.Proofs.YtcbicdencgjfiaaGreatDoor
namespace Go.Proofs.YtcbicdencgjfiaaGreatDoor
open Go.RowKit Tryst
end Go.Proofs.YtcbicdencgjfiaaGreatDoor
namespace Tryst
open Go Go.RowKit
end Tryst
namespace Go.Proofs.YtcbicdencgjfiaaGreatDoor
open Go.RowKit Tryst
end Go.Proofs.YtcbicdencgjfiaaGreatDoor
namespace Tryst
open Go Go.RowKit Go.Lib
end Tryst
namespace Go.Proofs.YtcbicdencgjfiaaGreatDoor
open Go.RowKit Tryst
end Go.Proofs.YtcbicdencgjfiaaGreatDoor
namespace Tryst
open Go Go.RowKit Go.Lib
end Tryst
namespace Go.Proofs.YtcbicdencgjfiaaGreatDoor
open Go.RowKit Tryst
section
variable {B:Nat} {v:World} {a0 a1 a2 a3 a4 a5:Value} {T:TypeId} {op r0 r1:ByteArray} {r2:Bool} {r3:Int} {r4:ByteArray} {r5:Option Addr} {r6:Nat} {r7:List PB} {s0 s1:ByteArray} {s2:Bool} {s3:Int} {s4:ByteArray} {s5:Option Addr} {s6:Nat} {s7:List PB}
end
end Go.Proofs.YtcbicdencgjfiaaGreatDoor
namespace Tryst
def strR (s:List UInt8 × Bool):ByteArray × (List UInt8 × Bool):=(⟨(X7 s).1.toArray⟩,(X7 s).2)
def strL (b:ByteArray):List UInt8:=jQM b.data.toList
theorem strC:Codec strR strL (fun b=>b.data.toList.length < 2 ^ 64):=qJy.iso (fun l=>(⟨l.toArray⟩:ByteArray)) (fun b=>b.data.toList) (fun l _=>rfl) (fun b=>by cases b;rfl)
theorem Zw (l:List UInt8):1<=(jQM l).length:=by
 unfold jQM;rw [List.length_append];have:=jQZ l.length;omega
theorem vQx {s:List UInt8} {p:Pr} (h:Xv s=some p):s=Yk p/\mayP p=true:=by
 unfold Xv at h;cases e:Yy 8 s with
 | none=>rw [e] at h;cases h
 | some q=>
  obtain ⟨q,r⟩:=q;rw [e] at h;cases r with
  | nil=>
   simp only at h
   split at h
   ·
    rename_i hm;obtain rfl:q=p:=by simpa using h
    have:=vQS 8 s q [] e;rw [List.append_nil] at this;exact ⟨this,hm⟩
   · cases h
  | cons c r=>cases h
def Zk (s:List UInt8 × Bool):Pr × (List UInt8 × Bool):=if (X7 s).2.2=true then (zQf,(X7 s).2) else match Xv (X7 s).1 with
 | some p=>(p,(X7 s).2)
 | none=>(zQf,((X7 s).2.1,true))
def Kz (p:Pr):List UInt8:=jQM (Yk p)
theorem jYk:Codec Zk Kz (fun p=>(Yk p).length < 2 ^ 64/\Xv (Yk p)=some p) where
 put:=fun x hx t=>by
  unfold Zk Kz;rw [qJy.put _ hx.1];simp [hx.2]
 got:=fun l y r e=>by
  unfold Zk at e
  split at e
  · rename_i h;rw [jQf _ h] at e;cases e
  ·
   rename_i h;have hb:(X7 (l,false)).2.2=false:=by simpa using h
   obtain ⟨h1,h2⟩:=qJy.got l (X7 (l,false)).1 (X7 (l,false)).2.1 (xQm _ hb);cases hp:Xv (X7 (l,false)).1 with
   | none=>rw [hp] at e;cases e
   | some p=>
    rw [hp] at e;simp only at e;rw [jQf _ hb] at e;simp only [Prod.mk.injEq,and_true] at e;obtain ⟨rfl,rfl⟩:=e;obtain ⟨h3,_⟩:=vQx hp;unfold Kz;rw [<- h3];exact ⟨h1,h2,hp⟩
 bad:=fun l=>by
  unfold Zk;have h:=qJy.bad l;rw [if_pos (by rw [h]),h]
structure DP where
 name:ByteArray
 gl:List ByteArray
 wl:List Pr
 key:ByteArray
 kind:ByteArray
 parts:Int
 need:Int
 window:Int
def numL (n:Int):List UInt8:=pack (fold n)
def defL (d:DP):List UInt8:=strL d.name++(Qf strL d.gl++(Qf Kz d.wl++(strL d.key++(strL d.kind++(numL d.parts++(numL d.need++numL d.window))))))
def defR (s:List UInt8 × Bool):DP × (List UInt8 × Bool):=
 let x:=seqR strR (seqR (Q0 strR) (seqR (Q0 Zk) (seqR strR (seqR strR (seqR numR (seqR numR numR)))))) s
 (⟨x.1.1,x.1.2.1,x.1.2.2.1,x.1.2.2.2.1,x.1.2.2.2.2.1,x.1.2.2.2.2.2.1,x.1.2.2.2.2.2.2.1,x.1.2.2.2.2.2.2.2⟩,x.2)
def DP.Fits (d:DP):Prop:=d.name.data.toList.length < 2 ^ 64/\(d.gl.length < 2 ^ 64/\∀ g∈d.gl,g.data.toList.length < 2 ^ 64)/\(d.wl.length < 2 ^ 64/\∀ p∈d.wl,(Yk p).length < 2 ^ 64/\Xv (Yk p)=some p)/\d.key.data.toList.length < 2 ^ 64/\d.kind.data.toList.length < 2 ^ 64/\fold d.parts < 2 ^ 64/\fold d.need < 2 ^ 64/\fold d.window < 2 ^ 64
theorem defC:Codec defR defL DP.Fits:=
 (strC.seq ((strC.some (fun x=>Zw _)).seq ((jYk.some (fun x=>Zw _)).seq (strC.seq (strC.seq (numC.seq (numC.seq numC))))))).iso
  (fun x=>(⟨x.1,x.2.1,x.2.2.1,x.2.2.2.1,x.2.2.2.2.1,x.2.2.2.2.2.1,x.2.2.2.2.2.2.1,x.2.2.2.2.2.2.2⟩:DP)) (fun d=>(d.name,d.gl,d.wl,d.key,d.kind,d.parts,d.need,d.window)) (fun _ _=>rfl) (fun _=>rfl)
structure OpP where
 kind:Int
 s:ByteArray
 ok:Bool
 id:Nat
 n:Int
 d:DP
def DP.zero:DP:=⟨⟨#[]⟩,[],[],⟨#[]⟩,⟨#[]⟩,0,0,0⟩
def qQo:List UInt8 × Bool->(Int × ByteArray × Bool × Nat × Int) × (List UInt8 × Bool):=seqR numR (seqR strR (seqR qQ3 (seqR idR numR)))
def headL (x:Int × ByteArray × Bool × Nat × Int):List UInt8:=numL x.1++(strL x.2.1++(zQG x.2.2.1++(pack x.2.2.2.1++numL x.2.2.2.2)))
theorem zJz:Codec qQo headL (fun x=>fold x.1 < 2 ^ 64/\x.2.1.data.toList.length < 2 ^ 64/\True/\x.2.2.2.1 < 2 ^ 64/\fold x.2.2.2.2 < 2 ^ 64):=numC.seq (strC.seq (qY2.seq (idC.seq numC)))
def opR (s:List UInt8 × Bool):OpP × (List UInt8 × Bool):=
 let h:=qQo s
 if h.1.1=2 then (⟨h.1.1,h.1.2.1,h.1.2.2.1,h.1.2.2.2.1,h.1.2.2.2.2,(defR h.2).1⟩,(defR h.2).2) else (⟨h.1.1,h.1.2.1,h.1.2.2.1,h.1.2.2.2.1,h.1.2.2.2.2,.zero⟩,h.2)
def OpP.head (o:OpP):Int × ByteArray × Bool × Nat × Int:=(o.kind,o.s,o.ok,o.id,o.n)
def opL (o:OpP):List UInt8:=headL o.head++(if o.kind=2 then defL o.d else [])
def OpP.Fits (o:OpP):Prop:=(fold o.kind < 2 ^ 64/\o.s.data.toList.length < 2 ^ 64/\True/\o.id < 2 ^ 64/\fold o.n < 2 ^ 64)/\(o.kind=2->o.d.Fits)/\(o.kind≠2->o.d=.zero)
theorem opC:Codec opR opL OpP.Fits where
 put:=fun o ho t=>by
  obtain ⟨h1,h2,h3⟩:=ho;unfold opR opL;rw [List.append_assoc,zJz.put o.head h1];obtain ⟨k,s,b,i,n,d⟩:=o;unfold OpP.head;simp only at h2 h3 ⊢
  by_cases hk:k=2
  · rw [if_pos hk,if_pos hk,defC.put d (h2 hk)]
  · rw [if_neg hk,if_neg hk,h3 hk];rfl
 got:=fun l y r e=>by
  unfold opR at e;simp only at e
  have hb:(qQo (l,false)).2.2=false:=by
   cases hb:(qQo (l,false)).2.2 with
   | false=>rfl
   | true=>
    split at e
    · rw [jQf _ hb,defC.bad] at e;cases e
    · rw [jQf _ hb] at e;cases e
  obtain ⟨h1,h2⟩:=zJz.got l (qQo (l,false)).1 (qQo (l,false)).2.1 (xQm _ hb);rw [jQf _ hb] at e;generalize (qQo (l,false)).2.1=l2 at h1 e;generalize (qQo (l,false)).1=h at h1 h2 e;obtain ⟨k,s,b,i,n⟩:=h;simp only at e
  split at e
  ·
   rename_i hk;have e1:=congrArg (·.1) e;have e2:=congrArg (·.2) e;simp only at e1 e2;obtain ⟨h3,h4⟩:=defC.got l2 (defR (l2,false)).1 r (Prod.ext rfl e2);subst e1;refine ⟨?_,h2,fun _=>h4,fun h=>absurd hk h⟩;unfold opL;rw [if_pos hk,List.append_assoc,<- h3];exact h1
  · rename_i hk;cases e;refine ⟨?_,h2,fun h=>absurd h hk,fun _=>rfl⟩;unfold opL;rw [if_neg hk,List.append_nil];exact h1
 bad:=fun l=>by
  unfold opR;have h:=zJz.bad l;simp only
  split
  · rw [h,defC.bad]
  · rw [h]
end Tryst
namespace Tryst
open Go Go.RowKit
end Tryst
namespace Go.Proofs.YtcbicdencgjfiaaGreatDoor
open Go.RowKit Tryst
theorem topT:SliceOf Tryz.prog 22 64 3 48:=.mk' Tryz.underlying22 (z:=.agg #[.string ⟨#[]⟩,.int .i64 0,.slice none 0 0]) (by kernel_rfl) rfl (by decide) (by decide)
def Kp (w:World) (base:Nat) (l:List TB) (k:Nat):Prop:=∀ (i:Nat) (h:i < l.length),i < k->ROwn 9 1 w base (.slice l[i].la l[i].log.length l[i].lc) (l[i].log.map fun s=>[Value.string s])
theorem Kp.grow {w w':World} {base:Nat} {l:List TB} {k:Nat} (h:Kp w base l k) (hb:Below w.heap.size w w'):Kp w' base l k:=fun i hi hk=>(h i hi hk).grow hb
def TOwn (w:World) (base:Nat) (v:Value) (l:List TB):Prop:=ROwn 64 3 w base v (l.map TB.cells)
theorem TOwn.grow {w w':World} {base:Nat} {v:Value} {l:List TB} (h:TOwn w base v l) (hb:Below w.heap.size w w'):TOwn w' base v l:=ROwn.grow h hb
def _root_.Tryst.TB.relog (t:TB) (a:Option Addr) (c:Nat):TB:=⟨t.name,t.first,a,t.log,c⟩
theorem TOwn.block {w:World} {base:Nat} {v:Value} {l:List TB} (h:TOwn w base v l) (h0:0 < l.length) :
  ∃ g c,v=.slice (some ⟨g,0,none⟩) l.length c/\base<=g/\g < w.heap.size/\(∀ j,w.frozen? ⟨g,j,none⟩=false)/\(∃ cur,w.heap[g]?=some (.cells cur 64 (0,0)))/\
   (∀ (i:Nat) (hi:i < l.length),TAt w g (i*3) l[i])/\
   (∀ (i:Nat) (hi:i < l.length) (a:Option Addr) (c:Nat),TOwn (w.setCell ⟨g,i*3+2,none⟩ (.slice a l[i].log.length c)) base v (l.set i (l[i].relog a c))):=by
 obtain ⟨g,c,hv,h1,h2,h3,h4,h5⟩:=ROwn.block h (TB.cells_len l) (by simpa using h0);rw [List.length_map] at hv;refine ⟨g,c,hv,h1,h2,h3,?_,fun i hi=>?_,fun i hi a c=>?_⟩
 · exact zQE h ⟨g,0,none⟩ _ _ hv
 · have h6:=h4 i (by simpa using hi);simp only [List.getElem_map] at h6;exact ⟨h6 0 (by omega),h6 1 (by omega),h6 2 (by omega)⟩
 ·
  have h6:=h5 i (by simpa using hi) 2 (by omega) (.slice a l[i].log.length c)
  have e:(l.map TB.cells).set i (((l.map TB.cells)[i]'(by simpa using hi)).set 2 (.slice a l[i].log.length c))=(l.set i (l[i].relog a c)).map TB.cells:=by
   rw [List.map_set,List.getElem_map];rfl
  rw [e] at h6;exact h6
theorem Kp.off {w:World} {base:Nat} {l:List TB} {k:Nat} (h:Kp w base l k) {g j:Nat} {cur:Array Value} (hg:w.heap[g]?=some (.cells cur 64 (0,0))) (u:Value):Kp (w.setCell ⟨g,j,none⟩ u) base l k:=
 fun i hi hk=>Kv (h i hi hk) u (kQ4 (h i hi hk) hg (by decide))
theorem Kp.next {w:World} {base:Nat} {l:List TB} {k:Nat} (h:Kp w base l k) {t:TB} (hk:k < l.length) (ht:ROwn 9 1 w base (.slice t.la t.log.length t.lc) (t.log.map fun s=>[Value.string s])):Kp w base (l.set k t) (k+1):=by
 intro i hi hik;rw [List.length_set] at hi
 by_cases e:i=k
 · subst e;rw [List.getElem_set_self];exact ht
 · rw [List.getElem_set_ne (fun h=>e h.symm)];exact h i hi (by omega)
theorem zQC {w:World} {base:Nat} {a:Option Addr} {n c:Nat} {log:List ByteArray} (h:ROwn 9 1 w base (.slice a n c) (log.map fun s=>[Value.string s])):Strs w a log/\Sl a c log.length:=by
 have h2:SOwn 9 w base (.slice a n c) log:=SOwn.rows.2 h;obtain ⟨a',c',hv,h3,h4,_⟩:=h2.strs;simp only [Value.slice.injEq] at hv;obtain ⟨rfl,rfl,rfl⟩:=hv;exact ⟨h3,h4⟩
theorem TOwn.put2 {w:World} {base:Nat} {v:Value} {l:List TB} (h:TOwn w base v l) {g:Nat} {n c:Nat} (hv:v=.slice (some ⟨g,0,none⟩) n c) {i:Nat} (hi:i < l.length) (f:Int) (a:Option Addr) (lg:List ByteArray) (c':Nat) :
  TOwn ((w.setCell ⟨g,i*3+2,none⟩ (.slice a lg.length c')).setCell ⟨g,i*3+1,none⟩ (.int .i64 f)) base v (l.set i ⟨l[i].name,f,a,lg,c'⟩):=by
 have hlen:=TB.cells_len l;obtain ⟨g1,c1,hv1,_,_,_,_,h5⟩:=ROwn.block h hlen (by simpa using (by omega:0 < l.length));rw [hv] at hv1;simp only [Value.slice.injEq,Option.some.injEq,Addr.mk.injEq,and_true] at hv1;obtain ⟨rfl,_⟩:=hv1;have h6:=h5 i (by simpa using hi) 2 (by omega) (.slice a lg.length c')
 have e1:(l.map TB.cells).set i (((l.map TB.cells)[i]'(by simpa using hi)).set 2 (.slice a lg.length c'))=(l.set i ⟨l[i].name,l[i].first,a,lg,c'⟩).map TB.cells:=by
  rw [List.map_set,List.getElem_map];rfl
 rw [e1] at h6;obtain ⟨g2,c2,hv2,_,_,_,_,h7⟩:=ROwn.block h6 (TB.cells_len _) (by rw [List.length_map,List.length_set];omega);rw [hv] at hv2;simp only [Value.slice.injEq,Option.some.injEq,Addr.mk.injEq,and_true] at hv2;obtain ⟨rfl,_⟩:=hv2;have h8:=h7 i (by simpa using hi) 1 (by omega) (.int .i64 f)
 have e2:((l.set i ⟨l[i].name,l[i].first,a,lg,c'⟩).map TB.cells).set i ((((l.set i ⟨l[i].name,l[i].first,a,lg,c'⟩).map TB.cells)[i]'(by simpa using hi)).set 1 (.int .i64 f))=(l.set i ⟨l[i].name,f,a,lg,c'⟩).map TB.cells:=by
  rw [List.getElem_map,List.getElem_set_self];show ((l.set i ⟨l[i].name,l[i].first,a,lg,c'⟩).map TB.cells).set i (TB.cells ⟨l[i].name,f,a,lg,c'⟩)=_;rw [<- List.map_set,List.set_set]
 rw [e2] at h8;exact h8
theorem Kp.put {w:World} {base:Nat} {l:List TB} (h:Kp w base l l.length) {g j j':Nat} {cur:Array Value} (hg:w.heap[g]?=some (.cells cur 64 (0,0))) (u u':Value) {i:Nat} {t:TB} (ht:Strs w t.la t.log/\Sl t.la t.lc t.log.length) (ha:∀ b o,t.la=some ⟨b,o,none⟩->g≠b) :
  vQT ((w.setCell ⟨g,j,none⟩ u).setCell ⟨g,j',none⟩ u') (l.set i t):=by
 intro x hx;obtain ⟨k,hk,rfl⟩:=List.getElem_of_mem hx;rw [List.length_set] at hk
 by_cases e:i=k
 · subst e;rw [List.getElem_set_self];exact ⟨(ht.1.away ha u).away ha u',ht.2⟩
 · rw [List.getElem_set_ne e];have h1:=h k hk hk;have hne:=kQ4 h1 hg (by decide);exact zQC (Kv (Kv h1 u hne) u' hne)
end Go.Proofs.YtcbicdencgjfiaaGreatDoor
namespace Tryst
open Go Go.Lib
end Tryst
namespace Go.Proofs.YtcbicdencgjfiaaGreatDoor
open Go.RowKit Tryst
theorem Kp.lower {w:World} {base base':Nat} {l:List TB} {k:Nat} (h:Kp w base l k) (hb:base'<=base):Kp w base' l k:=fun i hi hk=>(h i hi hk).lower hb
theorem _root_.Tryst.ROwn.cap {e:TypeId} {k:Nat} {w:World} {base:Nat} {a:Option Addr} {n c:Nat} {l:List (List Value)} (h:ROwn e k w base (.slice a n c) l):c<=9223372036854775807:=by
 rcases h.2 with ⟨hv,_⟩ | ⟨g,cap,cur,hv,_,_,_,h2,_⟩
 · cases hv;omega
 · cases hv;exact h2
theorem TOwn.put1 {w:World} {base:Nat} {v:Value} {l:List TB} (h:TOwn w base v l) {g:Nat} {n c:Nat} (hv:v=.slice (some ⟨g,0,none⟩) n c) {i:Nat} (hi:i < l.length) (a:Option Addr) (lg:List ByteArray) (c':Nat) :
  TOwn (w.setCell ⟨g,i*3+2,none⟩ (.slice a lg.length c')) base v (l.set i ⟨l[i].name,l[i].first,a,lg,c'⟩):=by
 have hlen:=TB.cells_len l;obtain ⟨g1,c1,hv1,_,_,_,_,h5⟩:=ROwn.block h hlen (by simpa using (by omega:0 < l.length));rw [hv] at hv1;simp only [Value.slice.injEq,Option.some.injEq,Addr.mk.injEq,and_true] at hv1;obtain ⟨rfl,_⟩:=hv1;have h6:=h5 i (by simpa using hi) 2 (by omega) (.slice a lg.length c')
 have e1:(l.map TB.cells).set i (((l.map TB.cells)[i]'(by simpa using hi)).set 2 (.slice a lg.length c'))=(l.set i ⟨l[i].name,l[i].first,a,lg,c'⟩).map TB.cells:=by
  rw [List.map_set,List.getElem_map];rfl
 rw [e1] at h6;exact h6
theorem Kp.put1 {w:World} {base:Nat} {l:List TB} (h:Kp w base l l.length) {g j:Nat} {cur:Array Value} (hg:w.heap[g]?=some (.cells cur 64 (0,0))) (u:Value) {i:Nat} {t:TB} (ht:Strs w t.la t.log/\Sl t.la t.lc t.log.length) (ha:∀ b o,t.la=some ⟨b,o,none⟩->g≠b) :
  vQT (w.setCell ⟨g,j,none⟩ u) (l.set i t):=by
 intro x hx;obtain ⟨k,hk,rfl⟩:=List.getElem_of_mem hx;rw [List.length_set] at hk
 by_cases e:i=k
 · subst e;rw [List.getElem_set_self];exact ⟨ht.1.away ha u,ht.2⟩
 · rw [List.getElem_set_ne e];have h1:=h k hk hk;exact zQC (Kv h1 u (kQ4 h1 hg (by decide)))
