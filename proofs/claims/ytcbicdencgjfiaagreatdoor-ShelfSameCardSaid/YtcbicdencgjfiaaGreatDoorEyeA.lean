import Derived.Deep.CutRange
import Derived.Test.YtcbicdencgjfiaaGreatDoorDraws
import Derived.Test.YtcbicdencgjfiaaGreatDoorFewD14
import Derived.Test.YtcbicdencgjfiaaGreatDoorHold5
import Derived.Test.YtcbicdencgjfiaaGreatDoorPSm5
import Derived.Test.YtcbicdencgjfiaaGreatDoorTopFN
import Derived.Test.YtcbicdencgjfiaaGreatDoorWrT5
set_option linter.all false
set_option maxHeartbeats 4000000
set_option maxRecDepth 20000
namespace Go.Proofs.YtcbicdencgjfiaaGreatDoor
open Go.RowKit Tryst
end Go.Proofs.YtcbicdencgjfiaaGreatDoor
namespace Tryst
open Go
end Tryst
namespace Go.Proofs.YtcbicdencgjfiaaGreatDoor
open Go.RowKit Tryst
end Go.Proofs.YtcbicdencgjfiaaGreatDoor
namespace Go.Proofs.YtcbicdencgjfiaaGreatDoor
open Go.RowKit Tryst
end Go.Proofs.YtcbicdencgjfiaaGreatDoor
namespace Tryst
open Go Go.RowKit
mutual
theorem qQd {w:World}:∀ x:PB,PO w x->Zb x.pr
 | .mk op s num n vs a c l,h=>by
  obtain ⟨-,hn,-,hl⟩:=PO.parts h;rw [PB.pr,Zb];exact ⟨hn,xQX l hl⟩
theorem xQX {w:World}:∀ l:List PB,(∀ x,x∈l->PO w x)->jQc (PB.prs l)
 | [],_=>by rw [PB.prs,jQc];trivial
 | x :: r,h=>by
  rw [PB.prs,jQc];exact ⟨qQd x (h x List.mem_cons_self),xQX r (fun y hy=>h y (List.mem_cons_of_mem _ hy))⟩
end
end Tryst
namespace Go.Proofs.YtcbicdencgjfiaaGreatDoor
open Go.RowKit Tryst
section
variable {w:World} {B:Nat} {a0 a1:ByteArray} {a2:Bool} {a3:Int} {a4:ByteArray} {a5:Value} {b0 b1:ByteArray} {b2:Bool} {b3:Int} {b4:ByteArray} {b5:Value}
end
end Go.Proofs.YtcbicdencgjfiaaGreatDoor
namespace Go.Proofs.YtcbicdencgjfiaaGreatDoor
open Go.RowKit Tryst
end Go.Proofs.YtcbicdencgjfiaaGreatDoor
namespace Tryst
open Go Go.RowKit Go.Lib
theorem jJo {p:Pr} (h:mayP p=true) (hf:Zb p):Xv (Yk p)=some p:=by
 have h2:=h;rw [qQi,Bool.and_eq_true] at h2;have h3:=xJ0 8 p h2.1 hf [];rw [List.append_nil] at h3;unfold Xv;rw [h3];simp [h]
end Tryst
namespace Go.Proofs.YtcbicdencgjfiaaGreatDoor
open Go.RowKit Tryst
end Go.Proofs.YtcbicdencgjfiaaGreatDoor
namespace Tryst
open Go Go.RowKit
def DB.dp (d:DB):DP:=⟨d.name,d.gl,d.wl.map PB.pr,d.key,d.j.kind,d.j.parts,d.j.need,d.j.window⟩
theorem vJ5 (a b:DB):vJc a b=true↔a.dp=b.dp:=by
 have h:=vQF a.wl b.wl
 have hm:∀ l:List PB,PB.prs l=l.map PB.pr:=fun l=>by
  induction l with
  | nil=>rw [PB.prs];rfl
  | cons x l ih=>rw [PB.prs,ih];rfl
 rw [hm,hm] at h;unfold vJc vQt DB.dp;simp only [Bool.and_eq_true,decide_eq_true_eq,h,DP.mk.injEq]
 constructor
 · rintro ⟨h1,h2,⟨h3,h4,h5,h6⟩,h7,h8⟩;exact ⟨h1,h7,h8,h2,h3,h4,h5,h6⟩
 · rintro ⟨h1,h7,h8,h2,h3,h4,h5,h6⟩;exact ⟨h1,h2,⟨h3,h4,h5,h6⟩,h7,h8⟩
structure OPB where
 kind:Int
 s:ByteArray
 d:DB
 ok:Bool
 id:Nat
 n:Int
def OPB.agg (o:OPB):Value:=.agg #[.int .i64 o.kind,.string o.s,.string o.d.name,.slice o.d.ga o.d.gl.length o.d.gc,.slice o.d.wa o.d.wl.length o.d.wc,.string o.d.key,.string o.d.j.kind,.int .i64 o.d.j.parts,.int .i64 o.d.j.need,.int .i64 o.d.j.window,.bool o.ok,.int .u64 o.id,.int .i64 o.n]
def OPB.cells (o:OPB):List Value:=[.int .i64 o.kind,.string o.s,.string o.d.name,.slice o.d.ga o.d.gl.length o.d.gc,.slice o.d.wa o.d.wl.length o.d.wc,.string o.d.key,.string o.d.j.kind,.int .i64 o.d.j.parts,.int .i64 o.d.j.need,.int .i64 o.d.j.window,.bool o.ok,.int .u64 o.id,.int .i64 o.n]
def OPB.p (o:OPB):OpP:=⟨o.kind,o.s,o.ok,o.id,o.n,o.d.dp⟩
def DB.zero:DB:=⟨⟨#[]⟩,none,[],0,none,[],0,⟨#[]⟩,⟨⟨#[]⟩,0,0,0⟩⟩
def OPB.zero:OPB:=⟨0,⟨#[]⟩,.zero,false,0,0⟩
def zQ0 (d:DB):Bool:=decide (d.name=⟨#[]⟩)&&(decide (d.gl.length=0)&&(decide (d.wl.length=0)&&(decide (d.key=⟨#[]⟩)&&vQt d.j ⟨⟨#[]⟩,0,0,0⟩)))
def mayO (o:OPB):Bool:=decide (1<=o.kind)&&(decide (o.kind<=10)&&(decide (o.s.size<=2000)&&(if o.kind=2 then mayD o.d else zQ0 o.d)))
def qYS (a b:OPB):Bool:=decide (a.kind=b.kind)&&(decide (a.s=b.s)&&(vJc a.d b.d&&(decide (a.ok=b.ok)&&(decide (a.id=b.id)&&decide (a.n=b.n)))))
theorem xQV (d:DB):zQ0 d=true↔d.dp=.zero:=by
 unfold zQ0 vQt DB.dp DP.zero;simp only [Bool.and_eq_true,decide_eq_true_eq,DP.mk.injEq,List.length_eq_zero_iff,List.map_eq_nil_iff]
theorem qJL (d:DB):zQ0 d=vJc d .zero:=by
 rw [Bool.eq_iff_iff,xQV,vJ5];rfl
theorem kYF (a b:OPB):qYS a b=true↔a.p=b.p:=by
 unfold qYS OPB.p;simp only [Bool.and_eq_true,decide_eq_true_eq,vJ5,OpP.mk.injEq]
 constructor
 · rintro ⟨h1,h2,h3,h4,h5,h6⟩;exact ⟨h1,h2,h4,h5,h6,h3⟩
 · rintro ⟨h1,h2,h4,h5,h6,h3⟩;exact ⟨h1,h2,h3,h4,h5,h6⟩
end Tryst
namespace Go.Proofs.YtcbicdencgjfiaaGreatDoor
open Go.RowKit Tryst
structure OPIn (o:OPB):Prop where
 k0:-9223372036854775808<=o.kind
 k1:o.kind<=9223372036854775807
 n0:-9223372036854775808<=o.n
 n1:o.n<=9223372036854775807
 i:o.id<=18446744073709551615
structure JIn (j:JB):Prop where
 k:j.kind.size<=1500000
 p0:-9223372036854775808<=j.parts
 p1:j.parts<=9223372036854775807
 n0:-9223372036854775808<=j.need
 n1:j.need<=9223372036854775807
 w0:-9223372036854775808<=j.window
 w1:j.window<=9223372036854775807
theorem jQS {n:Int} (h0:-9223372036854775808<=n) (h1:n<=9223372036854775807):fold n < 2 ^ 64:=by
 unfold fold
 split<;>omega
theorem Xy {α:Type} (f:α->List UInt8) {l:List α} {k:Nat} (h:k < l.length):(l.take (k+1)).flatMap f=(l.take k).flatMap f++f l[k]:=by
 rw [List.take_succ_eq_append_getElem h,List.flatMap_append,List.flatMap_cons,List.flatMap_nil,List.append_nil]
theorem jQE {α:Type} (f:α->List UInt8) {l:List α} {k:Nat} (h:k < l.length):((l.take k).flatMap f).length+(f l[k]).length<=(l.flatMap f).length:=by
 have:l.flatMap f=((l.take k).flatMap f++f l[k])++(l.drop (k+1)).flatMap f:=by
  rw [<- Xy f h,<- List.flatMap_append,List.take_append_drop]
 rw [this,List.length_append,List.length_append];omega
theorem kQb {α:Type} {f:α->List UInt8} {m:Nat}:∀ {l:List α},(∀ x∈l,(f x).length<=m)->(l.flatMap f).length<=l.length*m
 | [],_=>by simp
 | x :: l,h=>by
  have:=kQb (l:=l) (fun y hy=>h y (List.mem_cons_of_mem _ hy));have:=h x List.mem_cons_self;rw [List.flatMap_cons,List.length_append,List.length_cons,Nat.add_mul];omega
theorem kQm (s:ByteArray):(strL s).length<=10+s.size:=by
 unfold strL jQM;have:=Jf s.data.toList.length;rw [List.length_append,Qx] at *;omega
theorem kQk (n:Int):(numL n).length<=10:=Jf _
theorem jYC {w:World} {d:DB} (h:DO w d) (hj:JIn d.j) (hm:mayD d=true):d.dp.Fits:=by
 have hp:∀ p∈d.wl,mayP p.pr=true:=by
  unfold mayD at hm;simp only [Bool.and_eq_true,List.all_eq_true] at hm;exact hm.2.2.2.2.2.2.2
 unfold DP.Fits DB.dp;simp only [Qx,List.length_map];refine ⟨by have:=h.hn;omega,⟨by have:=h.hg;omega,fun g hg=>by have:=h.hgs g hg;omega⟩,⟨by have:=h.hw;omega,fun p hp2=>?_⟩,by have:=h.hk;omega,by have:=hj.k;omega,jQS hj.p0 hj.p1,jQS hj.n0 hj.n1,jQS hj.w0 hj.w1⟩;obtain ⟨q,hq,rfl⟩:=List.mem_map.1 hp2;have hf:=qQd q (h.wR.po q hq).1;refine ⟨?_,jJo (hp q hq) hf⟩;have:=hp q hq;rw [qQi,Bool.and_eq_true] at this;exact Nat.lt_of_le_of_lt (jQd 8 _ this.1 hf) (by decide)
theorem jY8 {w:World} {o:OPB} (h:DO w o.d) (hj:JIn o.d.j) (ho:OPIn o) (hs:o.s.size<=1500000) (hm:mayO o=true):o.p.Fits:=by
 unfold mayO at hm;simp only [Bool.and_eq_true,decide_eq_true_eq] at hm;unfold OpP.Fits OPB.p;simp only [Qx];refine ⟨⟨jQS ho.k0 ho.k1,by omega,trivial,by have:=ho.i;omega,jQS ho.n0 ho.n1⟩,fun e=>?_,fun e=>?_⟩
 · rw [if_pos e] at hm;exact jYC h hj hm.2.2.2
 · rw [if_neg e] at hm;exact (xQV o.d).1 hm.2.2.2
end Go.Proofs.YtcbicdencgjfiaaGreatDoor
namespace Tryst
open Go Go.RowKit
def Var (w:World) (g:Nat) (T:TypeId) (cs:List Value):Prop:=w.heap[g]?=some (.cells cs.toArray T (0,0))
def VarC (w:World) (g:Nat):Nat->List Value->Prop
 | _,[]=>True
 | i,v :: r=>w.cell? ⟨g,i,none⟩=some v/\VarC w g (i+1) r
section
variable {w w':World} {g:Nat} {T:TypeId} {cs:List Value}
theorem Var.lt (h:Var w g T cs):g < w.heap.size:=(Array.getElem?_eq_some_iff.1 h).1
theorem Var.grow (h:Var w g T cs) (hb:Below w.heap.size w w'):Var w' g T cs:=(hb.block g h.lt).trans h
theorem Var.growB {B:Nat} (h:Var w g T cs) (hg:g < B) (hb:Below B w w'):Var w' g T cs:=(hb.block g hg).trans h
theorem Var.new (w:World) (T:TypeId) (cs:List Value):Var (w.alloc (.cells cs.toArray T)) w.heap.size T cs:=by
 show (w.heap.push _)[w.heap.size]?=_;simp
theorem Var.cell (h:Var w g T cs) (i:Nat):w.cell? ⟨g,i,none⟩=cs[i]?:=by
 unfold Var at h;simp [World.cell?,h]
theorem Var.fz (h:Var w g T cs) (i:Nat):w.frozen? ⟨g,i,none⟩=false:=by
 unfold Var at h;simp [World.frozen?,h]
theorem VarC.of:∀ (r:List Value) (i:Nat),(∀ j,j < r.length->w.cell? ⟨g,i+j,none⟩=r[j]?)->VarC w g i r
 | [],_,_=>trivial
 | v :: r,i,h=>⟨by simpa using h 0 (by simp),VarC.of r (i+1) (fun j hj=>by
   have:=h (j+1) (by simpa using hj);rw [show i+1+j=i+(j+1) by omega,this];simp)⟩
theorem Var.cells (h:Var w g T cs):VarC w g 0 cs:=VarC.of cs 0 (fun j _=>by rw [Nat.zero_add];exact h.cell j)
theorem v2 {a0 a1:Value} (h:Var w g T [a0,a1]):w.cell? ⟨g,0,none⟩=some a0/\w.cell? ⟨g,1,none⟩=some a1:=by
 have XX:=h.cells
 simpa only [VarC,Nat.reduceAdd,Nat.zero_add,and_true] using XX
theorem v3 {a0 a1 a2:Value} (h:Var w g T [a0,a1,a2]):w.cell? ⟨g,0,none⟩=some a0/\w.cell? ⟨g,1,none⟩=some a1/\w.cell? ⟨g,2,none⟩=some a2:=by
 have XX:=h.cells
 simpa only [VarC,Nat.reduceAdd,Nat.zero_add,and_true] using XX
theorem v4 {a0 a1 a2 a3:Value} (h:Var w g T [a0,a1,a2,a3]):w.cell? ⟨g,0,none⟩=some a0/\w.cell? ⟨g,1,none⟩=some a1/\w.cell? ⟨g,2,none⟩=some a2/\w.cell? ⟨g,3,none⟩=some a3:=by
 have XX:=h.cells
 simpa only [VarC,Nat.reduceAdd,Nat.zero_add,and_true] using XX
theorem v5 {a0 a1 a2 a3 a4:Value} (h:Var w g T [a0,a1,a2,a3,a4]):w.cell? ⟨g,0,none⟩=some a0/\w.cell? ⟨g,1,none⟩=some a1/\w.cell? ⟨g,2,none⟩=some a2/\w.cell? ⟨g,3,none⟩=some a3/\w.cell? ⟨g,4,none⟩=some a4:=by
 have XX:=h.cells
 simpa only [VarC,Nat.reduceAdd,Nat.zero_add,and_true] using XX
theorem v6 {a0 a1 a2 a3 a4 a5:Value} (h:Var w g T [a0,a1,a2,a3,a4,a5]):w.cell? ⟨g,0,none⟩=some a0/\w.cell? ⟨g,1,none⟩=some a1/\w.cell? ⟨g,2,none⟩=some a2/\w.cell? ⟨g,3,none⟩=some a3/\w.cell? ⟨g,4,none⟩=some a4/\w.cell? ⟨g,5,none⟩=some a5:=by
 have XX:=h.cells
 simpa only [VarC,Nat.reduceAdd,Nat.zero_add,and_true] using XX
theorem v8 {a0 a1 a2 a3 a4 a5 a6 a7:Value} (h:Var w g T [a0,a1,a2,a3,a4,a5,a6,a7]):w.cell? ⟨g,0,none⟩=some a0/\w.cell? ⟨g,1,none⟩=some a1/\w.cell? ⟨g,2,none⟩=some a2/\w.cell? ⟨g,3,none⟩=some a3/\w.cell? ⟨g,4,none⟩=some a4/\w.cell? ⟨g,5,none⟩=some a5/\w.cell? ⟨g,6,none⟩=some a6/\w.cell? ⟨g,7,none⟩=some a7:=by
 have XX:=h.cells
 simpa only [VarC,Nat.reduceAdd,Nat.zero_add,and_true] using XX
theorem v13 {a0 a1 a2 a3 a4 a5 a6 a7 a8 a9 a10 a11 a12:Value} (h:Var w g T [a0,a1,a2,a3,a4,a5,a6,a7,a8,a9,a10,a11,a12]):w.cell? ⟨g,0,none⟩=some a0/\w.cell? ⟨g,1,none⟩=some a1/\w.cell? ⟨g,2,none⟩=some a2/\w.cell? ⟨g,3,none⟩=some a3/\w.cell? ⟨g,4,none⟩=some a4/\w.cell? ⟨g,5,none⟩=some a5/\w.cell? ⟨g,6,none⟩=some a6/\w.cell? ⟨g,7,none⟩=some a7/\w.cell? ⟨g,8,none⟩=some a8/\w.cell? ⟨g,9,none⟩=some a9/\w.cell? ⟨g,10,none⟩=some a10/\w.cell? ⟨g,11,none⟩=some a11/\w.cell? ⟨g,12,none⟩=some a12:=by
 have XX:=h.cells
 simpa only [VarC,Nat.reduceAdd,Nat.zero_add,and_true] using XX
theorem v15 {a0 a1 a2 a3 a4 a5 a6 a7 a8 a9 a10 a11 a12 a13 a14:Value} (h:Var w g T [a0,a1,a2,a3,a4,a5,a6,a7,a8,a9,a10,a11,a12,a13,a14]):w.cell? ⟨g,0,none⟩=some a0/\w.cell? ⟨g,1,none⟩=some a1/\w.cell? ⟨g,2,none⟩=some a2/\w.cell? ⟨g,3,none⟩=some a3/\w.cell? ⟨g,4,none⟩=some a4/\w.cell? ⟨g,5,none⟩=some a5/\w.cell? ⟨g,6,none⟩=some a6/\w.cell? ⟨g,7,none⟩=some a7/\w.cell? ⟨g,8,none⟩=some a8/\w.cell? ⟨g,9,none⟩=some a9/\w.cell? ⟨g,10,none⟩=some a10/\w.cell? ⟨g,11,none⟩=some a11/\w.cell? ⟨g,12,none⟩=some a12/\w.cell? ⟨g,13,none⟩=some a13/\w.cell? ⟨g,14,none⟩=some a14:=by
 have XX:=h.cells
 simpa only [VarC,Nat.reduceAdd,Nat.zero_add,and_true] using XX
theorem Var.away (h:Var w g T cs) {c o:Nat} (hc:c≠g) (v:Value):Var (w.setCell ⟨c,o,none⟩ v) g T cs:=(Below.heap_setCell _ _ _ _ (fun e=>hc e.symm)).trans h
theorem Var.set (h:Var w g T cs) (i:Nat) (v:Value):Var (w.setCell ⟨g,i,none⟩ v) g T (cs.set i v):=by
 unfold Var at h ⊢;simp [World.setCell,Array.getElem?_modify,h]
theorem Var.shape (h:Var w g T cs):w.shape? g=some (T,cs.length):=by
 unfold Var at h;simp [World.shape?,h]
def Yq (w:World) (g:Nat):Nat->List Value->World
 | _,[]=>w
 | i,v :: r=>Yq (w.setCell ⟨g,i,none⟩ v) g (i+1) r
theorem Qb {k:Nat} (hk:k≠g):∀ (vs:List Value) (i:Nat) (w:World),(Yq w g i vs).heap[k]?=w.heap[k]?
 | [],_,_=>rfl
 | v :: r,i,w=>by
  rw [Yq,Qb hk r];exact Below.heap_setCell _ _ _ _ hk
theorem Q6:∀ (vs:List Value) (i:Nat) (w:World),(Yq w g i vs).heap.size=w.heap.size
 | [],_,_=>rfl
 | v :: r,i,w=>by
  rw [Yq,Q6 r];simp
theorem Qw {B:Nat} (hg:B<=g) {v:World}:∀ (vs:List Value) (i:Nat) (w:World),Below B v w->Below B v (Yq w g i vs)
 | [],_,_,h=>h
 | u :: r,i,w,h=>Qw hg r (i+1) _ (h.setCell (p:=⟨g,i,none⟩) hg u)
theorem Var.sets:∀ (vs:List Value) (xs bs:List Value) (w:World),Var w g T (xs++bs)->vs.length=bs.length->Var (Yq w g xs.length vs) g T (xs++vs)
 | [],xs,bs,w,h,e=>by
  have:bs=[]:=List.eq_nil_of_length_eq_zero (by simpa using e.symm);subst this;exact h
 | v :: r,xs,b :: bs,w,h,e=>by
  rw [Yq];have h2:=h.set xs.length v;rw [List.set_append_right _ _ (Nat.le_refl _),Nat.sub_self,List.set_cons_zero] at h2;have:=Var.sets r (xs++[v]) bs (w.setCell ⟨g,xs.length,none⟩ v) (by simpa using h2) (by simpa using e)
  simpa using this
theorem Var.put (h:Var w g T cs) (vs:List Value) (e:vs.length=cs.length):Var (Yq w g 0 vs) g T vs:=Var.sets vs [] cs w h e
end
end Tryst
namespace Go.Proofs.YtcbicdencgjfiaaGreatDoor
open Go.RowKit Tryst
structure EyeS (W0:World) (b:Nat) (s:List UInt8 × Bool) (w:World):Prop where
 v:Var w b 99 [.string ⟨s.1.toArray⟩,.bool s.2]
 low:Below W0.heap.size W0 w
 ge:W0.heap.size<=b
 n:s.1.length<=1500000
structure _root_.Tryst.Oth (b:Nat) (w w':World):Prop where
 size:w.heap.size<=w'.heap.size
 same:∀ k,k < w.heap.size->k≠b->w'.heap[k]?=w.heap[k]?
theorem _root_.Tryst.Oth.refl (b:Nat) (w:World):Oth b w w:=⟨Nat.le_refl _,fun _ _ _=>rfl⟩
theorem _root_.Tryst.Oth.trans {b:Nat} {u v w:World} (h:Oth b u v) (k:Oth b v w):Oth b u w:=⟨Nat.le_trans h.size k.size,fun i hi hb=>(k.same i (Nat.lt_of_lt_of_le hi h.size) hb).trans (h.same i hi hb)⟩
theorem _root_.Tryst.Oth.below {b:Nat} {v w:World} (h:Below v.heap.size v w):Oth b v w:=⟨h.size,fun k hk _=>h.block k hk⟩
theorem _root_.Tryst.Oth.set {b o:Nat} {v w:World} (h:Oth b v w) (u:Value):Oth b v (w.setCell ⟨b,o,none⟩ u):=⟨by simpa using h.size,fun k hk hb=>(Below.heap_setCell _ _ _ _ hb).trans (h.same k hk hb)⟩
theorem EyeS.quiet {W0 w w':World} {b:Nat} {s:List UInt8 × Bool} (h:EyeS W0 b s w) (hb:Below w.heap.size w w'):EyeS W0 b s w':=⟨h.v.grow hb,h.low.trans (hb.mono h.low.size),h.ge,h.n⟩
def Y8 (n:Int) (ok:Bool) (s:List UInt8 × Bool):List UInt8 × Bool:=if s.2=true∨ok=false then (s.1,true) else (s.1.drop n.toNat,false)
def EyeR (W0:World) (b:Nat) (s:List UInt8 × Bool) (v:Value) (w:World) (e:Ending) (w':World):Prop:=e=.returned v/\EyeS W0 b s w'/\Oth b w w'
theorem qQe (n:Int) (ok:Bool) {W0 w:World} {b:Nat} {s:List UInt8 × Bool} (h:EyeS W0 b s w) (hn:s.2=false->ok=true->0<=n/\n<=s.1.length) :
  Calls Tryz.prog 167 #[.pointer (some ⟨b,0,none⟩),.int .i64 n,.bool ok] w (EyeR W0 b (Y8 n ok s) (.bool (!(Y8 n ok s).2)) w):=by
 obtain ⟨l,d⟩:=s;have H0:=Zh h;have z0:=h.v.fz 0;have z1:=h.v.fz 1;have hlen:=h.n;simp only at hlen hn;clear h;obtain ⟨x0,x1⟩:=v2 (H0.out.v);cases d with
 | true=>
  have e:Y8 n ok (l,true)=(l,true):=by unfold Y8;rw [if_pos (.inl rfl)]
  rw [e];clear hn;go_enter Tryz.func167,Tryz.ntmps167;go_wp2_with fail;go_ret;exact ⟨rfl,⟨H0.out.v.set 1 (.bool true),H0.out.low.setCell (p:=⟨b,1,none⟩) H0.out.ge _,H0.out.ge,H0.out.n⟩,(Oth.refl b w).set _⟩
 | false=>
  cases ok with
  | false=>
   have e:Y8 n false (l,false)=(l,true):=by unfold Y8;rw [if_pos (.inr rfl)]
   rw [e];clear hn;go_enter Tryz.func167,Tryz.ntmps167;go_wp2_with fail;go_ret;exact ⟨rfl,⟨H0.out.v.set 1 (.bool true),H0.out.low.setCell (p:=⟨b,1,none⟩) H0.out.ge _,H0.out.ge,H0.out.n⟩,(Oth.refl b w).set _⟩
  | true=>
   have e:Y8 n true (l,false)=(l.drop n.toNat,false):=by unfold Y8;rw [if_neg (by simp)]
   rw [e];obtain ⟨n0,n1⟩:=hn rfl rfl;obtain ⟨m,rfl⟩:=Int.eq_ofNat_of_zero_le n0;have hm:m<=(⟨l.toArray⟩:ByteArray).size:=by rw [mk_size];omega
   clear hn;go_enter Tryz.func167,Tryz.ntmps167;go_wp2_with fail;go_ret;have ex:(⟨l.toArray⟩:ByteArray).extract m l.length=⟨(l.drop m).toArray⟩:=Xk (by rw [Lib.extract_data,Jb,Jb,List.take_of_length_le (by simp)]);refine ⟨rfl,⟨?_,(H0.out.low.setCell (p:=⟨b,1,none⟩) H0.out.ge _).setCell (p:=⟨b,0,none⟩) H0.out.ge _,H0.out.ge,by simp;omega⟩,((Oth.refl b w).set _).set _⟩;have:=(H0.out.v.set 1 (.bool false)).set 0 (.string ((⟨l.toArray⟩:ByteArray).extract m l.length));rw [ex] at this ⊢;exact this
theorem jQO (s:List UInt8 × Bool):(idR s).1 < 2 ^ 64:=by
 unfold idR
 split
 · exact Nat.two_pow_pos 64
 ·
  split
  · rename_i h;exact (qQf (l:=s.1) (n:=(unp s.1).1) (k:=(unp s.1).2.1) (by rw [<- h])).1
  · exact Nat.two_pow_pos 64
theorem qQ7 {W0 w:World} {b:Nat} {s:List UInt8 × Bool} (h:EyeS W0 b s w) :
  Calls Tryz.prog 115 #[.pointer (some ⟨b,0,none⟩)] w (EyeR W0 b (idR s).2 (.int .u64 ((idR s).1:Nat)) w):=by
 obtain ⟨l,d⟩:=s;have H0:=Zh h;have hlen:=h.n;simp only at hlen
 have hu:(unp l).2.2=0->(unp l).2.1<=l.length:=fun h=>by
  have:=qQf (l:=l) (n:=(unp l).1) (k:=(unp l).2.1) (by rw [<- h]);exact this.2.2.1
 have CU:=Zh (fun W=>zQ4 ⟨l.toArray⟩ (by rw [mk_size];omega) W);simp only [Jb] at CU;clear h;obtain ⟨x0,x1⟩:=v2 (H0.out.v);have HI:Hid (idR (l,d)=if d=true then (0,(l,d)) else if (unp l).2.2=0 then ((unp l).1,(l.drop (unp l).2.1,false)) else (0,(l,true))):=Zh rfl;generalize idR (l,d)=R at HI ⊢;generalize hn:(unp l).1=n at CU HI;generalize hk:(unp l).2.1=k at CU HI hu;generalize he:(unp l).2.2=err at CU HI hu;clear hn hk he
 have key:Y8 (k:Int) (decide (err=0)) (l,d)=R.2/\R.1=(if R.2.2=true then 0 else n):=by
  rw [HI.out];unfold Y8;cases d with
  | true=>simp
  | false=>
   by_cases h0:err=0
   · simp [h0]
   · simp [h0]
 obtain ⟨k1,k2⟩:=key;have HK1:=Zh k1;have HK2:=Zh k2;have HU:Hid (d=false->decide (err=0)=true->(0:Int)<=k/\(k:Int)<=l.length):=Zh (fun _ h=>⟨by omega,by have:=hu (by simpa using h);omega⟩);clear k1 k2 hu HI
 have b1:((err:Int)==0)=decide (err=0):=by
  rw [Bool.eq_iff_iff];simp
 go_enter Tryz.func115,Tryz.ntmps115;go_wp2_with fail;refine (CU.out _).mono ?_;rintro e w1 ⟨rfl,rfl⟩;go_wp2_with fail;refine (qQe (k:Int) (decide (err=0)) H0.out HU.out).mono ?_;rintro e w2 ⟨rfl,h1,h2⟩;rw [HK1.out] at h1 ⊢;have H1:=Zh h1;have H2:=Zh h2;clear h1 h2;obtain ⟨r1,r2,r3⟩:=R;simp only at HK2 H1 ⊢;cases r3 with
 | true=>
  go_wp2_with fail;go_ret;exact ⟨by rw [HK2.out];rfl,H1.out,H2.out⟩
 | false=>
  go_wp2_with fail;go_ret;exact ⟨by rw [HK2.out];rfl,H1.out,H2.out⟩
theorem kJu {W0 w:World} {b:Nat} {s:List UInt8 × Bool} (h:EyeS W0 b s w) :
  Calls Tryz.prog 92 #[.pointer (some ⟨b,0,none⟩)] w (EyeR W0 b (numR s).2 (.int .i64 (numR s).1) w):=by
 have H0:=Zh h;have hl:=jQO s;unfold numR;have CI:=Zh (qQ7 h);generalize (idR s).1=n at CI hl ⊢;generalize (idR s).2=s1 at CI ⊢;have CU:=Zh (fun W=>xQq (n:Int) (by omega) (by omega) W);rw [Int.toNat_natCast] at CU;clear h hl;go_enter Tryz.func92,Tryz.ntmps92;go_wp2_with fail;refine CI.out.mono ?_;rintro e w1 ⟨rfl,h1,h2⟩;have H1:=Zh h1;have H2:=Zh h2;clear h1 h2;go_wp2_with fail;refine (CU.out _).mono ?_;rintro e w2 ⟨rfl,rfl⟩;go_wp2_with fail;go_ret;exact ⟨rfl,H1.out,H2.out⟩
theorem ebox {W0 w:World} {b:Nat} {s:List UInt8 × Bool} (h:EyeS W0 b s w):b < w.heap.size/\w.cell? ⟨b,0,none⟩=some (.string ⟨s.1.toArray⟩)/\w.cell? ⟨b,1,none⟩=some (.bool s.2)/\w.frozen? ⟨b,0,none⟩=false/\w.frozen? ⟨b,1,none⟩=false:=⟨h.v.lt,h.v.cell 0,h.v.cell 1,h.v.fz 0,h.v.fz 1⟩
