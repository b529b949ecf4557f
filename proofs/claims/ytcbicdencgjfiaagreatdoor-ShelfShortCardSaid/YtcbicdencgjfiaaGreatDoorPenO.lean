import Derived.Test.YtcbicdencgjfiaaGreatDoorDraws
import Derived.Test.YtcbicdencgjfiaaGreatDoorKeptT
import Derived.Test.YtcbicdencgjfiaaGreatDoorPenL
set_option linter.all false
set_option maxHeartbeats 4000000
set_option maxRecDepth 20000
namespace Tryst
open Go Go.RowKit
def Var (w:World) (g:Nat) (T:TypeId) (cs:List Value):Prop:=w.heap[g]?=some (.cells cs.toArray T (0,0))
def VarC (w:World) (g:Nat):Nat->List Value->Prop
 | _,[]=>True
 | i,v :: r=>w.cell? ⟨g,i,none⟩=some v/\VarC w g (i+1) r
section
variable {w w':World} {g:Nat} {T:TypeId} {cs:List Value}
theorem Var.lt (h:Var w g T cs):g < w.heap.size:=(Array.getElem?_eq_some_iff.1 h).1
theorem Var.grow (h:Var w g T cs) (hb:Below w.heap.size w w'):Var w' g T cs:=(hb.block g h.lt).trans h
theorem Var.growB {B:Nat} (h:Var w g T cs) (hg:g < B) (hb:Below B w w'):Var w' g T cs:=(hb.block g hg).trans h
theorem Var.new (w:World) (T:TypeId) (cs:List Value):Var (w.alloc (.cells cs.toArray T)) w.heap.size T cs:=by
 show (w.heap.push _)[w.heap.size]?=_;simp
theorem Var.cell (h:Var w g T cs) (i:Nat):w.cell? ⟨g,i,none⟩=cs[i]?:=by
 unfold Var at h;simp [World.cell?,h]
theorem Var.fz (h:Var w g T cs) (i:Nat):w.frozen? ⟨g,i,none⟩=false:=by
 unfold Var at h;simp [World.frozen?,h]
theorem VarC.of:∀ (r:List Value) (i:Nat),(∀ j,j < r.length->w.cell? ⟨g,i+j,none⟩=r[j]?)->VarC w g i r
 | [],_,_=>trivial
 | v :: r,i,h=>⟨by simpa using h 0 (by simp),VarC.of r (i+1) (fun j hj=>by
   have:=h (j+1) (by simpa using hj);rw [show i+1+j=i+(j+1) by omega,this];simp)⟩
theorem Var.cells (h:Var w g T cs):VarC w g 0 cs:=VarC.of cs 0 (fun j _=>by rw [Nat.zero_add];exact h.cell j)
theorem v2 {a0 a1:Value} (h:Var w g T [a0,a1]):w.cell? ⟨g,0,none⟩=some a0/\w.cell? ⟨g,1,none⟩=some a1:=by
 have XX:=h.cells
 simpa only [VarC,Nat.reduceAdd,Nat.zero_add,and_true] using XX
theorem v3 {a0 a1 a2:Value} (h:Var w g T [a0,a1,a2]):w.cell? ⟨g,0,none⟩=some a0/\w.cell? ⟨g,1,none⟩=some a1/\w.cell? ⟨g,2,none⟩=some a2:=by
 have XX:=h.cells
 simpa only [VarC,Nat.reduceAdd,Nat.zero_add,and_true] using XX
theorem v4 {a0 a1 a2 a3:Value} (h:Var w g T [a0,a1,a2,a3]):w.cell? ⟨g,0,none⟩=some a0/\w.cell? ⟨g,1,none⟩=some a1/\w.cell? ⟨g,2,none⟩=some a2/\w.cell? ⟨g,3,none⟩=some a3:=by
 have XX:=h.cells
 simpa only [VarC,Nat.reduceAdd,Nat.zero_add,and_true] using XX
theorem v5 {a0 a1 a2 a3 a4:Value} (h:Var w g T [a0,a1,a2,a3,a4]):w.cell? ⟨g,0,none⟩=some a0/\w.cell? ⟨g,1,none⟩=some a1/\w.cell? ⟨g,2,none⟩=some a2/\w.cell? ⟨g,3,none⟩=some a3/\w.cell? ⟨g,4,none⟩=some a4:=by
 have XX:=h.cells
 simpa only [VarC,Nat.reduceAdd,Nat.zero_add,and_true] using XX
theorem v6 {a0 a1 a2 a3 a4 a5:Value} (h:Var w g T [a0,a1,a2,a3,a4,a5]):w.cell? ⟨g,0,none⟩=some a0/\w.cell? ⟨g,1,none⟩=some a1/\w.cell? ⟨g,2,none⟩=some a2/\w.cell? ⟨g,3,none⟩=some a3/\w.cell? ⟨g,4,none⟩=some a4/\w.cell? ⟨g,5,none⟩=some a5:=by
 have XX:=h.cells
 simpa only [VarC,Nat.reduceAdd,Nat.zero_add,and_true] using XX
theorem v8 {a0 a1 a2 a3 a4 a5 a6 a7:Value} (h:Var w g T [a0,a1,a2,a3,a4,a5,a6,a7]):w.cell? ⟨g,0,none⟩=some a0/\w.cell? ⟨g,1,none⟩=some a1/\w.cell? ⟨g,2,none⟩=some a2/\w.cell? ⟨g,3,none⟩=some a3/\w.cell? ⟨g,4,none⟩=some a4/\w.cell? ⟨g,5,none⟩=some a5/\w.cell? ⟨g,6,none⟩=some a6/\w.cell? ⟨g,7,none⟩=some a7:=by
 have XX:=h.cells
 simpa only [VarC,Nat.reduceAdd,Nat.zero_add,and_true] using XX
theorem v13 {a0 a1 a2 a3 a4 a5 a6 a7 a8 a9 a10 a11 a12:Value} (h:Var w g T [a0,a1,a2,a3,a4,a5,a6,a7,a8,a9,a10,a11,a12]):w.cell? ⟨g,0,none⟩=some a0/\w.cell? ⟨g,1,none⟩=some a1/\w.cell? ⟨g,2,none⟩=some a2/\w.cell? ⟨g,3,none⟩=some a3/\w.cell? ⟨g,4,none⟩=some a4/\w.cell? ⟨g,5,none⟩=some a5/\w.cell? ⟨g,6,none⟩=some a6/\w.cell? ⟨g,7,none⟩=some a7/\w.cell? ⟨g,8,none⟩=some a8/\w.cell? ⟨g,9,none⟩=some a9/\w.cell? ⟨g,10,none⟩=some a10/\w.cell? ⟨g,11,none⟩=some a11/\w.cell? ⟨g,12,none⟩=some a12:=by
 have XX:=h.cells
 simpa only [VarC,Nat.reduceAdd,Nat.zero_add,and_true] using XX
theorem v15 {a0 a1 a2 a3 a4 a5 a6 a7 a8 a9 a10 a11 a12 a13 a14:Value} (h:Var w g T [a0,a1,a2,a3,a4,a5,a6,a7,a8,a9,a10,a11,a12,a13,a14]):w.cell? ⟨g,0,none⟩=some a0/\w.cell? ⟨g,1,none⟩=some a1/\w.cell? ⟨g,2,none⟩=some a2/\w.cell? ⟨g,3,none⟩=some a3/\w.cell? ⟨g,4,none⟩=some a4/\w.cell? ⟨g,5,none⟩=some a5/\w.cell? ⟨g,6,none⟩=some a6/\w.cell? ⟨g,7,none⟩=some a7/\w.cell? ⟨g,8,none⟩=some a8/\w.cell? ⟨g,9,none⟩=some a9/\w.cell? ⟨g,10,none⟩=some a10/\w.cell? ⟨g,11,none⟩=some a11/\w.cell? ⟨g,12,none⟩=some a12/\w.cell? ⟨g,13,none⟩=some a13/\w.cell? ⟨g,14,none⟩=some a14:=by
 have XX:=h.cells
 simpa only [VarC,Nat.reduceAdd,Nat.zero_add,and_true] using XX
theorem Var.away (h:Var w g T cs) {c o:Nat} (hc:c≠g) (v:Value):Var (w.setCell ⟨c,o,none⟩ v) g T cs:=(Below.heap_setCell _ _ _ _ (fun e=>hc e.symm)).trans h
theorem Var.set (h:Var w g T cs) (i:Nat) (v:Value):Var (w.setCell ⟨g,i,none⟩ v) g T (cs.set i v):=by
 unfold Var at h ⊢;simp [World.setCell,Array.getElem?_modify,h]
theorem Var.shape (h:Var w g T cs):w.shape? g=some (T,cs.length):=by
 unfold Var at h;simp [World.shape?,h]
def Yq (w:World) (g:Nat):Nat->List Value->World
 | _,[]=>w
 | i,v :: r=>Yq (w.setCell ⟨g,i,none⟩ v) g (i+1) r
theorem Qb {k:Nat} (hk:k≠g):∀ (vs:List Value) (i:Nat) (w:World),(Yq w g i vs).heap[k]?=w.heap[k]?
 | [],_,_=>rfl
 | v :: r,i,w=>by
  rw [Yq,Qb hk r];exact Below.heap_setCell _ _ _ _ hk
theorem Q6:∀ (vs:List Value) (i:Nat) (w:World),(Yq w g i vs).heap.size=w.heap.size
 | [],_,_=>rfl
 | v :: r,i,w=>by
  rw [Yq,Q6 r];simp
theorem Qw {B:Nat} (hg:B<=g) {v:World}:∀ (vs:List Value) (i:Nat) (w:World),Below B v w->Below B v (Yq w g i vs)
 | [],_,_,h=>h
 | u :: r,i,w,h=>Qw hg r (i+1) _ (h.setCell (p:=⟨g,i,none⟩) hg u)
theorem Var.sets:∀ (vs:List Value) (xs bs:List Value) (w:World),Var w g T (xs++bs)->vs.length=bs.length->Var (Yq w g xs.length vs) g T (xs++vs)
 | [],xs,bs,w,h,e=>by
  have:bs=[]:=List.eq_nil_of_length_eq_zero (by simpa using e.symm);subst this;exact h
 | v :: r,xs,b :: bs,w,h,e=>by
  rw [Yq];have h2:=h.set xs.length v;rw [List.set_append_right _ _ (Nat.le_refl _),Nat.sub_self,List.set_cons_zero] at h2;have:=Var.sets r (xs++[v]) bs (w.setCell ⟨g,xs.length,none⟩ v) (by simpa using h2) (by simpa using e)
  simpa using this
theorem Var.put (h:Var w g T cs) (vs:List Value) (e:vs.length=cs.length):Var (Yq w g 0 vs) g T vs:=Var.sets vs [] cs w h e
end
end Tryst
namespace Tryst
open Go Go.RowKit
def natC (i:Nat):List Value:=[.int .i64 (i:Int)]
def jQh (w:World) (ps:List Nat) (e:Ending) (w':World):Prop:=∃ a c,e=.returned (.slice a ps.length c)/\Row w' a 1 (ps.map natC)/\Below w.heap.size w w'
def Upt (w:World) (n g:Nat) (T:TypeId) (i:Value) (wr:World):Prop:=∃ (k:Nat) (cs:List Value),k<=n/\i=.int .i64 k/\Hid (Var wr g T cs)/\cs.length=n/\Hid (∀ j,j < k->cs[j]?=some (.int .i64 (j:Int)))/\Hid (Below w.heap.size w wr)/\g < wr.heap.size
end Tryst
namespace Go.Proofs.YtcbicdencgjfiaaGreatDoor
open Go.RowKit Tryst
theorem infoI:(Tryz.prog.info? 3).map (fun i=>(i.zero,i.size,i.bytes))=some (some (.int .i64 0),1,8):=by kernel_rfl
theorem makeI (n:Nat) (hn:n<=1500000):∃ M:List Value,M.length=n/\∀ w:World,(Instr.makeSlice 308 (.int .i64 n) (.int .i64 n)).run Tryz.prog w=.ok (.slice (some ⟨w.heap.size,0,none⟩) n n) (w.alloc (.cells M.toArray 3)):=by
 obtain ⟨i,hi,hz,h2,h3⟩:=info_parts infoI;refine ⟨(madeCells (Value.int .i64 0).cells (n*1)).toList,by simp [size_madeCells],fun w=>?_⟩;have hr:=run_make (P:=Tryz.prog) w 308 3 i _ Tryz.underlying308 hi hz .i64 .i64 n n (by omega) (Int.le_refl _) (by rw [h3];omega) (by omega);rw [h2] at hr
 simpa using hr
theorem jJw (n m:Nat) (hn:n<=1500000) (hm:m<=1500000) (w:World):Calls Tryz.prog 257 #[.int .i64 n,.int .i64 m] w fun e w'=>jQh w (if n<=m then List.range n else []) e w':=by
 by_cases h:n<=m
 ·
  have h1:¬ ((m:Int) < n):=by omega
  have h2:(0:Int)<=n:=by omega
  rw [if_pos h];obtain ⟨M,hM,hmk⟩:=makeI n hn;have HV0:Hid (Var (w.alloc (.cells M.toArray 3)) w.heap.size 3 M):=Zh (by show (w.heap.push _)[_]?=_;simp);have HB0:=Zh (Qj (.cells M.toArray 3) (.refl w.heap.size w));go_enter Tryz.func257,Tryz.ntmps257;go_wp2_with (simp only [hmk]);go_loopw [14] (fun i wr=>Upt w n w.heap.size 3 i wr) (fun i _=>n - (intOf i).toNat)
  case atStart=>exact ⟨0,M,by omega,rfl,HV0,hM,Zh (fun j hj=>by omega),HB0,by simp⟩
  case round=>
   clear hmk HV0 HB0;obtain ⟨k,cs,hk,rfl,HV,hcs,HC,HW,hz⟩:=hrel;obtain ⟨wo,rfl⟩:∃ wo,wo=wr:=⟨_,rfl⟩
   by_cases hlt:k < n
   ·
    have x1:(k:Int) < n:=by omega
    have x2:(0:Int)<=k:=by omega
    have hf:=HV.out.fz k;have hc:wo.cell? ⟨w.heap.size,k,none⟩=some (cs[k]'(by omega)):=by rw [HV.out.cell k,List.getElem?_eq_getElem (by omega)]
    have hs:=HV.out.shape;rw [hcs] at hs;have HV2:=Zh (HV.out.set k (.int .i64 (k:Int)))
    have HC2:Hid (∀ j,j < k+1->(cs.set k (.int .i64 (k:Int)))[j]?=some (.int .i64 (j:Int))):=Zh (fun j hj=>by
     by_cases e:j=k
     · subst e;rw [List.getElem?_set_self (by omega)]
     · rw [List.getElem?_set_ne (by omega)];exact HC.out j (by omega))
    have HW2:=Zh (bset (.int .i64 (k:Int)) (p:=⟨w.heap.size,k,none⟩) (Nat.le_refl _) HW.out);have hcs2:(cs.set k (.int .i64 (k:Int))).length=n:=by rw [List.length_set];exact hcs
    clear HC HV HW;go_wp2_with fail;go_roundw
    case rel=>exact ⟨k+1,_,by omega,by go_num,HV2,hcs2,HC2,HW2,by simpa using hz⟩
    case measure=>simp [intOf]<;>omega
   ·
    have hkn:k=n:=by omega
    subst hkn
    have HR:Hid (Row wo (some ⟨w.heap.size,0,none⟩) 1 ((List.range k).map natC)):=Zh (fun i hi=>by
     simp only [List.length_map,List.length_range] at hi;refine ⟨w.heap.size,0,rfl,hz,fun j hj=>?_⟩;obtain rfl:j=0:=by omega
     simp only [List.getElem_map,List.getElem_range];rw [show 0+i*1+0=i by omega,HV.out.cell i,HC.out i hi];rfl)
    go_wp2_with fail;go_ret;exact ⟨some ⟨w.heap.size,0,none⟩,k,(by rw [List.length_range];rfl),HR.out,HW.out⟩
 ·
  have h1:(m:Int) < n:=by omega
  rw [if_neg h];go_enter Tryz.func257,Tryz.ntmps257;go_wp2_with fail;go_ret;exact ⟨none,0,rfl,Row.nil _ _ _,.refl _ _⟩
end Go.Proofs.YtcbicdencgjfiaaGreatDoor
namespace Go.Proofs.YtcbicdencgjfiaaGreatDoor
open Go.RowKit Tryst Go.Maps
structure MJ (w v:World) (j:JB) (s:Value):Prop where
 c0:v.cell? ⟨w.heap.size,0,none⟩=some (.string j.kind)
 c1:v.cell? ⟨w.heap.size,1,none⟩=some (.int .i64 j.parts)
 c2:v.cell? ⟨w.heap.size,2,none⟩=some (.int .i64 j.need)
 s0:v.cell? ⟨w.heap.size+1,0,none⟩=some s
 k:Below w.heap.size w v
 z:w.heap.size+1 < v.heap.size
theorem MJ.grow {w v v':World} {j:JB} {s:Value} (h:MJ w v j s) (hb:Below v.heap.size v v'):MJ w v' j s:=by
 obtain ⟨c0,c1,c2,s0,k,z⟩:=h;exact ⟨by rw [hb.cell (p:=⟨_,_,none⟩) (by show w.heap.size < _;omega)];exact c0,by rw [hb.cell (p:=⟨_,_,none⟩) (by show w.heap.size < _;omega)];exact c1,by rw [hb.cell (p:=⟨_,_,none⟩) (by show w.heap.size < _;omega)];exact c2,by rw [hb.cell (p:=⟨_,_,none⟩) z];exact s0,Qk hb k,Nat.lt_of_lt_of_le z hb.size⟩
theorem MJ.turn {w v v':World} {mb:Nat} {j:JB} {s:Value} (h:Hid (MJ w v j s)) (hg:v.grownBy v' (some mb)) (hn:w.heap.size+2<=mb):Hid (MJ w v' j s):=by
 obtain ⟨c0,c1,c2,s0,k,z⟩:=h.out;have hc:∀ g o,g<=w.heap.size+1->v'.cell? ⟨g,o,none⟩=v.cell? ⟨g,o,none⟩:=fun g o hle=>World.cell?_of_block (w:=v) (a:=⟨g,o,none⟩) (hg.block g (by omega) (by simp only [ne_eq,Option.some.injEq];omega))
 exact ⟨by rw [hc _ _ (by omega)];exact c0,by rw [hc _ _ (by omega)];exact c1,by rw [hc _ _ (by omega)];exact c2,by rw [hc _ _ (by omega)];exact s0,k.grown hg (by have:=k.size;omega) (fun j hj=>by cases hj;show w.heap.size<=mb;omega),Nat.lt_of_lt_of_le z hg.size⟩
theorem jQh.grow {w w1:World} (hb:Below w.heap.size w w1) {ps:List Nat} {e:Ending} {w':World} (h:jQh w1 ps e w'):jQh w ps e w':=by
 obtain ⟨a,c,h1,h2,h3⟩:=h;exact ⟨a,c,h1,h2,Qk h3 hb⟩
theorem vJD (b o:Nat) (a:Option Addr) (c n:Nat) (hn:n<=1500000) (w:World) (hc:w.cell? ⟨b,o,none⟩=some (.slice a n c)):Calls Tryz.prog 256 #[.pointer (some ⟨b,o,none⟩)] w fun e w'=>jQh w (if 1<=n then List.range 1 else []) e w':=by
 have HU:=Zh (jJw 1 n (by omega) hn w);generalize (if 1<=n then List.range 1 else [])=ps at HU ⊢;go_enter Tryz.func256,Tryz.ntmps256;go_wp2_with fail;refine HU.out.mono ?_;rintro e w1 ⟨a1,c1,rfl,h2,h3⟩;go_wp2_with fail;go_ret;exact ⟨a1,c1,rfl,h2,h3⟩
theorem vJA (b1 o1 b2 o2:Nat) (a:Option Addr) (c n nd:Nat) (hn:n<=1500000) (hd:nd<=1500000) (w:World) (hc:w.cell? ⟨b2,o2,none⟩=some (.slice a n c)) (hj:w.cell? ⟨b1,o1+2,none⟩=some (.int .i64 nd)):Calls Tryz.prog 258 #[.pointer (some ⟨b1,o1,none⟩),.pointer (some ⟨b2,o2,none⟩)] w fun e w'=>jQh w (if nd<=n then List.range nd else []) e w':=by
 have HU:=Zh (jJw nd n hd hn w);generalize (if nd<=n then List.range nd else [])=ps at HU ⊢;go_enter Tryz.func258,Tryz.ntmps258;go_wp2_with fail;refine HU.out.mono ?_;rintro e w1 ⟨a1,c1,rfl,h2,h3⟩;go_wp2_with fail;go_ret;exact ⟨a1,c1,rfl,h2,h3⟩
end Go.Proofs.YtcbicdencgjfiaaGreatDoor
namespace Go.Proofs.YtcbicdencgjfiaaGreatDoor
open Go.RowKit Tryst
theorem PenS.lt {W0 Y w:World} {b:Nat} {l:List UInt8} (h:PenS W0 Y b l w):b < w.heap.size:=(BldT.lt h.bld).2
theorem DX.kept {W0 Y w:World} {b g:Nat} {l:List UInt8} {nm ky kd:ByteArray} {G U:Value} {p n x:Int} (h:PenS W0 Y b l w) (hx:DX Y g nm G U ky kd p n x) (hg:g≠b):DX w g nm G U ky kd p n x:=Kept.box h.kept hx hg (by decide)
theorem vJW (d:DB) {W0 Y w:World} {b:Nat} {o:List UInt8} (h:PenS W0 Y b o w) (hM:MaxW W0) (hT:Tab W0) (hD:DO W0 d) (hj:JIn d.j) (hm:∀ p∈d.wl,mayP p.pr=true) (hl:o.length+(defL d.dp).length<=800000000) :
  Calls Tryz.prog 112 #[.pointer (some ⟨b,0,none⟩),d.agg] w (PenR W0 Y b (o++defL d.dp)):=by
 have HG:=Zh (fun (Z wx:World) (ox:List UInt8) (hx:PenS W0 Z b ox wx) hlx=>jJe d.ga d.gc d.gl hx hD.gS hlx (Nat.le_trans hD.hg (by decide)));have HU:=Zh (fun (Z wx:World) (ox:List UInt8) (hx:PenS W0 Z b ox wx) hlx=>vJV d.wa d.wc d.wl hx hM hT hD.wR hm (fun p hp=>qQd p (hD.wR.po p hp).1) hlx (Nat.le_trans hD.hw (by decide)));have H0:=Zh h;have hbw:=h.lt;obtain ⟨j0,j1,j2,j3,j4,j5,j6⟩:=hj;clear h hM hT hD hm;obtain ⟨nm,ga,gl,gc,wa,wl,wc,ky,⟨kd,p,n,x⟩⟩:=d;unfold DB.agg;unfold DB.dp defL at hl ⊢;simp only [List.length_append] at HG HU hl j0 j1 j2 j3 j4 j5 j6 ⊢;have HX:=Zh (DX.new w nm (.slice ga gl.length gc) (.slice wa wl.length wc) ky kd p n x);have B0:=Zh (Qj (.cells #[.string nm,.slice ga gl.length gc,.slice wa wl.length wc,.string ky,.string kd,.int .i64 p,.int .i64 n,.int .i64 x] 45) (.refl w.heap.size w));have H1:=Zh (H0.out.enter B0.out);go_enter Tryz.func112,Tryz.ntmps112;go_upto_region 1 with fail
 revert HX B0 H1;generalize w.alloc (.cells #[.string nm,.slice ga gl.length gc,.slice wa wl.length wc,.string ky,.string kd,.int .i64 p,.int .i64 n,.int .i64 x] 45)=Z;intro HX B0 H1;have hgb:w.heap.size≠b:=by omega
 generalize w.heap.size=g at HX hgb ⊢;obtain ⟨x0,x1,x2,x3,x4,x5,x6,x7,x8⟩:=HX.out.box;go_wp2_with fail;refine (Zg nm H1.out (by omega)).mono ?_;rintro e w2 ⟨rfl,h2⟩;have H2:=Zh h2;clear h2 H1 x0 x1 x2 x3 x4 x5 x6 x7 x8;obtain ⟨x0,x1,x2,x3,x4,x5,x6,x7,x8⟩:=(DX.kept H2.out HX.out hgb).box;go_wp2_with fail;refine (HG.out _ _ _ H2.out (by simp only [List.length_append];omega)).mono ?_;rintro e w3 ⟨rfl,h3⟩;have H3:=Zh h3;clear h3 H2 x0 x1 x2 x3 x4 x5 x6 x7 x8;obtain ⟨x0,x1,x2,x3,x4,x5,x6,x7,x8⟩:=(DX.kept H3.out HX.out hgb).box;go_wp2_with fail;refine (HU.out _ _ _ H3.out (by simp only [List.length_append];omega)).mono ?_;rintro e w4 ⟨rfl,h4⟩;have H4:=Zh h4;clear h4 H3 x0 x1 x2 x3 x4 x5 x6 x7 x8;obtain ⟨x0,x1,x2,x3,x4,x5,x6,x7,x8⟩:=(DX.kept H4.out HX.out hgb).box;go_wp2_with fail;refine (Zg ky H4.out (by simp only [List.length_append];omega)).mono ?_;rintro e w5 ⟨rfl,h5⟩;have H5:=Zh h5;clear h5 H4 x0 x1 x2 x3 x4 x5 x6 x7 x8;obtain ⟨x0,x1,x2,x3,x4,x5,x6,x7,x8⟩:=(DX.kept H5.out HX.out hgb).box;go_wp2_with fail;refine (Zg kd H5.out (by simp only [List.length_append];omega)).mono ?_;rintro e w6 ⟨rfl,h6⟩;have H6:=Zh h6;clear h6 H5 x0 x1 x2 x3 x4 x5 x6 x7 x8;obtain ⟨x0,x1,x2,x3,x4,x5,x6,x7,x8⟩:=(DX.kept H6.out HX.out hgb).box;go_wp2_with fail;refine (Jk p j1 j2 H6.out (by simp only [List.length_append];omega)).mono ?_;rintro e w7 ⟨rfl,h7⟩;have H7:=Zh h7;clear h7 H6 x0 x1 x2 x3 x4 x5 x6 x7 x8;obtain ⟨x0,x1,x2,x3,x4,x5,x6,x7,x8⟩:=(DX.kept H7.out HX.out hgb).box;go_wp2_with fail;refine (Jk n j3 j4 H7.out (by simp only [List.length_append];omega)).mono ?_;rintro e w8 ⟨rfl,h8⟩;have H8:=Zh h8;clear h8 H7 x0 x1 x2 x3 x4 x5 x6 x7 x8;obtain ⟨x0,x1,x2,x3,x4,x5,x6,x7,x8⟩:=(DX.kept H8.out HX.out hgb).box;go_wp2_with fail;refine (Jk x j5 j6 H8.out (by simp only [List.length_append];omega)).mono ?_;rintro e w9 ⟨rfl,h9⟩;have H9:=Zh h9;clear h9 H8 x0 x1 x2 x3 x4 x5 x6 x7 x8;obtain ⟨x0,x1,x2,x3,x4,x5,x6,x7,x8⟩:=(DX.kept H9.out HX.out hgb).box;go_wp2_with fail;go_end0;exact ⟨rfl,(H0.out.leave B0.out H9.out).tto (by simp only [List.append_assoc])⟩
theorem _root_.Tryst.Var.kept {W0 Y w:World} {b g:Nat} {l:List UInt8} {T:TypeId} {cs:List Value} (h:PenS W0 Y b l w) (hx:Var Y g T cs) (hg:g≠b) (hT:T≠5):Var w g T cs:=Kept.box h.kept hx hg hT
theorem pop_c (q:OPB) {W0 Y w:World} {b:Nat} {o:List UInt8} (h:PenS W0 Y b o w) (hM:MaxW W0) (hT:Tab W0) (hD:DO W0 q.d) (hj:JIn q.d.j) (hq:OPIn q) (hm:q.kind=2->∀ p∈q.d.wl,mayP p.pr=true) (hl:o.length+(opL q.p).length<=800000000) :
  Calls Tryz.prog 56 #[.pointer (some ⟨b,0,none⟩),q.agg] w (PenR W0 Y b (o++opL q.p)):=by
 have HD:=Zh (fun (hk:q.kind=2) (Z wx:World) (ox:List UInt8) (hx:PenS W0 Z b ox wx) hlx=>vJW q.d hx hM hT hD hj (hm hk) hlx);have H0:=Zh h;have hbw:=h.lt;obtain ⟨k0,k1,n0,n1,i0⟩:=hq;clear h hM hT hD hm hj;obtain ⟨k,s,d,ok,id,n⟩:=q;have HX:=Zh (Var.new w 48 (OPB.mk k s d ok id n).cells);have B0:=Zh (Qj (.cells (OPB.mk k s d ok id n).cells.toArray 48) (.refl w.heap.size w));have H1:=Zh (H0.out.enter B0.out);unfold OPB.cells at HX B0 H1;unfold OPB.agg;unfold OPB.p opL OpP.head Tryst.headL at hl ⊢;unfold DB.agg at HD;simp only [List.length_append] at HD HX B0 H1 hl k0 k1 n0 n1 i0 ⊢;go_enter Tryz.func56,Tryz.ntmps56;go_upto_region 1 with fail
 revert HX B0 H1;generalize w.alloc (.cells _ 48)=Z;intro HX B0 H1;have hgb:w.heap.size≠b:=by omega
 generalize w.heap.size=g at HX hgb ⊢;obtain ⟨x0,x1,x2,x3,x4,x5,x6,x7,x8,x9,x10,x11,x12⟩:=v13 (HX.out)
 by_cases hk:k=2
 · subst hk;rw [if_pos rfl] at hl ⊢;go_wp2_with fail;refine (Jk 2 k0 k1 H1.out (by omega)).mono ?_;rintro e w2 ⟨rfl,h2⟩;have H2:=Zh h2;clear h2 H1 x0 x1 x2 x3 x4 x5 x6 x7 x8 x9 x10 x11 x12;obtain ⟨x0,x1,x2,x3,x4,x5,x6,x7,x8,x9,x10,x11,x12⟩:=v13 ((Var.kept H2.out HX.out hgb (by decide)));go_wp2_with fail;refine (Zg s H2.out (by simp only [List.length_append];omega)).mono ?_;rintro e w3 ⟨rfl,h3⟩;have H3:=Zh h3;clear h3 H2 x0 x1 x2 x3 x4 x5 x6 x7 x8 x9 x10 x11 x12;obtain ⟨x0,x1,x2,x3,x4,x5,x6,x7,x8,x9,x10,x11,x12⟩:=v13 ((Var.kept H3.out HX.out hgb (by decide)));go_wp2_with fail;refine (xQx ok H3.out (by simp only [List.length_append];omega)).mono ?_;rintro e w4 ⟨rfl,h4⟩;have H4:=Zh h4;clear h4 H3 x0 x1 x2 x3 x4 x5 x6 x7 x8 x9 x10 x11 x12;obtain ⟨x0,x1,x2,x3,x4,x5,x6,x7,x8,x9,x10,x11,x12⟩:=v13 ((Var.kept H4.out HX.out hgb (by decide)));go_wp2_with fail;refine (jQD id (by omega) H4.out (by simp only [List.length_append];omega)).mono ?_;rintro e w5 ⟨rfl,h5⟩;have H5:=Zh h5;clear h5 H4 x0 x1 x2 x3 x4 x5 x6 x7 x8 x9 x10 x11 x12;obtain ⟨x0,x1,x2,x3,x4,x5,x6,x7,x8,x9,x10,x11,x12⟩:=v13 ((Var.kept H5.out HX.out hgb (by decide)));go_wp2_with fail;refine (Jk n n0 n1 H5.out (by simp only [List.length_append];omega)).mono ?_;rintro e w6 ⟨rfl,h6⟩;have H6:=Zh h6;clear h6 H5 x0 x1 x2 x3 x4 x5 x6 x7 x8 x9 x10 x11 x12;obtain ⟨x0,x1,x2,x3,x4,x5,x6,x7,x8,x9,x10,x11,x12⟩:=v13 ((Var.kept H6.out HX.out hgb (by decide)));go_wp2_with fail;refine (HD.out (by trivial) _ _ _ H6.out (by simp only [List.length_append];omega)).mono ?_;rintro e w7 ⟨rfl,h7⟩;have H7:=Zh h7;clear h7 H6 x0 x1 x2 x3 x4 x5 x6 x7 x8 x9 x10 x11 x12;obtain ⟨x0,x1,x2,x3,x4,x5,x6,x7,x8,x9,x10,x11,x12⟩:=v13 ((Var.kept H7.out HX.out hgb (by decide)));go_wp2_with fail;go_end0;exact ⟨rfl,(H0.out.leave B0.out H7.out).tto (by simp only [List.append_assoc])⟩
 ·
  rw [if_neg hk] at hl ⊢;have hk2:(k==2)=false:=by simpa using hk
  go_wp2_with fail;refine (Jk k k0 k1 H1.out (by omega)).mono ?_;rintro e w2 ⟨rfl,h2⟩;have H2:=Zh h2;clear h2 H1 x0 x1 x2 x3 x4 x5 x6 x7 x8 x9 x10 x11 x12;obtain ⟨x0,x1,x2,x3,x4,x5,x6,x7,x8,x9,x10,x11,x12⟩:=v13 ((Var.kept H2.out HX.out hgb (by decide)));go_wp2_with fail;refine (Zg s H2.out (by simp only [List.length_append];omega)).mono ?_;rintro e w3 ⟨rfl,h3⟩;have H3:=Zh h3;clear h3 H2 x0 x1 x2 x3 x4 x5 x6 x7 x8 x9 x10 x11 x12;obtain ⟨x0,x1,x2,x3,x4,x5,x6,x7,x8,x9,x10,x11,x12⟩:=v13 ((Var.kept H3.out HX.out hgb (by decide)));go_wp2_with fail;refine (xQx ok H3.out (by simp only [List.length_append];omega)).mono ?_;rintro e w4 ⟨rfl,h4⟩;have H4:=Zh h4;clear h4 H3 x0 x1 x2 x3 x4 x5 x6 x7 x8 x9 x10 x11 x12;obtain ⟨x0,x1,x2,x3,x4,x5,x6,x7,x8,x9,x10,x11,x12⟩:=v13 ((Var.kept H4.out HX.out hgb (by decide)));go_wp2_with fail;refine (jQD id (by omega) H4.out (by simp only [List.length_append];omega)).mono ?_;rintro e w5 ⟨rfl,h5⟩;have H5:=Zh h5;clear h5 H4 x0 x1 x2 x3 x4 x5 x6 x7 x8 x9 x10 x11 x12;obtain ⟨x0,x1,x2,x3,x4,x5,x6,x7,x8,x9,x10,x11,x12⟩:=v13 ((Var.kept H5.out HX.out hgb (by decide)));go_wp2_with fail;refine (Jk n n0 n1 H5.out (by simp only [List.length_append];omega)).mono ?_;rintro e w6 ⟨rfl,h6⟩;have H6:=Zh h6;clear h6 H5 x0 x1 x2 x3 x4 x5 x6 x7 x8 x9 x10 x11 x12;obtain ⟨x0,x1,x2,x3,x4,x5,x6,x7,x8,x9,x10,x11,x12⟩:=v13 ((Var.kept H6.out HX.out hgb (by decide)));go_wp2_with fail;go_end0;exact ⟨rfl,(H0.out.leave B0.out H6.out).tto (by simp only [List.append_assoc,List.append_nil])⟩
