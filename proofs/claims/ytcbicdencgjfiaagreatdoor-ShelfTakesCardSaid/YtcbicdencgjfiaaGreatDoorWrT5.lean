import Derived.Test.YtcbicdencgjfiaaGreatDoorOffU
import Derived.Test.YtcbicdencgjfiaaGreatDoorParN
set_option linter.all false
set_option maxHeartbeats 4000000
set_option maxRecDepth 20000
namespace Tryst
open Go Go.RowKit
def tB:Nat->Nat
 | 0=>0
 | d+1=>2*tB d+300
theorem zQr {s:List UInt8} (h:Yz s=true):s.length<=40:=by
 unfold Yz at h;simp only [Bool.and_eq_true,decide_eq_true_eq] at h;exact h.1.1
theorem jQd:∀ (d:Nat) (p:Pr),Kg p d=true->Zb p->(Yk p).length<=tB d:=by
 intro d
 induction d with
 | zero=>
  intro p h;obtain ⟨op,s,num,n,vs,l⟩:=p;rw [Kg] at h;simp at h
 | succ d ih=>
  intro p h hft;obtain ⟨op,s,num,n,vs,l⟩:=p;obtain ⟨k,rfl,h1,h2⟩:=zQ2 h;rw [Zb] at hft;rw [jQ3,tB];cases k with
  | all=>simp
  | topic=>
   simp only [Jj,Bool.and_eq_true,decide_eq_true_eq] at h1;have:=zQr h1.1;simp at this ⊢;omega
  | has=>
   simp only [Jj,Bool.and_eq_true,decide_eq_true_eq] at h1;have:=Zz h1.1;simp at this ⊢;omega
  | eq=>
   simp only [Jj,Bool.and_eq_true,decide_eq_true_eq,Go.Proofs.YtcbicdencgjfiaaGreatDoor.V.mayB] at h1;have:=Zz h1.1;have:=qQb _ h1.2.1 hft.1;simp at *;omega
  | lt=>
   simp only [Jj,Bool.and_eq_true,decide_eq_true_eq,Go.Proofs.YtcbicdencgjfiaaGreatDoor.V.mayB] at h1;have:=Zz h1.1;have:=qQb _ h1.2.1 hft.1;simp at *;omega
  | not=>
   simp only [Jj,Bool.and_eq_true,decide_eq_true_eq] at h1;obtain ⟨y,rfl⟩:=List.length_eq_one_iff.1 h1.2.2;have hy:Kg y d=true:=by simpa [jQL] using h2
   have fy:Zb y:=by
    have:=hft.2;rw [jQc] at this;exact this.1
   have:=ih y hy fy;simp [Jz];omega
  | and=>
   simp only [Jj,Bool.and_eq_true,decide_eq_true_eq] at h1
   obtain ⟨y,z,rfl⟩:∃ y z,l=[y,z]:=by
    match l,h1.2.2 with
    | [y,z],_=>exact ⟨y,z,rfl⟩
   simp only [jQL,Bool.and_eq_true,and_true] at h2;have hft:=hft.2;simp only [jQc,and_true] at hft;have:=ih y h2.1 hft.1;have:=ih z h2.2 hft.2;simp [Jz];omega
  | or=>
   simp only [Jj,Bool.and_eq_true,decide_eq_true_eq] at h1
   obtain ⟨y,z,rfl⟩:∃ y z,l=[y,z]:=by
    match l,h1.2.2 with
    | [y,z],_=>exact ⟨y,z,rfl⟩
   simp only [jQL,Bool.and_eq_true,and_true] at h2;have hft:=hft.2;simp only [jQc,and_true] at hft;have:=ih y h2.1 hft.1;have:=ih z h2.2 hft.2;simp [Jz];omega
end Tryst
namespace Go.Proofs.YtcbicdencgjfiaaGreatDoor
open Go.RowKit Tryst
def WrR (B b:Nat) (l:List UInt8) (w:World) (e:Ending) (w':World):Prop:=e=.returned (.tuple #[])/\Bld w' B b l/\Below B w w'/\Kept b w w'
theorem WrR.tto {B b:Nat} {l l':List UInt8} {w w':World} {e:Ending} (h:WrR B b l w e w') (hl:l=l'):WrR B b l' w e w':=hl ▸ h
theorem Kj (a:Array UInt8):(⟨a⟩:ByteArray).size=a.size:=rfl
theorem jJD {num:Bool} {n:Int} {vs:ByteArray} (h:V.May ⟨num,n,vs.data.toList⟩):vs.size<=1500000:=by
 unfold V.May at h;cases num with
 | true=>
  have h:vs.data.toList=[]:=by simpa using h
  have h2:vs.data.toList.length=0:=by rw [h];rfl
  rw [Qx] at h2;omega
 | false=>
  have h:n=0/\vs.data.toList.length<=60:=by simpa using h
  rw [Qx] at h;omega
theorem qYE {w w':World} {b g:Nat} {op s:ByteArray} {num:Bool} {n:Int} {vs:ByteArray} {u:Value} (h:w.heap[g]?=some (.cells #[.string op,.string s,.bool num,.int .i64 n,.string vs,u] 123 (0,0))) (hk:Kept b w w') (hg:g≠b):w'.heap[g]?=some (.cells #[.string op,.string s,.bool num,.int .i64 n,.string vs,u] 123 (0,0)):=hk.box h hg (by decide)
theorem Yb {w:World} {g:Nat} {op s:ByteArray} {num:Bool} {n:Int} {vs:ByteArray} {u:Value} {T:TypeId} (h:w.heap[g]?=some (.cells #[.string op,.string s,.bool num,.int .i64 n,.string vs,u] T (0,0))):PBox w g op s num n vs u:=by
 have hz:=(Array.getElem?_eq_some_iff.1 h).1
 constructor<;>first | exact hz | simp [World.cell?,h]
theorem vJt (W0:World) (b:Nat):∀ (d:Nat) (x:PB),Kg x.pr d=true->Zb x.pr->PMem W0 x->∀ (l:List UInt8) (w:World),Bld w W0.heap.size b l->l.length+tB d<=900000->Below W0.heap.size W0 w->(∀ v,Below W0.heap.size W0 v->Tab v)->
  Calls Tryz.prog 219 #[.pointer (some ⟨b,0,none⟩),x.agg] w fun e w'=>WrR W0.heap.size b (l++Yk x.pr) w e w':=by
 intro d
 induction d with
 | zero=>
  intro x hx;obtain ⟨op,s,num,n,vs,a,c,ps⟩:=x;rw [PB.pr,Kg] at hx;simp at hx
 | succ d ih=>
  intro x hx hft hP l w hB hl hbw hT;obtain ⟨op,s,num,n,vs,a,c,ps⟩:=x;have htl:=jQd (d+1) _ hx hft;rw [PB.pr] at hx hft htl ⊢;obtain ⟨k,rfl,h1,h2⟩:=zQ2 hx;rw [Zb] at hft;rw [jQ3] at htl ⊢;rw [PB.prs_len] at h1;have HB:=Zh hB;have HW:=Zh hbw;have HT:=Zh hT;have HIH:=Zh ih;obtain ⟨hbB,hblt⟩:=hB.lt
  obtain ⟨hs,hvs,hps,hR,hC⟩:s.size<=1000000000/\vs.size<=1000000000/\ps.length<=1000000000/\Row W0 a 6 (ps.map PB.cells)/\∀ x,x∈ps->PMem W0 x:=by
   cases hP with
   | mk _ _ _ _ _ _ _ _ h1 h2 h3 h4 h5=>exact ⟨h1,h2,h3,h4,h5⟩
  have HR:=Zh hR;have HC:=Zh hC;clear hx hB hbw hT hR hC hP ih;rw [tB] at hl;unfold PB.agg;simp only [PB.op,PB.s,PB.num,PB.n,PB.vs,PB.a,PB.c,PB.l];have hbx:=xJc w #[.string k.text,.string s,.bool num,.int .i64 n,.string vs,.slice a ps.length c] 123;have K0:=Zh (Kept.below (b:=b) (Qj (.cells #[.string k.text,.string s,.bool num,.int .i64 n,.string vs,.slice a ps.length c] 123) (.refl w.heap.size w)));have B0:=Zh (HB.out.grow (Qj (.cells #[.string k.text,.string s,.bool num,.int .i64 n,.string vs,.slice a ps.length c] 123) (.refl w.heap.size w)));have hzw:=HW.out.size;have L0:=Zh ((Qj (.cells #[.string k.text,.string s,.bool num,.int .i64 n,.string vs,.slice a ps.length c] 123) (.refl w.heap.size w)).mono hzw);go_enter Tryz.func219,Tryz.ntmps219;go_upto_region 1 with fail
  have hgb:w.heap.size≠b:=by omega
  have hz1:W0.heap.size<=(w.alloc (.cells #[.string k.text,.string s,.bool num,.int .i64 n,.string vs,.slice a ps.length c] 123)).heap.size:=by simp;omega
  revert hbx K0 B0 L0;generalize w.alloc (.cells #[.string k.text,.string s,.bool num,.int .i64 n,.string vs,.slice a ps.length c] 123)=Y at hz1 ⊢;intro hbx K0 B0 L0;have X0:=Zh hbx;obtain ⟨x0,x1,x2,x3,x4,x5,x6⟩:=Yb hbx;generalize w.heap.size=G at hgb X0 x0 x1 x2 x3 x4 x5 x6 hzw ⊢;clear hbx;have z0:=hz1;clear hz1;cases k with
  | all=>
   rw [show Opk.all.text=⟨#[97,108,108]⟩ from rfl] at X0 x0 ⊢;go_wp2_with fail;refine (Zf W0.heap.size b _ _ _ B0.out (by first | omega | (simp;omega)) (by first | decide | (simp [ByteArray.size_append,Kj];omega)) z0).mono ?_;rintro e w2 ⟨rfl,g1,g2,g3⟩;have B2:=Zh g1;have L2:=Zh (L0.out.trans g2);have K2:=Zh (K0.out.trans g3);have X2:=Zh (qYE X0.out g3 hgb)
   have z2:W0.heap.size<=w2.heap.size:=by
    have:=g2.size;omega
   clear g1 g2 g3 B0 L0 K0 X0 x0 x1 x2 x3 x4 x5 x6;obtain ⟨x0,x1,x2,x3,x4,x5,x6⟩:=Yb X2.out;go_wp2_with fail;go_end0;exact ⟨rfl,by have h:=B2.out;first | exact h | (simp [Opk.text,Jz] at h ⊢;exact h),L2.out,K2.out⟩
  | topic=>
   simp only [Jj,Bool.and_eq_true,decide_eq_true_eq] at h1;have hsz:=zQr h1.1;rw [Qx] at hsz;rw [show Opk.topic.text=⟨#[116,111,112,105,99]⟩ from rfl] at X0 x0 ⊢;go_wp2_with fail;refine (Zf W0.heap.size b _ _ _ B0.out (by first | omega | (simp;omega)) (by first | decide | (simp [ByteArray.size_append,Kj];omega)) z0).mono ?_;rintro e w2 ⟨rfl,g1,g2,g3⟩;have B2:=Zh g1;have L2:=Zh (L0.out.trans g2);have K2:=Zh (K0.out.trans g3);have X2:=Zh (qYE X0.out g3 hgb)
   have z2:W0.heap.size<=w2.heap.size:=by
    have:=g2.size;omega
   clear g1 g2 g3 B0 L0 K0 X0 x0 x1 x2 x3 x4 x5 x6;obtain ⟨x0,x1,x2,x3,x4,x5,x6⟩:=Yb X2.out;go_wp2_with fail;go_end0;exact ⟨rfl,by have h:=B2.out;first | exact h | (simp [Opk.text,Jz] at h ⊢;exact h),L2.out,K2.out⟩
  | has=>
   simp only [Jj,Bool.and_eq_true,decide_eq_true_eq] at h1;have hsz:=Zz h1.1;rw [Qx] at hsz;rw [show Opk.has.text=⟨#[104,97,115]⟩ from rfl] at X0 x0 ⊢;go_wp2_with fail;refine (Zf W0.heap.size b _ _ _ B0.out (by first | omega | (simp;omega)) (by first | decide | (simp [ByteArray.size_append,Kj];omega)) z0).mono ?_;rintro e w2 ⟨rfl,g1,g2,g3⟩;have B2:=Zh g1;have L2:=Zh (L0.out.trans g2);have K2:=Zh (K0.out.trans g3);have X2:=Zh (qYE X0.out g3 hgb)
   have z2:W0.heap.size<=w2.heap.size:=by
    have:=g2.size;omega
   clear g1 g2 g3 B0 L0 K0 X0 x0 x1 x2 x3 x4 x5 x6;obtain ⟨x0,x1,x2,x3,x4,x5,x6⟩:=Yb X2.out;go_wp2_with fail;go_end0;exact ⟨rfl,by have h:=B2.out;first | exact h | (simp [Opk.text,Jz] at h ⊢;exact h),L2.out,K2.out⟩
  | eq=>
   simp only [Jj,Bool.and_eq_true,decide_eq_true_eq,V.mayB] at h1;have hsz:=Zz h1.1;rw [Qx] at hsz;have hwl:=qQb _ h1.2.1 hft.1;have HV:=Zh (fun W (hb:Below W0.heap.size W0 W)=>vQi (x:=num) (n:=n) (s:=vs) (jJD h1.2.1) hft.1.1 hft.1.2 h1.2.1 W (HT.out W hb));rw [show Opk.eq.text=⟨#[101,113]⟩ from rfl] at X0 x0 ⊢;go_wp2_with fail;refine (HV.out _ (HW.out.trans L0.out)).mono ?_;rintro e w1 ⟨rfl,g2⟩;have B1:=Zh (B0.out.grow g2);have L1:=Zh (L0.out.trans (g2.mono z0));have K1:=Zh (K0.out.trans (Kept.below g2));have X1:=Zh ((g2.block _ x6).trans X0.out);have z1:W0.heap.size<=w1.heap.size:=Nat.le_trans z0 g2.size;clear g2 B0 L0 K0 X0 x0 x1 x2 x3 x4 x5 x6;obtain ⟨x0,x1,x2,x3,x4,x5,x6⟩:=Yb X1.out;go_wp2_with fail;refine (Zf W0.heap.size b _ _ _ B1.out (by first | omega | (simp;omega)) (by first | decide | (simp [ByteArray.size_append,Kj];omega)) z1).mono ?_;rintro e w2 ⟨rfl,g1,g2,g3⟩;have B2:=Zh g1;have L2:=Zh (L1.out.trans g2);have K2:=Zh (K1.out.trans g3);have X2:=Zh (qYE X1.out g3 hgb)
   have z2:W0.heap.size<=w2.heap.size:=by
    have:=g2.size;omega
   clear g1 g2 g3 B1 L1 K1 X1 x0 x1 x2 x3 x4 x5 x6;obtain ⟨x0,x1,x2,x3,x4,x5,x6⟩:=Yb X2.out;go_wp2_with fail;go_end0;exact ⟨rfl,by have h:=B2.out;first | exact h | (simp [Opk.text,Jz] at h ⊢;exact h),L2.out,K2.out⟩
  | lt=>
   simp only [Jj,Bool.and_eq_true,decide_eq_true_eq,V.mayB] at h1;have hsz:=Zz h1.1;rw [Qx] at hsz;have hwl:=qQb _ h1.2.1 hft.1;have HV:=Zh (fun W (hb:Below W0.heap.size W0 W)=>vQi (x:=num) (n:=n) (s:=vs) (jJD h1.2.1) hft.1.1 hft.1.2 h1.2.1 W (HT.out W hb));rw [show Opk.lt.text=⟨#[108,116]⟩ from rfl] at X0 x0 ⊢;go_wp2_with fail;refine (HV.out _ (HW.out.trans L0.out)).mono ?_;rintro e w1 ⟨rfl,g2⟩;have B1:=Zh (B0.out.grow g2);have L1:=Zh (L0.out.trans (g2.mono z0));have K1:=Zh (K0.out.trans (Kept.below g2));have X1:=Zh ((g2.block _ x6).trans X0.out);have z1:W0.heap.size<=w1.heap.size:=Nat.le_trans z0 g2.size;clear g2 B0 L0 K0 X0 x0 x1 x2 x3 x4 x5 x6;obtain ⟨x0,x1,x2,x3,x4,x5,x6⟩:=Yb X1.out;go_wp2_with fail;refine (Zf W0.heap.size b _ _ _ B1.out (by first | omega | (simp;omega)) (by first | decide | (simp [ByteArray.size_append,Kj];omega)) z1).mono ?_;rintro e w2 ⟨rfl,g1,g2,g3⟩;have B2:=Zh g1;have L2:=Zh (L1.out.trans g2);have K2:=Zh (K1.out.trans g3);have X2:=Zh (qYE X1.out g3 hgb)
   have z2:W0.heap.size<=w2.heap.size:=by
    have:=g2.size;omega
   clear g1 g2 g3 B1 L1 K1 X1 x0 x1 x2 x3 x4 x5 x6;obtain ⟨x0,x1,x2,x3,x4,x5,x6⟩:=Yb X2.out;go_wp2_with fail;go_end0;exact ⟨rfl,by have h:=B2.out;first | exact h | (simp [Opk.text,Jz] at h ⊢;exact h),L2.out,K2.out⟩
  | not=>
   simp only [Jj,Bool.and_eq_true,decide_eq_true_eq] at h1;obtain ⟨y,rfl⟩:=List.length_eq_one_iff.1 h1.2.2;have hy:Kg y.pr d=true:=by simpa [jQL,PB.prs] using h2
   have fy:Zb y.pr:=by
    have:=hft.2;rw [PB.prs,jQc] at this;exact this.1
   have hyl:=jQd d _ hy fy;have HI:=Zh (HIH.out y hy fy (HC.out _ (by simp)));obtain ⟨y0,y1,y2,y3,y4,y5,y6,y7⟩:=y;unfold PB.agg at HI;simp only [PB.op,PB.s,PB.num,PB.n,PB.vs,PB.a,PB.c,PB.l] at HI;rw [show Opk.not.text=⟨#[110,111,116]⟩ from rfl] at X0 x0 ⊢;go_wp2_with fail;refine (Zf W0.heap.size b _ _ _ B0.out (by first | omega | (simp;omega)) (by first | decide | (simp [ByteArray.size_append,Kj];omega)) z0).mono ?_;rintro e w2 ⟨rfl,g1,g2,g3⟩;have B2:=Zh g1;have L2:=Zh (L0.out.trans g2);have K2:=Zh (K0.out.trans g3);have X2:=Zh (qYE X0.out g3 hgb)
   have z2:W0.heap.size<=w2.heap.size:=by
    have:=g2.size;omega
   clear g1 g2 g3 B0 L0 K0 X0 x0 x1 x2 x3 x4 x5 x6;obtain ⟨x0,x1,x2,x3,x4,x5,x6⟩:=Yb X2.out;have RR:=HR.out.grow (HW.out.trans L2.out);obtain ⟨rb,ro,rfl,-⟩:=RR.head (i:=0) (by simp);obtain ⟨rz,rc⟩:=RR.at (i:=0) (by simp);have r0:=rc 0 (by omega);have r1:=rc 1 (by omega);have r2:=rc 2 (by omega);have r3:=rc 3 (by omega);have r4:=rc 4 (by omega);have r5:=rc 5 (by omega);simp [PB.cells,PB.op,PB.s,PB.num,PB.n,PB.vs,PB.a,PB.c,PB.l] at r0 r1 r2 r3 r4 r5;clear rc RR;go_wp2_with fail;refine (HI.out _ _ B2.out (by first | omega | (simp;omega)) (HW.out.trans L2.out) HT.out).mono ?_;rintro e w3 ⟨rfl,g1,g2,g3⟩;have B3:=Zh g1;have L3:=Zh (L2.out.trans g2);have K3:=Zh (K2.out.trans g3);have X3:=Zh (qYE X2.out g3 hgb)
   have z3:W0.heap.size<=w3.heap.size:=by
    have:=g2.size;omega
   clear r0 r1 r2 r3 r4 r5 rz g1 g2 g3 B2 L2 K2 X2 x0 x1 x2 x3 x4 x5 x6;obtain ⟨x0,x1,x2,x3,x4,x5,x6⟩:=Yb X3.out;go_wp2_with fail;refine (Zf W0.heap.size b _ _ _ B3.out (by first | omega | (simp;omega)) (by first | decide | (simp [ByteArray.size_append,Kj];omega)) z3).mono ?_;rintro e w4 ⟨rfl,g1,g2,g3⟩;have B4:=Zh g1;have L4:=Zh (L3.out.trans g2);have K4:=Zh (K3.out.trans g3);have X4:=Zh (qYE X3.out g3 hgb)
   have z4:W0.heap.size<=w4.heap.size:=by
    have:=g2.size;omega
   clear g1 g2 g3 B3 L3 K3 X3 x0 x1 x2 x3 x4 x5 x6;obtain ⟨x0,x1,x2,x3,x4,x5,x6⟩:=Yb X4.out;go_wp2_with fail;go_end0;exact ⟨rfl,by have h:=B4.out;first | exact h | (simp [Opk.text,Jz] at h ⊢;exact h),L4.out,K4.out⟩
  | and=>
   simp only [Jj,Bool.and_eq_true,decide_eq_true_eq] at h1
   obtain ⟨y,z,rfl⟩:∃ y z,ps=[y,z]:=by
    match ps,h1.2.2 with
    | [y,z],_=>exact ⟨y,z,rfl⟩
   simp only [PB.prs,jQL,Bool.and_eq_true,and_true] at h2;have fyz:=hft.2;simp only [PB.prs,jQc,and_true] at fyz;have hyl:=jQd d _ h2.1 fyz.1;have hzl:=jQd d _ h2.2 fyz.2;have HI:=Zh (HIH.out y h2.1 fyz.1 (HC.out _ (by simp)));have HJ:=Zh (HIH.out z h2.2 fyz.2 (HC.out _ (by simp)));obtain ⟨y0,y1,y2,y3,y4,y5,y6,y7⟩:=y;obtain ⟨v0,v1,v2,v3,v4,v5,v6,v7⟩:=z;unfold PB.agg at HI HJ;simp only [PB.op,PB.s,PB.num,PB.n,PB.vs,PB.a,PB.c,PB.l] at HI HJ;rw [show Opk.and.text=⟨#[97,110,100]⟩ from rfl] at X0 x0 ⊢;go_wp2_with fail;refine (Zf W0.heap.size b _ _ _ B0.out (by first | omega | (simp;omega)) (by first | decide | (simp [ByteArray.size_append,Kj];omega)) z0).mono ?_;rintro e w2 ⟨rfl,g1,g2,g3⟩;have B2:=Zh g1;have L2:=Zh (L0.out.trans g2);have K2:=Zh (K0.out.trans g3);have X2:=Zh (qYE X0.out g3 hgb)
   have z2:W0.heap.size<=w2.heap.size:=by
    have:=g2.size;omega
   clear g1 g2 g3 B0 L0 K0 X0 x0 x1 x2 x3 x4 x5 x6;obtain ⟨x0,x1,x2,x3,x4,x5,x6⟩:=Yb X2.out;have RR:=HR.out.grow (HW.out.trans L2.out);obtain ⟨rb,ro,rfl,-⟩:=RR.head (i:=0) (by simp);obtain ⟨rz,rc⟩:=RR.at (i:=0) (by simp);have r0:=rc 0 (by omega);have r1:=rc 1 (by omega);have r2:=rc 2 (by omega);have r3:=rc 3 (by omega);have r4:=rc 4 (by omega);have r5:=rc 5 (by omega);simp [PB.cells,PB.op,PB.s,PB.num,PB.n,PB.vs,PB.a,PB.c,PB.l] at r0 r1 r2 r3 r4 r5;clear rc RR;go_wp2_with fail;refine (HI.out _ _ B2.out (by first | omega | (simp;omega)) (HW.out.trans L2.out) HT.out).mono ?_;rintro e w3 ⟨rfl,g1,g2,g3⟩;have B3:=Zh g1;have L3:=Zh (L2.out.trans g2);have K3:=Zh (K2.out.trans g3);have X3:=Zh (qYE X2.out g3 hgb)
   have z3:W0.heap.size<=w3.heap.size:=by
    have:=g2.size;omega
   clear r0 r1 r2 r3 r4 r5 rz g1 g2 g3 B2 L2 K2 X2 x0 x1 x2 x3 x4 x5 x6;obtain ⟨x0,x1,x2,x3,x4,x5,x6⟩:=Yb X3.out;go_wp2_with fail;refine (Zf W0.heap.size b _ _ _ B3.out (by first | omega | (simp;omega)) (by first | decide | (simp [ByteArray.size_append,Kj];omega)) z3).mono ?_;rintro e w4 ⟨rfl,g1,g2,g3⟩;have B4:=Zh g1;have L4:=Zh (L3.out.trans g2);have K4:=Zh (K3.out.trans g3);have X4:=Zh (qYE X3.out g3 hgb)
   have z4:W0.heap.size<=w4.heap.size:=by
    have:=g2.size;omega
   clear g1 g2 g3 B3 L3 K3 X3 x0 x1 x2 x3 x4 x5 x6;obtain ⟨x0,x1,x2,x3,x4,x5,x6⟩:=Yb X4.out;have RR:=HR.out.grow (HW.out.trans L4.out);obtain ⟨rz,rc⟩:=RR.at (i:=1) (by simp);have r0:=rc 0 (by omega);have r1:=rc 1 (by omega);have r2:=rc 2 (by omega);have r3:=rc 3 (by omega);have r4:=rc 4 (by omega);have r5:=rc 5 (by omega);simp [PB.cells,PB.op,PB.s,PB.num,PB.n,PB.vs,PB.a,PB.c,PB.l] at r0 r1 r2 r3 r4 r5;clear rc RR;go_wp2_with fail;refine (HJ.out _ _ B4.out (by first | omega | (simp;omega)) (HW.out.trans L4.out) HT.out).mono ?_;rintro e w5 ⟨rfl,g1,g2,g3⟩;have B5:=Zh g1;have L5:=Zh (L4.out.trans g2);have K5:=Zh (K4.out.trans g3);have X5:=Zh (qYE X4.out g3 hgb)
   have z5:W0.heap.size<=w5.heap.size:=by
    have:=g2.size;omega
   clear r0 r1 r2 r3 r4 r5 rz g1 g2 g3 B4 L4 K4 X4 x0 x1 x2 x3 x4 x5 x6;obtain ⟨x0,x1,x2,x3,x4,x5,x6⟩:=Yb X5.out;go_wp2_with fail;refine (Zf W0.heap.size b _ _ _ B5.out (by first | omega | (simp;omega)) (by first | decide | (simp [ByteArray.size_append,Kj];omega)) z5).mono ?_;rintro e w6 ⟨rfl,g1,g2,g3⟩;have B6:=Zh g1;have L6:=Zh (L5.out.trans g2);have K6:=Zh (K5.out.trans g3);have X6:=Zh (qYE X5.out g3 hgb)
   have z6:W0.heap.size<=w6.heap.size:=by
    have:=g2.size;omega
   clear g1 g2 g3 B5 L5 K5 X5 x0 x1 x2 x3 x4 x5 x6;obtain ⟨x0,x1,x2,x3,x4,x5,x6⟩:=Yb X6.out;go_wp2_with fail;go_end0;exact ⟨rfl,by have h:=B6.out;first | exact h | (simp [Opk.text,Jz] at h ⊢;exact h),L6.out,K6.out⟩
  | or=>
   simp only [Jj,Bool.and_eq_true,decide_eq_true_eq] at h1
   obtain ⟨y,z,rfl⟩:∃ y z,ps=[y,z]:=by
    match ps,h1.2.2 with
    | [y,z],_=>exact ⟨y,z,rfl⟩
   simp only [PB.prs,jQL,Bool.and_eq_true,and_true] at h2;have fyz:=hft.2;simp only [PB.prs,jQc,and_true] at fyz;have hyl:=jQd d _ h2.1 fyz.1;have hzl:=jQd d _ h2.2 fyz.2;have HI:=Zh (HIH.out y h2.1 fyz.1 (HC.out _ (by simp)));have HJ:=Zh (HIH.out z h2.2 fyz.2 (HC.out _ (by simp)));obtain ⟨y0,y1,y2,y3,y4,y5,y6,y7⟩:=y;obtain ⟨v0,v1,v2,v3,v4,v5,v6,v7⟩:=z;unfold PB.agg at HI HJ;simp only [PB.op,PB.s,PB.num,PB.n,PB.vs,PB.a,PB.c,PB.l] at HI HJ;rw [show Opk.or.text=⟨#[111,114]⟩ from rfl] at X0 x0 ⊢;go_wp2_with fail;refine (Zf W0.heap.size b _ _ _ B0.out (by first | omega | (simp;omega)) (by first | decide | (simp [ByteArray.size_append,Kj];omega)) z0).mono ?_;rintro e w2 ⟨rfl,g1,g2,g3⟩;have B2:=Zh g1;have L2:=Zh (L0.out.trans g2);have K2:=Zh (K0.out.trans g3);have X2:=Zh (qYE X0.out g3 hgb)
   have z2:W0.heap.size<=w2.heap.size:=by
    have:=g2.size;omega
   clear g1 g2 g3 B0 L0 K0 X0 x0 x1 x2 x3 x4 x5 x6;obtain ⟨x0,x1,x2,x3,x4,x5,x6⟩:=Yb X2.out;have RR:=HR.out.grow (HW.out.trans L2.out);obtain ⟨rb,ro,rfl,-⟩:=RR.head (i:=0) (by simp);obtain ⟨rz,rc⟩:=RR.at (i:=0) (by simp);have r0:=rc 0 (by omega);have r1:=rc 1 (by omega);have r2:=rc 2 (by omega);have r3:=rc 3 (by omega);have r4:=rc 4 (by omega);have r5:=rc 5 (by omega);simp [PB.cells,PB.op,PB.s,PB.num,PB.n,PB.vs,PB.a,PB.c,PB.l] at r0 r1 r2 r3 r4 r5;clear rc RR;go_wp2_with fail;refine (HI.out _ _ B2.out (by first | omega | (simp;omega)) (HW.out.trans L2.out) HT.out).mono ?_;rintro e w3 ⟨rfl,g1,g2,g3⟩;have B3:=Zh g1;have L3:=Zh (L2.out.trans g2);have K3:=Zh (K2.out.trans g3);have X3:=Zh (qYE X2.out g3 hgb)
   have z3:W0.heap.size<=w3.heap.size:=by
    have:=g2.size;omega
   clear r0 r1 r2 r3 r4 r5 rz g1 g2 g3 B2 L2 K2 X2 x0 x1 x2 x3 x4 x5 x6;obtain ⟨x0,x1,x2,x3,x4,x5,x6⟩:=Yb X3.out;go_wp2_with fail;refine (Zf W0.heap.size b _ _ _ B3.out (by first | omega | (simp;omega)) (by first | decide | (simp [ByteArray.size_append,Kj];omega)) z3).mono ?_;rintro e w4 ⟨rfl,g1,g2,g3⟩;have B4:=Zh g1;have L4:=Zh (L3.out.trans g2);have K4:=Zh (K3.out.trans g3);have X4:=Zh (qYE X3.out g3 hgb)
   have z4:W0.heap.size<=w4.heap.size:=by
    have:=g2.size;omega
   clear g1 g2 g3 B3 L3 K3 X3 x0 x1 x2 x3 x4 x5 x6;obtain ⟨x0,x1,x2,x3,x4,x5,x6⟩:=Yb X4.out;have RR:=HR.out.grow (HW.out.trans L4.out);obtain ⟨rz,rc⟩:=RR.at (i:=1) (by simp);have r0:=rc 0 (by omega);have r1:=rc 1 (by omega);have r2:=rc 2 (by omega);have r3:=rc 3 (by omega);have r4:=rc 4 (by omega);have r5:=rc 5 (by omega);simp [PB.cells,PB.op,PB.s,PB.num,PB.n,PB.vs,PB.a,PB.c,PB.l] at r0 r1 r2 r3 r4 r5;clear rc RR;go_wp2_with fail;refine (HJ.out _ _ B4.out (by first | omega | (simp;omega)) (HW.out.trans L4.out) HT.out).mono ?_;rintro e w5 ⟨rfl,g1,g2,g3⟩;have B5:=Zh g1;have L5:=Zh (L4.out.trans g2);have K5:=Zh (K4.out.trans g3);have X5:=Zh (qYE X4.out g3 hgb)
   have z5:W0.heap.size<=w5.heap.size:=by
    have:=g2.size;omega
   clear r0 r1 r2 r3 r4 r5 rz g1 g2 g3 B4 L4 K4 X4 x0 x1 x2 x3 x4 x5 x6;obtain ⟨x0,x1,x2,x3,x4,x5,x6⟩:=Yb X5.out;go_wp2_with fail;refine (Zf W0.heap.size b _ _ _ B5.out (by first | omega | (simp;omega)) (by first | decide | (simp [ByteArray.size_append,Kj];omega)) z5).mono ?_;rintro e w6 ⟨rfl,g1,g2,g3⟩;have B6:=Zh g1;have L6:=Zh (L5.out.trans g2);have K6:=Zh (K5.out.trans g3);have X6:=Zh (qYE X5.out g3 hgb)
   have z6:W0.heap.size<=w6.heap.size:=by
    have:=g2.size;omega
   clear g1 g2 g3 B5 L5 K5 X5 x0 x1 x2 x3 x4 x5 x6;obtain ⟨x0,x1,x2,x3,x4,x5,x6⟩:=Yb X6.out;go_wp2_with fail;go_end0;exact ⟨rfl,by have h:=B6.out;first | exact h | (simp [Opk.text,Jz] at h ⊢;exact h),L6.out,K6.out⟩
theorem jY3 (x:PB) (w:World) (hM:MaxW w) (hP:PMem w x) (hf:Zb x.pr) (hT:Tab w) :
  Calls Tryz.prog 202 #[x.agg] w fun e w'=>e=.returned (.tuple #[.string (if mayP x.pr=true then ⟨(Yk x.pr).toArray⟩ else ⟨#[]⟩),.int .i64 (if mayP x.pr=true then 0 else 1)])/\Below w.heap.size w w':=by
 have HMY:=Zh (fun W (hb:Below w.heap.size w W)=>qJE x W (hM.grow hb) (hP.grow hb));have HWR:=Zh (fun (hm:mayP x.pr=true) W0 (hb:Below w.heap.size w W0) X hX (hbX:Below W0.heap.size W0 X)=>vJt W0 W0.heap.size 8 x (by rw [qQi,Bool.and_eq_true] at hm;exact hm.1) hf (hP.grow hb) [] X hX (by decide) hbX (fun v hv=>hT.grow (Qk hv hb)));obtain ⟨m,hm⟩:∃ m,mayP x.pr=m:=⟨_,rfl⟩;rw [hm] at HMY HWR;obtain ⟨tx,htx⟩:∃ tx,Yk x.pr=tx:=⟨_,rfl⟩
 have htl:m=true->tx.length<=76500:=fun e=>by
  rw [<- htx];rw [e,qQi,Bool.and_eq_true] at hm;exact jQd 8 _ hm.1 hf
 rw [htx] at HWR;rw [hm,htx];have HTL:=Zh htl;clear hm htx htl hM hP hf hT;obtain ⟨op,s,num,n,vs,a,c,l⟩:=x;unfold PB.agg at HMY HWR ⊢;simp only [PB.op,PB.s,PB.num,PB.n,PB.vs,PB.a,PB.c,PB.l] at HMY HWR ⊢;go_enter Tryz.func202,Tryz.ntmps202;go_upto_region 1 with fail
 refine Qg (fun v=>Hid (PBox v w.heap.size op s num n vs (.slice a l.length c))/\Hid (Below w.heap.size w v)) ⟨(PBox.new w op s num n vs (.slice a l.length c) 123),Qj _ (.refl _ _)⟩ ?_;rintro Y ⟨HX,HB⟩;obtain ⟨B,hB⟩:∃ B,w.heap.size=B:=⟨_,rfl⟩;rw [hB] at HX ⊢;obtain ⟨x0,x1,x2,x3,x4,x5,x6⟩:=HX.out;cases m with
 | false=>
  go_wp2_with fail;refine (HMY.out _ HB.out).mono ?_;rintro e w2 ⟨rfl,hb2⟩;have HB2:=Zh (Qk hb2 HB.out);clear hb2;go_wp2_with fail;go_ret2;exact ⟨by simp,by rw [<- hB];exact HB2.out⟩
 | true=>
  go_wp2_with fail;refine (HMY.out _ HB.out).mono ?_;rintro e w2 ⟨rfl,hb2⟩;have HB2:=Zh (Qk hb2 HB.out);have HX2:=Zh (HX.out.grow hb2);have HBd:=Zh (Lib.fresh_isBuilder 79 5 w2);have HX3:=Zh (HX2.out.grow (Qj (.cells #[.pointer none,.slice none 0 0] 79) (.refl _ w2)));have HL:=Zh (Qj (.cells #[.pointer none,.slice none 0 0] 79) (Below.refl w2.heap.size w2));clear hb2 x0 x1 x2 x3 x4 x5 x6 HX HB;go_upto_region 4 with fail
  have HBX:Hid (Bld (w2.alloc (.cells #[.pointer none,.slice none 0 0] 79)) w2.heap.size w2.heap.size []):=HBd.out;revert HBX HX3 HL;generalize w2.alloc (.cells #[.pointer none,.slice none 0 0] 79)=X;intro HX3 HL HBX;obtain ⟨x0,x1,x2,x3,x4,x5,x6⟩:=HX3.out;have HTL:=Zh (HTL.out trivial);clear HBd HX2;go_wp2_with fail;refine (HWR.out trivial w2 HB2.out X HBX.out HL.out).mono ?_;rintro e w3 ⟨rfl,g1,g2,g3⟩;have G1:=Zh g1;have G2:=Zh (HL.out.trans g2);clear g1 g2 g3 x0 x1 x2 x3 x4 x5 x6 HX3 HL HBX;have hz3:w2.heap.size<=w3.heap.size:=G2.out.size;go_wp2_with fail;refine (Tryz.Builder_String_any w2.heap.size w2.heap.size _ w3 G1.out hz3).mono ?_;rintro e w4 ⟨rfl,hb4⟩;have G4:=Zh (G2.out.trans hb4);clear hb4;go_wp2_with fail;go_ret2;exact ⟨by simp,by rw [<- hB];exact Qk G4.out HB2.out⟩
