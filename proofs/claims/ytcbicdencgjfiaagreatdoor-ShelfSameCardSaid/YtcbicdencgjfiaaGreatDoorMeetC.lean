import Derived.Test.YtcbicdencgjfiaaGreatDoorEyeA
import Derived.Test.YtcbicdencgjfiaaGreatDoorFewD14
import Derived.Test.YtcbicdencgjfiaaGreatDoorOutC
set_option linter.all false
set_option maxHeartbeats 4000000
set_option maxRecDepth 20000
namespace Tryst
open Go Go.RowKit
structure KpB where
 part:Int
 id:Nat
 time:Int
def KpB.cells (x:KpB):List Value:=[.int .i64 x.part,.int .u64 x.id,.int .i64 x.time]
def KpB.val (x:KpB):Value:=.agg #[.int .i64 x.part,.int .u64 x.id,.int .i64 x.time]
def xQw (parts:Int) (x:KpB):Bool:=decide (0<=x.part)&&(decide (x.part < parts)&&(decide (0<=x.time)&&decide (x.time<=1099511627775)))
structure KpAt (w:World) (b o:Nat) (t:KpB):Prop where
 c0:w.cell? ⟨b,o,none⟩=some (.int .i64 t.part)
 c1:w.cell? ⟨b,o+1,none⟩=some (.int .u64 t.id)
 c2:w.cell? ⟨b,o+2,none⟩=some (.int .i64 t.time)
abbrev Xg (w:World) (a:Option Addr) (l:List KpB):Prop:=Row w a 3 (l.map KpB.cells)
theorem Xg.at {w:World} {b o:Nat} {l:List KpB} (h:Xg w (some ⟨b,o,none⟩) l) {i:Nat} (hi:i < l.length):b < w.heap.size/\KpAt w b (o+i*3) l[i]:=by
 obtain ⟨h1,h2⟩:=Row.at h (i:=i) (by simpa using hi);simp only [List.getElem_map] at h2;exact ⟨h1,h2 0 (by omega),h2 1 (by omega),h2 2 (by omega)⟩
theorem Xg.hd {w:World} {a:Option Addr} {l:List KpB} (h:Xg w a l) {i:Nat} (hi:i < l.length):∃ b o,a=some ⟨b,o,none⟩/\b < w.heap.size:=Row.head h (by simpa using hi)
def vQ5 (l:List KpB) (t:Int):Bool:=match l.getLast? with | some x=>decide (t < x.time) | none=>false
end Tryst
namespace Go.Proofs.YtcbicdencgjfiaaGreatDoor
open Go.RowKit Tryst
theorem xJp (n:Int) (w:World):Calls Tryz.prog 252 #[.int .i64 n] w fun e w'=>e=.returned (.bool (decide (0<=n)&&decide (n<=1099511627775)))/\w'=w:=by
 by_cases h1:0<=n
 · go_enter Tryz.func252,Tryz.ntmps252;go_wp2_with fail;go_ret;exact ⟨Qq (by rw [decide_eq_true h1,Bool.true_and]),rfl⟩
 · go_enter Tryz.func252,Tryz.ntmps252;go_wp2_with fail;go_ret;exact ⟨Qq (by rw [decide_eq_false (show ¬ 0<=n by omega),Bool.false_and]),rfl⟩
theorem jYZ (j:JB) (x:KpB) (w:World):Calls Tryz.prog 240 #[.agg #[.string j.kind,.int .i64 j.parts,.int .i64 j.need,.int .i64 j.window],x.val] w fun e w'=>e=.returned (.bool (xQw j.parts x))/\Below w.heap.size w w':=by
 have HB0:=Zh (Qj (.cells #[.int .i64 x.part,.int .u64 x.id,.int .i64 x.time] 155) (Qj (.cells #[.string j.kind,.int .i64 j.parts,.int .i64 j.need,.int .i64 j.window] 43) (.refl w.heap.size w)));have CA:=Zh (fun W=>xJp x.time W);obtain ⟨kd,ps,nd,wd⟩:=j;obtain ⟨pt,id,tm⟩:=x;unfold KpB.val xQw;simp only at HB0 CA ⊢
 by_cases h1:0<=pt
 case neg=>
  rw [decide_eq_false h1];go_enter Tryz.func240,Tryz.ntmps240;go_wp2_with fail;go_ret;exact ⟨rfl,HB0.out⟩
 rw [decide_eq_true h1,Bool.true_and]
 by_cases h2:pt < ps
 case neg=>
  rw [decide_eq_false h2];go_enter Tryz.func240,Tryz.ntmps240;go_wp2_with fail;go_ret;exact ⟨rfl,HB0.out⟩
 rw [decide_eq_true h2,Bool.true_and];generalize (decide (0<=tm)&&decide (tm<=1099511627775))=b at CA ⊢;go_enter Tryz.func240,Tryz.ntmps240;go_wp2_with fail;refine (CA.out _).mono ?_;rintro e w3 ⟨rfl,rfl⟩;clear CA;go_wp2_with fail;go_ret;exact ⟨rfl,HB0.out⟩
theorem jY0 (a:Option Addr) (c:Nat) (l:List KpB) (t:Int) (hl:l.length<=1500000) (w:World) (hR:Xg w a l):Calls Tryz.prog 241 #[.slice a l.length c,.int .i64 t] w fun e w'=>e=.returned (.bool (vQ5 l t))/\w'=w:=by
 by_cases h0:l.length=0
 · have:l=[]:=List.eq_nil_of_length_eq_zero h0;subst this;go_enter Tryz.func241,Tryz.ntmps241;go_wp2_with fail;go_ret;exact ⟨rfl,rfl⟩
 ·
  have hm:l.length - 1 < l.length:=by omega
  have HE:Hid (vQ5 l t=decide (t < l[l.length - 1].time)):=Zh (by
   unfold vQ5;rw [List.getLast?_eq_getElem?,List.getElem?_eq_getElem hm])
  obtain ⟨b,o,ha,hb⟩:=Xg.hd hR hm;subst ha;obtain ⟨_,f0,f1,f2⟩:=Xg.at hR hm;obtain ⟨m,hmm⟩:∃ m,l.length - 1=m:=⟨_,rfl⟩;have y1:(0:Int) < (l.length:Int):=by omega
  have y6:0 < l.length:=by omega
  have y2:IntKind.i64.wrap ((l.length:Int) - 1)=(m:Int):=by rw [IntWalk.i64_in _ (by omega)];omega
  have y4:(m:Int) < (l.length:Int):=by omega
  have y5:(0:Int)<=(m:Int):=by omega
  rw [HE.out];clear HE;generalize l[l.length - 1].time=tt at f2 ⊢;rw [hmm] at f2;clear hmm hm h0 f0 f1 hR;go_enter Tryz.func241,Tryz.ntmps241;go_wp2_with fail;go_ret;exact ⟨rfl,rfl⟩
end Go.Proofs.YtcbicdencgjfiaaGreatDoor
namespace Tryst
open Go Go.RowKit
structure KpR (w:World) (a:Option Addr) (l:List KpB):Prop where
 r:Xg w a l
theorem KpR.head {w:World} {a:Option Addr} {l:List KpB} (h:KpR w a l) {i:Nat} (hi:i < l.length):∃ b o,a=some ⟨b,o,none⟩/\b < w.heap.size:=Xg.hd h.r hi
end Tryst
namespace Go.Proofs.YtcbicdencgjfiaaGreatDoor
open Go.RowKit Tryst
theorem zJo {α:Type} (p:α->Bool) (l:List α):decide (0<=idxG p l)=l.any p:=by
 unfold idxG;cases h:l.findIdx? p with
 | none=>
  rw [List.findIdx?_eq_none_iff] at h
  have:l.any p=false:=by
   rw [List.any_eq_false];intro x hx;rw [h x hx];simp
  rw [this];rfl
 | some i=>
  rw [List.findIdx?_eq_some_iff_getElem] at h;obtain ⟨hi,h1,_⟩:=h;have:l.any p=true:=List.any_eq_true.2 ⟨_,List.getElem_mem hi,h1⟩;rw [this];simp
theorem zJJ (t:KpB) (n:Nat) (A:Addr) (w:World) (hc:w.cell? A=some (.int .u64 n)) (hb:A.block < w.heap.size):Calls Tryz.prog 254 #[.agg #[.int .i64 t.part,.int .u64 t.id,.int .i64 t.time],.pointer (some A)] w fun e w'=>e=.returned (.bool ((t.id:Int)==(n:Int)))/\Below w.heap.size w w':=by
 obtain ⟨b,o,x⟩:=A;go_enter Tryz.func254,Tryz.ntmps254;go_wp2_with fail;go_ret;exact ⟨rfl,Qj _ (.refl _ _)⟩
theorem zJZ (n:Nat) (A:Addr) (a:Option Addr) (c:Nat) (l:List KpB) (hl:l.length<=1500000) (w:World) (hO:Xg w a l) (hA:w.cell? A=some (.int .u64 n)) (hAb:A.block < w.heap.size) :
  Calls Tryz.prog 264 #[.slice a l.length c,.func (.func 254) #[] #[.pointer (some A)]] w fun e w'=>e=.returned (.int .i64 (idxG (fun x:KpB=>(x.id:Int)==(n:Int)) l))/\Below w.heap.size w w':=by
 have HF:=Zh (fun W (hb:Below w.heap.size w W)=>KpR.mk (hO.grow hb));have HC:=Zh (fun (k:Nat) (hk:k < l.length) W (hb:Below w.heap.size w W)=>zJJ l[k] n A W ((hb.cell hAb).trans hA) (Nat.lt_of_lt_of_le hAb hb.size));clear hO hA;go_enter Tryz.func264,Tryz.ntmps264;go_wp2_with fail;go_loopw [8] (fun i wr=>qJu (fun x:KpB=>(x.id:Int)==(n:Int)) l w i wr) (fun i _=>l.length - (intOf i).toNat)
 case atStart=>exact ⟨0,by omega,rfl,fun _ _ h=>by omega,.refl _ _,by omega⟩
 case round=>
  obtain ⟨k,hk,rfl,HR,HW,hz⟩:=hrel;obtain ⟨wo,rfl⟩:∃ wo,wo=wr:=⟨_,rfl⟩
  by_cases hlt:k < l.length
  ·
   obtain ⟨b,o,ha,hb⟩:=(HF.out wo HW.out).head hlt;subst ha;have HCC:=Zh (HC.out k hlt);obtain ⟨pp,hpp⟩:∃ pp,((l[k].id:Int)==(n:Int))=pp:=⟨_,rfl⟩;have HPP:=Zh hpp;clear hpp;obtain ⟨_,f0,f1,f2⟩:=(HF.out wo HW.out).r.at hlt;go_wp2_with fail;refine (HCC.out _ HW.out).mono ?_;rintro e w2 ⟨rfl,hb2⟩;have HB2:=Zh (Qk hb2 HW.out);clear hb2 HCC;rw [show ((l[k].id:Int)==(n:Int))=pp from HPP.out];cases pp with
   | true=>
    have HI:=Zh (jJO (p:=fun x:KpB=>(x.id:Int)==(n:Int)) hlt HR.out HPP.out);clear HR;go_wp2_with fail;go_ret;exact ⟨Qy HI.out.symm,HB2.out⟩
   | false=>
    have HI:=Zh (xQ6 (p:=fun x:KpB=>(x.id:Int)==(n:Int)) hlt HR.out HPP.out);clear HR;go_wp2_with fail;go_roundw
    case rel=>exact ⟨k+1,by omega,by go_num,HI.out,HB2.out,HB2.out.size⟩
    case measure=>simp [intOf]<;>omega
  · have HI:=Zh (kJ7 (p:=fun x:KpB=>(x.id:Int)==(n:Int)) (by omega:l.length<=k) HR.out);clear HR;go_wp2_with fail;go_ret;exact ⟨Qy HI.out.symm,HW.out⟩
theorem jJ3 (n:Nat) (A:Addr) (a:Option Addr) (c:Nat) (l:List KpB) (hl:l.length<=1500000) (w:World) (hO:Xg w a l) (hA:w.cell? A=some (.int .u64 n)) (hAb:A.block < w.heap.size) :
  Calls Tryz.prog 253 #[.slice a l.length c,.func (.func 254) #[] #[.pointer (some A)]] w fun e w'=>e=.returned (.bool (l.any (fun x:KpB=>(x.id:Int)==(n:Int))))/\Below w.heap.size w w':=by
 have CI:=Zh (zJZ n A a c l hl w hO hA hAb);rw [<- zJo (fun x:KpB=>(x.id:Int)==(n:Int)) l];clear hO hA hAb;generalize idxG (fun x:KpB=>(x.id:Int)==(n:Int)) l=R at CI ⊢;go_enter Tryz.func253,Tryz.ntmps253;go_wp2_with fail;refine CI.out.mono ?_;rintro e w1 ⟨rfl,hb1⟩;go_wp2_with fail;go_ret;exact ⟨rfl,hb1⟩
theorem xQo (a:Option Addr) (c:Nat) (l:List KpB) (n:Nat) (hl:l.length<=1500000) (w:World) (hO:Xg w a l) :
  Calls Tryz.prog 242 #[.slice a l.length c,.int .u64 n] w fun e w'=>e=.returned (.bool (l.any (fun x:KpB=>(x.id:Int)==(n:Int))))/\Below w.heap.size w w':=by
 have CI:=Zh (fun A W (hb:Below w.heap.size w W) h1 h2=>jJ3 n A a c l hl W (hO.grow hb) h1 h2);generalize l.any (fun x:KpB=>(x.id:Int)==(n:Int))=R at CI ⊢;clear hO;have HB0:=Zh (Qj (.cells #[.int .u64 n] 46) (.refl w.heap.size w));go_enter Tryz.func242,Tryz.ntmps242;go_wp2_with fail;refine (CI.out ⟨w.heap.size,0,none⟩ _ HB0.out (by simp [go_sem]) (by simp)).mono ?_;rintro e w1 ⟨rfl,hb1⟩;have HB1:=Zh (Qk hb1 HB0.out);clear hb1;go_wp2_with fail;go_ret;exact ⟨rfl,HB1.out⟩
end Go.Proofs.YtcbicdencgjfiaaGreatDoor
namespace Tryst
open Go Go.RowKit
def natC (i:Nat):List Value:=[.int .i64 (i:Int)]
def jQh (w:World) (ps:List Nat) (e:Ending) (w':World):Prop:=∃ a c,e=.returned (.slice a ps.length c)/\Row w' a 1 (ps.map natC)/\Below w.heap.size w w'
def Upt (w:World) (n g:Nat) (T:TypeId) (i:Value) (wr:World):Prop:=∃ (k:Nat) (cs:List Value),k<=n/\i=.int .i64 k/\Hid (Var wr g T cs)/\cs.length=n/\Hid (∀ j,j < k->cs[j]?=some (.int .i64 (j:Int)))/\Hid (Below w.heap.size w wr)/\g < wr.heap.size
end Tryst
namespace Go.Proofs.YtcbicdencgjfiaaGreatDoor
open Go.RowKit Tryst
theorem infoI:(Tryz.prog.info? 3).map (fun i=>(i.zero,i.size,i.bytes))=some (some (.int .i64 0),1,8):=by kernel_rfl
theorem makeI (n:Nat) (hn:n<=1500000):∃ M:List Value,M.length=n/\∀ w:World,(Instr.makeSlice 308 (.int .i64 n) (.int .i64 n)).run Tryz.prog w=.ok (.slice (some ⟨w.heap.size,0,none⟩) n n) (w.alloc (.cells M.toArray 3)):=by
 obtain ⟨i,hi,hz,h2,h3⟩:=info_parts infoI;refine ⟨(madeCells (Value.int .i64 0).cells (n*1)).toList,by simp [size_madeCells],fun w=>?_⟩;have hr:=run_make (P:=Tryz.prog) w 308 3 i _ Tryz.underlying308 hi hz .i64 .i64 n n (by omega) (Int.le_refl _) (by rw [h3];omega) (by omega);rw [h2] at hr
 simpa using hr
theorem jJw (n m:Nat) (hn:n<=1500000) (hm:m<=1500000) (w:World):Calls Tryz.prog 257 #[.int .i64 n,.int .i64 m] w fun e w'=>jQh w (if n<=m then List.range n else []) e w':=by
 by_cases h:n<=m
 ·
  have h1:¬ ((m:Int) < n):=by omega
  have h2:(0:Int)<=n:=by omega
  rw [if_pos h];obtain ⟨M,hM,hmk⟩:=makeI n hn;have HV0:Hid (Var (w.alloc (.cells M.toArray 3)) w.heap.size 3 M):=Zh (by show (w.heap.push _)[_]?=_;simp);have HB0:=Zh (Qj (.cells M.toArray 3) (.refl w.heap.size w));go_enter Tryz.func257,Tryz.ntmps257;go_wp2_with (simp only [hmk]);go_loopw [14] (fun i wr=>Upt w n w.heap.size 3 i wr) (fun i _=>n - (intOf i).toNat)
  case atStart=>exact ⟨0,M,by omega,rfl,HV0,hM,Zh (fun j hj=>by omega),HB0,by simp⟩
  case round=>
   clear hmk HV0 HB0;obtain ⟨k,cs,hk,rfl,HV,hcs,HC,HW,hz⟩:=hrel;obtain ⟨wo,rfl⟩:∃ wo,wo=wr:=⟨_,rfl⟩
   by_cases hlt:k < n
   ·
    have x1:(k:Int) < n:=by omega
    have x2:(0:Int)<=k:=by omega
    have hf:=HV.out.fz k;have hc:wo.cell? ⟨w.heap.size,k,none⟩=some (cs[k]'(by omega)):=by rw [HV.out.cell k,List.getElem?_eq_getElem (by omega)]
    have hs:=HV.out.shape;rw [hcs] at hs;have HV2:=Zh (HV.out.set k (.int .i64 (k:Int)))
    have HC2:Hid (∀ j,j < k+1->(cs.set k (.int .i64 (k:Int)))[j]?=some (.int .i64 (j:Int))):=Zh (fun j hj=>by
     by_cases e:j=k
     · subst e;rw [List.getElem?_set_self (by omega)]
     · rw [List.getElem?_set_ne (by omega)];exact HC.out j (by omega))
    have HW2:=Zh (bset (.int .i64 (k:Int)) (p:=⟨w.heap.size,k,none⟩) (Nat.le_refl _) HW.out);have hcs2:(cs.set k (.int .i64 (k:Int))).length=n:=by rw [List.length_set];exact hcs
    clear HC HV HW;go_wp2_with fail;go_roundw
    case rel=>exact ⟨k+1,_,by omega,by go_num,HV2,hcs2,HC2,HW2,by simpa using hz⟩
    case measure=>simp [intOf]<;>omega
   ·
    have hkn:k=n:=by omega
    subst hkn
    have HR:Hid (Row wo (some ⟨w.heap.size,0,none⟩) 1 ((List.range k).map natC)):=Zh (fun i hi=>by
     simp only [List.length_map,List.length_range] at hi;refine ⟨w.heap.size,0,rfl,hz,fun j hj=>?_⟩;obtain rfl:j=0:=by omega
     simp only [List.getElem_map,List.getElem_range];rw [show 0+i*1+0=i by omega,HV.out.cell i,HC.out i hi];rfl)
    go_wp2_with fail;go_ret;exact ⟨some ⟨w.heap.size,0,none⟩,k,(by rw [List.length_range];rfl),HR.out,HW.out⟩
 ·
  have h1:(m:Int) < n:=by omega
  rw [if_neg h];go_enter Tryz.func257,Tryz.ntmps257;go_wp2_with fail;go_ret;exact ⟨none,0,rfl,Row.nil _ _ _,.refl _ _⟩
end Go.Proofs.YtcbicdencgjfiaaGreatDoor
namespace Go.Proofs.YtcbicdencgjfiaaGreatDoor
open Go.RowKit Tryst Go.Maps
structure MJ (w v:World) (j:JB) (s:Value):Prop where
 c0:v.cell? ⟨w.heap.size,0,none⟩=some (.string j.kind)
 c1:v.cell? ⟨w.heap.size,1,none⟩=some (.int .i64 j.parts)
 c2:v.cell? ⟨w.heap.size,2,none⟩=some (.int .i64 j.need)
 s0:v.cell? ⟨w.heap.size+1,0,none⟩=some s
 k:Below w.heap.size w v
 z:w.heap.size+1 < v.heap.size
theorem MJ.grow {w v v':World} {j:JB} {s:Value} (h:MJ w v j s) (hb:Below v.heap.size v v'):MJ w v' j s:=by
 obtain ⟨c0,c1,c2,s0,k,z⟩:=h;exact ⟨by rw [hb.cell (p:=⟨_,_,none⟩) (by show w.heap.size < _;omega)];exact c0,by rw [hb.cell (p:=⟨_,_,none⟩) (by show w.heap.size < _;omega)];exact c1,by rw [hb.cell (p:=⟨_,_,none⟩) (by show w.heap.size < _;omega)];exact c2,by rw [hb.cell (p:=⟨_,_,none⟩) z];exact s0,Qk hb k,Nat.lt_of_lt_of_le z hb.size⟩
theorem MJ.turn {w v v':World} {mb:Nat} {j:JB} {s:Value} (h:Hid (MJ w v j s)) (hg:v.grownBy v' (some mb)) (hn:w.heap.size+2<=mb):Hid (MJ w v' j s):=by
 obtain ⟨c0,c1,c2,s0,k,z⟩:=h.out;have hc:∀ g o,g<=w.heap.size+1->v'.cell? ⟨g,o,none⟩=v.cell? ⟨g,o,none⟩:=fun g o hle=>World.cell?_of_block (w:=v) (a:=⟨g,o,none⟩) (hg.block g (by omega) (by simp only [ne_eq,Option.some.injEq];omega))
 exact ⟨by rw [hc _ _ (by omega)];exact c0,by rw [hc _ _ (by omega)];exact c1,by rw [hc _ _ (by omega)];exact c2,by rw [hc _ _ (by omega)];exact s0,k.grown hg (by have:=k.size;omega) (fun j hj=>by cases hj;show w.heap.size<=mb;omega),Nat.lt_of_lt_of_le z hg.size⟩
theorem jQh.grow {w w1:World} (hb:Below w.heap.size w w1) {ps:List Nat} {e:Ending} {w':World} (h:jQh w1 ps e w'):jQh w ps e w':=by
 obtain ⟨a,c,h1,h2,h3⟩:=h;exact ⟨a,c,h1,h2,Qk h3 hb⟩
theorem vJD (b o:Nat) (a:Option Addr) (c n:Nat) (hn:n<=1500000) (w:World) (hc:w.cell? ⟨b,o,none⟩=some (.slice a n c)):Calls Tryz.prog 256 #[.pointer (some ⟨b,o,none⟩)] w fun e w'=>jQh w (if 1<=n then List.range 1 else []) e w':=by
 have HU:=Zh (jJw 1 n (by omega) hn w);generalize (if 1<=n then List.range 1 else [])=ps at HU ⊢;go_enter Tryz.func256,Tryz.ntmps256;go_wp2_with fail;refine HU.out.mono ?_;rintro e w1 ⟨a1,c1,rfl,h2,h3⟩;go_wp2_with fail;go_ret;exact ⟨a1,c1,rfl,h2,h3⟩
theorem vJA (b1 o1 b2 o2:Nat) (a:Option Addr) (c n nd:Nat) (hn:n<=1500000) (hd:nd<=1500000) (w:World) (hc:w.cell? ⟨b2,o2,none⟩=some (.slice a n c)) (hj:w.cell? ⟨b1,o1+2,none⟩=some (.int .i64 nd)):Calls Tryz.prog 258 #[.pointer (some ⟨b1,o1,none⟩),.pointer (some ⟨b2,o2,none⟩)] w fun e w'=>jQh w (if nd<=n then List.range nd else []) e w':=by
 have HU:=Zh (jJw nd n hd hn w);generalize (if nd<=n then List.range nd else [])=ps at HU ⊢;go_enter Tryz.func258,Tryz.ntmps258;go_wp2_with fail;refine HU.out.mono ?_;rintro e w1 ⟨a1,c1,rfl,h2,h3⟩;go_wp2_with fail;go_ret;exact ⟨a1,c1,rfl,h2,h3⟩
end Go.Proofs.YtcbicdencgjfiaaGreatDoor
namespace Tryst
open Go Go.RowKit
def newK (l:List KpB) (i:Nat):Bool:=match l[i]? with | some x=>!((l.take i).any (fun y=>decide (y.part=x.part))) | none=>false
def Jw (l:List KpB) (k:Nat):List Nat:=(List.range k).filter (newK l)
theorem kQv (l:List KpB) (k:Nat):Jw l (k+1)=Jw l k++(if newK l k=true then [k] else []):=by
 unfold Jw;rw [List.range_succ,List.filter_append]
 congr 1
 by_cases h:newK l k=true
 · rw [if_pos h];simp [h]
 · rw [if_neg h];simp [h]
theorem qJ8 (l:List KpB) (k:Nat):(Jw l k).length<=k:=by
 unfold Jw;have:=List.length_filter_le (newK l) (List.range k)
 rwa [List.length_range] at this
def metK (l:List KpB) (k:Nat) (p:Nat):Bool:=(l.take k).any (fun y=>decide (y.part=(p:Int)))
theorem xQ7 {l:List KpB} {k:Nat} (hk:k < l.length) (p:Nat):metK l (k+1) p=(metK l k p||decide (l[k].part=(p:Int))):=by
 unfold metK;rw [List.take_succ_eq_append_getElem hk,List.any_append];simp
theorem zJy {l:List KpB} {k:Nat} (hk:k < l.length) {p:Nat} (h:l[k].part=(p:Int)):newK l k=!(metK l k p):=by
 unfold newK metK;rw [List.getElem?_eq_getElem hk];simp only [h]
def qQw (j:JB) (l:List KpB):List Nat:=
 if j.kind=⟨#[97,108,108]⟩ then (if ((Jw l l.length).length:Int) < j.parts then [] else Jw l l.length)
 else if j.kind=⟨#[97,110,121]⟩ then (if 1<=l.length then List.range 1 else [])
 else if j.kind=⟨#[99,111,117,110,116]⟩ then (if j.need<=l.length then List.range j.need.toNat else [])
 else []
end Tryst
namespace Go.Proofs.YtcbicdencgjfiaaGreatDoor
open Go.RowKit Tryst
theorem intT:SliceOf Tryz.prog 308 3 1 8:=.mk' Tryz.underlying308 (z:=.int .i64 0) (by kernel_rfl) rfl (by decide) (by decide)
def M1R (w:World) (l:List KpB) (h:Nat) (s i:Value) (wr:World):Prop:=∃ k:Nat,k<=l.length/\i=.int .i64 k/\Hid (ROwn 3 1 wr (h+1) s ((Jw l k).map natC))/\Hid (∀ p,p < 6->wr.cell? ⟨h,p,none⟩=some (.bool (metK l k p)))/\Hid (∀ p,p < 6->wr.frozen? ⟨h,p,none⟩=false)/\Hid (Below w.heap.size w wr)/\h < wr.heap.size
theorem jJ8 (b1 o1 b2 o2:Nat) (a:Option Addr) (c:Nat) (l:List KpB) (ps:Int) (hl:l.length<=1500000) (hp:∀ x∈l,0<=x.part/\x.part < 6) (w:World) (hR:Xg w a l) (hc:w.cell? ⟨b1,o1,none⟩=some (.slice a l.length c)) (hj:w.cell? ⟨b2,o2+1,none⟩=some (.int .i64 ps)) (hb1:b1 < w.heap.size) (hb2:b2 < w.heap.size) :
  Calls Tryz.prog 255 #[.pointer (some ⟨b1,o1,none⟩),.pointer (some ⟨b2,o2,none⟩)] w fun e w'=>jQh w (if ((Jw l l.length).length:Int) < ps then [] else Jw l l.length) e w':=by
 have HF:=Zh (fun W (hb:Below w.heap.size w W)=>KpR.mk (hR.grow hb));obtain ⟨R,hRes⟩:∃ R,(if ((Jw l l.length).length:Int) < ps then [] else Jw l l.length)=R:=⟨_,rfl⟩;rw [hRes];have HRes:=Zh hRes;clear hRes;go_enter Tryz.func255,Tryz.ntmps255;have HB0:=Zh (Qj (.cells #[.bool false,.bool false,.bool false,.bool false,.bool false,.bool false] 320) (.refl w.heap.size w));go_wp2_with fail;go_loopw [4,9] (fun s i wr=>M1R w l w.heap.size s i wr) (fun _ i _=>l.length - (intOf i).toNat)
 case atStart=>
  refine ⟨0,by omega,rfl,Zh (ROwn.nil _ _ _ _),Zh (fun p hp=>?_),Zh (fun p hp=>by simp),HB0,by simp⟩;have:p=0∨p=1∨p=2∨p=3∨p=4∨p=5:=by omega
  rcases this with rfl | rfl | rfl | rfl | rfl | rfl<;>(rw [World.cell?_alloc_new];rfl)
 case round=>
  clear HB0;obtain ⟨k,hk,rfl,HO,HC,HZ,HW,hz⟩:=hrel;obtain ⟨wo,rfl⟩:∃ wo,wo=wr:=⟨_,rfl⟩;have HLN:Hid (((Jw l k).map natC).length=(Jw l k).length):=Zh (List.length_map ..);have hfl:=qJ8 l k
  by_cases hlt:k < l.length
  ·
   obtain ⟨b,o,ha,hb⟩:=(HF.out wo HW.out).head hlt;subst ha;obtain ⟨_,f0,f1,f2⟩:=(HF.out wo HW.out).r.at hlt;obtain ⟨p0,p6⟩:=hp _ (List.getElem_mem hlt);obtain ⟨p,hpp⟩:∃ p:Nat,l[k].part=(p:Int):=⟨l[k].part.toNat,by omega⟩;have hp6:p < 6:=by omega
   have HNW:=Zh (zJy hlt hpp);have c0:=HC.out p hp6;have z0:=HZ.out p hp6;rw [hpp] at f0;have x1:(k:Int) < l.length:=by omega
   have x2:(0:Int)<=k:=by omega
   have x3:(p:Int) < 6:=by omega
   have x4:(0:Int)<=p:=by omega
   obtain ⟨mk,hmk⟩:∃ mk,metK l k p=mk:=⟨_,rfl⟩;rw [hmk] at c0 HNW;have HMK:=Zh hmk;have HPP:=Zh hpp;clear hmk hpp p0 p6;have HBX:=Zh (Qk (Qj (.cells #[.int .i64 (p:Int),.int .u64 l[k].id,.int .i64 l[k].time] 155) (.refl wo.heap.size wo)) HW.out);cases mk with
   | true=>
    have HFS:Hid (Jw l (k+1)=Jw l k):=Zh (by rw [kQv,HNW.out];simp)
    have HMS:Hid (∀ q,metK l (k+1) q=metK l k q):=Zh (fun q=>by
     rw [xQ7 hlt,HPP.out]
     by_cases e:p=q
     · subst e;rw [HMK.out];rfl
     · rw [decide_eq_false (by omega),Bool.or_false])
    have HO2:Hid (ROwn 3 1 (wo.alloc (.cells #[.int .i64 (p:Int),.int .u64 l[k].id,.int .i64 l[k].time] 155)) (w.heap.size+1) u4 ((Jw l (k+1)).map natC)):=Zh (by rw [HFS.out];exact HO.out.grow (Qj _ (.refl _ _)));have HC2:Hid (∀ q,q < 6->(wo.alloc (.cells #[.int .i64 (p:Int),.int .u64 l[k].id,.int .i64 l[k].time] 155)).cell? ⟨w.heap.size,q,none⟩=some (.bool (metK l (k+1) q))):=Zh (fun q hq=>by rw [HMS.out,(Qj _ (.refl wo.heap.size wo)).cell (p:=⟨w.heap.size,q,none⟩) hz];exact HC.out q hq);have HZ2:Hid (∀ q,q < 6->(wo.alloc (.cells #[.int .i64 (p:Int),.int .u64 l[k].id,.int .i64 l[k].time] 155)).frozen? ⟨w.heap.size,q,none⟩=false):=Zh (fun q hq=>by rw [(Qj _ (.refl wo.heap.size wo)).frozen (p:=⟨w.heap.size,q,none⟩) hz];exact HZ.out q hq);clear HO HC HZ HFS HMS;go_wp2_with fail;go_roundw
    case rel=>exact ⟨k+1,by omega,by go_num,HO2,HC2,HZ2,HBX,by simp;omega⟩
    case measure=>simp [intOf]<;>omega
   | false=>
    have HFS:Hid ((Jw l (k+1)).map natC=(Jw l k).map natC++[natC k]):=Zh (by rw [kQv,HNW.out];simp);have HA1:=Zh (fun (x y:Obj)=>((HO.out.below (o:=p) (by omega:w.heap.size < w.heap.size+1) (.bool true)).alloc x).alloc y);go_wp2_with (at_builtin;refine Kq intT rfl _ _ rfl (w.heap.size+1) u4 ((Jw l k).map natC) (Jw l k).length HLN.out rfl (HA1.out _ _) (natC k) rfl ?h1 _ rfl ?hf (by omega) ?hz ?hk)
    case h1=>intro u hu;simp [natC] at hu;subst hu;rfl
    case hf=>
     intro j hj;obtain rfl:j=0:=by omega
     simp [go_sem,natC]
    case hz=>simp;omega
    case hk=>
     intro v' w1 ho hb1' _;have HO3:Hid (ROwn 3 1 w1 (w.heap.size+1) v' ((Jw l (k+1)).map natC)):=Zh (by rw [HFS.out];exact ho);have HB1:=Zh hb1';clear ho hb1' HA1 HO HFS;go_wp2_with fail;go_roundw
     case rel=>
      have hmt:∀ q,metK l (k+1) q=(metK l k q||decide (p=q)):=fun q=>by
       rw [xQ7 hlt,HPP.out]
       congr 1
       by_cases e:p=q
       · rw [decide_eq_true e,decide_eq_true (by omega)]
       · rw [decide_eq_false e,decide_eq_false (by omega)]
      refine ⟨k+1,by omega,by go_num,HO3,Zh (fun q hq=>?_),Zh (fun q hq=>?_),Zh ?_,?_⟩
      ·
       rw [HB1.out.cell (p:=⟨w.heap.size,q,none⟩) (by show w.heap.size < w.heap.size+1;omega),hmt];have:=HC.out q hq
       by_cases e:p=q
       · subst e;simp [Qz,go_sem,c0,hz]
       · simp [Qz,go_sem,this,e,hz]
      · rw [HB1.out.frozen (p:=⟨w.heap.size,q,none⟩) (by show w.heap.size < w.heap.size+1;omega)];have:=HZ.out q hq;simp [Qv,go_sem,this,hz]
      · have h1:=bset (.bool true) (p:=⟨w.heap.size,p,none⟩) (Nat.le_refl _) HW.out;have h2:=Qj (.cells #[.int .i64 (p:Int),.int .u64 l[k].id,.int .i64 l[k].time] 155) h1;have h3:=Qj (.cells #[.int .i64 (k:Int)] 3) h2;exact h3.trans (HB1.out.mono (by omega))
      · have:=HB1.out.size;simp at this;omega
     case measure=>simp [intOf]<;>omega
  ·
   have hkl:k=l.length:=by omega
   obtain ⟨a4,c4,hv4,hr4,_,_⟩:=HO.out.row (fun x hx=>by obtain ⟨i,_,rfl⟩:=List.mem_map.1 hx;rfl) (by decide);rw [HLN.out] at hv4;subst hv4;rw [hkl] at hfl;have HRR:Hid (Row wo a4 1 ((Jw l l.length).map natC)):=Zh (by rw [<- hkl];exact hr4);have j0:wo.cell? ⟨b2,o2+1,none⟩=some (.int .i64 ps):=(HW.out.cell (p:=⟨b2,o2+1,none⟩) hb2).trans hj;clear hr4 HO HC HZ HLN hc hj;obtain ⟨F,hF⟩:∃ F,Jw l l.length=F:=⟨_,rfl⟩;have hlk:(Jw l k).length=F.length:=by rw [hkl,hF]
   rw [hF] at hfl HRR;rw [hlk];have HFE:=Zh hF;have x0:¬ ((k:Int) < l.length):=by omega
   clear hF hlk
   by_cases hps:(F.length:Int) < ps
   · go_wp2_with fail;go_ret;rw [show R=[] by rw [<- HRes.out,HFE.out,if_pos hps]];exact ⟨none,0,rfl,Row.nil _ _ _,HW.out⟩
   · go_wp2_with fail;go_ret;rw [show R=F by rw [<- HRes.out,HFE.out,if_neg (by omega)]];exact ⟨a4,c4,rfl,HRR.out,HW.out⟩
end Go.Proofs.YtcbicdencgjfiaaGreatDoor
namespace Go.Proofs.YtcbicdencgjfiaaGreatDoor
open Go.RowKit Tryst Go.Maps
theorem qJh (j:JB) (hj:mayJ j=true) (a:Option Addr) (c:Nat) (l:List KpB) (hl:l.length<=1500000) (hp:∀ x∈l,0<=x.part/\x.part < 6) (w:World) (hR:Xg w a l):Calls Tryz.prog 243 #[.agg #[.string j.kind,.int .i64 j.parts,.int .i64 j.need,.int .i64 j.window],.slice a l.length c] w (jQh w (qQw j l)):=by
 have H3:(j.kind=⟨#[97,108,108]⟩∨j.kind=⟨#[97,110,121]⟩∨j.kind=⟨#[99,111,117,110,116]⟩/\1<=j.need/\j.need<=30):=by
  unfold mayJ at hj;simp only [Bool.and_eq_true,decide_eq_true_eq] at hj;obtain ⟨_,_,_,_,h4⟩:=hj
  by_cases h1:j.kind=⟨#[97,108,108]⟩
  · exact .inl h1
  ·
   by_cases h2:j.kind=⟨#[97,110,121]⟩
   · exact .inr (.inl h2)
   ·
    rw [if_neg (by simp [h1,h2])] at h4
    by_cases h5:j.kind=⟨#[99,111,117,110,116]⟩
    · rw [if_pos h5] at h4;simp only [Bool.and_eq_true,decide_eq_true_eq] at h4;exact .inr (.inr ⟨h5,h4.1,h4.2⟩)
    · rw [if_neg h5] at h4;cases h4
 clear hj;have HRR:=Zh (fun W (hb:Below w.heap.size w W)=>KpR.mk (hR.grow hb));clear hR;obtain ⟨P,hP⟩:∃ P,qQw j l=P:=⟨_,rfl⟩;rw [hP];have HP:=Zh hP;clear hP;have hmm:=@run_makeMap Tryz.prog;have hmf:∀ (fn:Fn) (first cap:Array Value) (w:World),(Instr.makeFunc fn first cap).run Tryz.prog w=.ok (.func fn first cap) w:=fun _ _ _ _=>rfl
 have m0:=Zh (MapS.made Tryz.prog 9 ((w.alloc (.cells #[.string j.kind,.int .i64 j.parts,.int .i64 j.need,.int .i64 j.window] 43)).alloc (.cells #[.slice a l.length c] 128)) .nilFunc);have HMJ:Hid (MJ w ((w.alloc (.cells #[.string j.kind,.int .i64 j.parts,.int .i64 j.need,.int .i64 j.window] 43)).alloc (.cells #[.slice a l.length c] 128)) j (.slice a l.length c)):=Zh ⟨by simp [go_sem],by simp [go_sem],by simp [go_sem],by simp [go_sem],Qj _ (Qj _ (.refl _ _)),by simp⟩;go_enter Tryz.func243,Tryz.ntmps243;go_upto_region 1 with fail
 revert m0 HMJ;generalize hX:(w.alloc (.cells #[.string j.kind,.int .i64 j.parts,.int .i64 j.need,.int .i64 j.window] 43)).alloc (.cells #[.slice a l.length c] 128)=X;have hXz:X.heap.size=w.heap.size+2:=by rw [<- hX];simp
 clear hX;intro m0 HMJ;obtain ⟨mb,hmb⟩:∃ mb,X.heap.size=mb:=⟨_,rfl⟩;have hmw:w.heap.size+2<=mb:=by omega
 have m1:=m0.out;rw [hmb] at m1;have HM1:Hid (MJ w (X.alloc (.map #[] 0)) j (.slice a l.length c)):=Zh (HMJ.out.grow (Qj _ (.refl _ _)));clear m0 HMJ hXz;go_upto_region 2 with ((try simp only [hmb]);refine jJS rfl _ _ _ rfl (by assumption) Tryz.underlying9 Tryz.underlying323 (by unfold maxLen;omega) rfl (s:=_) (by unfold maxLen;decide) rfl rfl ?_;intro w' hm' hg';have hab':=MJ.turn (by assumption) hg' hmw;have c0':=hab'.out.c0)
 have hz0:∀ v:World,(zeroValue 321).run Tryz.prog v=.ok .nilFunc v:=fun v=>by kernel_rfl
 rename_i w8 hmL hgL;obtain ⟨kd,ps,nd,wd⟩:=j;simp only at H3 c0' ⊢;have hM:=hab'.out;obtain ⟨d0,d1,d2,d3,dk,dz⟩:=hM;simp only at d0 d1 d2 d3
 rcases H3 with rfl | rfl | ⟨rfl,hn1,hn2⟩
 · have HM:=Zh (jJ8 (w.heap.size+1) 0 w.heap.size 0 a c l ps hl hp w' (HRR.out _ dk).r d3 d1 (by omega) (by omega));rw [show (if ((Jw l l.length).length:Int) < ps then [] else Jw l l.length)=P by rw [<- HP.out];exact (if_pos rfl).symm] at HM;go_wp2_with (refine jQe rfl _ _ rfl hm' Tryz.underlying9 Tryz.underlying323 (hz0 _) rfl (s:=⟨#[97,108,108]⟩) (by unfold maxLen;decide) rfl (v:=.func (.func 255) #[] #[.pointer (some ⟨w.heap.size+1,0,none⟩),.pointer (some ⟨w.heap.size,0,none⟩)]) (by rfl) ?_);refine HM.out.mono ?_;intro e w9 h9;have H9:=Zh (jQh.grow dk h9);obtain ⟨a9,c9,rfl,_,_⟩:=h9;clear HM;go_wp2_with fail;go_ret;exact H9.out
 ·
  have HM:=Zh (vJD (w.heap.size+1) 0 a c l.length hl w' d3)
  rw [show (if 1<=l.length then List.range 1 else [])=P by
   rw [<- HP.out];unfold qQw;rw [if_neg (show ¬ (⟨#[97,110,121]⟩:ByteArray)=⟨#[97,108,108]⟩ by decide),if_pos rfl]] at HM
  go_wp2_with (refine jQe rfl _ _ rfl hm' Tryz.underlying9 Tryz.underlying323 (hz0 _) rfl (s:=⟨#[97,110,121]⟩) (by unfold maxLen;decide) rfl (v:=.func (.func 256) #[] #[.pointer (some ⟨w.heap.size+1,0,none⟩)]) (by rfl) ?_);refine HM.out.mono ?_;intro e w9 h9;have H9:=Zh (jQh.grow dk h9);obtain ⟨a9,c9,rfl,_,_⟩:=h9;clear HM;go_wp2_with fail;go_ret;exact H9.out
 ·
  obtain ⟨n,rfl⟩:∃ n:Nat,nd=(n:Int):=⟨nd.toNat,by omega⟩;have HM:=Zh (vJA w.heap.size 0 (w.heap.size+1) 0 a c l.length n hl (by omega) w' d3 d2)
  rw [show (if n<=l.length then List.range n else [])=P by
   rw [<- HP.out];unfold qQw;simp only [Int.toNat_natCast];rw [if_neg (show ¬ (⟨#[99,111,117,110,116]⟩:ByteArray)=⟨#[97,108,108]⟩ by decide),if_neg (show ¬ (⟨#[99,111,117,110,116]⟩:ByteArray)=⟨#[97,110,121]⟩ by decide),if_pos trivial]
   by_cases h:n<=l.length
   · rw [if_pos h,if_pos (by omega)]
   · rw [if_neg h,if_neg (by omega)]] at HM
  go_wp2_with (refine jQe rfl _ _ rfl hm' Tryz.underlying9 Tryz.underlying323 (hz0 _) rfl (s:=⟨#[99,111,117,110,116]⟩) (by unfold maxLen;decide) rfl (v:=.func (.func 258) #[] #[.pointer (some ⟨w.heap.size,0,none⟩),.pointer (some ⟨w.heap.size+1,0,none⟩)]) (by rfl) ?_);refine HM.out.mono ?_;intro e w9 h9;have H9:=Zh (jQh.grow dk h9);obtain ⟨a9,c9,rfl,_,_⟩:=h9;clear HM;go_wp2_with fail;go_ret;exact H9.out
