import Derived.Deep.CutRange
import Derived.LaidEql
import Derived.Test.YtcbicdencgjfiaaGreatDoorEyeO
import Derived.Test.YtcbicdencgjfiaaGreatDoorFewD14
import Derived.Test.YtcbicdencgjfiaaGreatDoorFewDB14
import Derived.Test.YtcbicdencgjfiaaGreatDoorMeets5
import Derived.Test.YtcbicdencgjfiaaGreatDoorPenO
import Derived.Test.YtcbicdencgjfiaaGreatDoorTopFN
set_option linter.all false
set_option maxHeartbeats 8000000
set_option maxRecDepth 20000
namespace Tryst
open Go Go.RowKit
structure RawKeyW (P:Program) (k:TypeId) (KS:Value->Prop) (w:World):Prop where
 check:∀ (em:Bool) {v:Value},KS v->(Instr.checkKey em 10000 k v).run P w=.ok () w
 find:∀ {x:Value},KS x->∀ es:List MapEntry,(∀ e∈es,KS e.key)->
  ((Instr.findKey k x es).run P w=.ok none w/\∀ e∈es,e.key≠x)∨∃ j e,(Instr.findKey k x es).run P w=.ok (some (j,e.val)) w/\es[j]?=some e/\e.key=x
 stays:∀ {v:Value},KS v->(Instr.keyThatStays v v).run P w=.ok v w
section
variable {A:Type} {enc:A->Value} {ok:A->Prop} {P:Program} {k e t:TypeId} {w w':World} {b n:Nat} {f:A->Option Value}
variable (K:RawKeyW P k (fun v=>∃ a,ok a/\v=enc a) w) (hi:∀ a a',enc a=enc a'→a=a')
include K hi
end
end Tryst
namespace Go.Proofs.YtcbicdencgjfiaaGreatDoor
open Go.RowKit Tryst
structure PK where
 a:Nat × Nat
 b:Nat × Nat
 n:Nat
deriving DecidableEq
def encP (k:PK):Value:=.agg #[.pointer (some ⟨k.a.1,k.a.2,none⟩),.pointer (some ⟨k.b.1,k.b.2,none⟩),.int .i64 (k.n:Int)]
def okP (w:World) (k:PK):Prop:=(∃ cs T,w.heap[k.a.1]?=some (.cells cs T (0,0)))/\∃ cs T,w.heap[k.b.1]?=some (.cells cs T (0,0))
end Go.Proofs.YtcbicdencgjfiaaGreatDoor
namespace Tryst
open Go Go.RowKit
structure SIn (w:World) (M base:Nat) (s:SW) (W:World):Prop where
 ra:Row W s.a 6 (s.l.map PB.cells)
 rb:Row W s.b 6 (s.m.map PB.cells)
 la:∀ b o,s.a=some ⟨b,o,none⟩->b < base/\b≠M
 lb:∀ b o,s.b=some ⟨b,o,none⟩->b < base/\b≠M
 pa:∀ x∈s.l,PO w x
 pb:∀ x∈s.m,PO w x
 len:s.l.length<=10
theorem SIn.keep {w:World} {M base:Nat} {s:SW} {W W':World} (h:SIn w M base s W) (hk:∀ b,b < base->b≠M->W'.heap[b]?=W.heap[b]?) (hz:W.heap.size<=W'.heap.size):SIn w M base s W':=
 ⟨h.ra.block (fun b o e=>hk b (h.la b o e).1 (h.la b o e).2) hz,h.rb.block (fun b o e=>hk b (h.lb b o e).1 (h.lb b o e).2) hz,h.la,h.lb,h.pa,h.pb,h.len⟩
theorem RawKeyW.sub {P:Program} {k:TypeId} {KS KS':Value->Prop} {w:World} (K:RawKeyW P k KS w) (h:∀ v,KS' v->KS v):RawKeyW P k KS' w where
 check em:=fun hv=>K.check em (h _ hv)
 find:=fun hx es hes=>K.find (h _ hx) es (fun e he=>h _ (hes e he))
 stays:=fun hv=>K.stays (h _ hv)
theorem SW.cells_len (l:List SW):∀ x∈l.map SW.cells,x.length=2:=by
 intro x hx;obtain ⟨s,_,rfl⟩:=List.mem_map.1 hx;rfl
end Tryst
namespace Go.Proofs.YtcbicdencgjfiaaGreatDoor
open Go.RowKit Tryst
def metF (met:PK->Bool):PK->Option Value:=fun k=>if met k=true then some (.agg #[]) else none
structure SS (w:World) (M base:Nat) (S Wk:List SW) (met:PK->Bool) (v:Value) (W:World):Prop where
 bel:Below w.heap.size w W
 hM:w.heap.size<=M
 hMb:M < base
 hbz:base<=W.heap.size
 map:∃ n,MapK encP (okP w) W M n (metF met)
 own:ROwn 246 2 W base v (Wk.map SW.cells)
 key:∀ k,met k=true->∃ s∈S,s.a=some ⟨k.a.1,k.a.2,none⟩/\s.b=some ⟨k.b.1,k.b.2,none⟩/\s.l.length=k.n
 rows:∀ s∈S,SIn w M base s W
section
variable {w W W':World} {M base:Nat} {S Wk:List SW} {met:PK->Bool} {v:Value}
theorem SS.grow (h:SS w M base S Wk met v W) (hb:Below W.heap.size W W'):SS w M base S Wk met v W':=
 ⟨Qk hb h.bel,h.hM,h.hMb,Nat.le_trans h.hbz hb.size,by obtain ⟨n,hn⟩:=h.map;exact ⟨n,hn.grow hb⟩,h.own.grow hb,h.key,fun s hs=>(h.rows s hs).keep (fun b hb1 _=>hb.block b (Nat.lt_of_lt_of_le hb1 h.hbz)) hb.size⟩
def setP (met:PK->Bool) (k:PK):PK->Bool:=fun x=>decide (x=k)||met x
theorem SS.put (h:SS w M base S Wk met v W) (s:SW) (hs:SIn w M base s W) {k:PK} (e1:s.a=some ⟨k.a.1,k.a.2,none⟩) (e2:s.b=some ⟨k.b.1,k.b.2,none⟩) (e3:s.l.length=k.n) {n:Nat} (hm:MapK encP (okP w) W' M n (fun x=>if x=k then some (.agg #[]) else metF met x)) (hg:W.grownBy W' (some M)) (hz:W'.heap.size=W.heap.size):SS w M base (s :: S) Wk (setP met k) v W':=by
 have hb:∀ b,b < W.heap.size->b≠M->W'.heap[b]?=W.heap[b]?:=fun b h1 h2=>hg.block b h1 (by simpa using h2)
 obtain ⟨n0,h5⟩:=h.map;refine ⟨h.bel.grown hg h.bel.size (fun j hj=>by cases hj;exact h.hM),h.hM,h.hMb,by rw [hz];exact h.hbz,⟨n,hm.congr fun x=>?_⟩,?_,?_,?_⟩
 ·
  unfold metF setP
  by_cases e:x=k
  · simp [e]
  · simp [e]
 ·
  refine jQN h.own fun A m c hv=>?_
  obtain ⟨cur,hc⟩:=h.own.typed A m c hv;exact hb _ (Array.getElem?_eq_some_iff.1 hc).1 (jYX h5 hc)
 ·
  intro x hx;unfold setP at hx
  rcases Bool.or_eq_true_iff.1 hx with hx | hx
  ·
   have:x=k:=by simpa using hx
   subst this;exact ⟨s,List.mem_cons_self,e1,e2,e3⟩
  · obtain ⟨t,ht,q⟩:=h.key x hx;exact ⟨t,List.mem_cons_of_mem _ ht,q⟩
 ·
  intro t ht;have hk:∀ b,b < base->b≠M->W'.heap[b]?=W.heap[b]?:=fun b h1 h2=>hb b (Nat.lt_of_lt_of_le h1 h.hbz) h2
  rcases List.mem_cons.1 ht with rfl | ht
  · exact hs.keep hk (by omega)
  · exact (h.rows t ht).keep hk (by omega)
theorem SS.app (h:SS w M base S Wk met v W) (s:SW) {v':Value} (ho:ROwn 246 2 W' base v' ((Wk++[s]).map SW.cells)) (hb:Below base W W'):SS w M base S (Wk++[s]) met v' W':=by
 refine ⟨h.bel.trans (hb.mono (Nat.le_trans h.hM (Nat.le_of_lt h.hMb))),h.hM,h.hMb,Nat.le_trans h.hbz hb.size,?_,ho,h.key,fun t ht=>(h.rows t ht).keep (fun b h1 _=>hb.block b h1) hb.size⟩;obtain ⟨n,hn⟩:=h.map;exact ⟨n,hn.growB h.hMb hb⟩
end
theorem SS.first (x0 x1:ByteArray) (x2:Bool) (x3:Int) (x4:ByteArray) (x5:Option Addr) (x6:Nat) (x7:List PB) (y0 y1:ByteArray) (y2:Bool) (y3:Int) (y4:ByteArray) (y5:Option Addr) (y6:Nat) (y7:List PB) (w:World) (hx:PO w (PB.mk x0 x1 x2 x3 x4 x5 x6 x7)) (hy:PO w (PB.mk y0 y1 y2 y3 y4 y5 y6 y7)) :
  SS w (w.heap.size+1+1) (w.heap.size+1+1+1+1+1) [⟨some ⟨w.heap.size+1+1+1,0,none⟩,[PB.mk x0 x1 x2 x3 x4 x5 x6 x7],1,some ⟨w.heap.size+1+1+1+1,0,none⟩,[PB.mk y0 y1 y2 y3 y4 y5 y6 y7],1⟩] [⟨some ⟨w.heap.size+1+1+1,0,none⟩,[PB.mk x0 x1 x2 x3 x4 x5 x6 x7],1,some ⟨w.heap.size+1+1+1+1,0,none⟩,[PB.mk y0 y1 y2 y3 y4 y5 y6 y7],1⟩] (fun _=>false) (.slice (some ⟨w.heap.size+1+1+1+1+1,0,none⟩) 1 1)
   ((((((w.alloc (.cells #[.string x0,.string x1,.bool x2,.int .i64 x3,.string x4,.slice x5 x7.length x6] 123)).alloc (.cells #[.string y0,.string y1,.bool y2,.int .i64 y3,.string y4,.slice y5 y7.length y6] 123)).alloc (.map #[] 0)).alloc (.cells #[.string x0,.string x1,.bool x2,.int .i64 x3,.string x4,.slice x5 x7.length x6] 123)).alloc (.cells #[.string y0,.string y1,.bool y2,.int .i64 y3,.string y4,.slice y5 y7.length y6] 123)).alloc (.cells #[.slice (some ⟨w.heap.size+1+1+1,0,none⟩) 1 1,.slice (some ⟨w.heap.size+1+1+1+1,0,none⟩) 1 1] 246)):=by
 refine ⟨Qj _ (Qj _ (Qj _ (Qj _ (Qj _ (Qj _ (.refl _ _)))))),by omega,by omega,by simp,⟨0,?_⟩,?_,?_,?_⟩
 · have h:=MapK.made encP (okP w) ((w.alloc (.cells #[.string x0,.string x1,.bool x2,.int .i64 x3,.string x4,.slice x5 x7.length x6] 123)).alloc (.cells #[.string y0,.string y1,.bool y2,.int .i64 y3,.string y4,.slice y5 y7.length y6] 123));rw [show ((w.alloc (.cells #[.string x0,.string x1,.bool x2,.int .i64 x3,.string x4,.slice x5 x7.length x6] 123)).alloc (.cells #[.string y0,.string y1,.bool y2,.int .i64 y3,.string y4,.slice y5 y7.length y6] 123)).heap.size=w.heap.size+1+1 by simp] at h;exact (h.grow (Qj _ (Qj _ (Qj _ (.refl _ _))))).congr fun x=>by simp [metF]
 · refine ⟨rfl,.inr ⟨w.heap.size+1+1+1+1+1,1,#[.slice (some ⟨w.heap.size+1+1+1,0,none⟩) 1 1,.slice (some ⟨w.heap.size+1+1+1+1,0,none⟩) 1 1],rfl,Nat.le_refl _,?_,Nat.le_refl _,by unfold maxLen;omega,rfl,rfl⟩⟩;show (Array.push _ _)[_]?=_;rw [Array.getElem?_push,if_pos (by simp)]
 · intro k hk;cases hk
 ·
  intro s hs;rw [List.mem_singleton] at hs;subst hs;refine ⟨?_,?_,fun b o e=>by cases e;constructor<;>omega,fun b o e=>by cases e;constructor<;>omega,fun x hx'=>by rw [List.mem_singleton] at hx';subst hx';exact hx,fun x hx'=>by rw [List.mem_singleton] at hx';subst hx';exact hy,by simp⟩
  ·
   intro i hi;obtain rfl:i=0:=by simpa using hi
   refine ⟨_,0,rfl,by simp,fun j hj=>?_⟩;have hj6:j=0∨j=1∨j=2∨j=3∨j=4∨j=5:=by omega
   rcases hj6 with rfl | rfl | rfl | rfl | rfl | rfl<;>simp [go_sem,PB.cells,PB.op,PB.s,PB.num,PB.n,PB.vs,PB.a,PB.c,PB.l]
  ·
   intro i hi;obtain rfl:i=0:=by simpa using hi
   refine ⟨_,0,rfl,by simp,fun j hj=>?_⟩;have hj6:j=0∨j=1∨j=2∨j=3∨j=4∨j=5:=by omega
   rcases hj6 with rfl | rfl | rfl | rfl | rfl | rfl<;>simp [go_sem,PB.cells,PB.op,PB.s,PB.num,PB.n,PB.vs,PB.a,PB.c,PB.l]
end Go.Proofs.YtcbicdencgjfiaaGreatDoor
namespace Tryst
open Go Go.RowKit
end Tryst
namespace Go.Proofs.YtcbicdencgjfiaaGreatDoor
open Go.RowKit Tryst
structure D2 (w v:World) (g1:Nat) (nm:ByteArray) (G U:Value) (ky kd:ByteArray) (p n x:Int) (nm':ByteArray) (G' U':Value) (ky' kd':ByteArray) (p' n' x':Int) (g0:Nat):Prop where
 a:DX v g0 nm G U ky kd p n x
 b:DX v g1 nm' G' U' ky' kd' p' n' x'
 l:Below w.heap.size w v
theorem D2.grow {w v v':World} {g0 g1:Nat} {nm:ByteArray} {G U:Value} {ky kd:ByteArray} {p n x:Int} {nm':ByteArray} {G' U':Value} {ky' kd':ByteArray} {p' n' x':Int} (h:D2 w v g1 nm G U ky kd p n x nm' G' U' ky' kd' p' n' x' g0) (hb:Below v.heap.size v v'):D2 w v' g1 nm G U ky kd p n x nm' G' U' ky' kd' p' n' x' g0:=
 ⟨h.a.grow hb,h.b.grow hb,Qk hb h.l⟩
theorem D2.new (w:World) (nm:ByteArray) (G U:Value) (ky kd:ByteArray) (p n x:Int) (nm':ByteArray) (G' U':Value) (ky' kd':ByteArray) (p' n' x':Int) :
  D2 w ((w.alloc (.cells #[.string nm,G,U,.string ky,.string kd,.int .i64 p,.int .i64 n,.int .i64 x] 45)).alloc (.cells #[.string nm',G',U',.string ky',.string kd',.int .i64 p',.int .i64 n',.int .i64 x'] 45)) (w.heap.size+1) nm G U ky kd p n x nm' G' U' ky' kd' p' n' x' w.heap.size:=by
 have e1:=DX.new (w.alloc (.cells #[.string nm,G,U,.string ky,.string kd,.int .i64 p,.int .i64 n,.int .i64 x] 45)) nm' G' U' ky' kd' p' n' x';rw [show (w.alloc (.cells #[.string nm,G,U,.string ky,.string kd,.int .i64 p,.int .i64 n,.int .i64 x] 45)).heap.size=w.heap.size+1 by simp] at e1;exact ⟨(DX.new _ _ _ _ _ _ _ _ _).grow (Qj _ (.refl _ _)),e1,Qj _ (Qj _ (.refl _ _))⟩
end Go.Proofs.YtcbicdencgjfiaaGreatDoor
namespace Go.Proofs.YtcbicdencgjfiaaGreatDoor
open Go.RowKit Tryst
end Go.Proofs.YtcbicdencgjfiaaGreatDoor
namespace Go.Proofs.YtcbicdencgjfiaaGreatDoor
open Go.RowKit Tryst
end Go.Proofs.YtcbicdencgjfiaaGreatDoor
namespace Go.Proofs.YtcbicdencgjfiaaGreatDoor
open Go.RowKit Tryst
theorem xQ9 {s:ByteArray} (h:¬ s=⟨#[]⟩):s.toList.isEmpty=false:=by
 cases e:s.toList with
 | nil=>exact absurd (Xk (by rw [<- Qp,e])) h
 | cons a b=>rfl
theorem jYd (d:DB) (w:World) (hg:d.gl.length<=1500000) (hw:d.wl.length<=1500000):Calls Tryz.prog 61 #[d.agg] w fun e w'=>e=.returned (.bool (zQ0 d))/\Below w.heap.size w w':=by
 obtain ⟨R,hR⟩:∃ R,zQ0 d=R:=⟨_,rfl⟩;rw [hR];unfold zQ0 vQt at hR;obtain ⟨nm,ga,gl,gc,wa,wl,wc,ky,⟨kd,p,n,x⟩⟩:=d;unfold DB.agg;simp only at hR hg hw ⊢;have HR:=Zh hR;have HX:=Zh (Var.new w 45 [.string nm,.slice ga gl.length gc,.slice wa wl.length wc,.string ky,.string kd,.int .i64 p,.int .i64 n,.int .i64 x]);have HB0:=Zh (Qj (.cells #[.string nm,.slice ga gl.length gc,.slice wa wl.length wc,.string ky,.string kd,.int .i64 p,.int .i64 n,.int .i64 x] 45) (.refl w.heap.size w));clear hR;go_enter Tryz.func61,Tryz.ntmps61;go_upto_region 1 with fail
 revert HX HB0;generalize w.alloc (.cells _ 45)=Z;intro HX HB0;obtain ⟨x0,x1,x2,x3,x4,x5,x6,x7⟩:=v8 (HX.out)
 by_cases h1:nm=⟨#[]⟩
 ·
  subst h1
  by_cases h2:(gl.length:Int)=0
  ·
   have e2:gl.length=0:=by omega
   by_cases h3:(wl.length:Int)=0
   ·
    have e3:wl.length=0:=by omega
    rw [e2] at x1;rw [e3] at x2
    by_cases h4:ky=⟨#[]⟩
    ·
     subst h4
     by_cases a1:kd=⟨#[]⟩
     ·
      subst a1
      by_cases a2:p=0
      ·
       subst a2
       by_cases a3:n=0
       ·
        subst a3
        by_cases a4:x=0
        · subst a4;have HN:=Zh (show R=true by rw [<- HR.out];simp [e2,e3]);clear h2 h3 e2 e3;go_wp2_with fail;go_ret;exact ⟨Qq HN.out.symm,HB0.out⟩
        ·
         have HN:=Zh (show R=false by rw [<- HR.out];simp [a4]);have b4:(x==0)=false:=by simpa using a4
         clear h2 h3 e2 e3;go_wp2_with fail;go_ret;exact ⟨Qq HN.out.symm,HB0.out⟩
       ·
        have HN:=Zh (show R=false by rw [<- HR.out];simp [a3]);have b4:(n==0)=false:=by simpa using a3
        clear h2 h3 e2 e3;go_wp2_with fail;go_ret;exact ⟨Qq HN.out.symm,HB0.out⟩
      ·
       have HN:=Zh (show R=false by rw [<- HR.out];simp [a2]);have b4:(p==0)=false:=by simpa using a2
       clear h2 h3 e2 e3;go_wp2_with fail;go_ret;exact ⟨Qq HN.out.symm,HB0.out⟩
     · have HN:=Zh (show R=false by rw [<- HR.out];simp [a1]);have b4:kd.toList.isEmpty=false:=xQ9 a1;clear h2 h3 e2 e3;go_wp2_with fail;go_ret;exact ⟨Qq HN.out.symm,HB0.out⟩
    · have HN:=Zh (show R=false by rw [<- HR.out];simp [h4]);have b4:ky.toList.isEmpty=false:=xQ9 h4;clear h2 h3 e2 e3;go_wp2_with fail;go_ret;exact ⟨Qq HN.out.symm,HB0.out⟩
   ·
    have HN:=Zh (show R=false by rw [<- HR.out,decide_eq_false (show ¬ wl.length=0 by omega)];simp);have b4:((wl.length:Int)==0)=false:=by simpa using h3
    rw [e2] at x1;clear h2 e2;go_wp2_with fail;go_ret;exact ⟨Qq HN.out.symm,HB0.out⟩
  ·
   have HN:=Zh (show R=false by rw [<- HR.out,decide_eq_false (show ¬ gl.length=0 by omega)];simp);have b4:((gl.length:Int)==0)=false:=by simpa using h2
   go_wp2_with fail;go_ret;exact ⟨Qq HN.out.symm,HB0.out⟩
 · have HN:=Zh (show R=false by rw [<- HR.out];simp [h1]);have b4:nm.toList.isEmpty=false:=xQ9 h1;go_wp2_with fail;go_ret;exact ⟨Qq HN.out.symm,HB0.out⟩
theorem DO.zero (w:World):DO w .zero where
 hn:=by decide
 hg:=by decide
 hgs:=fun g h=>by cases h
 gS:=fun i h=>absurd h (Nat.not_lt_zero i)
 gL:=⟨Nat.le_refl _,fun A h=>(by cases h),fun _=>rfl⟩
 hw:=by decide
 wR:=⟨Row.nil _ _ _,⟨Nat.le_refl _,fun A h=>(by cases h),fun _=>rfl⟩,fun p h=>by cases h⟩
 hk:=by decide
theorem jJ5 (o:OPB) (w:World) (hM:MaxW w) (hD:DO w o.d) (hs:o.s.size<=1500000):Calls Tryz.prog 22 #[o.agg] w fun e w'=>e=.returned (.bool (mayO o))/\Below w.heap.size w w':=by
 obtain ⟨k,s,d,ok,id,n⟩:=o;simp only at hD hs;have CM:=Zh (fun W (hb:Below w.heap.size w W)=>zJC d W (hM.grow hb) (hD.grow hb));have CN:=Zh (fun W (hb:Below w.heap.size w W)=>jYd d W (Nat.le_trans hD.hg (by decide)) (Nat.le_trans hD.hw (by decide)));have hNS:=qJL d;obtain ⟨R,hR⟩:∃ R,mayO (OPB.mk k s d ok id n)=R:=⟨_,rfl⟩;rw [hR];unfold mayO at hR;clear hM hD
 try rw [<- hNS] at CN
 simp only at hR;generalize mayD d=md at CM hR;generalize zQ0 d=nd at CN hR;have HR:=Zh hR;have HX:=Zh (Var.new w 48 (OPB.mk k s d ok id n).cells);have HB0:=Zh (Qj (.cells (OPB.mk k s d ok id n).cells.toArray 48) (.refl w.heap.size w));clear hR hNS;unfold OPB.cells at HX HB0;unfold OPB.agg;unfold DB.agg at CM CN
 try unfold DB.zero at CN
 simp only [List.length_nil] at CM CN HX HB0 ⊢;go_enter Tryz.func22,Tryz.ntmps22;go_upto_region 1 with fail
 revert HX HB0;generalize w.alloc (.cells _ 48)=Z;intro HX HB0;obtain ⟨x0,x1,x2,x3,x4,x5,x6,x7,x8,x9,x10,x11,x12⟩:=v13 (HX.out)
 by_cases h1:k < 1
 · have HN:=Zh (show R=false by rw [<- HR.out,decide_eq_false (show ¬ 1<=k by omega)];simp);go_wp2_with fail;go_ret;exact ⟨Qq HN.out.symm,HB0.out⟩
 ·
  by_cases h2:10 < k
  · have HN:=Zh (show R=false by rw [<- HR.out,decide_eq_false (show ¬ k<=10 by omega)];simp);go_wp2_with fail;go_ret;exact ⟨Qq HN.out.symm,HB0.out⟩
  ·
   by_cases h3:2000 < s.size
   · have HN:=Zh (show R=false by rw [<- HR.out,decide_eq_false (show ¬ s.size<=2000 by omega)];simp);go_wp2_with fail;go_ret;exact ⟨Qq HN.out.symm,HB0.out⟩
   ·
    have HR2:Hid (R=if k=2 then md else nd):=Zh (by
     rw [<- HR.out,decide_eq_true (show 1<=k by omega),decide_eq_true (show k<=10 by omega),decide_eq_true (show s.size<=2000 by omega)];simp)
    clear HR
    by_cases h4:k=2
    · subst h4;have HN:=Zh (show R=md by rw [HR2.out,if_pos rfl]);go_wp2_with fail;refine (CM.out _ HB0.out).mono ?_;rintro e w8 ⟨rfl,hb8⟩;have HB8:=Zh (Qk hb8 HB0.out);clear hb8;go_wp2_with fail;go_ret;exact ⟨Qq HN.out.symm,HB8.out⟩
    ·
     have HN:=Zh (show R=nd by rw [HR2.out,if_neg h4]);have b4:(k==2)=false:=by simpa using h4
     clear h4;go_wp2_with fail;refine (CN.out _ HB0.out).mono ?_;rintro e w8 ⟨rfl,hb8⟩;have HB8:=Zh (Qk hb8 HB0.out);clear hb8;go_wp2_with fail;go_ret;exact ⟨Qq HN.out.symm,HB8.out⟩
end Go.Proofs.YtcbicdencgjfiaaGreatDoor
namespace Go.Proofs.YtcbicdencgjfiaaGreatDoor
open Go.RowKit Tryst
theorem DM.parts {S:Nat->Prop} {w:World} {d:DB} (h:DM S w d) (hf:d.dp.Fits) (hl:(defL d.dp).length<=1500000):DO w d/\JIn d.j:=by
 unfold DP.Fits DB.dp at hf;unfold DB.dp defL Qf at hl;simp only [List.length_append,List.length_map] at hf hl;obtain ⟨_,_,⟨_,hw⟩,_,_,k1,k2,k3⟩:=hf;have g1:=kQ3 (f:=strL) (fun x=>by have:=Ky x;omega) d.gl;have g2:=kQ3 (f:=Kz) (fun x=>Zw _) (d.wl.map PB.pr);rw [List.length_map] at g2;have n1:=Ky d.name;have n2:=Ky d.key;have n3:=Ky d.j.kind;have i1:=Y6 k1;have i2:=Y6 k2;have i3:=Y6 k3;refine ⟨⟨by omega,by omega,fun g hg=>?_,zQ9.2 h.g.row,h.g.sl,by omega,⟨h.w.row,h.w.sl,fun p hp=>?_⟩,by omega⟩,⟨by omega,i1.1,i1.2,i2.1,i2.2,i3.1,i3.2⟩⟩
 · have:=vQ4 (f:=strL) hg;have:=Ky g;omega
 · refine ⟨(h.w.mem p hp).keep (fun g _ _=>⟨rfl,trivial⟩) (Nat.le_refl _),?_⟩;obtain ⟨_,h2⟩:=hw p.pr (List.mem_map.2 ⟨p,hp,rfl⟩);have h3:=(vQx h2).2;rw [qQi,Bool.and_eq_true,decide_eq_true_eq] at h3;rw [vQo];omega
theorem DP.zero_fits:DP.zero.Fits:=by
 unfold DP.Fits DP.zero fold;simp
theorem opIn {S:Nat->Prop} {w:World} {y:OPB} {l:List UInt8} (h:DM S w y.d) (hf:y.p.Fits) (hl:opL y.p=l) (hn:l.length<=1500000):DO w y.d/\JIn y.d.j/\OPIn y/\y.s.size<=1500000:=by
 subst hl;unfold OpP.Fits OPB.p at hf;unfold OPB.p opL OpP.head Tryst.headL at hn;simp only [List.length_append] at hf hn;obtain ⟨⟨f1,f2,_,f4,f5⟩,h2,h3⟩:=hf;have i1:=Y6 f1;have i2:=Y6 f5;have n1:=Ky y.s
 have hd:DO w y.d/\JIn y.d.j:=by
  by_cases hk:y.kind=2
  · rw [if_pos hk] at hn;exact h.parts (h2 hk) (by omega)
  · have e:=h3 hk;exact h.parts (by rw [e];exact DP.zero_fits) (by rw [e];decide)
 exact ⟨hd.1,hd.2,⟨i1.1,i1.2,i2.1,i2.2,by omega⟩,by omega⟩
theorem qQa {W0 w:World} {b:Nat} {s:List UInt8 × Bool} (h:EyeS W0 b s w) :
  Calls Tryz.prog 42 #[.pointer (some ⟨b,0,none⟩)] w fun e w'=>e=.returned (.bool (!s.2&&s.1.isEmpty))/\w=w':=by
 obtain ⟨l,d⟩:=s;obtain ⟨hz,x0,x1,z0,z1⟩:=ebox h;simp only at x0 x1;clear h;cases d with
 | true=>
  go_enter Tryz.func42,Tryz.ntmps42;go_wp2_with fail;go_ret;exact ⟨rfl,rfl⟩
 | false=>
  cases l with
  | nil=>
   go_enter Tryz.func42,Tryz.ntmps42;go_wp2_with fail;go_ret;exact ⟨rfl,rfl⟩
  | cons c r=>
   have b1:(⟨(c :: r).toArray⟩:ByteArray).toList.isEmpty=false:=by rw [Qp];rfl
   go_enter Tryz.func42,Tryz.ntmps42;go_wp2_with fail;go_ret;exact ⟨rfl,rfl⟩
def ToR (l:List UInt8) (w:World) (e:Ending) (w':World):Prop:=∃ y:OPB,e=.returned (.tuple #[y.agg,.int .i64 (if (jQj l).isSome=true then 0 else 2)])/\((jQj l=none/\y=OPB.zero)∨jQj l=some y.p)/\DM (fun g=>w.heap.size<=g) w' y.d/\Below w.heap.size w w'
theorem ToR.no {l:List UInt8} {w w':World} (h:jQj l=none) (hb:Below w.heap.size w w'):ToR l w (.returned (.tuple #[OPB.zero.agg,.int .i64 2])) w':=by
 refine ⟨.zero,?_,.inl ⟨h,rfl⟩,⟨LM.nil _ _,LM.nil _ _⟩,hb⟩;rw [h];rfl
theorem ToR.yes {l:List UInt8} {w w':World} {y:OPB} (h:jQj l=some y.p) (hm:DM (fun g=>w.heap.size<=g) w' y.d) (hb:Below w.heap.size w w'):ToR l w (.returned (.tuple #[y.agg,.int .i64 0])) w':=by
 refine ⟨y,?_,.inr h,hm,hb⟩;rw [h];rfl
theorem vJz (l:ByteArray) (hl:l.size<=1500000) (w:World) (hM:MaxW w):Calls Tryz.prog 19 #[.string l] w (ToR l.data.toList w):=by
 have HZ:=Zh (Var.new w 48 [.int .i64 0,.string ⟨#[]⟩,.string ⟨#[]⟩,.slice none 0 0,.slice none 0 0,.string ⟨#[]⟩,.string ⟨#[]⟩,.int .i64 0,.int .i64 0,.int .i64 0,.bool false,.int .u64 0,.int .i64 0]);have HB0:=Zh (Qj (.cells #[.int .i64 0,.string ⟨#[]⟩,.string ⟨#[]⟩,.slice none 0 0,.slice none 0 0,.string ⟨#[]⟩,.string ⟨#[]⟩,.int .i64 0,.int .i64 0,.int .i64 0,.bool false,.int .u64 0,.int .i64 0] 48) (.refl w.heap.size w));have HM:=Zh hM;have hsz:(w.alloc (.cells #[.int .i64 0,.string ⟨#[]⟩,.string ⟨#[]⟩,.slice none 0 0,.slice none 0 0,.string ⟨#[]⟩,.string ⟨#[]⟩,.int .i64 0,.int .i64 0,.int .i64 0,.bool false,.int .u64 0,.int .i64 0] 48)).heap.size=w.heap.size+1:=by simp
 have HSZ:=Zh hsz;obtain ⟨L,hL⟩:∃ L,l.data.toList=L:=⟨_,rfl⟩;obtain rfl:l=⟨L.toArray⟩:=Xk (by rw [hL,Jb]);rw [hL];have hl2:L.length<=1500000:=hl;clear hM hsz hL hl;go_enter Tryz.func19,Tryz.ntmps19;go_upto_region 1 with fail
 revert HZ HB0 HSZ;rw [show (w.alloc (.cells [.int .i64 0,.string ⟨#[]⟩,.string ⟨#[]⟩,.slice none 0 0,.slice none 0 0,.string ⟨#[]⟩,.string ⟨#[]⟩,.int .i64 0,.int .i64 0,.int .i64 0,.bool false,.int .u64 0,.int .i64 0].toArray 48))=w.alloc (.cells #[.int .i64 0,.string ⟨#[]⟩,.string ⟨#[]⟩,.slice none 0 0,.slice none 0 0,.string ⟨#[]⟩,.string ⟨#[]⟩,.int .i64 0,.int .i64 0,.int .i64 0,.bool false,.int .u64 0,.int .i64 0] 48) from rfl];generalize w.alloc (.cells #[.int .i64 0,.string ⟨#[]⟩,.string ⟨#[]⟩,.slice none 0 0,.slice none 0 0,.string ⟨#[]⟩,.string ⟨#[]⟩,.int .i64 0,.int .i64 0,.int .i64 0,.bool false,.int .u64 0,.int .i64 0] 48)=W0;intro HZ HB0 HSZ;have HE:=Zh (show EyeS W0 W0.heap.size (L,false) (W0.alloc (.cells #[.string ⟨L.toArray⟩,.bool false] 99)) from ⟨Var.new W0 99 [.string ⟨L.toArray⟩,.bool false],Qj _ (.refl _ _),Nat.le_refl _,hl2⟩);have HZ1:=Zh (HZ.out.grow (Qj (.cells #[.string ⟨L.toArray⟩,.bool false] 99) (.refl W0.heap.size W0)));have HMW:=Zh (HM.out.grow HB0.out);have hzz:W0.heap.size < (W0.alloc (.cells #[.string ⟨L.toArray⟩,.bool false] 99)).heap.size:=by simp
 go_upto_region 2 with fail
 revert HE HZ1 hzz;generalize W0.alloc (.cells #[.string ⟨L.toArray⟩,.bool false] 99)=Z;intro HE HZ1 hzz;have hne:w.heap.size≠W0.heap.size:=by have:=HSZ.out;omega
 go_wp2_with fail;refine (eop_k HE.out HMW.out).mono ?_;rintro e w2 ⟨y,rfl,hm,hp,hs,ho⟩;have HP:=Zh hp;have HTO:Hid (jQj L=if (opR (L,false)).2.2=false/\(opR (L,false)).2.1=[]/\qJr (opR (L,false)).1=true then some (opR (L,false)).1 else none):=Zh rfl
 have HC:Hid ((opR (L,false)).2.2=false->(opR (L,false)).2.1=[]->(opR (L,false)).1.Fits/\opL (opR (L,false)).1=L):=Zh (fun h1 h2=>by
  have h:=opC.got L (opR (L,false)).1 [] (Prod.ext rfl (Prod.ext h2 h1));rw [List.append_nil] at h;exact ⟨h.2,h.1.symm⟩)
 rw [<- hp] at HTO HC;generalize (opR (L,false)).2=s2 at hs HTO HC;obtain ⟨r,d⟩:=s2;simp only at HTO HC;have H3:=Zh (hs.quiet (Qj (.cells y.cells.toArray 48) (.refl w2.heap.size w2)));have Z3:=Zh ((HZ1.out.oth ho hne).grow (Qj (.cells y.cells.toArray 48) (.refl w2.heap.size w2)));have Y3:=Zh (Var.new w2 48 y.cells);have M3:=Zh (show DM (fun g=>Z.heap.size<=g) (w2.alloc (.cells y.cells.toArray 48)) y.d from defK.keep hm (fun g hg hl=>⟨(Qj (.cells y.cells.toArray 48) (.refl w2.heap.size w2)).block g hl,hg⟩) (by simp));have hz2:=ho.size;clear hm hp hs ho HE HZ1 HZ HP;obtain ⟨k,s,dd,ok,id,n⟩:=y;unfold OPB.cells at H3 Z3 Y3 M3;dsimp only [opK,OPB.agg] at H3 Z3 Y3 M3 ⊢;go_upto_region 3 with fail
 revert H3 Z3 Y3 M3;generalize w2.alloc (.cells _ 48)=w3;intro H3 Z3 Y3 M3;have hlt3:w.heap.size < w2.heap.size:=by have:=HSZ.out;omega
 generalize w2.heap.size=g2 at Y3 hz2 hlt3 ⊢;have HB3:=Zh (HB0.out.trans (H3.out.low.mono (by have:=HSZ.out;omega)));have HMY:=Zh (xJd (OPB.mk k s dd ok id n));rw [HMY.out] at HTO;obtain ⟨u0,u1,u2,u3,u4,u5,u6,u7,u8,u9,u10,u11,u12⟩:=v13 (Z3.out);obtain ⟨y0,y1,y2,y3,y4,y5,y6,y7,y8,y9,y10,y11,y12⟩:=v13 (Y3.out);have zf:=Z3.out.fz;have zl:=Z3.out.lt
 by_cases hw:d=false/\r=[]
 ·
  obtain ⟨rfl,rfl⟩:=hw;obtain ⟨hf,ho⟩:=HC.out rfl rfl;obtain ⟨p1,p2,p3,p4⟩:=opIn (y:=OPB.mk k s dd ok id n) M3.out hf ho hl2;have CM:=Zh (fun W (hb:Below w3.heap.size w3 W)=>jJ5 (OPB.mk k s dd ok id n) W (HMW.out.grow (H3.out.low.trans (hb.mono H3.out.low.size))) (DO.grow p1 hb) p4);unfold OPB.agg at CM;simp only at CM;cases hmy:mayO (OPB.mk k s dd ok id n) with
  | true=>
   rw [hmy] at HTO CM;have HN:=Zh (show jQj L=some (OPB.mk k s dd ok id n).p by rw [HTO.out,if_pos ⟨rfl,rfl,rfl⟩]);clear hf ho p1 p2 p3 p4 HC HTO HMY hmy;go_wp2_with fail;refine (qQa H3.out).mono ?_;rintro e w4 ⟨rfl,rfl⟩;go_wp2_with fail;refine (CM.out _ (.refl _ _)).mono ?_;rintro e w5 ⟨rfl,hb5⟩;have Z5:=Zh (Z3.out.grow hb5);have Y5:=Zh (Y3.out.grow hb5);have M5:=Zh (show DM (fun g=>Z.heap.size<=g) w5 dd from defK.keep M3.out (fun g hg hl=>⟨hb5.block g hl,hg⟩) hb5.size);have HB5:=Zh (Qk hb5 HB3.out);clear hb5 u0 u1 u2 u3 u4 u5 u6 u7 u8 u9 u10 u11 u12 y0 y1 y2 y3 y4 y5 y6 y7 y8 y9 y10 y11 y12 zf zl Z3 Y3 M3 HB3;obtain ⟨u0,u1,u2,u3,u4,u5,u6,u7,u8,u9,u10,u11,u12⟩:=v13 (Z5.out);obtain ⟨y0,y1,y2,y3,y4,y5,y6,y7,y8,y9,y10,y11,y12⟩:=v13 (Y5.out);have zf:=Z5.out.fz;have zl:=Z5.out.lt;go_wp2_with fail;refine bodyPost_ret (v:=.tuple #[(OPB.mk k s dd ok id n).agg,.int .i64 0]) (by simp [results,Tryz.results19,go_sem,OPB.agg, *]) rfl ?_;have hm:=defK.keep M5.out (w':=Yq w5 w.heap.size 0 (OPB.mk k s dd ok id n).cells) (S':=fun g=>w.heap.size<=g) (fun g hg _=>by have h1:=HSZ.out;have h2:Z.heap.size<=g:=hg;exact ⟨Qb (by omega) _ _ _,by omega⟩) (by rw [Q6];exact Nat.le_refl _);exact ToR.yes HN.out hm (Qw (Nat.le_refl _) (OPB.mk k s dd ok id n).cells 0 _ HB5.out)
  | false=>
   rw [hmy] at HTO CM;have HN:=Zh (show jQj L=none by rw [HTO.out,if_neg (by simp)]);clear hf ho p1 p2 p3 p4 HC HTO HMY hmy;go_wp2_with fail;refine (qQa H3.out).mono ?_;rintro e w4 ⟨rfl,rfl⟩;go_wp2_with fail;refine (CM.out _ (.refl _ _)).mono ?_;rintro e w5 ⟨rfl,hb5⟩;have Z5:=Zh (Z3.out.grow hb5);have Y5:=Zh (Y3.out.grow hb5);have M5:=Zh (show DM (fun g=>Z.heap.size<=g) w5 dd from defK.keep M3.out (fun g hg hl=>⟨hb5.block g hl,hg⟩) hb5.size);have HB5:=Zh (Qk hb5 HB3.out);clear hb5 u0 u1 u2 u3 u4 u5 u6 u7 u8 u9 u10 u11 u12 y0 y1 y2 y3 y4 y5 y6 y7 y8 y9 y10 y11 y12 zf zl Z3 Y3 M3 HB3;obtain ⟨u0,u1,u2,u3,u4,u5,u6,u7,u8,u9,u10,u11,u12⟩:=v13 (Z5.out);obtain ⟨y0,y1,y2,y3,y4,y5,y6,y7,y8,y9,y10,y11,y12⟩:=v13 (Y5.out);have zf:=Z5.out.fz;have zl:=Z5.out.lt;go_wp2_with fail;refine bodyPost_ret (v:=.tuple #[OPB.zero.agg,.int .i64 2]) (by simp [results,Tryz.results19,go_sem,OPB.agg,OPB.zero,DB.zero, *]) rfl ?_;exact ToR.no HN.out (Qw (Nat.le_refl _) [.int .i64 0,.string ⟨#[]⟩,.string ⟨#[]⟩,.slice none 0 0,.slice none 0 0,.string ⟨#[]⟩,.string ⟨#[]⟩,.int .i64 0,.int .i64 0,.int .i64 0,.bool false,.int .u64 0,.int .i64 0] 0 _ HB5.out)
 ·
  have HN:=Zh (show jQj L=none by rw [HTO.out,if_neg (fun h=>hw ⟨h.1,h.2.1⟩)])
  have hwb:(!d&&r.isEmpty)=false:=by
   cases d with
   | true=>rfl
   | false=>
    cases r with
    | nil=>exact absurd ⟨rfl,rfl⟩ hw
    | cons c r=>rfl
  have HWB:=Zh hwb;clear HC HTO HMY hw hwb;go_wp2_with fail;refine (qQa H3.out).mono ?_;rintro e w4 ⟨rfl,rfl⟩;rw [show (!(r,d).2&&(r,d).1.isEmpty)=false from HWB.out];go_wp2_with fail;refine bodyPost_ret (v:=.tuple #[OPB.zero.agg,.int .i64 2]) (by simp [results,Tryz.results19,go_sem,OPB.agg,OPB.zero,DB.zero, *]) rfl ?_;exact ToR.no HN.out (Qw (Nat.le_refl _) [.int .i64 0,.string ⟨#[]⟩,.string ⟨#[]⟩,.slice none 0 0,.slice none 0 0,.string ⟨#[]⟩,.string ⟨#[]⟩,.int .i64 0,.int .i64 0,.int .i64 0,.bool false,.int .u64 0,.int .i64 0] 0 _ HB3.out)
end Go.Proofs.YtcbicdencgjfiaaGreatDoor
namespace Go.Proofs.YtcbicdencgjfiaaGreatDoor
open Go.RowKit Tryst
theorem DOB.lower {base base':Nat} {w:World} {d:DB} (h:DOB base w d) (hb:base'<=base):DOB base' w d:=⟨h.o,fun b o e=>Nat.le_trans hb (h.ga b o e),fun b o e=>Nat.le_trans hb (h.wa b o e),fun p hp=>⟨(h.ps p hp).1.keep (fun g hg _=>⟨rfl,Nat.le_trans hb hg⟩) (Nat.le_refl _),(h.ps p hp).2⟩,h.g6,h.w7⟩
def CtR (o:OPB) (w:World) (e:Ending) (w':World):Prop:=∃ y:OPB,e=.returned y.agg/\DOB w.heap.size w' y.d/\y.kind=o.kind/\y.ok=o.ok/\y.id=o.id/\y.n=o.n/\y.s.size<=2001/\y.d.j=⟨jQz o.d.j.kind,o.d.j.parts,o.d.j.need,o.d.j.window⟩/\Below w.heap.size w w'
theorem cut_c (o:OPB) (w:World) (hD:DArg w o.d) (hs:o.s.size<=9223372036854775807):Calls Tryz.prog 16 #[o.agg] w (CtR o w):=by
 have CF:=Zh (fun W (hb:Below w.heap.size w W)=>qJx o.d W (hD.grow hb));clear hD;obtain ⟨k,s,d,ok,id,n⟩:=o;simp only at CF hs;have HX:=Zh ((Var.new w 48 (OPB.mk k s d ok id n).cells).grow (Qj (.cells #[.int .i64 0,.string ⟨#[]⟩,.string ⟨#[]⟩,.slice none 0 0,.slice none 0 0,.string ⟨#[]⟩,.string ⟨#[]⟩,.int .i64 0,.int .i64 0,.int .i64 0,.bool false,.int .u64 0,.int .i64 0] 48) (.refl _ _)));have HZ:=Zh (Var.new (w.alloc (.cells (OPB.mk k s d ok id n).cells.toArray 48)) 48 [.int .i64 0,.string ⟨#[]⟩,.string ⟨#[]⟩,.slice none 0 0,.slice none 0 0,.string ⟨#[]⟩,.string ⟨#[]⟩,.int .i64 0,.int .i64 0,.int .i64 0,.bool false,.int .u64 0,.int .i64 0]);have HB:=Zh (Qj (.cells #[.int .i64 0,.string ⟨#[]⟩,.string ⟨#[]⟩,.slice none 0 0,.slice none 0 0,.string ⟨#[]⟩,.string ⟨#[]⟩,.int .i64 0,.int .i64 0,.int .i64 0,.bool false,.int .u64 0,.int .i64 0] 48) (Qj (.cells (OPB.mk k s d ok id n).cells.toArray 48) (.refl w.heap.size w)));rw [show (w.alloc (.cells (OPB.mk k s d ok id n).cells.toArray 48)).heap.size=w.heap.size+1 by simp] at HZ;unfold OPB.cells at HX HZ HB;unfold OPB.agg;unfold DB.agg at CF;simp only at CF HX HZ HB ⊢;go_enter Tryz.func16,Tryz.ntmps16;go_upto_region 1 with fail
 revert HX HZ HB;generalize (w.alloc (.cells _ 48)).alloc (.cells _ 48)=Z;intro HX HZ HB;have hl1:=HX.out.lt;have hl2:=HZ.out.lt;obtain ⟨x0,x1,x2,x3,x4,x5,x6,x7,x8,x9,x10,x11,x12⟩:=v13 (HX.out);obtain ⟨u0,u1,u2,u3,u4,u5,u6,u7,u8,u9,u10,u11,u12⟩:=v13 (HZ.out);have xf:=HX.out.fz;have zf:=HZ.out.fz
 by_cases hlt:2001 < s.size
 ·
  have hle:2001<=s.size:=by omega
  have HX2:Hid (Var (Z.setCell ⟨w.heap.size,1,none⟩ (.string (s.extract 0 2001))) w.heap.size 48 [.int .i64 k,.string (s.extract 0 2001),.string d.name,.slice d.ga d.gl.length d.gc,.slice d.wa d.wl.length d.wc,.string d.key,.string d.j.kind,.int .i64 d.j.parts,.int .i64 d.j.need,.int .i64 d.j.window,.bool ok,.int .u64 id,.int .i64 n]):=Zh (HX.out.set 1 (.string (s.extract 0 2001)));have HZ2:=Zh (HZ.out.away (c:=w.heap.size) (o:=1) (by omega) (.string (s.extract 0 2001)));have HBB:=Zh (HB.out.setCell (p:=⟨w.heap.size,1,none⟩) (Nat.le_refl _) (.string (s.extract 0 2001)));have HSZ:Hid ((s.extract 0 2001).size<=2001):=Zh (by rw [ByteArray.size_extract];omega);clear HX HZ HB;go_wp2_with fail;refine (CF.out _ HBB.out).mono ?_;rintro e w2 ⟨d',rfl,hd,hb,hj⟩;have HD:=Zh hd;have HJ:=Zh hj;have hb0:=HZ2.out.lt;have V2:=Zh (HX2.out.grow hb);have Z2:=Zh (HZ2.out.grow hb);have B2:=Zh (Qk hb HBB.out);have hzz:=hb.size;clear hd hb hj HX2 HZ2 x0 x1 x2 x3 x4 x5 x6 x7 x8 x9 x10 x11 x12 xf u0 u1 u2 u3 u4 u5 u6 u7 u8 u9 u10 u11 u12 zf;obtain ⟨nm,ga,gl,gc,wa,wl,wc,ky,⟨kd,dp,dn,dx⟩⟩:=d';dsimp only [DB.agg];obtain ⟨x0,x1,x2,x3,x4,x5,x6,x7,x8,x9,x10,x11,x12⟩:=v13 (V2.out);obtain ⟨u0,u1,u2,u3,u4,u5,u6,u7,u8,u9,u10,u11,u12⟩:=v13 (Z2.out);have xf:=V2.out.fz;have zf:=Z2.out.fz;have hl1:=V2.out.lt;have hl2:=Z2.out.lt;go_wp2_with fail;refine bodyPost_ret (v:=(OPB.mk k (s.extract 0 2001) (DB.mk nm ga gl gc wa wl wc ky ⟨kd,dp,dn,dx⟩) ok id n).agg) (by simp [results,Tryz.results16,go_sem,OPB.agg, *]) rfl ?_;refine ⟨OPB.mk k (s.extract 0 2001) (DB.mk nm ga gl gc wa wl wc ky ⟨kd,dp,dn,dx⟩) ok id n,rfl,?_,rfl,rfl,rfl,rfl,HSZ.out,HJ.out,?_⟩
  · exact DOB.lower (HD.out.keep (w:=Yq (Yq w2 w.heap.size 2 [.string nm,.slice ga gl.length gc,.slice wa wl.length wc,.string ky,.string kd,.int .i64 dp,.int .i64 dn,.int .i64 dx]) (w.heap.size+1) 0 (OPB.mk k (s.extract 0 2001) (DB.mk nm ga gl gc wa wl wc ky ⟨kd,dp,dn,dx⟩) ok id n).cells) (fun j hj=>(Qb (by omega) _ _ _).trans (Qb (by omega) _ _ _)) (by rw [Q6,Q6];exact Nat.le_refl _)) (by omega)
  · exact Qw (by omega) (OPB.mk k (s.extract 0 2001) (DB.mk nm ga gl gc wa wl wc ky ⟨kd,dp,dn,dx⟩) ok id n).cells 0 _ (Qw (Nat.le_refl _) [.string nm,.slice ga gl.length gc,.slice wa wl.length wc,.string ky,.string kd,.int .i64 dp,.int .i64 dn,.int .i64 dx] 2 _ B2.out)
 ·
  have HX2:=HX;have HZ2:=HZ;have HBB:=HB;have HSZ:Hid (s.size<=2001):=Zh (by omega);clear HX HZ HB;go_wp2_with fail;refine (CF.out _ HBB.out).mono ?_;rintro e w2 ⟨d',rfl,hd,hb,hj⟩;have HD:=Zh hd;have HJ:=Zh hj;have hb0:=HZ2.out.lt;have V2:=Zh (HX2.out.grow hb);have Z2:=Zh (HZ2.out.grow hb);have B2:=Zh (Qk hb HBB.out);have hzz:=hb.size;clear hd hb hj HX2 HZ2 x0 x1 x2 x3 x4 x5 x6 x7 x8 x9 x10 x11 x12 xf u0 u1 u2 u3 u4 u5 u6 u7 u8 u9 u10 u11 u12 zf;obtain ⟨nm,ga,gl,gc,wa,wl,wc,ky,⟨kd,dp,dn,dx⟩⟩:=d';dsimp only [DB.agg];obtain ⟨x0,x1,x2,x3,x4,x5,x6,x7,x8,x9,x10,x11,x12⟩:=v13 (V2.out);obtain ⟨u0,u1,u2,u3,u4,u5,u6,u7,u8,u9,u10,u11,u12⟩:=v13 (Z2.out);have xf:=V2.out.fz;have zf:=Z2.out.fz;have hl1:=V2.out.lt;have hl2:=Z2.out.lt;go_wp2_with fail;refine bodyPost_ret (v:=(OPB.mk k s (DB.mk nm ga gl gc wa wl wc ky ⟨kd,dp,dn,dx⟩) ok id n).agg) (by simp [results,Tryz.results16,go_sem,OPB.agg, *]) rfl ?_;refine ⟨OPB.mk k s (DB.mk nm ga gl gc wa wl wc ky ⟨kd,dp,dn,dx⟩) ok id n,rfl,?_,rfl,rfl,rfl,rfl,HSZ.out,HJ.out,?_⟩
  · exact DOB.lower (HD.out.keep (w:=Yq (Yq w2 w.heap.size 2 [.string nm,.slice ga gl.length gc,.slice wa wl.length wc,.string ky,.string kd,.int .i64 dp,.int .i64 dn,.int .i64 dx]) (w.heap.size+1) 0 (OPB.mk k s (DB.mk nm ga gl gc wa wl wc ky ⟨kd,dp,dn,dx⟩) ok id n).cells) (fun j hj=>(Qb (by omega) _ _ _).trans (Qb (by omega) _ _ _)) (by rw [Q6,Q6];exact Nat.le_refl _)) (by omega)
  · exact Qw (by omega) (OPB.mk k s (DB.mk nm ga gl gc wa wl wc ky ⟨kd,dp,dn,dx⟩) ok id n).cells 0 _ (Qw (Nat.le_refl _) [.string nm,.slice ga gl.length gc,.slice wa wl.length wc,.string ky,.string kd,.int .i64 dp,.int .i64 dn,.int .i64 dx] 2 _ B2.out)
