import Derived.Deep.QuietTactic
import Derived.BigQuiet
import Derived.Test.YtcbicdencgjfiaaGreatDoorEyeA
import Derived.Test.YtcbicdencgjfiaaGreatDoorFewDB14
import Derived.Test.YtcbicdencgjfiaaGreatDoorPenF
set_option linter.all false
set_option maxHeartbeats 8000000
set_option maxRecDepth 20000
namespace Go.Proofs.YtcbicdencgjfiaaGreatDoor
open Go.RowKit Tryst
theorem _root_.Tryst.Var.oth {b g:Nat} {w w':World} {T:TypeId} {cs:List Value} (h:Var w g T cs) (k:Oth b w w') (hg:g≠b):Var w' g T cs:=(k.same g h.lt hg).trans h
theorem _root_.Tryst.Oth.mono {b:Nat} {v w w':World} (h:Oth b w w') (hb:Below v.heap.size v w):Oth b v w':=(Oth.below hb).trans h
theorem _root_.Tryst.Oth.setsB {b g:Nat} {v w:World} (h:Oth b v w) (hg:v.heap.size<=g) (i:Nat) (vs:List Value):Oth b v (Yq w g i vs):=⟨by rw [Q6];exact h.size,fun k hk hb=>(Qb (by omega) vs i w).trans (h.same k hk hb)⟩
theorem _root_.Tryst.POwn.oth {b:Nat} {w w':World} {S:Nat->Prop} {p:PB} (h:POwn w S p) (k:Oth b w w') (hb:∀ g,S g->g≠b):POwn w' S p:=h.keep (fun g hg hl=>⟨k.same g hl (hb g hg),hg⟩) k.size
theorem EyeS.sets {W0 w:World} {b g:Nat} {s:List UInt8 × Bool} (h:EyeS W0 b s w) (hg:g≠b) (hW:W0.heap.size<=g) (i:Nat) (vs:List Value):EyeS W0 b s (Yq w g i vs):=⟨(Qb (fun e=>hg e.symm) vs i w).trans h.v,Qw hW vs i w h.low,h.ge,h.n⟩
theorem _root_.Tryst.POwn.sets {g:Nat} {w:World} {S S':Nat->Prop} {p:PB} (h:POwn w S p) (hg:∀ k,S k->k≠g/\S' k) (i:Nat) (vs:List Value):POwn (Yq w g i vs) S' p:=h.keep (fun k hk _=>⟨Qb (hg k hk).1 vs i w,(hg k hk).2⟩) (by rw [Q6];exact Nat.le_refl _)
theorem _root_.Tryst.POwn.zero (w:World) (S:Nat->Prop):POwn w S (.mk ⟨#[]⟩ ⟨#[]⟩ false 0 ⟨#[]⟩ none 0 []):=.mk _ _ _ _ _ _ _ _ (by decide) (by decide) (by decide) (by decide) (by decide) (Row.nil _ _ _) ⟨Nat.le_refl _,fun A h=>(by cases h),fun _=>rfl⟩ (fun b o h=>by cases h) (fun b o h=>by cases h) (fun x h=>by cases h)
end Go.Proofs.YtcbicdencgjfiaaGreatDoor
namespace Go.Proofs.YtcbicdencgjfiaaGreatDoor
open Go.RowKit Tryst
theorem _root_.Tryst.ROwn.oth {e:TypeId} {k b base:Nat} {w w':World} {v:Value} {l:List (List Value)} (h:ROwn e k w base v l) (o:Oth b w w') (hb:b < base):ROwn e k w' base v l:=by
 refine jQN h (fun A n c hv=>?_)
 rcases h.2 with ⟨hv2,_⟩ | ⟨g,cap,cur,hv2,hg,hh,_⟩
 · rw [hv2] at hv;cases hv
 · rw [hv2] at hv;cases hv;exact o.same g (h.lt g (by rw [hv2];rfl)).2 (by omega)
structure EK (β:Type) where
 T:TypeId
 k:Nat
 cells:β->List Value
 val:β->Value
 E:(Nat->Prop)->World->β->Prop
 len:∀ y,(cells y).length=k
 one:∀ y,∀ u∈cells y,u.oneCell'=true
 keep:∀ {S S':Nat->Prop} {w w':World} {y:β},E S w y->(∀ g,S g->g < w.heap.size->w'.heap[g]?=w.heap[g]?/\S' g)->w.heap.size<=w'.heap.size->E S' w' y
section
variable {α β:Type} (X:EK β) (p:β->α)
variable {X p}
end
def strK:EK ByteArray where
 T:=9
 k:=1
 cells:=fun s=>[.string s]
 val:=fun s=>.string s
 E:=fun _ _ _=>True
 len:=fun y=>rfl
 one:=fun y u hu=>by
  simp at hu;subst hu;rfl
 keep:=fun _ _ _=>trivial
def idK:EK Nat where
 T:=46
 k:=1
 cells:=fun n=>[.int .u64 n]
 val:=fun n=>.int .u64 n
 E:=fun _ _ _=>True
 len:=fun y=>rfl
 one:=fun y u hu=>by
  simp at hu;subst hu;rfl
 keep:=fun _ _ _=>trivial
end Go.Proofs.YtcbicdencgjfiaaGreatDoor
namespace Go.Proofs.YtcbicdencgjfiaaGreatDoor
open Go.RowKit Tryst
section
variable {α β:Type} (X:EK β)
structure LM (S:Nat->Prop) (w:World) (a:Option Addr) (c:Nat) (ys:List β):Prop where
 row:Row w a X.k (ys.map X.cells)
 sl:Sl a c ys.length
 at':∀ b o,a=some ⟨b,o,none⟩->S b/\b < w.heap.size
 mem:∀ y∈ys,X.E S w y
variable {X}
theorem LM.keep {S S':Nat->Prop} {w w':World} {a:Option Addr} {c:Nat} {ys:List β} (h:LM X S w a c ys) (hk:∀ g,S g->g < w.heap.size->w'.heap[g]?=w.heap[g]?/\S' g) (hz:w.heap.size<=w'.heap.size):LM X S' w' a c ys:=
 ⟨h.row.block (fun b o e=>(hk b (h.at' b o e).1 (h.at' b o e).2).1) hz,h.sl,fun b o e=>⟨(hk b (h.at' b o e).1 (h.at' b o e).2).2,Nat.lt_of_lt_of_le (h.at' b o e).2 hz⟩,fun y hy=>X.keep (h.mem y hy) hk hz⟩
theorem LM.of {S:Nat->Prop} {w:World} {base:Nat} {v:Value} {ys:List β} (hk:0 < X.k) (hr:ROwn X.T X.k w base v (ys.map X.cells)) (hm:∀ y∈ys,X.E (fun g=>base<=g/\Away v g) w y) (hS:∀ g,base<=g->S g):∃ a c,v=.slice a ys.length c/\LM X S w a c ys:=by
 obtain ⟨a,c,h1,h2,h3,h4⟩:=ROwn.row hr (fun x hx=>by
  obtain ⟨y,_,rfl⟩:=List.mem_map.1 hx;exact X.len y) hk
 rw [List.length_map] at h1 h3;exact ⟨a,c,h1,h2,h3,fun b o e=>⟨hS b (h4 b o e).1,(h4 b o e).2.1⟩,fun y hy=>X.keep (hm y hy) (fun g hg _=>⟨rfl,hS g hg.1⟩) (Nat.le_refl _)⟩
theorem LM.nil (S:Nat->Prop) (w:World):LM X S w none 0 []:=⟨Row.nil _ _ _,⟨Nat.le_refl _,fun A h=>(by cases h),fun _=>rfl⟩,fun b o h=>(by cases h),fun y h=>by cases h⟩
end
theorem EyeS.away {W0 w:World} {b g o:Nat} {s:List UInt8 × Bool} (h:EyeS W0 b s w) (hg:g≠b) (hW:W0.heap.size<=g) (u:Value):EyeS W0 b s (w.setCell ⟨g,o,none⟩ u):=⟨h.v.away hg u,h.low.setCell (p:=⟨g,o,none⟩) hW u,h.ge,h.n⟩
structure ED (W0 w:World) (b:Nat) (T:TypeId) (z:List Value) (s:List UInt8 × Bool) (vs:List Value) (W:World):Prop where
 eye:EyeS W0 b s W
 oth:Oth b w W
 hb:b < w.heap.size
 zz:Var W w.heap.size T z
 vv:Var W (w.heap.size+1) T vs
section
variable {W0 w W W':World} {b:Nat} {T:TypeId} {z vs:List Value} {s s':List UInt8 × Bool}
theorem ED.start (h:EyeS W0 b s w):ED W0 w b T z s z ((w.alloc (.cells z.toArray T)).alloc (.cells z.toArray T)):=by
 have h1:=Var.new w T z;have h2:=Var.new (w.alloc (.cells z.toArray T)) T z;rw [show (w.alloc (.cells z.toArray T)).heap.size=w.heap.size+1 by simp] at h2;have hb:Below w.heap.size w ((w.alloc (.cells z.toArray T)).alloc (.cells z.toArray T)):=Qj _ (Qj _ (.refl _ _));exact ⟨h.quiet hb,Oth.below hb,h.v.lt,h1.grow (Qj _ (.refl _ _)),h2⟩
theorem ED.step (h:ED W0 w b T z s vs W) (h1:EyeS W0 b s' W') (h2:Oth b W W') (i:Nat) (v:Value):ED W0 w b T z s' (vs.set i v) (W'.setCell ⟨w.heap.size+1,i,none⟩ v):=by
 have hb:=h.hb;have hge:=h.eye.ge;refine ⟨h1.away (by omega) (by omega) v,?_,h.hb,(h.zz.oth h2 (by omega)).away (by omega) v,(h.vv.oth h2 (by omega)).set i v⟩;have h3:=h.oth.trans h2;exact ⟨by simpa using h3.size,fun k hk hne=>(Below.heap_setCell _ _ _ _ (show k≠w.heap.size+1 by omega)).trans (h3.same k hk hne)⟩
theorem ED.fz (h:ED W0 w b T z s vs W) (h2:Oth b W W') (i:Nat):W'.frozen? ⟨w.heap.size+1,i,none⟩=false:=(h.vv.oth h2 (by have:=h.hb;omega)).fz i
theorem ED.cl (h:ED W0 w b T z s vs W) (h2:Oth b W W') (i:Nat) {v:Value} (hv:vs[i]?=some v):W'.cell? ⟨w.heap.size+1,i,none⟩=some v:=((h.vv.oth h2 (by have:=h.hb;omega)).cell i).trans hv
theorem LM.step {β:Type} {X:EK β} {a:Option Addr} {c:Nat} {ys:List β} (h:LM X (fun g=>w.heap.size+1 < g) W a c ys) (hb:b < w.heap.size) (h2:Oth b W W') (i:Nat) (v:Value):LM X (fun g=>w.heap.size+1 < g) (W'.setCell ⟨w.heap.size+1,i,none⟩ v) a c ys:=
 h.keep (fun g hg hl=>⟨(Below.heap_setCell _ _ _ _ (show g≠w.heap.size+1 by omega)).trans (h2.same g hl (by omega)),hg⟩) (by simpa using h2.size)
theorem LM.put {β:Type} {X:EK β} {a:Option Addr} {c:Nat} {ys:List β} (h:LM X (fun g=>w.heap.size+1 < g) W a c ys) (i:Nat) (v:Value):LM X (fun g=>w.heap.size+1 < g) (W.setCell ⟨w.heap.size+1,i,none⟩ v) a c ys:=
 h.keep (fun g hg hl=>⟨Below.heap_setCell _ _ _ _ (show g≠w.heap.size+1 by omega),hg⟩) (by simp)
def setL:List Value->Nat->List Value->List Value
 | cs,_,[]=>cs
 | cs,i,v :: r=>setL (cs.set i v) (i+1) r
theorem zQB {g:Nat}:∀ (us cs:List Value) (i:Nat) (w:World),Var w g T cs->Var (Yq w g i us) g T (setL cs i us)
 | [],_,_,_,h=>h
 | v :: r,cs,i,w,h=>zQB r (cs.set i v) (i+1) _ (h.set i v)
theorem ED.fin (h:ED W0 w b T z s vs W) (us:List Value):EyeS W0 b s (Yq W w.heap.size 0 us)/\Oth b w (Yq W w.heap.size 0 us):=
 ⟨h.eye.sets (by have:=h.hb;omega) (by have:=h.hb;have:=h.eye.ge;omega) 0 us,h.oth.setsB (Nat.le_refl _) 0 us⟩
theorem LM.fin {β:Type} {X:EK β} {a:Option Addr} {c:Nat} {ys:List β} (h:LM X (fun g=>w.heap.size+1 < g) W a c ys) (us:List Value):LM X (fun g=>w.heap.size<=g) (Yq W w.heap.size 0 us) a c ys:=
 h.keep (fun g hg hl=>⟨Qb (by omega) us 0 W,by omega⟩) (by rw [Q6];exact Nat.le_refl _)
end
end Go.Proofs.YtcbicdencgjfiaaGreatDoor
namespace Go.Proofs.YtcbicdencgjfiaaGreatDoor
open Go.RowKit Tryst
end Go.Proofs.YtcbicdencgjfiaaGreatDoor
namespace Go.Proofs.YtcbicdencgjfiaaGreatDoor
open Go.RowKit Tryst
end Go.Proofs.YtcbicdencgjfiaaGreatDoor
namespace Go.Proofs.YtcbicdencgjfiaaGreatDoor
open Go.RowKit Tryst
theorem qQa {W0 w:World} {b:Nat} {s:List UInt8 × Bool} (h:EyeS W0 b s w) :
  Calls Tryz.prog 42 #[.pointer (some ⟨b,0,none⟩)] w fun e w'=>e=.returned (.bool (!s.2&&s.1.isEmpty))/\w=w':=by
 obtain ⟨l,d⟩:=s;obtain ⟨hz,x0,x1,z0,z1⟩:=ebox h;simp only at x0 x1;clear h;cases d with
 | true=>
  go_enter Tryz.func42,Tryz.ntmps42;go_wp2_with fail;go_ret;exact ⟨rfl,rfl⟩
 | false=>
  cases l with
  | nil=>
   go_enter Tryz.func42,Tryz.ntmps42;go_wp2_with fail;go_ret;exact ⟨rfl,rfl⟩
  | cons c r=>
   have b1:(⟨(c :: r).toArray⟩:ByteArray).toList.isEmpty=false:=by rw [Qp];rfl
   go_enter Tryz.func42,Tryz.ntmps42;go_wp2_with fail;go_ret;exact ⟨rfl,rfl⟩
end Go.Proofs.YtcbicdencgjfiaaGreatDoor
namespace Go.Proofs.YtcbicdencgjfiaaGreatDoor
open Go.RowKit Tryst
theorem smT0 {W0 w:World} {b:Nat} {l:List UInt8} (f:Value) (h:EyeS W0 b (l,true) w) :
  Calls Tryz.prog 93 #[.pointer (some ⟨b,0,none⟩),f] w (EyeR W0 b (l,true) (.slice none 0 0) w):=by
 have H0:=Zh h;have CI:=Zh (qQ7 h);rw [show idR (l,true)=(0,(l,true)) from rfl] at CI;clear h;go_enter Tryz.func93,Tryz.ntmps93;go_wp2_with fail;refine CI.out.mono ?_;rintro e w1 ⟨rfl,h1,h2⟩;have H1:=Zh h1;have O1:=Zh h2;clear h1 h2 CI;obtain ⟨hz,x0,x1,z0,z1⟩:=ebox H1.out;simp only at x0 x1;go_wp2_with fail;go_loopw [5,6] (fun n v wr=>n=.int .u64 0/\v=.slice none 0 0/\Hid (wr=w1)) (fun _ _ _=>0)
 case atStart=>exact ⟨rfl,rfl,Zh rfl⟩
 case round=>
  obtain ⟨rfl,rfl,hwr⟩:=hrel;have hwr:=hwr.out;subst hwr;go_wp2_with fail;go_ret;exact ⟨rfl,H1.out,O1.out⟩
theorem smL0 {W0 w:World} {b:Nat} {l:List UInt8} (f:Value) (h:EyeS W0 b (l,true) w) :
  Calls Tryz.prog 95 #[.pointer (some ⟨b,0,none⟩),f] w (EyeR W0 b (l,true) (.slice none 0 0) w):=by
 have H0:=Zh h;have CI:=Zh (qQ7 h);rw [show idR (l,true)=(0,(l,true)) from rfl] at CI;clear h;go_enter Tryz.func95,Tryz.ntmps95;go_wp2_with fail;refine CI.out.mono ?_;rintro e w1 ⟨rfl,h1,h2⟩;have H1:=Zh h1;have O1:=Zh h2;clear h1 h2 CI;obtain ⟨hz,x0,x1,z0,z1⟩:=ebox H1.out;simp only at x0 x1;go_wp2_with fail;go_loopw [5,6] (fun n v wr=>n=.int .u64 0/\v=.slice none 0 0/\Hid (wr=w1)) (fun _ _ _=>0)
 case atStart=>exact ⟨rfl,rfl,Zh rfl⟩
 case round=>
  obtain ⟨rfl,rfl,hwr⟩:=hrel;have hwr:=hwr.out;subst hwr;go_wp2_with fail;go_ret;exact ⟨rfl,H1.out,O1.out⟩
theorem smS0 {W0 w:World} {b:Nat} {l:List UInt8} (f:Value) (h:EyeS W0 b (l,true) w) :
  Calls Tryz.prog 97 #[.pointer (some ⟨b,0,none⟩),f] w (EyeR W0 b (l,true) (.slice none 0 0) w):=by
 have H0:=Zh h;have CI:=Zh (qQ7 h);rw [show idR (l,true)=(0,(l,true)) from rfl] at CI;clear h;go_enter Tryz.func97,Tryz.ntmps97;go_wp2_with fail;refine CI.out.mono ?_;rintro e w1 ⟨rfl,h1,h2⟩;have H1:=Zh h1;have O1:=Zh h2;clear h1 h2 CI;obtain ⟨hz,x0,x1,z0,z1⟩:=ebox H1.out;simp only at x0 x1;go_wp2_with fail;go_loopw [5,6] (fun n v wr=>n=.int .u64 0/\v=.slice none 0 0/\Hid (wr=w1)) (fun _ _ _=>0)
 case atStart=>exact ⟨rfl,rfl,Zh rfl⟩
 case round=>
  obtain ⟨rfl,rfl,hwr⟩:=hrel;have hwr:=hwr.out;subst hwr;go_wp2_with fail;go_ret;exact ⟨rfl,H1.out,O1.out⟩
theorem smO0 {W0 w:World} {b:Nat} {l:List UInt8} (f:Value) (h:EyeS W0 b (l,true) w) :
  Calls Tryz.prog 99 #[.pointer (some ⟨b,0,none⟩),f] w (EyeR W0 b (l,true) (.slice none 0 0) w):=by
 have H0:=Zh h;have CI:=Zh (qQ7 h);rw [show idR (l,true)=(0,(l,true)) from rfl] at CI;clear h;go_enter Tryz.func99,Tryz.ntmps99;go_wp2_with fail;refine CI.out.mono ?_;rintro e w1 ⟨rfl,h1,h2⟩;have H1:=Zh h1;have O1:=Zh h2;clear h1 h2 CI;obtain ⟨hz,x0,x1,z0,z1⟩:=ebox H1.out;simp only at x0 x1;go_wp2_with fail;go_loopw [5,6] (fun n v wr=>n=.int .u64 0/\v=.slice none 0 0/\Hid (wr=w1)) (fun _ _ _=>0)
 case atStart=>exact ⟨rfl,rfl,Zh rfl⟩
 case round=>
  obtain ⟨rfl,rfl,hwr⟩:=hrel;have hwr:=hwr.out;subst hwr;go_wp2_with fail;go_ret;exact ⟨rfl,H1.out,O1.out⟩
theorem smD0 {W0 w:World} {b:Nat} {l:List UInt8} (f:Value) (h:EyeS W0 b (l,true) w) :
  Calls Tryz.prog 101 #[.pointer (some ⟨b,0,none⟩),f] w (EyeR W0 b (l,true) (.slice none 0 0) w):=by
 have H0:=Zh h;have CI:=Zh (qQ7 h);rw [show idR (l,true)=(0,(l,true)) from rfl] at CI;clear h;go_enter Tryz.func101,Tryz.ntmps101;go_wp2_with fail;refine CI.out.mono ?_;rintro e w1 ⟨rfl,h1,h2⟩;have H1:=Zh h1;have O1:=Zh h2;clear h1 h2 CI;obtain ⟨hz,x0,x1,z0,z1⟩:=ebox H1.out;simp only at x0 x1;go_wp2_with fail;go_loopw [5,6] (fun n v wr=>n=.int .u64 0/\v=.slice none 0 0/\Hid (wr=w1)) (fun _ _ _=>0)
 case atStart=>exact ⟨rfl,rfl,Zh rfl⟩
 case round=>
  obtain ⟨rfl,rfl,hwr⟩:=hrel;have hwr:=hwr.out;subst hwr;go_wp2_with fail;go_ret;exact ⟨rfl,H1.out,O1.out⟩
end Go.Proofs.YtcbicdencgjfiaaGreatDoor
namespace Go.Proofs.YtcbicdencgjfiaaGreatDoor
open Go.RowKit Tryst
theorem DOB.lower {base base':Nat} {w:World} {d:DB} (h:DOB base w d) (hb:base'<=base):DOB base' w d:=⟨h.o,fun b o e=>Nat.le_trans hb (h.ga b o e),fun b o e=>Nat.le_trans hb (h.wa b o e),fun p hp=>⟨(h.ps p hp).1.keep (fun g hg _=>⟨rfl,Nat.le_trans hb hg⟩) (Nat.le_refl _),(h.ps p hp).2⟩,h.g6,h.w7⟩
def CtR (o:OPB) (w:World) (e:Ending) (w':World):Prop:=∃ y:OPB,e=.returned y.agg/\DOB w.heap.size w' y.d/\y.kind=o.kind/\y.ok=o.ok/\y.id=o.id/\y.n=o.n/\y.s.size<=2001/\y.d.j=⟨jQz o.d.j.kind,o.d.j.parts,o.d.j.need,o.d.j.window⟩/\Below w.heap.size w w'
theorem cut_c (o:OPB) (w:World) (hD:DArg w o.d) (hs:o.s.size<=9223372036854775807):Calls Tryz.prog 16 #[o.agg] w (CtR o w):=by
 have CF:=Zh (fun W (hb:Below w.heap.size w W)=>qJx o.d W (hD.grow hb));clear hD;obtain ⟨k,s,d,ok,id,n⟩:=o;simp only at CF hs;have HX:=Zh ((Var.new w 48 (OPB.mk k s d ok id n).cells).grow (Qj (.cells #[.int .i64 0,.string ⟨#[]⟩,.string ⟨#[]⟩,.slice none 0 0,.slice none 0 0,.string ⟨#[]⟩,.string ⟨#[]⟩,.int .i64 0,.int .i64 0,.int .i64 0,.bool false,.int .u64 0,.int .i64 0] 48) (.refl _ _)));have HZ:=Zh (Var.new (w.alloc (.cells (OPB.mk k s d ok id n).cells.toArray 48)) 48 [.int .i64 0,.string ⟨#[]⟩,.string ⟨#[]⟩,.slice none 0 0,.slice none 0 0,.string ⟨#[]⟩,.string ⟨#[]⟩,.int .i64 0,.int .i64 0,.int .i64 0,.bool false,.int .u64 0,.int .i64 0]);have HB:=Zh (Qj (.cells #[.int .i64 0,.string ⟨#[]⟩,.string ⟨#[]⟩,.slice none 0 0,.slice none 0 0,.string ⟨#[]⟩,.string ⟨#[]⟩,.int .i64 0,.int .i64 0,.int .i64 0,.bool false,.int .u64 0,.int .i64 0] 48) (Qj (.cells (OPB.mk k s d ok id n).cells.toArray 48) (.refl w.heap.size w)));rw [show (w.alloc (.cells (OPB.mk k s d ok id n).cells.toArray 48)).heap.size=w.heap.size+1 by simp] at HZ;unfold OPB.cells at HX HZ HB;unfold OPB.agg;unfold DB.agg at CF;simp only at CF HX HZ HB ⊢;go_enter Tryz.func16,Tryz.ntmps16;go_upto_region 1 with fail
 revert HX HZ HB;generalize (w.alloc (.cells _ 48)).alloc (.cells _ 48)=Z;intro HX HZ HB;have hl1:=HX.out.lt;have hl2:=HZ.out.lt;obtain ⟨x0,x1,x2,x3,x4,x5,x6,x7,x8,x9,x10,x11,x12⟩:=v13 (HX.out);obtain ⟨u0,u1,u2,u3,u4,u5,u6,u7,u8,u9,u10,u11,u12⟩:=v13 (HZ.out);have xf:=HX.out.fz;have zf:=HZ.out.fz
 by_cases hlt:2001 < s.size
 ·
  have hle:2001<=s.size:=by omega
  have HX2:Hid (Var (Z.setCell ⟨w.heap.size,1,none⟩ (.string (s.extract 0 2001))) w.heap.size 48 [.int .i64 k,.string (s.extract 0 2001),.string d.name,.slice d.ga d.gl.length d.gc,.slice d.wa d.wl.length d.wc,.string d.key,.string d.j.kind,.int .i64 d.j.parts,.int .i64 d.j.need,.int .i64 d.j.window,.bool ok,.int .u64 id,.int .i64 n]):=Zh (HX.out.set 1 (.string (s.extract 0 2001)));have HZ2:=Zh (HZ.out.away (c:=w.heap.size) (o:=1) (by omega) (.string (s.extract 0 2001)));have HBB:=Zh (HB.out.setCell (p:=⟨w.heap.size,1,none⟩) (Nat.le_refl _) (.string (s.extract 0 2001)));have HSZ:Hid ((s.extract 0 2001).size<=2001):=Zh (by rw [ByteArray.size_extract];omega);clear HX HZ HB;go_wp2_with fail;refine (CF.out _ HBB.out).mono ?_;rintro e w2 ⟨d',rfl,hd,hb,hj⟩;have HD:=Zh hd;have HJ:=Zh hj;have hb0:=HZ2.out.lt;have V2:=Zh (HX2.out.grow hb);have Z2:=Zh (HZ2.out.grow hb);have B2:=Zh (Qk hb HBB.out);have hzz:=hb.size;clear hd hb hj HX2 HZ2 x0 x1 x2 x3 x4 x5 x6 x7 x8 x9 x10 x11 x12 xf u0 u1 u2 u3 u4 u5 u6 u7 u8 u9 u10 u11 u12 zf;obtain ⟨nm,ga,gl,gc,wa,wl,wc,ky,⟨kd,dp,dn,dx⟩⟩:=d';dsimp only [DB.agg];obtain ⟨x0,x1,x2,x3,x4,x5,x6,x7,x8,x9,x10,x11,x12⟩:=v13 (V2.out);obtain ⟨u0,u1,u2,u3,u4,u5,u6,u7,u8,u9,u10,u11,u12⟩:=v13 (Z2.out);have xf:=V2.out.fz;have zf:=Z2.out.fz;have hl1:=V2.out.lt;have hl2:=Z2.out.lt;go_wp2_with fail;refine bodyPost_ret (v:=(OPB.mk k (s.extract 0 2001) (DB.mk nm ga gl gc wa wl wc ky ⟨kd,dp,dn,dx⟩) ok id n).agg) (by simp [results,Tryz.results16,go_sem,OPB.agg, *]) rfl ?_;refine ⟨OPB.mk k (s.extract 0 2001) (DB.mk nm ga gl gc wa wl wc ky ⟨kd,dp,dn,dx⟩) ok id n,rfl,?_,rfl,rfl,rfl,rfl,HSZ.out,HJ.out,?_⟩
  · exact DOB.lower (HD.out.keep (w:=Yq (Yq w2 w.heap.size 2 [.string nm,.slice ga gl.length gc,.slice wa wl.length wc,.string ky,.string kd,.int .i64 dp,.int .i64 dn,.int .i64 dx]) (w.heap.size+1) 0 (OPB.mk k (s.extract 0 2001) (DB.mk nm ga gl gc wa wl wc ky ⟨kd,dp,dn,dx⟩) ok id n).cells) (fun j hj=>(Qb (by omega) _ _ _).trans (Qb (by omega) _ _ _)) (by rw [Q6,Q6];exact Nat.le_refl _)) (by omega)
  · exact Qw (by omega) (OPB.mk k (s.extract 0 2001) (DB.mk nm ga gl gc wa wl wc ky ⟨kd,dp,dn,dx⟩) ok id n).cells 0 _ (Qw (Nat.le_refl _) [.string nm,.slice ga gl.length gc,.slice wa wl.length wc,.string ky,.string kd,.int .i64 dp,.int .i64 dn,.int .i64 dx] 2 _ B2.out)
 ·
  have HX2:=HX;have HZ2:=HZ;have HBB:=HB;have HSZ:Hid (s.size<=2001):=Zh (by omega);clear HX HZ HB;go_wp2_with fail;refine (CF.out _ HBB.out).mono ?_;rintro e w2 ⟨d',rfl,hd,hb,hj⟩;have HD:=Zh hd;have HJ:=Zh hj;have hb0:=HZ2.out.lt;have V2:=Zh (HX2.out.grow hb);have Z2:=Zh (HZ2.out.grow hb);have B2:=Zh (Qk hb HBB.out);have hzz:=hb.size;clear hd hb hj HX2 HZ2 x0 x1 x2 x3 x4 x5 x6 x7 x8 x9 x10 x11 x12 xf u0 u1 u2 u3 u4 u5 u6 u7 u8 u9 u10 u11 u12 zf;obtain ⟨nm,ga,gl,gc,wa,wl,wc,ky,⟨kd,dp,dn,dx⟩⟩:=d';dsimp only [DB.agg];obtain ⟨x0,x1,x2,x3,x4,x5,x6,x7,x8,x9,x10,x11,x12⟩:=v13 (V2.out);obtain ⟨u0,u1,u2,u3,u4,u5,u6,u7,u8,u9,u10,u11,u12⟩:=v13 (Z2.out);have xf:=V2.out.fz;have zf:=Z2.out.fz;have hl1:=V2.out.lt;have hl2:=Z2.out.lt;go_wp2_with fail;refine bodyPost_ret (v:=(OPB.mk k s (DB.mk nm ga gl gc wa wl wc ky ⟨kd,dp,dn,dx⟩) ok id n).agg) (by simp [results,Tryz.results16,go_sem,OPB.agg, *]) rfl ?_;refine ⟨OPB.mk k s (DB.mk nm ga gl gc wa wl wc ky ⟨kd,dp,dn,dx⟩) ok id n,rfl,?_,rfl,rfl,rfl,rfl,HSZ.out,HJ.out,?_⟩
  · exact DOB.lower (HD.out.keep (w:=Yq (Yq w2 w.heap.size 2 [.string nm,.slice ga gl.length gc,.slice wa wl.length wc,.string ky,.string kd,.int .i64 dp,.int .i64 dn,.int .i64 dx]) (w.heap.size+1) 0 (OPB.mk k s (DB.mk nm ga gl gc wa wl wc ky ⟨kd,dp,dn,dx⟩) ok id n).cells) (fun j hj=>(Qb (by omega) _ _ _).trans (Qb (by omega) _ _ _)) (by rw [Q6,Q6];exact Nat.le_refl _)) (by omega)
  · exact Qw (by omega) (OPB.mk k s (DB.mk nm ga gl gc wa wl wc ky ⟨kd,dp,dn,dx⟩) ok id n).cells 0 _ (Qw (Nat.le_refl _) [.string nm,.slice ga gl.length gc,.slice wa wl.length wc,.string ky,.string kd,.int .i64 dp,.int .i64 dn,.int .i64 dx] 2 _ B2.out)
