import Derived.Defers
import Derived.Laws.ResultCell
import Derived.IntWalk
import Derived.Test.YtcbicdencgjfiaaGreatDoorAlones
import Derived.Test.YtcbicdencgjfiaaGreatDoorOffU
import Derived.Test.YtcbicdencgjfiaaGreatDoorRowK
set_option linter.all false
set_option maxHeartbeats 400000
set_option maxRecDepth 20000
namespace Go.Proofs.YtcbicdencgjfiaaGreatDoor
open Go.RowKit Tryst
set_option maxHeartbeats 8000000 in
theorem xJx (op s:ByteArray) (num:Bool) (n:Int) (vs:ByteArray) (a:Option Addr) (len c:Nat) (hs:s.size<=1000000000) (hv:vs.size<=1000000000) (hl:len<=1000000000) (w:World) (hM:MaxW w) :
  Calls Tryz.prog 209 #[.agg #[.string op,.string s,.bool num,.int .i64 n,.string vs,.slice a len c]] w fun e w'=>e=.returned (.bool (Z6 op s num n vs len))/\Below w.heap.size w w':=by
 have HM:=Zh hM;clear hM
 rcases jJM op with ⟨k,rfl⟩ | ⟨h0,h1,h2,h3,h4,h5,h6,h7,h8⟩
 ·
  have hsz:s.toList.isEmpty=decide (s.size=0):=by
   rw [Qp,<- Qx];cases s.data.toList<;>simp
  have hvz:vs.toList=[]↔vs.size=0:=by
   rw [Qp,<- Qx];cases vs.data.toList<;>simp
  have HV:=Zh hvz;clear hvz;cases k with
  | all=>
   clear HM
   by_cases hs0:s.size=0
   all_goals
    rw [show decide (s.size=0)=_ from by first | exact decide_eq_true hs0 | exact decide_eq_false hs0] at hsz;have HS0:=Zh hs0;clear hs0
    by_cases hl0:len=0
    all_goals
     have y1:=hl0;have HL0:=Zh hl0;clear hl0
     first | (have y2:((len:Int)==0)=true:=by simp<;>omega) | (have y2:((len:Int)==0)=false:=by simp<;>omega)
     clear y1
    all_goals
     go_enter Tryz.func209,Tryz.ntmps209;unfold Opk.text;go_wp2_with fail
     all_goals
      have hs0:=HS0.out;go_ret;refine ⟨Qq (Eq.trans ?_ (Yf (.all) s _ _ vs len).symm),Qj _ (.refl _ _)⟩;have hl0:=HL0.out;have hvz:=HV.out;dsimp only [Jj]
      first
      | (simp only [noV,Bool.not_true,Bool.false_and,Bool.and_false];done)
      | (have hvv:vs.size=0:=hvz.1 (by assumption);simp only [noV,hvv,hl0,Bool.not_false,decide_true,decide_false,Bool.true_and,Bool.and_true,Bool.and_false,Bool.false_and,hs0];done)
      | (have hvv:¬ vs.size=0:=fun h=>(by assumption:¬ vs.toList=[]) (hvz.2 h);simp only [noV,hvv,decide_false,Bool.and_false,Bool.false_and];done)
      | (have hnn:¬ n=0:=by assumption;simp [noV,hnn];done)
      | (simp_all [noV];done)
  | topic=>
   clear hsz;have HC:=Zh (fun (W:World) (hM:MaxW W)=>zJP s hs W hM)
   by_cases hl0:len=0
   all_goals
    have y1:=hl0;have HL0:=Zh hl0;clear hl0
    first | (have y2:((len:Int)==0)=true:=by simp<;>omega) | (have y2:((len:Int)==0)=false:=by simp<;>omega)
    clear y1
   all_goals
    go_enter Tryz.func209,Tryz.ntmps209;unfold Opk.text;go_wp2_with fail
    all_goals
     refine (HC.out _ (HM.out.grow (Qj _ (.refl _ _)))).mono ?_;rintro e w1 ⟨rfl,hb1⟩;obtain ⟨hc1,hf1⟩:=Z8 hb1;have hz1:w.heap.size < w1.heap.size:=(by have:=hb1.size;simp at this;omega);have HB1:=Zh (Qk hb1 (Qj _ (.refl _ _)));clear hb1;cases hg:Yz s.data.toList
     all_goals
      have HG:=Zh hg;clear hg;go_wp2_with fail;have hg:=HG.out;go_ret;refine ⟨Qq (Eq.trans ?_ (Yf (.topic) s _ _ vs len).symm),HB1.out⟩;have hl0:=HL0.out;have hvz:=HV.out;dsimp only [Jj]
      first
      | (simp only [noV,Bool.not_true,Bool.false_and,Bool.and_false];done)
      | (have hvv:vs.size=0:=hvz.1 (by assumption);simp only [noV,hvv,hl0,Bool.not_false,decide_true,decide_false,Bool.true_and,Bool.and_true,Bool.and_false,Bool.false_and,hg];done)
      | (have hvv:¬ vs.size=0:=fun h=>(by assumption:¬ vs.toList=[]) (hvz.2 h);simp only [noV,hvv,decide_false,Bool.and_false,Bool.false_and];done)
      | (have hnn:¬ n=0:=by assumption;simp [noV,hnn];done)
      | (simp_all [noV];done)
  | has=>
   clear hsz;have HC:=Zh (fun (W:World) (hM:MaxW W)=>Xp s hs W hM)
   by_cases hl0:len=0
   all_goals
    have y1:=hl0;have HL0:=Zh hl0;clear hl0
    first | (have y2:((len:Int)==0)=true:=by simp<;>omega) | (have y2:((len:Int)==0)=false:=by simp<;>omega)
    clear y1
   all_goals
    go_enter Tryz.func209,Tryz.ntmps209;unfold Opk.text;go_wp2_with fail
    all_goals
     refine (HC.out _ (HM.out.grow (Qj _ (.refl _ _)))).mono ?_;rintro e w1 ⟨rfl,hb1⟩;obtain ⟨hc1,hf1⟩:=Z8 hb1;have hz1:w.heap.size < w1.heap.size:=(by have:=hb1.size;simp at this;omega);have HB1:=Zh (Qk hb1 (Qj _ (.refl _ _)));clear hb1;cases hg:Q5 s.data.toList
     all_goals
      have HG:=Zh hg;clear hg;go_wp2_with fail;have hg:=HG.out;go_ret;refine ⟨Qq (Eq.trans ?_ (Yf (.has) s _ _ vs len).symm),HB1.out⟩;have hl0:=HL0.out;have hvz:=HV.out;dsimp only [Jj]
      first
      | (simp only [noV,Bool.not_true,Bool.false_and,Bool.and_false];done)
      | (have hvv:vs.size=0:=hvz.1 (by assumption);simp only [noV,hvv,hl0,Bool.not_false,decide_true,decide_false,Bool.true_and,Bool.and_true,Bool.and_false,Bool.false_and,hg];done)
      | (have hvv:¬ vs.size=0:=fun h=>(by assumption:¬ vs.toList=[]) (hvz.2 h);simp only [noV,hvv,decide_false,Bool.and_false,Bool.false_and];done)
      | (have hnn:¬ n=0:=by assumption;simp [noV,hnn];done)
      | (simp_all [noV];done)
  | eq=>
   exact qJS s num n vs a len c hs hv hl w HM.out
  | lt=>
   exact jJy s num n vs a len c hs hv hl w HM.out
  | not=>
   clear HM
   by_cases hs0:s.size=0
   all_goals
    rw [show decide (s.size=0)=_ from by first | exact decide_eq_true hs0 | exact decide_eq_false hs0] at hsz;have HS0:=Zh hs0;clear hs0
    by_cases hl0:len=1
    all_goals
     have y1:=hl0;have HL0:=Zh hl0;clear hl0
     first | (have y2:((len:Int)==1)=true:=by simp<;>omega) | (have y2:((len:Int)==1)=false:=by simp<;>omega)
     clear y1
    all_goals
     go_enter Tryz.func209,Tryz.ntmps209;unfold Opk.text;go_wp2_with fail
     all_goals
      have hs0:=HS0.out;go_ret;refine ⟨Qq (Eq.trans ?_ (Yf (.not) s _ _ vs len).symm),Qj _ (.refl _ _)⟩;have hl0:=HL0.out;have hvz:=HV.out;dsimp only [Jj]
      first
      | (simp only [noV,Bool.not_true,Bool.false_and,Bool.and_false];done)
      | (have hvv:vs.size=0:=hvz.1 (by assumption);simp only [noV,hvv,hl0,Bool.not_false,decide_true,decide_false,Bool.true_and,Bool.and_true,Bool.and_false,Bool.false_and,hs0];done)
      | (have hvv:¬ vs.size=0:=fun h=>(by assumption:¬ vs.toList=[]) (hvz.2 h);simp only [noV,hvv,decide_false,Bool.and_false,Bool.false_and];done)
      | (have hnn:¬ n=0:=by assumption;simp [noV,hnn];done)
      | (simp_all [noV];done)
  | and=>
   clear HM
   by_cases hs0:s.size=0
   all_goals
    rw [show decide (s.size=0)=_ from by first | exact decide_eq_true hs0 | exact decide_eq_false hs0] at hsz;have HS0:=Zh hs0;clear hs0
    by_cases hl0:len=2
    all_goals
     have y1:=hl0;have HL0:=Zh hl0;clear hl0
     first | (have y2:((len:Int)==2)=true:=by simp<;>omega) | (have y2:((len:Int)==2)=false:=by simp<;>omega)
     clear y1
    all_goals
     go_enter Tryz.func209,Tryz.ntmps209;unfold Opk.text;go_wp2_with fail
     all_goals
      have hs0:=HS0.out;go_ret;refine ⟨Qq (Eq.trans ?_ (Yf (.and) s _ _ vs len).symm),Qj _ (.refl _ _)⟩;have hl0:=HL0.out;have hvz:=HV.out;dsimp only [Jj]
      first
      | (simp only [noV,Bool.not_true,Bool.false_and,Bool.and_false];done)
      | (have hvv:vs.size=0:=hvz.1 (by assumption);simp only [noV,hvv,hl0,Bool.not_false,decide_true,decide_false,Bool.true_and,Bool.and_true,Bool.and_false,Bool.false_and,hs0];done)
      | (have hvv:¬ vs.size=0:=fun h=>(by assumption:¬ vs.toList=[]) (hvz.2 h);simp only [noV,hvv,decide_false,Bool.and_false,Bool.false_and];done)
      | (have hnn:¬ n=0:=by assumption;simp [noV,hnn];done)
      | (simp_all [noV];done)
  | or=>
   clear HM
   by_cases hs0:s.size=0
   all_goals
    rw [show decide (s.size=0)=_ from by first | exact decide_eq_true hs0 | exact decide_eq_false hs0] at hsz;have HS0:=Zh hs0;clear hs0
    by_cases hl0:len=2
    all_goals
     have y1:=hl0;have HL0:=Zh hl0;clear hl0
     first | (have y2:((len:Int)==2)=true:=by simp<;>omega) | (have y2:((len:Int)==2)=false:=by simp<;>omega)
     clear y1
    all_goals
     go_enter Tryz.func209,Tryz.ntmps209;unfold Opk.text;go_wp2_with fail
     all_goals
      have hs0:=HS0.out;go_ret;refine ⟨Qq (Eq.trans ?_ (Yf (.or) s _ _ vs len).symm),Qj _ (.refl _ _)⟩;have hl0:=HL0.out;have hvz:=HV.out;dsimp only [Jj]
      first
      | (simp only [noV,Bool.not_true,Bool.false_and,Bool.and_false];done)
      | (have hvv:vs.size=0:=hvz.1 (by assumption);simp only [noV,hvv,hl0,Bool.not_false,decide_true,decide_false,Bool.true_and,Bool.and_true,Bool.and_false,Bool.false_and,hs0];done)
      | (have hvv:¬ vs.size=0:=fun h=>(by assumption:¬ vs.toList=[]) (hvz.2 h);simp only [noV,hvv,decide_false,Bool.and_false,Bool.false_and];done)
      | (have hnn:¬ n=0:=by assumption;simp [noV,hnn];done)
      | (simp_all [noV];done)
 ·
  have HT:Hid (∀ num n,Z6 op s num n vs len=false):=Zh (fun num n=>by unfold Z6;rw [h0]);clear h0;go_enter Tryz.func209,Tryz.ntmps209;go_wp2_with fail
  all_goals
   go_ret;exact ⟨Qq (HT.out _ _).symm,Qj _ (.refl _ _)⟩
end Go.Proofs.YtcbicdencgjfiaaGreatDoor
namespace Tryst
open Go Go.RowKit
inductive PB where
 | mk (op s:ByteArray) (num:Bool) (n:Int) (vs:ByteArray) (a:Option Addr) (c:Nat) (l:List PB)
namespace PB
def op:PB->ByteArray | mk o _ _ _ _ _ _ _=>o
def s:PB->ByteArray | mk _ s _ _ _ _ _ _=>s
def num:PB->Bool | mk _ _ b _ _ _ _ _=>b
def n:PB->Int | mk _ _ _ n _ _ _ _=>n
def vs:PB->ByteArray | mk _ _ _ _ v _ _ _=>v
def a:PB->Option Addr | mk _ _ _ _ _ a _ _=>a
def c:PB->Nat | mk _ _ _ _ _ _ c _=>c
def l:PB->List PB | mk _ _ _ _ _ _ _ l=>l
def cells (p:PB):List Value:=[.string p.op,.string p.s,.bool p.num,.int .i64 p.n,.string p.vs,.slice p.a p.l.length p.c]
def agg (p:PB):Value:=.agg #[.string p.op,.string p.s,.bool p.num,.int .i64 p.n,.string p.vs,.slice p.a p.l.length p.c]
mutual
def pr:PB->Pr | mk op s num n vs _ _ l=>.mk op s num n vs (prs l)
def prs:List PB->List Pr | []=>[] | x :: r=>pr x :: prs r
end
theorem prs_len:∀ l:List PB,(prs l).length=l.length
 | []=>rfl
 | x :: r=>by rw [prs,List.length_cons,prs_len r,List.length_cons]
theorem cells_len (l:List PB):∀ x∈l.map cells,x.length=6:=by
 intro x hx;obtain ⟨t,_,rfl⟩:=List.mem_map.1 hx;rfl
end PB
inductive PMem (w:World):PB->Prop
 | mk (op s:ByteArray) (num:Bool) (n:Int) (vs:ByteArray) (a:Option Addr) (c:Nat) (l:List PB):s.size<=1000000000->vs.size<=1000000000->l.length<=1000000000->Row w a 6 (l.map PB.cells)->(∀ x,x∈l->PMem w x)->PMem w (.mk op s num n vs a c l)
theorem PMem.grow {v w:World} {p:PB} (h:PMem v p) (hb:Below v.heap.size v w):PMem w p:=by
 induction h with
 | mk op s num n vs a c l h1 h2 h3 h4 _ ih=>exact .mk op s num n vs a c l h1 h2 h3 (h4.grow hb) (fun x hx=>ih x hx)
def kQ1 (w:World) (g:Nat) (m:Nat) (T:TypeId):Prop:=w.heap[g]?=some (.cells #[.int .i64 m] T (0,0))
structure CntP (g m:Nat) (T:TypeId) (w w':World):Prop where
 os:w'.os=w.os
 tape:w'.tape=w.tape
 output:w'.output=w.output
 size:w.heap.size<=w'.heap.size
 block:∀ k,k < w.heap.size->k≠g->w'.heap[k]?=w.heap[k]?
 at':kQ1 w' g m T
theorem CntP.trans {g m m':Nat} {T:TypeId} {a b c:World} (h:CntP g m T a b) (k:CntP g m' T b c):CntP g m' T a c:=
 ⟨k.os.trans h.os,k.tape.trans h.tape,k.output.trans h.output,Nat.le_trans h.size k.size,fun i hi hg=>(k.block i (Nat.lt_of_lt_of_le hi h.size) hg).trans (h.block i hi hg),k.at'⟩
theorem CntP.below {g m B:Nat} {T:TypeId} {a b c:World} (h:CntP g m T b c) (k:Below B a b) (hB:B<=g) (hz:B<=b.heap.size):Below B a c:=
 ⟨h.os.trans k.os,h.tape.trans k.tape,h.output.trans k.output,Nat.le_trans k.size h.size,fun i hi=>(h.block i (by omega) (by omega)).trans (k.block i hi)⟩
theorem CntP.cell {g m:Nat} {T:TypeId} {a b:World} (h:CntP g m T a b) {k o:Nat} (hk:k < a.heap.size) (hg:k≠g):b.cell? ⟨k,o,none⟩=a.cell? ⟨k,o,none⟩:=World.cell?_of_block (w:=a) (a:=⟨k,o,none⟩) (h.block k hk hg)
theorem CntP.frozen {g m:Nat} {T:TypeId} {a b:World} (h:CntP g m T a b) {k o:Nat} (hk:k < a.heap.size) (hg:k≠g):b.frozen? ⟨k,o,none⟩=a.frozen? ⟨k,o,none⟩:=World.frozen?_of_block (w:=a) (a:=⟨k,o,none⟩) (h.block k hk hg)
theorem zJY {w:World} {g m m':Nat} {T:TypeId} (h:kQ1 w g m T):kQ1 (w.setCell ⟨g,0,none⟩ (.int .i64 (m':Int))) g m' T:=by
 have hlt:g < w.heap.size:=(Array.getElem?_eq_some_iff.1 h).1;unfold kQ1 at h ⊢;show (w.setCell ⟨g,0,none⟩ (.int .i64 (m':Int))).heap[g]?=_;simp [World.setCell,Array.getElem?_modify,h]
theorem CntP.start {w:World} {g m m':Nat} {T:TypeId} (h:kQ1 w g m T):CntP g m' T w (w.setCell ⟨g,0,none⟩ (.int .i64 (m':Int))):=
 ⟨rfl,rfl,rfl,by simp,fun k _ hg=>Below.heap_setCell _ _ _ _ hg,zJY h⟩
theorem CntP.alloc {w w':World} {g m:Nat} {T:TypeId} (h:CntP g m T w w') (o:Obj):CntP g m T w (w'.alloc o):=
 ⟨h.os,h.tape,h.output,by have:=h.size;simp;omega,fun k hk hg=>(Below.heap_alloc _ _ _ (Nat.lt_of_lt_of_le hk h.size)).trans (h.block k hk hg),(Below.heap_alloc _ _ _ (Array.getElem?_eq_some_iff.1 h.at').1).trans h.at'⟩
theorem CntP.set {w w':World} {g m:Nat} {T:TypeId} (h:CntP g m T w w') {b o:Nat} (hb:w.heap.size<=b) (hg:b≠g) (v:Value):CntP g m T w (w'.setCell ⟨b,o,none⟩ v):=
 ⟨h.os,h.tape,h.output,by simpa using h.size,fun k hk hg=>(Below.heap_setCell _ _ _ _ (by show k≠b;omega)).trans (h.block k hk hg),(Below.heap_setCell _ _ _ _ (fun e=>hg e.symm)).trans h.at'⟩
theorem CntP.grow {w w' w'':World} {g m:Nat} {T:TypeId} (h:CntP g m T w w') (hb:Below w'.heap.size w' w''):CntP g m T w w'':=
 ⟨hb.os.trans h.os,hb.tape.trans h.tape,hb.output.trans h.output,Nat.le_trans h.size hb.size,fun k hk hg=>(hb.block k (Nat.lt_of_lt_of_le hk h.size)).trans (h.block k hk hg),(hb.block g (Array.getElem?_eq_some_iff.1 h.at').1).trans h.at'⟩
end Tryst
namespace Go.Proofs.YtcbicdencgjfiaaGreatDoor
open Go.RowKit Tryst
theorem xJO (b:Nat) (v:Int) (h1:0<=v) (h2:v<=1500000) (u:FrameMode) (w:World) (hc:w.cell? ⟨b,0,none⟩=some (.int .i64 v)) (hz:w.frozen? ⟨b,0,none⟩=false) :
  CallsD Tryz.prog 208 #[.pointer (some ⟨b,0,none⟩)] u w fun e u' w'=>u'=u/\(e=.returned (.tuple #[])/\w'=w.setCell ⟨b,0,none⟩ (.int .i64 (v+1))):=by
 go_enter_d Tryz.func208,Tryz.ntmps208
 go_wp2;go_end0;exact ⟨rfl,rfl⟩
def qJk (g:Nat) (w:World) (p:Pr) (r nodes:Nat) (e:Ending) (w':World):Prop:=e=.returned (.tuple #[.int .i64 ((X9 p r nodes).1.1:Int),.bool (X9 p r nodes).1.2])/\CntP g (X9 p r nodes).2 243 w w'
theorem qQU (g m B d:Nat) (b:Bool) (p:Pr) (r nodes:Nat) (w Y:World) (a:Act) (hB:w.heap.size<=B) (hg:g < w.heap.size) (hd:d<=1000) (hc:Y.cell? ⟨B,0,none⟩=some (.int .i64 d)) (hz:Y.frozen? ⟨B,0,none⟩=false) (hC:CntP g m 243 w Y)
  (ha:a.defers=[{ target:=.fn (.func 208) #[.pointer (some ⟨B,0,none⟩)],args:=#[] }]) (h6:a.eval (.tmp 6)=.pointer (some ⟨B,0,none⟩)) (h7:a.eval (.tmp 7)=.bool b) (hp:X9 p r nodes=((d+1,b),m)) :
  bodyPostD Tryz.prog Tryz.f179 (fun e w'=>qJk g w p r nodes e w') Exit.ret a Y:=by
 show Leaves _ _ _ _ a.defers .returning Y;rw [ha];refine leaves_cons (f:=208) (args:=#[.pointer (some ⟨B,0,none⟩)]) (by simp) (by simp [go_sem]) ?_;refine (xJO B d (by omega) (by omega) .returning Y hc hz).mono ?_;rintro e u' w'' ⟨rfl,rfl,rfl⟩;have hCs:=hC.set (o:=0) hB (by omega) (.int .i64 ((d:Int)+1))
 have hcs:(Y.setCell ⟨B,0,none⟩ (.int .i64 ((d:Int)+1))).cell? ⟨B,0,none⟩=some (.int .i64 ((d:Int)+1)):=by
  have h5:=(zQn hc).1;simp [Qz,h5,hc]
 have h6':a.tmps.getD 6 undef=.pointer (some ⟨B,0,none⟩):=h6;have h7':a.tmps.getD 7 undef=.bool b:=h7;show ∃ v,(results Tryz.f179 a.tmps).run Tryz.prog _=.ok v _/\qJk g w p r nodes (.returned v) _;refine ⟨.tuple #[.int .i64 ((d:Int)+1),.bool b],?_,?_,?_⟩
 ·
  have h6'':a.tmps[6]?.getD undef=.pointer (some ⟨B,0,none⟩):=by simpa using h6'
  have h7'':a.tmps[7]?.getD undef=.bool b:=by simpa using h7'
  simp [results,Tryz.results179,go_sem,hcs,h6'',h7'']
 · rw [hp];simp
 · rw [hp];exact hCs
theorem zJG (r:Nat) (ih:∀ (p:Pr) (nodes d m:Nat),X9 p r nodes=((d,true),m)->m<=40/\d<=r):∀ (l:List Pr) (nodes d d' m:Nat),nodes<=40->d<=r->jQI l r nodes d=((d',true),m)->m<=40/\d'<=r:=by
 intro l
 induction l with
 | nil=>
  intro nodes d d' m hn hd h;rw [jQI] at h;simp only [Prod.mk.injEq] at h;omega
 | cons q l ihl=>
  intro nodes d d' m hn hd h;rw [jQI] at h
  split at h
  · rename_i b m' e;obtain ⟨h1,h2⟩:=ih q nodes b m' e;exact ihl m' (max d b) d' m h1 (by omega) h
  · simp at h
theorem vJH:∀ (r:Nat) (p:Pr) (nodes d m:Nat),X9 p r nodes=((d,true),m)->m<=40/\d<=r:=by
 intro r
 induction r with
 | zero=>
  intro p nodes d m h;cases p;rw [X9,if_pos (.inl rfl)] at h;simp at h
 | succ r ih=>
  intro p nodes d m h;obtain ⟨op,s,num,n,vs,l⟩:=p;rw [X9] at h
  split at h
  · simp at h
  ·
   rename_i hc;rw [show r+1 - 1=r by omega] at h
   split at h
   · rename_i d' m' e;obtain ⟨h1,h2⟩:=zJG r ih l (nodes+1) 0 d' m' (by omega) (by omega) e;simp only [Prod.mk.injEq] at h;omega
   · simp at h
theorem kQU {op s:ByteArray} {num:Bool} {n:Int} {vs:ByteArray} {l:List Pr} {r nodes:Nat} (h:r=0∨40 < nodes+1∨Z6 op s num n vs l.length=false):X9 (.mk op s num n vs l) r nodes=((0+1,false),nodes+1):=by
 rw [X9,if_pos h]
theorem jJP {op s : ByteArray} {num : Bool} {n : Int} {vs : ByteArray} {l : List Pr} {r nodes : Nat} (h1 : nodes + 1 <= 40) (h2 : Z6 op s num n vs l.length = true) : X9 (.mk op s num n vs l) (r + 1) nodes = match jQI l r (nodes + 1) 0 with
      | ((d,true),m)=>((d+1,true),m)
      | ((_,false),m)=>((1,false),m):=by
  rw [X9,if_neg (by rw [h2];simp;omega)];rfl
def DRel (w:World) (B g:Nat) (l:List PB) (r nodes:Nat) (i:Value) (wr:World):Prop:=
 ∃ (k d m:Nat),k<=l.length/\i=.int .i64 k/\m<=40/\d<=r/\Hid (jQI (PB.prs (l.drop k)) r m d=jQI (PB.prs l) r (nodes+1) 0)/\Hid (CntP g m 243 w wr)/\Hid (wr.cell? ⟨B,0,none⟩=some (.int .i64 d))/\Hid (wr.frozen? ⟨B,0,none⟩=false)/\B < wr.heap.size
set_option maxHeartbeats 4000000 in
theorem jYU (r:Nat):∀ (p:PB) (nodes g:Nat) (w0 w:World),r<=8->nodes<=40->MaxW w0->PMem w0 p->w0.heap.size<=g->g < w.heap.size->Below w0.heap.size w0 w->kQ1 w g nodes 243->
  Calls Tryz.prog 179 #[.pointer (some ⟨g,0,none⟩),p.agg,.int .i64 r] w fun e w'=>qJk g w p.pr r nodes e w':=by
 induction r with
 | zero=>
  intro p nodes g w0 w hr hn hM hP hg hgw hb hA;obtain ⟨op,s,num,n,vs,a,c,l⟩:=p;have hmf:∀ (fn:Fn) (first cap:Array Value) (w:World),(Instr.makeFunc fn first cap).run Tryz.prog w=.ok (.func fn first cap) w:=fun _ _ _ _=>rfl
  have x0:w.cell? ⟨g,0,none⟩=some (.int .i64 nodes):=by rw [Lib.cell_of_heap hA];rfl
  have x1:w.frozen? ⟨g,0,none⟩=false:=Lib.frozen_of_heap hA 0;have HC0:=Zh (((CntP.start (m':=nodes+1) hA).alloc (.cells #[.string op,.string s,.bool num,.int .i64 n,.string vs,.slice a l.length c] 123)).alloc (.cells #[.int .i64 0] 3));have HB:=Zh hb;have HP:=Zh hP;have HM:=Zh hM;clear hA hb hP hM
  go_enter_defers Tryz.func179,Tryz.ntmps179
  unfold PB.agg;simp only [PB.op,PB.s,PB.num,PB.n,PB.vs,PB.a,PB.c,PB.l];go_wp2_with fail;refine qQU g (nodes+1) (w.heap.size+1) 0 false _ 0 nodes w _ _ (by omega) hgw (by omega) (by simp [go_sem]) (by simp [go_sem]) HC0.out rfl rfl rfl ?_;rw [PB.pr];exact kQU (.inl rfl)
 | succ r ih=>
  intro p nodes g w0 w hr hn hM hP hg hgw hb hA;obtain ⟨op,s,num,n,vs,a,c,l⟩:=p
  by_cases h40:40 < nodes+1
  ·
   have hmf:∀ (fn:Fn) (first cap:Array Value) (w:World),(Instr.makeFunc fn first cap).run Tryz.prog w=.ok (.func fn first cap) w:=fun _ _ _ _=>rfl
   have x0:w.cell? ⟨g,0,none⟩=some (.int .i64 nodes):=by rw [Lib.cell_of_heap hA];rfl
   have x1:w.frozen? ⟨g,0,none⟩=false:=Lib.frozen_of_heap hA 0;have HC0:=Zh (((CntP.start (m':=nodes+1) hA).alloc (.cells #[.string op,.string s,.bool num,.int .i64 n,.string vs,.slice a l.length c] 123)).alloc (.cells #[.int .i64 0] 3));have HB:=Zh hb;have HP:=Zh hP;have HM:=Zh hM;clear hA hb hP hM
   go_enter_defers Tryz.func179,Tryz.ntmps179
   unfold PB.agg;simp only [PB.op,PB.s,PB.num,PB.n,PB.vs,PB.a,PB.c,PB.l];have y1:(40:Int) < (nodes:Int)+1:=by omega
   go_wp2_with fail;refine qQU g (nodes+1) (w.heap.size+1) 0 false _ (r+1) nodes w _ _ (by omega) hgw (by omega) (by simp [go_sem]) (by simp [go_sem]) HC0.out rfl rfl rfl ?_;rw [PB.pr];exact kQU (.inr (.inl h40))
  ·
   obtain ⟨s1,s2,s3,hrow,hel⟩:s.size<=1000000000/\vs.size<=1000000000/\l.length<=1000000000/\Row w0 a 6 (l.map PB.cells)/\(∀ x,x∈l->PMem w0 x):=by
    cases hP with
    | mk _ _ _ _ _ _ _ _ h1 h2 h3 h4 h5=>exact ⟨h1,h2,h3,h4,h5⟩
   have HRW:=Zh hrow;have HEL:=Zh hel;have HIH:=Zh ih;have HAL:=Zh (fun (W:World) (hM:MaxW W)=>xJx op s num n vs a l.length c s1 s2 s3 W hM);clear hrow hel ih;have hmf:∀ (fn:Fn) (first cap:Array Value) (w:World),(Instr.makeFunc fn first cap).run Tryz.prog w=.ok (.func fn first cap) w:=fun _ _ _ _=>rfl
   have x0:w.cell? ⟨g,0,none⟩=some (.int .i64 nodes):=by rw [Lib.cell_of_heap hA];rfl
   have x1:w.frozen? ⟨g,0,none⟩=false:=Lib.frozen_of_heap hA 0;have HC0:=Zh (((CntP.start (m':=nodes+1) hA).alloc (.cells #[.string op,.string s,.bool num,.int .i64 n,.string vs,.slice a l.length c] 123)).alloc (.cells #[.int .i64 0] 3));have HB:=Zh hb;have HP:=Zh hP;have HM:=Zh hM;clear hA hb hP hM
   go_enter_defers Tryz.func179,Tryz.ntmps179
   unfold PB.agg;simp only [PB.op,PB.s,PB.num,PB.n,PB.vs,PB.a,PB.c,PB.l];have y1:¬ (40:Int) < (nodes:Int)+1:=by omega
   have y2:¬ (r:Int)+1 < 1:=by omega
   have hB0:Below w0.heap.size w0 (((w.setCell ⟨g,0,none⟩ (.int .i64 ((nodes+1:Nat):Int))).alloc (.cells #[.string op,.string s,.bool num,.int .i64 n,.string vs,.slice a l.length c] 123)).alloc (.cells #[.int .i64 0] 3)):=HC0.out.below HB.out hg HB.out.size;have HB0:=Zh hB0;clear hB0;go_wp2_with fail;refine (HAL.out _ (HM.out.grow HB0.out)).mono ?_;rintro e w1 ⟨rfl,hb1⟩;have HC1:=Zh (HC0.out.grow hb1);obtain ⟨hc1,hf1⟩:=Z8 hb1;have hz1:w.heap.size+1 < w1.heap.size:=(by have:=hb1.size;simp at this;omega);have hz0:w.heap.size < w1.heap.size:=by omega
   clear hb1 HC0 HB0 HAL;have hx1:w1.cell? ⟨w.heap.size+1,0,none⟩=some (.int .i64 0):=by rw [hc1 _ _ (by simp)];simp [go_sem]
   have hf2:w1.frozen? ⟨w.heap.size+1,0,none⟩=false:=by rw [hf1 _ _ (by simp)];simp [go_sem]
   cases hal:Z6 op s num n vs l.length with
   | false=>
    go_wp2_with fail;refine qQU g (nodes+1) (w.heap.size+1) 0 false _ (r+1) nodes w _ _ (by omega) hgw (by omega) (by simp [Qz,hz1,hx1]) (by simp [Qv,hf2]) (HC1.out.set (by omega) (by omega) _) rfl rfl rfl ?_;rw [PB.pr];exact kQU (.inr (.inr (by rw [PB.prs_len];exact hal)))
   | true=>
    have HAT:=Zh hal;clear hal;go_wp2_with fail;go_loopw [37] (fun i wr=>DRel w (w.heap.size+1) g l r nodes i wr) (fun i _=>l.length - (intOf i).toNat)
    case atStart=>
     refine ⟨0,0,nodes+1,by omega,rfl,by omega,by omega,rfl,HC1.out,hx1,hf2,hz1⟩
    case round=>
     obtain ⟨k,d,m,hk,rfl,hm,hd,HD,HC,HX,HZ,hzr⟩:=hrel;obtain ⟨wo,rfl⟩:∃ wo,wo=wr:=⟨_,rfl⟩;clear hc1 hf1 hz1 hz0 HC1 hx1 hf2;have xx:=HX.out;have xz:=HZ.out
     by_cases hlt:k < l.length
     ·
      have HBo:=Zh (HC.out.below HB.out hg HB.out.size);have HRo:=Zh (HRW.out.grow HBo.out);obtain ⟨b,o,ha,hbz⟩:=HRo.out.head (i:=k) (by simpa using hlt);obtain rfl:a=some ⟨b,o,none⟩:=ha;obtain ⟨_,hcs⟩:=HRo.out.at (i:=k) (by simpa using hlt);simp only [List.getElem_map] at hcs;have e0:wo.cell? ⟨b,o+k*6,none⟩=some (.string l[k].op):=hcs 0 (by omega);have e1:wo.cell? ⟨b,o+k*6+1,none⟩=some (.string l[k].s):=hcs 1 (by omega);have e2:wo.cell? ⟨b,o+k*6+2,none⟩=some (.bool l[k].num):=hcs 2 (by omega);have e3:wo.cell? ⟨b,o+k*6+3,none⟩=some (.int .i64 l[k].n):=hcs 3 (by omega);have e4:wo.cell? ⟨b,o+k*6+4,none⟩=some (.string l[k].vs):=hcs 4 (by omega);have e5:wo.cell? ⟨b,o+k*6+5,none⟩=some (.slice l[k].a l[k].l.length l[k].c):=hcs 5 (by omega);have x2:(k:Int) < l.length:=by omega
      have x3:(0:Int)<=k:=by omega
      have hwx:w.heap.size+1 < wo.heap.size:=hzr;clear hcs;go_upto_region 8 with fail
      refine Qg (fun v=>Hid (PBox v wo.heap.size l[k].op l[k].s l[k].num l[k].n l[k].vs (.slice l[k].a l[k].l.length l[k].c))/\Hid (CntP g m 243 w v)/\Hid (v.cell? ⟨w.heap.size+1,0,none⟩=some (.int .i64 d))/\Hid (v.frozen? ⟨w.heap.size+1,0,none⟩=false)/\w.heap.size+1 < v.heap.size) ⟨PBox.new wo l[k].op l[k].s l[k].num l[k].n l[k].vs (.slice l[k].a l[k].l.length l[k].c) 123,HC.out.alloc _,(((Qj _ (.refl wo.heap.size wo)).cell (p:=⟨w.heap.size+1,0,none⟩) hzr).trans xx:_),(((Qj _ (.refl wo.heap.size wo)).frozen (p:=⟨w.heap.size+1,0,none⟩) hzr).trans xz:_),by simp;omega⟩ ?_;clear e0 e1 e2 e3 e4 e5 xx xz HX HZ HC hzr HBo HRo;rintro wq ⟨HQ,HC,HX,HZ,hzq⟩;obtain ⟨x0,x1,x2',x3',x4,x5,x6⟩:=HQ.out;have HBq:=Zh (HC.out.below HB.out hg HB.out.size);have hmem:=HEL.out l[k] (List.getElem_mem hlt);have HCALL:=Zh (HIH.out l[k] m g w0 wq (by omega) hm HM.out hmem hg (Nat.lt_of_lt_of_le hgw HC.out.size) HBq.out HC.out.at')
      have hstep:jQI (PB.prs (l.drop k)) r m d=match X9 (PB.pr l[k]) r m with
        | ((b,true),m)=>jQI (PB.prs (l.drop (k+1))) r m (max d b)
        | ((_,false),m)=>((0,false),m):=by
       rw [List.drop_eq_getElem_cons hlt,PB.prs,jQI];rfl
      have hok:=vJH r (PB.pr l[k]) m;obtain ⟨P,hP⟩:∃ P,X9 (PB.pr l[k]) r m=P:=⟨_,rfl⟩;have HCALL2:Hid (Calls Tryz.prog 179 #[.pointer (some ⟨g,0,none⟩),.agg #[.string l[k].op,.string l[k].s,.bool l[k].num,.int .i64 l[k].n,.string l[k].vs,.slice l[k].a l[k].l.length l[k].c],.int .i64 r] wq fun e w'=>e=.returned (.tuple #[.int .i64 (P.1.1:Int),.bool P.1.2])/\CntP g P.2 243 wq w'):=Zh (by rw [<- hP];exact HCALL.out);rw [hP] at hstep;have hok2:∀ d' m',P=((d',true),m')->m'<=40/\d'<=r:=fun d' m' e=>hok d' m' (hP.trans e)
      obtain ⟨⟨d2,ok⟩,m2⟩:=P;clear hok HCALL hP hmem HIH;have HST:=Zh hstep;clear hstep;go_wp2_with fail;refine HCALL2.out.mono ?_;rintro e w2 ⟨rfl,hC2⟩;have HC2:=Zh (HC.out.trans hC2);have xx:w2.cell? ⟨w.heap.size+1,0,none⟩=some (.int .i64 d):=(hC2.cell hzq (by omega)).trans HX.out;have xz:w2.frozen? ⟨w.heap.size+1,0,none⟩=false:=(hC2.frozen hzq (by omega)).trans HZ.out;have hz2:w.heap.size+1 < w2.heap.size:=Nat.lt_of_lt_of_le hzq hC2.size;clear hC2 HC HX HZ HCALL2 HQ x0 x1 x2' x3' x4 x5 x6;cases ok with
      | false=>
       dsimp only;go_wp2_with fail;refine qQU g m2 (w.heap.size+1) 0 false _ (r+1) nodes w _ _ (by omega) hgw (by omega) (by simp [Qz,hz2,xx]) (by simp [Qv,xz]) (HC2.out.set (by omega) (by omega) _) rfl rfl rfl ?_;rw [PB.pr,jJP (by omega) (by rw [PB.prs_len];exact HAT.out),<- HD.out,HST.out]
      | true=>
       obtain ⟨hm2,hd2⟩:=hok2 d2 m2 rfl;have hmx:max (d:Int) (d2:Int)=((max d d2:Nat):Int):=by omega
       have HMX:=Zh hmx;clear hok2 hmx;dsimp only;go_wp2_with fail;go_roundw
       case rel=>
        rw [HMX.out];exact ⟨k+1,max d d2,m2,by omega,by go_num,hm2,by omega,Zh (by rw [<- HD.out,HST.out]),(HC2.out.set (by omega) (by omega) _),Zh (by simp [Qz,hz2,xx]),Zh (by simp [Qv,xz]),by simpa using hz2⟩
       case measure=>simp [intOf]<;>omega
     · go_wp2_with fail;refine qQU g m (w.heap.size+1) d true _ (r+1) nodes w _ _ (by omega) hgw (by omega) (by simp [Qz,hzr,xx]) (by simp [Qv,xz]) (HC.out.set (by omega) (by omega) _) rfl rfl rfl ?_;rw [PB.pr,jJP (by omega) (by rw [PB.prs_len];exact HAT.out),<- HD.out,List.drop_eq_nil_of_le (by omega)];rfl
theorem qJE (p:PB) (w:World) (hM:MaxW w) (hP:PMem w p):Calls Tryz.prog 128 #[p.agg] w fun e w'=>e=.returned (.bool (mayP p.pr))/\Below w.heap.size w w':=by
 have HD:=Zh (fun (W:World) (hz:w.heap.size+1 < W.heap.size) (hb:Below w.heap.size w W) (hA:kQ1 W (w.heap.size+1) 0 243)=>jYU 8 p 0 (w.heap.size+1) w W (by omega) (by omega) hM hP (by omega) hz hb hA);unfold qJk at HD;have hmay:mayP p.pr=((X9 p.pr 8 0).1.2&&decide ((X9 p.pr 8 0).1.1<=8)):=rfl;obtain ⟨P,hPP⟩:∃ P,X9 p.pr 8 0=P:=⟨_,rfl⟩;rw [hPP] at HD hmay;have HMY:=Zh hmay;obtain ⟨⟨d,ok⟩,m⟩:=P;obtain ⟨op,s,num,n,vs,a,c,l⟩:=p;clear hM hP hPP hmay;go_enter Tryz.func128,Tryz.ntmps128;unfold PB.agg;simp only [PB.op,PB.s,PB.num,PB.n,PB.vs,PB.a,PB.c,PB.l];unfold PB.agg at HD;simp only [PB.op,PB.s,PB.num,PB.n,PB.vs,PB.a,PB.c,PB.l] at HD;go_upto_region 2 with fail
 refine Qg (fun v=>Hid (PBox v w.heap.size op s num n vs (.slice a l.length c))/\Hid (Below w.heap.size w v)/\Hid (kQ1 v (w.heap.size+1) 0 243)/\w.heap.size+1 < v.heap.size) ⟨(PBox.new w op s num n vs (.slice a l.length c) 123).grow (Qj _ (.refl _ _)),Qj _ (Qj _ (.refl _ _)),?_,by simp⟩ ?_
 · show ((w.heap.push _).push _)[w.heap.size+1]?=_;rw [Array.getElem?_push,if_pos (by simp)];rfl
 rintro W ⟨HX,HB,HW,hz⟩;obtain ⟨x0,x1,x2,x3,x4,x5,x6⟩:=HX.out;go_wp2_with fail;refine (HD.out W hz HB.out HW.out).mono ?_;rintro e w2 ⟨rfl,hC⟩;have HB2:=Zh (hC.below HB.out (by omega:w.heap.size<=w.heap.size+1) (by have:=HB.out.size;omega));clear hC HD;dsimp only at HMY ⊢;cases ok with
 | false=>
  go_wp2_with fail;go_ret;exact ⟨Qq (by rw [HMY.out];rfl),HB2.out⟩
 | true=>
  by_cases hd:d<=8
  ·
   have y1:(d:Int)<=8:=by omega
   go_wp2_with fail;go_ret;exact ⟨Qq (by rw [HMY.out,decide_eq_true hd];rfl),HB2.out⟩
  ·
   have y1:¬ (d:Int)<=8:=by omega
   go_wp2_with fail;go_ret;exact ⟨Qq (by rw [HMY.out,decide_eq_false hd];rfl),HB2.out⟩
