import Derived.Maps.OwnSet
import Derived.Maps.Views
import Derived.StringKeys
import Derived.DeepKeys5
import Derived.IntWalk
import Derived.Deep.CutRange
import Derived.LaidEql
import Derived.Test.YtcbicdencgjfiaaGreatDoorFwP5
import Derived.Test.YtcbicdencgjfiaaGreatDoorGlob5
import Derived.Test.YtcbicdencgjfiaaGreatDoorRowK
set_option linter.all false
set_option maxHeartbeats 4000000
set_option maxRecDepth 20000
namespace Tryst
open Go Go.RowKit
abbrev PO (w:World) (x:PB):Prop:=POwn w (fun _=>True) x
theorem PO.grow {w w':World} {x:PB} (h:PO w x) (hb:Below w.heap.size w w'):PO w' x:=POwn.grow h hb (fun _ _=>trivial)
theorem POwn.po {w:World} {S:Nat->Prop} {x:PB} (h:POwn w S x):PO w x:=POwn.grow h (.refl _ _) (fun _ _=>trivial)
theorem PO.parts {w:World} {op s:ByteArray} {num:Bool} {n:Int} {vs:ByteArray} {a:Option Addr} {c:Nat} {l:List PB} (h:PO w (.mk op s num n vs a c l)):(op.size<=1500000/\s.size<=1500000/\vs.size<=1500000/\l.length<=10)/\(-9223372036854775808<=n/\n<=9223372036854775807)/\Row w a 6 (l.map PB.cells)/\∀ x∈l,PO w x:=by
 cases h with
 | mk _ _ _ _ _ _ _ _ h0 h1 h2 h3 h4 h5 h6 h7 h8 h9=>exact ⟨⟨h0,h1,h2,h3⟩,h4,h5,h9⟩
theorem PO.plain {w:World} {x:PB} (h:PO w x) {b o:Nat} (e:x.a=some ⟨b,o,none⟩):b < w.heap.size/\∃ cs T,w.heap[b]?=some (.cells cs T (0,0)):=by
 cases h with
 | mk _ _ _ _ _ _ _ _ h0 h1 h2 h3 h4 h5 h6 h7 h8 h9=>exact ⟨(h7 b o e).2,h8 b o e⟩
end Tryst
namespace Go.Proofs.YtcbicdencgjfiaaGreatDoor
open Go.RowKit Tryst
end Go.Proofs.YtcbicdencgjfiaaGreatDoor
namespace Tryst
open Go Go.RowKit
theorem kYB {op s op' s':ByteArray} {num num':Bool} {n n':Int} {vs vs':ByteArray} {a a':Option Addr} {c c':Nat} {l l':List PB} (h:¬ (op=op'/\s=s'/\(num=num'/\n=n'/\vs=vs')/\l.length=l'.length)):qQY (.mk op s num n vs a c l) (.mk op' s' num' n' vs' a' c' l')=false:=by
 rw [vQ2]
 have:zQT (.mk op s num n vs a c l) (.mk op' s' num' n' vs' a' c' l')=false:=by
  cases e:zQT (.mk op s num n vs a c l) (.mk op' s' num' n' vs' a' c' l') with
  | false=>rfl
  | true=>
   refine absurd ?_ h;unfold zQT at e;simp only [PB.op,PB.s,PB.num,PB.n,PB.vs,PB.l,Bool.and_eq_true] at e;exact ⟨of_decide_eq_true e.1,of_decide_eq_true e.2.1,⟨of_decide_eq_true e.2.2.1.1,of_decide_eq_true e.2.2.1.2.1,of_decide_eq_true e.2.2.1.2.2⟩,of_decide_eq_true e.2.2.2⟩
 rw [this];rfl
theorem kY8 {op s:ByteArray} {num:Bool} {n:Int} {vs:ByteArray} {a a':Option Addr} {c c':Nat} {l l':List PB} (h:l.length=l'.length):qQY (.mk op s num n vs a c l) (.mk op s num n vs a' c' l')=jQ7 l l':=by
 rw [vQ2]
 have:zQT (.mk op s num n vs a c l) (.mk op s num n vs a' c' l')=true:=by
  unfold zQT;simp only [PB.op,PB.s,PB.num,PB.n,PB.vs,PB.l,decide_true,Bool.true_and];exact decide_eq_true h
 rw [this];rfl
end Tryst
namespace Go.Proofs.YtcbicdencgjfiaaGreatDoor
open Go.RowKit Tryst
def SRel (w:World) (B C:Nat) (op s:ByteArray) (num:Bool) (n:Int) (vs:ByteArray) (u v:Value) (l m:List PB) (i:Value) (wr:World):Prop:=
 ∃ k:Nat,k<=l.length/\i=.int .i64 k/\Hid (∀ (j:Nat) (x y:PB),j < k->l[j]?=some x->m[j]?=some y->qQY x y=true)/\Hid (BX wr B op s num n vs u)/\Hid (BX wr C op s num n vs v)/\Hid (Below w.heap.size w wr)
theorem qYr {a b:ByteArray} (h:¬ a=b):¬ a.toList=b.toList:=fun e=>h (Xk (by rw [<- Qp,<- Qp];exact e))
theorem kY1 (N:Nat):∀ (x y:PB),J9 x<=N->∀ w,PO w x->PO w y->Calls Tryz.prog 107 #[x.agg,y.agg] w fun e w'=>e=.returned (.bool (qQY x y))/\Below w.heap.size w w':=by
 induction N with
 | zero=>
  intro x y h;rw [vQm] at h;omega
 | succ N ih=>
  intro x y hN w hx hy;obtain ⟨op,s,num,n,vs,a,c,l⟩:=x;obtain ⟨op',s',num',n',vs',a',c',l'⟩:=y;obtain ⟨⟨-,-,-,hl⟩,-,hrow,hel⟩:=PO.parts hx;obtain ⟨⟨-,-,-,hl'⟩,-,hrow',hel'⟩:=PO.parts hy;have HRW:=Zh hrow;have HEL:=Zh hel;have HRW':=Zh hrow';have HEL':=Zh hel';have HIH:=Zh ih;rw [J9] at hN;have HN:=Zh hN;clear hrow hel hrow' hel' ih hx hy hN;unfold PB.agg;simp only [PB.op,PB.s,PB.num,PB.n,PB.vs,PB.a,PB.c,PB.l];go_enter Tryz.func107,Tryz.ntmps107;go_upto_region 1 with fail
  have bx0:=BX.new w op s num n vs (.slice a l.length c);have bx1:=BX.new (w.alloc (.cells #[.string op,.string s,.bool num,.int .i64 n,.string vs,.slice a l.length c] 123)) op' s' num' n' vs' (.slice a' l'.length c');rw [show (w.alloc (.cells #[.string op,.string s,.bool num,.int .i64 n,.string vs,.slice a l.length c] 123)).heap.size=w.heap.size+1 by simp] at bx1;refine Qg (fun v=>Hid (BX v w.heap.size op s num n vs (.slice a l.length c))/\Hid (BX v (w.heap.size+1) op' s' num' n' vs' (.slice a' l'.length c'))/\Hid (Below w.heap.size w v)) ⟨bx0.grow (Qj _ (.refl _ _)),bx1,Qj _ (Qj _ (.refl _ _))⟩ ?_;rintro Y ⟨HX,HZ,HB⟩;clear bx0 bx1;obtain ⟨B,hB⟩:∃ B,w.heap.size=B:=⟨_,rfl⟩;have hC:w.heap.size+1≠w.heap.size:=by omega
  rw [hB] at HX HZ ⊢;obtain ⟨C,hCC⟩:∃ C,B+1=C:=⟨_,rfl⟩;rw [hCC] at HZ ⊢;clear hC;obtain ⟨x0,x1,x2,x3,x4,x5,x6⟩:=HX.out.box;obtain ⟨y0,y1,y2,y3,y4,y5,y6⟩:=HZ.out.box;have KN:=Zh (fun (h:¬ (op=op'/\s=s'/\(num=num'/\n=n'/\vs=vs')/\l.length=l'.length))=>kYB (a:=a) (a':=a') (c:=c) (c':=c') h)
  by_cases h1:op=op'
  rotate_left
  · have q1:=qYr h1;have HNO:=Zh (KN.out (fun h=>h1 h.1));clear h1 KN;go_wp2_with fail;go_ret;exact ⟨Qq HNO.out.symm,HB.out⟩
  subst h1
  by_cases h1:s=s'
  rotate_left
  · have q1:=qYr h1;have HNO:=Zh (KN.out (fun h=>h1 h.2.1));clear h1 KN;go_wp2_with fail;go_ret;exact ⟨Qq HNO.out.symm,HB.out⟩
  subst h1
  by_cases h1:num=num'/\n=n'/\vs=vs'
  rotate_left
  ·
   have HNO:=Zh (KN.out (fun h=>h1 h.2.2.1));have HQ:=Zh h1;clear h1 KN;go_wp2_with fail
   all_goals first
    | (exfalso;exact HQ.out ⟨by assumption,by assumption,Xk (by rw [<- Qp,<- Qp];assumption)⟩)
    | (go_ret;exact ⟨Qq HNO.out.symm,HB.out⟩)
  obtain ⟨rfl,rfl,rfl⟩:=h1
  by_cases h1:l.length=l'.length
  rotate_left
  ·
   have q1:¬ ((l.length:Int)=l'.length):=by omega
   have HNO:=Zh (KN.out (fun h=>h1 h.2.2.2));clear h1 KN;go_wp2_with fail;go_ret;exact ⟨Qq HNO.out.symm,HB.out⟩
  have HY:=Zh (kY8 (op:=op) (s:=s) (num:=num) (n:=n) (vs:=vs) (a:=a) (a':=a') (c:=c) (c':=c') h1);have HL:=Zh h1;rw [<- h1] at HZ y5;clear KN h1;go_wp2_with fail;go_loopw [5] (fun i wr=>SRel w B C op s num n vs (.slice a l.length c) (.slice a' l.length c') l l' i wr) (fun i _=>l.length - (intOf i).toNat)
  case atStart=>exact ⟨0,by omega,rfl,(fun j x y h=>by omega),HX,HZ,HB⟩
  case round=>
   obtain ⟨k,hk,rfl,HS,HX1,HZ1,HB1⟩:=hrel;obtain ⟨wo,rfl⟩:∃ wo,wo=wr:=⟨_,rfl⟩;clear HX HZ HB x0 x1 x2 x3 x4 x5 x6 y0 y1 y2 y3 y4 y5 y6;obtain ⟨x0,x1,x2,x3,x4,x5,x6⟩:=HX1.out.box;obtain ⟨y0,y1,y2,y3,y4,y5,y6⟩:=HZ1.out.box
   by_cases hlt:k < l.length
   ·
    have hlt':k < l'.length:=by rw [<- HL.out];exact hlt
    have HRo:=Zh (HRW.out.grow HB1.out);have HRp:=Zh (HRW'.out.grow HB1.out);obtain ⟨b,o,ha,hbz⟩:=HRo.out.head (i:=k) (by simpa using hlt);obtain rfl:a=some ⟨b,o,none⟩:=ha;obtain ⟨b',o',ha',hbz'⟩:=HRp.out.head (i:=k) (by simpa using hlt');obtain rfl:a'=some ⟨b',o',none⟩:=ha';obtain ⟨_,hcs⟩:=HRo.out.at (i:=k) (by simpa using hlt);obtain ⟨_,hcs'⟩:=HRp.out.at (i:=k) (by simpa using hlt');simp only [List.getElem_map] at hcs hcs';have e0:wo.cell? ⟨b,o+k*6,none⟩=some (.string l[k].op):=hcs 0 (by omega);have e1:wo.cell? ⟨b,o+k*6+1,none⟩=some (.string l[k].s):=hcs 1 (by omega);have e2:wo.cell? ⟨b,o+k*6+2,none⟩=some (.bool l[k].num):=hcs 2 (by omega);have e3:wo.cell? ⟨b,o+k*6+3,none⟩=some (.int .i64 l[k].n):=hcs 3 (by omega);have e4:wo.cell? ⟨b,o+k*6+4,none⟩=some (.string l[k].vs):=hcs 4 (by omega);have e5:wo.cell? ⟨b,o+k*6+5,none⟩=some (.slice l[k].a l[k].l.length l[k].c):=hcs 5 (by omega);have f0:wo.cell? ⟨b',o'+k*6,none⟩=some (.string l'[k].op):=hcs' 0 (by omega);have f1:wo.cell? ⟨b',o'+k*6+1,none⟩=some (.string l'[k].s):=hcs' 1 (by omega);have f2:wo.cell? ⟨b',o'+k*6+2,none⟩=some (.bool l'[k].num):=hcs' 2 (by omega);have f3:wo.cell? ⟨b',o'+k*6+3,none⟩=some (.int .i64 l'[k].n):=hcs' 3 (by omega);have f4:wo.cell? ⟨b',o'+k*6+4,none⟩=some (.string l'[k].vs):=hcs' 4 (by omega);have f5:wo.cell? ⟨b',o'+k*6+5,none⟩=some (.slice l'[k].a l'[k].l.length l'[k].c):=hcs' 5 (by omega);have q1:(k:Int) < l.length:=by omega
    have q2:(0:Int)<=k:=by omega
    have hg1:l[k]?=some l[k]:=List.getElem?_eq_getElem hlt;have hg2:l'[k]?=some l'[k]:=List.getElem?_eq_getElem hlt';have hnk:=kQT hg1;have HC:=Zh (fun W (hb:Below wo.heap.size wo W)=>HIH.out l[k] l'[k] (by have:=HN.out;omega) W ((HEL.out l[k] (List.getElem_mem hlt)).grow (Qk hb HB1.out)) ((HEL'.out l'[k] (List.getElem_mem hlt')).grow (Qk hb HB1.out)));have HG1:=Zh hg1;have HG2:=Zh hg2;obtain ⟨r,hr⟩:∃ r,qQY l[k] l'[k]=r:=⟨_,rfl⟩;rw [hr] at HC;have HRR:=Zh hr;clear hcs hcs' hg1 hg2 hnk hr;unfold PB.agg at HC;go_upto_region 6 with fail
    refine Tryst2.wp_region_grows [.is (.pointer (some ⟨B,5,none⟩)),.is (.slice (some ⟨b,o,none⟩) l.length c),.is (.int .i64 (k:Int)),.is (.pointer (some ⟨b,o+k*6,none⟩)),.is (.agg #[.string l[k].op,.string l[k].s,.bool l[k].num,.int .i64 l[k].n,.string l[k].vs,.slice l[k].a l[k].l.length l[k].c]),.is (.pointer (some ⟨C,5,none⟩)),.is (.slice (some ⟨b',o',none⟩) l.length c'),.is (.int .i64 (k:Int)),.is (.pointer (some ⟨b',o'+k*6,none⟩)),.is (.agg #[.string l'[k].op,.string l'[k].s,.bool l'[k].num,.int .i64 l'[k].n,.string l'[k].vs,.slice l'[k].a l'[k].l.length l'[k].c]),.is (.bool r),.is (.bool !r)] (by kernel_rfl) (by kernel_rfl) ?obl ?fin
    case obl=>
     simp only [YA,YL,YO,YR,Op.operands,Call.operands]
     repeat' apply And.intro
     any_goals trivial
     all_goals (intro tv w' hg hold hd;(try simp at hold);obtain ⟨hcg,hfg,hsg⟩:=YG hg)
     all_goals first | (go_simp;done) | (go_simp;rw [if_neg (by omega)];exact ⟨.refl _,rfl⟩) | (obtain ⟨⟨g,hvg,hgg,hcell⟩,_⟩:=hd;have hcell0:=hcell 0 (by decide);simp at hcell0;go_simp;done) | (go_simp;go_at_call 107;(with_reducible refine (HC.out _ ?_).mono ?_);(exact Tryst2.Grow.below hg (.refl _ _));rintro e w2 ⟨rfl,hb2⟩;exact ⟨hb2,rfl⟩)
    case fin=>
     intro tv w' hg hR;simp only [YF,YL,YR] at hR;obtain ⟨hcg,hfg,hsg⟩:=YG hg;simp only [YP,YL,Act.put,hR];have HBG:=Zh (Tryst2.Grow.below hg (.refl wo.heap.size wo));have HX2:=Zh (HX1.out.grow HBG.out);have HZ2:=Zh (HZ1.out.grow HBG.out);have HB2:=Zh (Qk HBG.out HB1.out);clear hg hR hcg hfg hsg x0 x1 x2 x3 x4 x5 x6 y0 y1 y2 y3 y4 y5 y6 e0 e1 e2 e3 e4 e5 f0 f1 f2 f3 f4 f5 HX1 HZ1 HB1 HC HBG HRo HRp;obtain ⟨x0,x1,x2,x3,x4,x5,x6⟩:=HX2.out.box;obtain ⟨y0,y1,y2,y3,y4,y5,y6⟩:=HZ2.out.box;cases r with
     | false=>
      have HNO:Hid (jQ7 l l'=false):=by
       show _=_;cases e:jQ7 l l' with
       | false=>rfl
       | true=>
        have:=(kQN l l' HL.out).1 e k _ _ HG1.out HG2.out;rw [HRR.out] at this;cases this
      go_wp2_with fail;go_ret;exact ⟨Qq (by rw [HY.out,HNO.out]),HB2.out⟩
     | true=>
      have HS2:Hid (∀ (j:Nat) (x y:PB),j < k+1->l[j]?=some x->l'[j]?=some y->qQY x y=true):=by
       show ∀ _,_;intro j x y hj hx hy
       by_cases e:j=k
       · subst e;rw [HG1.out] at hx;rw [HG2.out] at hy;cases hx;cases hy;exact HRR.out
       · exact HS.out j x y (by omega) hx hy
      clear HS;go_wp2_with fail;go_roundw
      case rel=>exact ⟨k+1,by omega,by go_num,HS2,HX2,HZ2,HB2⟩
      case measure=>simp [intOf]<;>omega
   ·
    have HYES:Hid (jQ7 l l'=true):=by
     show _=_;rw [kQN l l' HL.out];intro i x y hx hy;exact HS.out i x y (by have:=(List.getElem?_eq_some_iff.1 hx).1;omega) hx hy
    go_wp2_with fail;go_ret;exact ⟨Qq (by rw [HY.out,HYES.out]),HB1.out⟩
end Go.Proofs.YtcbicdencgjfiaaGreatDoor
namespace Tryst
open Go Go.RowKit
structure RawKey (P:Program) (k:TypeId) (KS:Value->Prop):Prop where
 check:∀ (w:World) (em:Bool) {v:Value},KS v->(Instr.checkKey em 10000 k v).run P w=.ok () w
 find:∀ (w:World) {x:Value},KS x->∀ es:List MapEntry,(∀ e∈es,KS e.key)->
  ((Instr.findKey k x es).run P w=.ok none w/\∀ e∈es,e.key≠x)∨∃ j e,(Instr.findKey k x es).run P w=.ok (some (j,e.val)) w/\es[j]?=some e/\e.key=x
 stays:∀ (w:World) {v:Value},KS v->(Instr.keyThatStays v v).run P w=.ok v w
theorem RawKey.of_keyed {P:Program} {k:TypeId} (K:Maps.Keyed P k):RawKey P k (fun v=>∃ l,keyOf P k v=some l) where
 check w em:=by rintro v ⟨l,h⟩;exact K.check w em h
 find w:=by rintro x ⟨l,h⟩ es hes;exact K.find w h es hes
 stays w:=by rintro v ⟨l,h⟩;exact K.stays w h
theorem RawKey.sub {P:Program} {k:TypeId} {KS KS':Value->Prop} (K:RawKey P k KS) (h:∀ v,KS' v->KS v):RawKey P k KS' where
 check w em:=fun hv=>K.check w em (h _ hv)
 find w:=fun hx es hes=>K.find w (h _ hx) es (fun e he=>h _ (hes e he))
 stays w:=fun hv=>K.stays w (h _ hv)
def MapK {A:Type} (enc:A->Value) (ok:A->Prop) (w:World) (b n:Nat) (f:A->Option Value):Prop:=
 ∃ es clock,w.heap[b]?=some (.map es clock)/\es.size<=n/\(∀ e∈es.toList,∃ a,ok a/\e.key=enc a/\f a=some e.val)/\es.toList.Pairwise (fun x y=>x.key≠y.key)/\(∀ a v,f a=some v->ok a/\∃ e∈es.toList,e.key=enc a)
section
variable {A:Type} {enc:A->Value} {ok:A->Prop} {P:Program} {k e t:TypeId} {w w':World} {b n:Nat} {f:A->Option Value}
theorem MapK.lt (h:MapK enc ok w b n f):b < w.heap.size:=by
 obtain ⟨es,c,h1,_⟩:=h;exact (Array.getElem?_eq_some_iff.1 h1).1
theorem MapK.of_block (h:MapK enc ok w b n f) (hb:w'.heap[b]?=w.heap[b]?):MapK enc ok w' b n f:=by
 obtain ⟨es,c,h1,h2⟩:=h;exact ⟨es,c,hb.trans h1,h2⟩
theorem MapK.growB (h:MapK enc ok w b n f) {B:Nat} (hB:b < B) (hb:Below B w w'):MapK enc ok w' b n f:=h.of_block (hb.block b hB)
theorem MapK.grow (h:MapK enc ok w b n f) (hb:Below w.heap.size w w'):MapK enc ok w' b n f:=h.growB h.lt hb
theorem MapK.away (h:MapK enc ok w b n f) {c o:Nat} (hc:c≠b) (u:Value):MapK enc ok (w.setCell ⟨c,o,none⟩ u) b n f:=h.of_block (Below.heap_setCell _ _ _ _ (fun e=>hc e.symm))
theorem MapK.kept {row:Option Nat} (h:MapK enc ok w b n f) (hg:w.grownBy w' row) (hr:some b≠row):MapK enc ok w' b n f:=h.of_block (hg.block b h.lt hr)
theorem MapK.made (enc:A->Value) (ok:A->Prop) (w:World):MapK enc ok (w.alloc (.map #[] 0)) w.heap.size 0 (fun _=>none):=
 ⟨#[],0,(MapKept.heap_alloc w _).1,Nat.le_refl _,by simp,by simp,by simp⟩
theorem MapK.mono {n':Nat} (h:MapK enc ok w b n f) (hn:n<=n'):MapK enc ok w b n' f:=by
 obtain ⟨es,c,h1,h2,h3⟩:=h;exact ⟨es,c,h1,Nat.le_trans h2 hn,h3⟩
variable (K:RawKey P k (fun v=>∃ a,ok a/\v=enc a)) (hi:∀ a a',enc a=enc a'→a=a')
include K hi
theorem MapK.look (h:MapK enc ok w b n f) (ht:P.underlying t=some (.map k e)) {z:Value} (hz:(zeroValue e).run P w=.ok z w) {a:A} (ha:ok a) (c:Bool) :
  (Instr.lookup t (.map (some b)) (enc a) c).run P w=.ok (if c then .tuple #[(f a).getD z,.bool (f a).isSome] else (f a).getD z) w:=by
 obtain ⟨es,cl,h1,h2,h3,hp,h4⟩:=h
 have hk:∀ e∈es.toList,∃ a,ok a/\e.key=enc a:=fun e he=>by
  obtain ⟨a,h5,h6,_⟩:=h3 e he;exact ⟨a,h5,h6⟩
 rcases K.find w ⟨a,ha,rfl⟩ es.toList hk with ⟨g1,g2⟩ | ⟨j,e0,g1,g2,g3⟩
 ·
  have hn:f a=none:=by
   cases hf:f a with
   | none=>rfl
   | some v=>
    obtain ⟨_,e,he,hke⟩:=h4 a v hf;exact absurd hke (g2 e he)
  rw [hn];simp [Instr.lookup,run_underlying ht,MapKept.run_getObj_map h1,K.check w _ ⟨a,ha,rfl⟩,g1,hz,Result.andThen]
 · obtain ⟨a',_,h6,h7⟩:=h3 e0 (List.mem_of_getElem? g2);obtain rfl:a'=a:=hi _ _ (h6.symm.trans g3);rw [h7];simp [Instr.lookup,run_underlying ht,MapKept.run_getObj_map h1,K.check w _ ⟨a',ha,rfl⟩,g1,Result.andThen]
theorem MapK.put (h:MapK enc ok w b n f) (ht:P.underlying t=some (.map k e)) [DecidableEq A] {a:A} (ha:ok a) (v:Value) :
  ∃ w',(Instr.mapUpdate t (.map (some b)) (enc a) v).run P w=.ok () w'/\MapK enc ok w' b (n+1) (fun x=>if x=a then some v else f x)/\w.grownBy w' (some b)/\w'.heap.size=w.heap.size:=by
 obtain ⟨es,cl,h1,h2,h3,hp,h4⟩:=h;have hlt:=(Array.getElem?_eq_some_iff.1 h1).1
 have hk:∀ e∈es.toList,∃ a,ok a/\e.key=enc a:=fun e he=>by
  obtain ⟨a,h5,h6,_⟩:=h3 e he;exact ⟨a,h5,h6⟩
 have grown:∀ o:Obj,w.grownBy (ChangeMaps.setBlock w b o) (some b):=fun o=>⟨rfl,rfl,rfl,by simp [ChangeMaps.setBlock],fun i _ hi=>ChangeMaps.heap_setBlock_other h1 o (fun e=>hi (by rw [e]))⟩
 have hsz:∀ o:Obj,(ChangeMaps.setBlock w b o).heap.size=w.heap.size:=fun o=>by simp [ChangeMaps.setBlock]
 rcases K.find w ⟨a,ha,rfl⟩ es.toList hk with ⟨g1,g2⟩ | ⟨j,e0,g1,g2,g3⟩
 ·
  refine ⟨ChangeMaps.setBlock w b (.map (es.push ⟨enc a,v,cl⟩) (cl+1)),by simp [Instr.mapUpdate,run_underlying ht,MapKept.run_getObj_map h1,K.check w false ⟨a,ha,rfl⟩,g1,MapKept.run_setObj_map _ h1,Result.andThen,ChangeMaps.setBlock],⟨es.push ⟨enc a,v,cl⟩,cl+1,ChangeMaps.heap_setBlock_same h1 _,by simp;omega,fun x hx=>?_,?_,fun x u hx=>?_⟩,grown _,hsz _⟩
  ·
   simp only [Array.toList_push,List.mem_append,List.mem_singleton] at hx
   rcases hx with hx | rfl
   · obtain ⟨y,y1,y2,y3⟩:=h3 x hx;refine ⟨y,y1,y2,?_⟩;exact (if_neg (fun e=>g2 x hx (by rw [y2,e]))).trans y3
   · exact ⟨a,ha,rfl,if_pos rfl⟩
  · rw [Array.toList_push,List.pairwise_append];refine ⟨hp,by simp,fun x hx y hy=>?_⟩;rw [List.mem_singleton] at hy;subst hy;exact g2 x hx
  ·
   by_cases hxa:x=a
   · subst hxa;exact ⟨ha,⟨enc x,v,cl⟩,by simp,rfl⟩
   ·
    replace hx:f x=some u:=(if_neg hxa).symm.trans hx
    obtain ⟨y1,e,y2,y3⟩:=h4 x u hx;exact ⟨y1,e,by simp [y2],y3⟩
 ·
  have hj:es[j]?=some e0:=by simpa using g2
  have hjl:j < es.toList.length:=(List.getElem?_eq_some_iff.1 g2).1;have hlist:(es.modify j (fun e'=>{ e' with key:=enc a,val:=v })).toList=es.toList.set j { e0 with key:=enc a,val:=v }:=by rw [Array.toList_modify,ChangeMaps.modify_eq_set _ _ _ _ g2]
  have hne:∀ x∈es.toList,x.key=enc a->x=e0:=fun x hx hxk=>by
   obtain ⟨i,hi',rfl⟩:=List.mem_iff_getElem.1 hx;obtain ⟨_,he0⟩:=List.getElem?_eq_some_iff.1 g2
   rcases Nat.lt_trichotomy i j with hij | hij | hij
   · exact absurd (hxk.trans (g3.symm.trans (by rw [he0]))) (List.pairwise_iff_getElem.1 hp i j hi' hjl hij)
   · subst hij;exact he0
   · exact absurd (((by rw [he0];exact g3):es.toList[j].key=enc a).trans hxk.symm) (List.pairwise_iff_getElem.1 hp j i hjl hi' hij)
  refine ⟨ChangeMaps.setBlock w b (.map (es.modify j (fun e'=>{ e' with key:=enc a,val:=v })) cl),?_,⟨_,cl,ChangeMaps.heap_setBlock_same h1 _,by simp;omega,fun x hx=>?_,?_,fun x u hx=>?_⟩,grown _,hsz _⟩
  · have hst:=K.stays w ⟨a,ha,rfl⟩;simp [Instr.mapUpdate,run_underlying ht,MapKept.run_getObj_map h1,K.check w false ⟨a,ha,rfl⟩,g1,MapKept.run_setObj_map _ h1,Result.andThen,ChangeMaps.setBlock,hj,g3,hst]
  ·
   rw [hlist] at hx;obtain ⟨i,hi',rfl⟩:=List.mem_iff_getElem.1 hx;rw [List.length_set] at hi'
   by_cases hij:j=i
   · subst hij;rw [List.getElem_set_self];exact ⟨a,ha,rfl,if_pos rfl⟩
   ·
    rw [List.getElem_set_ne hij];obtain ⟨y,y1,y2,y3⟩:=h3 _ (List.getElem_mem hi');refine ⟨y,y1,y2,?_⟩;refine (if_neg ?_).trans y3
    ·
     intro e;obtain ⟨_,he0⟩:=List.getElem?_eq_some_iff.1 g2;have hk2:es.toList[i].key=enc a:=by rw [y2,e]
     have hk3:es.toList[j].key=enc a:=by rw [he0];exact g3
     rcases Nat.lt_or_gt_of_ne hij with h | h
     · exact List.pairwise_iff_getElem.1 hp j i hjl hi' h (hk3.trans hk2.symm)
     · exact List.pairwise_iff_getElem.1 hp i j hi' hjl h (hk2.trans hk3.symm)
  ·
   rw [hlist];have:(es.toList.map (·.key)).Pairwise (·≠·):=List.pairwise_map.2 hp
   have h2:(es.toList.set j { e0 with key:=enc a,val:=v }).map (·.key)=es.toList.map (·.key):=by
    rw [List.map_set]
    apply List.ext_getElem
    · simp
    ·
     intro i q1 q2
     by_cases hij:j=i
     · subst hij;obtain ⟨_,he0⟩:=List.getElem?_eq_some_iff.1 g2;rw [List.getElem_set_self,List.getElem_map,he0];exact g3.symm
     · rw [List.getElem_set_ne hij]
   have h5:((es.toList.set j { e0 with key:=enc a,val:=v }).map (·.key)).Pairwise (·≠·):=by rw [h2];exact this
   exact List.pairwise_map.1 h5
  ·
   have self:∃ e∈(es.modify j (fun e'=>{ e' with key:=enc a,val:=v })).toList,e.key=enc a:=by
    rw [hlist];exact ⟨_,List.mem_set hjl _,rfl⟩
   by_cases hxa:x=a
   · subst hxa;exact ⟨ha,self⟩
   ·
    replace hx:f x=some u:=(if_neg hxa).symm.trans hx
    obtain ⟨y1,e,y2,y3⟩:=h4 x u hx;refine ⟨y1,e,?_,y3⟩;rw [hlist];obtain ⟨i,hi',rfl⟩:=List.mem_iff_getElem.1 y2
    have hij:j≠i:=fun q=>by
     subst q;obtain ⟨_,he0⟩:=List.getElem?_eq_some_iff.1 g2;exact hxa (hi _ _ (y3.symm.trans (by rw [he0];exact g3)))
    have hq:es.toList[i]=(es.toList.set j { e0 with key:=enc a,val:=v })[i]'(by rw [List.length_set];exact hi'):=by rw [List.getElem_set_ne hij]
    rw [hq];exact List.getElem_mem _
theorem jQq {ops:Array Oper} {rest:List Oper} {o:Oper} {a:Act} {Q:Exit->Act->World->Prop} (hg:o.guard=none) (m x:Operand) (c:Bool) (hop:o.op=Op.lookup t m x c)
  (h:MapK enc ok w b n f) (ht:P.underlying t=some (.map k e)) {z:Value} (hz:(zeroValue e).run P w=.ok z w) (hm:a.eval m=.map (some b)) {y:A} (hy:ok y) (hx:a.eval x=enc y)
  (hK:wpList P ops Q rest (a.put o.dst (if c then .tuple #[(f y).getD z,.bool (f y).isSome] else (f y).getD z)) w):wpList P ops Q (o :: rest) a w:=by
 refine wpList_plain hg fun K' hK'=>?_
 have hrun:=h.look K hi ht hz hy c;unfold Oper.wp;simp [execOp,hop,hm,hx,Result.andThen];rw [hrun];exact hK' _ _ hK
theorem zQe [DecidableEq A] {ops:Array Oper} {rest:List Oper} {o:Oper} {a:Act} {Q:Exit->Act->World->Prop} (hg:o.guard=none) (m x y:Operand) (hop:o.op=Op.mapUpdate t m x y∨o.op=Op.insert t m x y)
  (h:MapK enc ok w b n f) (ht:P.underlying t=some (.map k e)) (hm:a.eval m=.map (some b)) {u:A} (hu:ok u) (hx:a.eval x=enc u) {v:Value} (hy:a.eval y=v)
  (hK:∀ w',MapK enc ok w' b (n+1) (fun x=>if x=u then some v else f x)->w.grownBy w' (some b)->w'.heap.size=w.heap.size->wpList P ops Q rest (a.put o.dst undef) w'):wpList P ops Q (o :: rest) a w:=by
 refine wpList_plain hg fun K' hK'=>?_
 obtain ⟨w',hrun,h1,h2,h3⟩:=h.put K hi ht hu v;unfold Oper.wp
 rcases hop with hop | hop
 · simp [execOp,hop,hm,hx,hy,hrun,Result.andThen];exact hK' _ _ (hK w' h1 h2 h3)
 · simp [execOp,hop,hm,hx,hy,hrun,Result.andThen];exact hK' _ _ (hK w' h1 h2 h3)
end
end Tryst
namespace Go.Proofs.YtcbicdencgjfiaaGreatDoor
open Tryst
end Go.Proofs.YtcbicdencgjfiaaGreatDoor
namespace Tryst
open Go Go.RowKit
noncomputable def least (R:Nat->Prop):Nat:=open Classical in if h:∃ m,R m/\∀ k,R k->m<=k then Classical.choose h else 0
end Tryst
namespace Tryst
open Go Go.RowKit
structure RawKeyW (P:Program) (k:TypeId) (KS:Value->Prop) (w:World):Prop where
 check:∀ (em:Bool) {v:Value},KS v->(Instr.checkKey em 10000 k v).run P w=.ok () w
 find:∀ {x:Value},KS x->∀ es:List MapEntry,(∀ e∈es,KS e.key)->
  ((Instr.findKey k x es).run P w=.ok none w/\∀ e∈es,e.key≠x)∨∃ j e,(Instr.findKey k x es).run P w=.ok (some (j,e.val)) w/\es[j]?=some e/\e.key=x
 stays:∀ {v:Value},KS v->(Instr.keyThatStays v v).run P w=.ok v w
section
variable {A:Type} {enc:A->Value} {ok:A->Prop} {P:Program} {k e t:TypeId} {w w':World} {b n:Nat} {f:A->Option Value}
variable (K:RawKeyW P k (fun v=>∃ a,ok a/\v=enc a) w) (hi:∀ a a',enc a=enc a'→a=a')
include K hi
end
end Tryst
namespace Go.Proofs.YtcbicdencgjfiaaGreatDoor
open Go.RowKit Tryst
structure PK where
 a:Nat × Nat
 b:Nat × Nat
 n:Nat
deriving DecidableEq
end Go.Proofs.YtcbicdencgjfiaaGreatDoor
namespace Tryst
open Go Go.RowKit
theorem RawKeyW.sub {P:Program} {k:TypeId} {KS KS':Value->Prop} {w:World} (K:RawKeyW P k KS w) (h:∀ v,KS' v->KS v):RawKeyW P k KS' w where
 check em:=fun hv=>K.check em (h _ hv)
 find:=fun hx es hes=>K.find (h _ hx) es (fun e he=>h _ (hes e he))
 stays:=fun hv=>K.stays (h _ hv)
theorem SW.cells_len (l:List SW):∀ x∈l.map SW.cells,x.length=2:=by
 intro x hx;obtain ⟨s,_,rfl⟩:=List.mem_map.1 hx;rfl
end Tryst
namespace Go.Proofs.YtcbicdencgjfiaaGreatDoor
open Go.RowKit Tryst
section
variable {w W W':World} {M base:Nat} {S Wk:List SW} {met:PK->Bool} {v:Value}
end
