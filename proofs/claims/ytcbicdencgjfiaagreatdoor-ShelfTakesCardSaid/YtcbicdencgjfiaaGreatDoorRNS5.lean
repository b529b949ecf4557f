import Derived.Deep.AppendLies
import Derived.Test.YtcbicdencgjfiaaGreatDoorOffU
import Derived.Test.YtcbicdencgjfiaaGreatDoorParN
set_option linter.all false
set_option maxHeartbeats 40000000
set_option maxRecDepth 100000
namespace Tryst
open Go Go.RowKit
theorem Q8 {P:Program} {w:World} {ops:Array Oper} {rest:List Oper} {o:Oper} {a:Act} {Q:Exit->Act->World->Prop} {t e:TypeId} {k bytes:Nat} (E:SliceOf P t e k bytes) (hgd:o.guard=none) (s x:Operand)
  (ho:o.op=.call { callee:=.builtin .append,args:=#[s,x],argTypes:=#[t,t] })
  (base:Nat) (v:Value) (l:List (List Value)) (n:Nat) (hln:l.length=n) (hs:a.eval s=v) (hown:ROwn e k w base v l) (f:List Value) (hfk:f.length=k) (h1:∀ u∈f,u.oneCell'=true)
  (g:Nat) (hx:a.eval x=.slice (some ⟨g,0,none⟩) 1 1) (hf:∀ j,j < k->w.cell? ⟨g,j,none⟩=f[j]?)
  (hn:n+1<=1073741824) (hbase:base<=w.heap.size)
  (h:∀ g' cap w',ROwn e k w' base (.slice (some ⟨g',0,none⟩) (n+1) cap) (l++[f])->Below base w w'→(∀ k,k < w.heap.size->Away v k->w'.heap[k]?=w.heap[k]?)->(v.ownBlock=some g'∨g'=w.heap.size)->g' < w'.heap.size->wpList P ops Q rest (a.put o.dst (.slice (some ⟨g',0,none⟩) (n+1) cap)) w'):wpList P ops Q (o :: rest) a w:=by
 subst hln;obtain ⟨i,z,hi,hz,h2,h3,h4⟩:=E.info;have hown':w.ownsRow base e k v l.length l.flatten:=hown;refine wpList_append_lies w hgd s x t ho base e i z k bytes E.und hi hz h2 h3 h4 E.pos v l.length l.flatten hs hown' ⟨g,0,none⟩ 1 1 f hx (by omega) ?_ h1 (by omega) (by unfold maxLen;omega) ?_ hbase w.heap.size rfl ?_
 · intro j u hj;rw [Addr.add_lit,Nat.zero_add];rw [hf j (by rw [<- hfk];exact (List.getElem?_eq_some_iff.1 hj).1)];exact hj
 ·
  have:=E.small
  calc (l.length+1)*bytes<=1073741824*65536:=Nat.mul_le_mul hn this
   _<=_:=by decide
 ·
  intro g' cap w' ho' hg' hat hlt
  have ho2:ROwn e k w' base (.slice (some ⟨g',0,none⟩) (l.length+1) cap) (l++[f]):=by
   unfold ROwn;rw [List.flatten_append,List.length_append]
   simpa using ho'
  refine h g' cap w' ho2 ((Below.refl base w).grown hg' hbase fun k hk=>(hown'.lt k hk).1) (fun k hk ha=>hg'.block k hk fun hc=>?_) hat hlt;cases v with
  | slice a0 n c=>
   cases a0 with
   | none=>simp [Value.ownBlock] at hc
   | some A=>simp [Value.ownBlock] at hc;exact ha A n c rfl hc.symm
  | _=>simp [Value.ownBlock] at hc
inductive POwn (w:World) (S:Nat->Prop):PB->Prop
 | mk (op s:ByteArray) (num:Bool) (n:Int) (vs:ByteArray) (a:Option Addr) (c:Nat) (l:List PB):op.size<=1500000->s.size<=1500000->vs.size<=1500000->l.length<=10->(-9223372036854775808<=n/\n<=9223372036854775807)->Row w a 6 (l.map PB.cells)->Sl a c l.length->(∀ b o,a=some ⟨b,o,none⟩->S b/\b < w.heap.size)->(∀ b o,a=some ⟨b,o,none⟩->∃ cs T,w.heap[b]?=some (.cells cs T (0,0)))->(∀ x,x∈l->POwn w S x)->POwn w S (.mk op s num n vs a c l)
theorem Row.block {w w':World} {a:Option Addr} {k:Nat} {l:List (List Value)} (h:Row w a k l) (hb:∀ b o,a=some ⟨b,o,none⟩->w'.heap[b]?=w.heap[b]?) (hz:w.heap.size<=w'.heap.size):Row w' a k l:=by
 intro i hi;obtain ⟨b,o,h1,h2,h3⟩:=h i hi;exact ⟨b,o,h1,Nat.lt_of_lt_of_le h2 hz,fun j hj=>(World.cell?_of_block (w:=w) (a:=⟨b,o+i*k+j,none⟩) (hb b o h1)).trans (h3 j hj)⟩
theorem POwn.keep {w w':World} {S S':Nat->Prop} {p:PB} (h:POwn w S p) (hk:∀ b,S b->b < w.heap.size->w'.heap[b]?=w.heap[b]?/\S' b) (hz:w.heap.size<=w'.heap.size):POwn w' S' p:=by
 induction h with
 | mk op s num n vs a c l h0 h1 h2 h3 hn h4 h5 h6 h7 _ ih=>
  refine .mk op s num n vs a c l h0 h1 h2 h3 hn (h4.block (fun b o e=>?_) hz) h5 (fun b o e=>?_) (fun b o e=>?_) ih
  · obtain ⟨q1,q2⟩:=h6 b o e;exact (hk b q1 q2).1
  · obtain ⟨q1,q2⟩:=h6 b o e;exact ⟨(hk b q1 q2).2,Nat.lt_of_lt_of_le q2 hz⟩
  · obtain ⟨q1,q2⟩:=h6 b o e;rw [(hk b q1 q2).1];exact h7 b o e
theorem POwn.grow {w w':World} {S S':Nat->Prop} {p:PB} (h:POwn w S p) (hb:Below w.heap.size w w') (hS:∀ b,S b->S' b):POwn w' S' p:=h.keep (fun b h1 h2=>⟨hb.block b h2,hS b h1⟩) hb.size
theorem POwn.mem {w:World} {S:Nat->Prop} {p:PB} (h:POwn w S p):PMem w p:=by
 induction h with
 | mk op s num n vs a c l h0 h1 h2 h3 hn h4 h5 h6 h7 _ ih=>exact .mk op s num n vs a c l (by omega) (by omega) (by omega) h4 ih
theorem ROwn.plain {e:TypeId} {k:Nat} {w:World} {base:Nat} {v:Value} {l:List (List Value)} (h:ROwn e k w base v l) {b o n c:Nat} (hv:v=.slice (some ⟨b,o,none⟩) n c):∃ cs T,w.heap[b]?=some (.cells cs T (0,0)):=by
 rcases h.2 with ⟨h1,_⟩ | ⟨g,cap,cur,h1,hg,hh,_⟩
 · rw [h1] at hv;cases hv
 · rw [h1] at hv;cases hv;exact ⟨_,_,hh⟩
end Tryst
namespace Go.Proofs.YtcbicdencgjfiaaGreatDoor
open Go.RowKit Tryst
def BX (w:World) (g:Nat) (op s:ByteArray) (num:Bool) (n:Int) (vs:ByteArray) (u:Value):Prop:=w.heap[g]?=some (.cells #[.string op,.string s,.bool num,.int .i64 n,.string vs,u] 123 (0,0))
section
variable {w w':World} {g:Nat} {op s:ByteArray} {num:Bool} {n:Int} {vs:ByteArray} {u:Value}
theorem BX.box (h:BX w g op s num n vs u):PBox w g op s num n vs u:=by
 have hz:=(Array.getElem?_eq_some_iff.1 h).1;unfold BX at h
 constructor<;>first | exact hz | simp [World.cell?,h]
theorem BX.fz (h:BX w g op s num n vs u) (j:Nat):w.frozen? ⟨g,j,none⟩=false:=by
 unfold BX at h;simp [World.frozen?,h]
theorem BX.grow (h:BX w g op s num n vs u) (hb:Below w.heap.size w w'):BX w' g op s num n vs u:=(hb.block g (Array.getElem?_eq_some_iff.1 h).1).trans h
theorem BX.new (w:World) (op s:ByteArray) (num:Bool) (n:Int) (vs:ByteArray) (u:Value):BX (w.alloc (.cells #[.string op,.string s,.bool num,.int .i64 n,.string vs,u] 123)) w.heap.size op s num n vs u:=by
 show (w.heap.push _)[w.heap.size]?=_;simp
theorem BX.away (h:BX w g op s num n vs u) {c o:Nat} (hc:c≠g) (x:Value):BX (w.setCell ⟨c,o,none⟩ x) g op s num n vs u:=(Below.heap_setCell _ _ _ _ (fun e=>hc e.symm)).trans h
theorem BX.set0 (h:BX w g op s num n vs u) (op':ByteArray):BX (w.setCell ⟨g,0,none⟩ (.string op')) g op' s num n vs u:=by
 unfold BX at h ⊢;simp [World.setCell,Array.getElem?_modify,h]
theorem BX.all (h:BX w g op s num n vs u) (op' s':ByteArray) (num':Bool) (n':Int) (vs':ByteArray) (u':Value):BX ((((((w.setCell ⟨g,0,none⟩ (.string op')).setCell ⟨g,1,none⟩ (.string s')).setCell ⟨g,2,none⟩ (.bool num')).setCell ⟨g,3,none⟩ (.int .i64 n')).setCell ⟨g,4,none⟩ (.string vs')).setCell ⟨g,5,none⟩ u') g op' s' num' n' vs' u':=by
 unfold BX at h ⊢;simp [World.setCell,Array.getElem?_modify,h]
end
theorem predT:SliceOf Tryz.prog 41 123 6 88:=.mk' Tryz.underlying41 (z:=.agg #[.string ⟨#[]⟩,.string ⟨#[]⟩,.bool false,.int .i64 0,.string ⟨#[]⟩,.slice none 0 0]) (by kernel_rfl) rfl (by decide) (by decide)
end Go.Proofs.YtcbicdencgjfiaaGreatDoor
namespace Tryst
open Go Go.RowKit Go.ChangeShapes Go.WideShapes Go.Joins
end Tryst
namespace Go.Proofs.YtcbicdencgjfiaaGreatDoor
open Go.RowKit Tryst Go.ChangeShapes Go.WideShapes Go.Joins
section
variable {H:Type} {enc:TypeId × Value->H} {w:World} {base:Nat} {sp:Nat->Bool} {hd:Bool}
end
end Go.Proofs.YtcbicdencgjfiaaGreatDoor
namespace Go.Proofs.YtcbicdencgjfiaaGreatDoor
open Go.RowKit Tryst
theorem Flds.keep {w w':World} {a:Option Addr} {l:List FB} (h:Flds w a l) (hb:∀ b o,a=some ⟨b,o,none⟩->w'.heap[b]?=w.heap[b]?) (hz:w.heap.size<=w'.heap.size):Flds w' a l:=by
 intro i hi;obtain ⟨b,o,h1,h2,h3⟩:=h i hi;have hc:∀ j,w'.cell? ⟨b,j,none⟩=w.cell? ⟨b,j,none⟩:=fun j=>World.cell?_of_block (w:=w) (a:=⟨b,j,none⟩) (hb b o h1)
 obtain ⟨k0,k1,k2,k3⟩:=h3;exact ⟨b,o,h1,by omega,⟨by rw [hc];exact k0,by rw [hc];exact k1,by rw [hc];exact k2,by rw [hc];exact k3⟩⟩
def jYB (w:World) (B:Nat) (a0 a1:ByteArray) (a2:Bool) (a3:Int) (a4:ByteArray) (a5:Value) (b0 b1:ByteArray) (b2:Bool) (b3:Int) (b4:ByteArray) (b5:Value) (t p:ByteArray) (q:Int) (u:Value):World:=
 (((((((((((((((w.setCell ⟨B,0,none⟩ (.string a0)).setCell ⟨B,1,none⟩ (.string a1)).setCell ⟨B,2,none⟩ (.bool a2)).setCell ⟨B,3,none⟩ (.int .i64 a3)).setCell ⟨B,4,none⟩ (.string a4)).setCell ⟨B,5,none⟩ a5).setCell ⟨B+1,0,none⟩ (.string b0)).setCell ⟨B+1,1,none⟩ (.string b1)).setCell ⟨B+1,2,none⟩ (.bool b2)).setCell ⟨B+1,3,none⟩ (.int .i64 b3)).setCell ⟨B+1,4,none⟩ (.string b4)).setCell ⟨B+1,5,none⟩ b5).setCell ⟨B+2,0,none⟩ (.string t)).setCell ⟨B+2,1,none⟩ (.string p)).setCell ⟨B+2,2,none⟩ (.int .u64 q)).setCell ⟨B+2,3,none⟩ u
section
variable {w:World} {B:Nat} {a0 a1:ByteArray} {a2:Bool} {a3:Int} {a4:ByteArray} {a5:Value} {b0 b1:ByteArray} {b2:Bool} {b3:Int} {b4:ByteArray} {b5:Value} {t p:ByteArray} {q:Int} {u:Value}
end
end Go.Proofs.YtcbicdencgjfiaaGreatDoor
namespace Tryst
open Go Go.RowKit
abbrev PO (w:World) (x:PB):Prop:=POwn w (fun _=>True) x
theorem PO.grow {w w':World} {x:PB} (h:PO w x) (hb:Below w.heap.size w w'):PO w' x:=POwn.grow h hb (fun _ _=>trivial)
theorem POwn.po {w:World} {S:Nat->Prop} {x:PB} (h:POwn w S x):PO w x:=POwn.grow h (.refl _ _) (fun _ _=>trivial)
theorem PO.parts {w:World} {op s:ByteArray} {num:Bool} {n:Int} {vs:ByteArray} {a:Option Addr} {c:Nat} {l:List PB} (h:PO w (.mk op s num n vs a c l)):(op.size<=1500000/\s.size<=1500000/\vs.size<=1500000/\l.length<=10)/\(-9223372036854775808<=n/\n<=9223372036854775807)/\Row w a 6 (l.map PB.cells)/\∀ x∈l,PO w x:=by
 cases h with
 | mk _ _ _ _ _ _ _ _ h0 h1 h2 h3 h4 h5 h6 h7 h8 h9=>exact ⟨⟨h0,h1,h2,h3⟩,h4,h5,h9⟩
theorem PO.plain {w:World} {x:PB} (h:PO w x) {b o:Nat} (e:x.a=some ⟨b,o,none⟩):b < w.heap.size/\∃ cs T,w.heap[b]?=some (.cells cs T (0,0)):=by
 cases h with
 | mk _ _ _ _ _ _ _ _ h0 h1 h2 h3 h4 h5 h6 h7 h8 h9=>exact ⟨(h7 b o e).2,h8 b o e⟩
theorem kYe:∀ (l:List PB) (k:Nat) (h:k < l.length),Xz (l.take (k+1))=Xz (l.take k)+J9 l[k]
 | x :: r,0,h=>by simp [Xz]
 | x :: r,k+1,h=>by
  have:=kYe r k (by simpa using h);rw [List.take_succ_cons,List.take_succ_cons,Xz,Xz,this];simp;omega
theorem kYl:∀ (l:List PB) (k:Nat),Xz (l.take k)<=Xz l
 | [],k=>by simp
 | x :: r,0=>by simp [Xz]
 | x :: r,k+1=>by
  have:=kYl r k;rw [List.take_succ_cons,Xz,Xz];omega
end Tryst
namespace Go.Proofs.YtcbicdencgjfiaaGreatDoor
open Go.RowKit Tryst
def NRel (w:World) (B:Nat) (op s:ByteArray) (num:Bool) (n:Int) (vs:ByteArray) (u:Value) (l:List PB) (m i:Value) (wr:World):Prop:=
 ∃ k r:Nat,k<=l.length/\i=.int .i64 k/\m=.int .i64 r/\Hid (r=1+Xz (l.take k))/\r<=1500000/\Hid (BX wr B op s num n vs u)/\Hid (Below w.heap.size w wr)
theorem zYv (N:Nat):∀ (x:PB),J9 x<=N->N<=1500000->∀ w,PO w x->Calls Tryz.prog 172 #[x.agg] w fun e w'=>e=.returned (.int .i64 (J9 x:Int))/\Below w.heap.size w w':=by
 induction N with
 | zero=>
  intro x h;rw [vQm] at h;omega
 | succ N ih=>
  intro x hN hN2 w hx;obtain ⟨op,s,num,n,vs,a,c,l⟩:=x;obtain ⟨⟨-,-,-,hl⟩,-,hrow,hel⟩:=PO.parts hx;have HRW:=Zh hrow;have HEL:=Zh hel;have HIH:=Zh ih;have HN:=Zh hN;rw [J9] at hN;have HNN:=Zh (show J9 (PB.mk op s num n vs a c l)=1+Xz l by rw [J9]);obtain ⟨R,hR⟩:∃ R,J9 (PB.mk op s num n vs a c l)=R:=⟨_,rfl⟩;rw [hR] at HNN HN ⊢;clear hrow hel ih hR hx;unfold PB.agg;simp only [PB.op,PB.s,PB.num,PB.n,PB.vs,PB.a,PB.c,PB.l];go_enter Tryz.func172,Tryz.ntmps172;go_upto_region 1 with fail
  refine Qg (fun v=>Hid (BX v w.heap.size op s num n vs (.slice a l.length c))/\Hid (Below w.heap.size w v)) ⟨BX.new w op s num n vs (.slice a l.length c),Qj _ (.refl _ _)⟩ ?_;rintro Y ⟨HX,HB⟩;obtain ⟨B,hB⟩:∃ B,w.heap.size=B:=⟨_,rfl⟩;rw [hB] at HX ⊢;go_wp2_with fail;go_loopw [3,4] (fun m i wr=>NRel w B op s num n vs (.slice a l.length c) l m i wr) (fun m i _=>l.length - (intOf i).toNat)
  case atStart=>exact ⟨0,1,by omega,rfl,rfl,by show 1=_;simp [Xz],by omega,HX,HB⟩
  case round=>
   obtain ⟨k,r,hk,rfl,rfl,HR,hr,HX1,HB1⟩:=hrel;obtain ⟨wo,rfl⟩:∃ wo,wo=wr:=⟨_,rfl⟩;clear HX HB;obtain ⟨x0,x1,x2,x3,x4,x5,x6⟩:=HX1.out.box
   by_cases hlt:k < l.length
   ·
    have HRo:=Zh (HRW.out.grow HB1.out);obtain ⟨b,o,ha,hbz⟩:=HRo.out.head (i:=k) (by simpa using hlt);obtain rfl:a=some ⟨b,o,none⟩:=ha;obtain ⟨_,hcs⟩:=HRo.out.at (i:=k) (by simpa using hlt);simp only [List.getElem_map] at hcs;have e0:wo.cell? ⟨b,o+k*6,none⟩=some (.string l[k].op):=hcs 0 (by omega);have e1:wo.cell? ⟨b,o+k*6+1,none⟩=some (.string l[k].s):=hcs 1 (by omega);have e2:wo.cell? ⟨b,o+k*6+2,none⟩=some (.bool l[k].num):=hcs 2 (by omega);have e3:wo.cell? ⟨b,o+k*6+3,none⟩=some (.int .i64 l[k].n):=hcs 3 (by omega);have e4:wo.cell? ⟨b,o+k*6+4,none⟩=some (.string l[k].vs):=hcs 4 (by omega);have e5:wo.cell? ⟨b,o+k*6+5,none⟩=some (.slice l[k].a l[k].l.length l[k].c):=hcs 5 (by omega);have y1:(k:Int) < l.length:=by omega
    have y2:(0:Int)<=k:=by omega
    have hst:=kYe l k hlt;have hle:=kYl l (k+1);have hrr:=HR.out;have hnn:=HNN.out;have hcn:J9 l[k]<=N:=by have:=HN.out;omega
    have HC:=Zh (HIH.out l[k] hcn (by omega) wo ((HEL.out l[k] (List.getElem_mem hlt)).grow HB1.out));have hbq:r+J9 l[k]<=1500000:=by have:=HN.out;omega
    have HS:Hid (r+J9 l[k]=1+Xz (l.take (k+1))):=by show _=_;omega
    obtain ⟨q,hq⟩:∃ q,J9 l[k]=q:=⟨_,rfl⟩;rw [hq] at HC HS hcn hst hbq;unfold PB.agg at HC;clear hcs hst hle hrr hnn hq;go_wp2_with fail;refine HC.out.mono ?_;rintro e w2 ⟨rfl,hb2⟩;have HB2:=Zh (Qk hb2 HB1.out);have HX2:=Zh (HX1.out.grow hb2);clear hb2 x0 x1 x2 x3 x4 x5 x6 e0 e1 e2 e3 e4 e5 HX1 HB1 HC HR HRo;go_wp2_with fail;go_roundw
    case rel=>exact ⟨k+1,r+q,by omega,by go_num,by go_num,HS,hbq,HX2,HB2⟩
    case measure=>simp [intOf]<;>omega
   ·
    have hrr:r=R:=by
     have:=HR.out;rw [List.take_of_length_le (by omega)] at this;have:=HNN.out;omega
    subst hrr;go_wp2_with fail;go_ret;exact ⟨rfl,HB1.out⟩
end Go.Proofs.YtcbicdencgjfiaaGreatDoor
namespace Tryst
open Go Go.RowKit
end Tryst
namespace Go.Proofs.YtcbicdencgjfiaaGreatDoor
open Go.RowKit Tryst
