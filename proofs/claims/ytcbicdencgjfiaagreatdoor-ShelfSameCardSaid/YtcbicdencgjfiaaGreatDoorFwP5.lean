import Derived.Deep.AppendLies
import Derived.Test.YtcbicdencgjfiaaGreatDoorMay5
import Derived.Test.YtcbicdencgjfiaaGreatDoorSamT
set_option linter.all false
set_option maxHeartbeats 40000000
set_option maxRecDepth 100000
namespace Tryst
open Go Go.RowKit
theorem Q8 {P:Program} {w:World} {ops:Array Oper} {rest:List Oper} {o:Oper} {a:Act} {Q:Exit->Act->World->Prop} {t e:TypeId} {k bytes:Nat} (E:SliceOf P t e k bytes) (hgd:o.guard=none) (s x:Operand)
  (ho:o.op=.call { callee:=.builtin .append,args:=#[s,x],argTypes:=#[t,t] })
  (base:Nat) (v:Value) (l:List (List Value)) (n:Nat) (hln:l.length=n) (hs:a.eval s=v) (hown:ROwn e k w base v l) (f:List Value) (hfk:f.length=k) (h1:∀ u∈f,u.oneCell'=true)
  (g:Nat) (hx:a.eval x=.slice (some ⟨g,0,none⟩) 1 1) (hf:∀ j,j < k->w.cell? ⟨g,j,none⟩=f[j]?)
  (hn:n+1<=1073741824) (hbase:base<=w.heap.size)
  (h:∀ g' cap w',ROwn e k w' base (.slice (some ⟨g',0,none⟩) (n+1) cap) (l++[f])->Below base w w'→(∀ k,k < w.heap.size->Away v k->w'.heap[k]?=w.heap[k]?)->(v.ownBlock=some g'∨g'=w.heap.size)->g' < w'.heap.size->wpList P ops Q rest (a.put o.dst (.slice (some ⟨g',0,none⟩) (n+1) cap)) w'):wpList P ops Q (o :: rest) a w:=by
 subst hln;obtain ⟨i,z,hi,hz,h2,h3,h4⟩:=E.info;have hown':w.ownsRow base e k v l.length l.flatten:=hown;refine wpList_append_lies w hgd s x t ho base e i z k bytes E.und hi hz h2 h3 h4 E.pos v l.length l.flatten hs hown' ⟨g,0,none⟩ 1 1 f hx (by omega) ?_ h1 (by omega) (by unfold maxLen;omega) ?_ hbase w.heap.size rfl ?_
 · intro j u hj;rw [Addr.add_lit,Nat.zero_add];rw [hf j (by rw [<- hfk];exact (List.getElem?_eq_some_iff.1 hj).1)];exact hj
 ·
  have:=E.small
  calc (l.length+1)*bytes<=1073741824*65536:=Nat.mul_le_mul hn this
   _<=_:=by decide
 ·
  intro g' cap w' ho' hg' hat hlt
  have ho2:ROwn e k w' base (.slice (some ⟨g',0,none⟩) (l.length+1) cap) (l++[f]):=by
   unfold ROwn;rw [List.flatten_append,List.length_append]
   simpa using ho'
  refine h g' cap w' ho2 ((Below.refl base w).grown hg' hbase fun k hk=>(hown'.lt k hk).1) (fun k hk ha=>hg'.block k hk fun hc=>?_) hat hlt;cases v with
  | slice a0 n c=>
   cases a0 with
   | none=>simp [Value.ownBlock] at hc
   | some A=>simp [Value.ownBlock] at hc;exact ha A n c rfl hc.symm
  | _=>simp [Value.ownBlock] at hc
inductive PArg (w:World):PB->Prop
 | mk (op s:ByteArray) (num:Bool) (n:Int) (vs:ByteArray) (a:Option Addr) (c:Nat) (l:List PB):op.size<=9223372036854775807->s.size<=9223372036854775807->vs.size<=9223372036854775807->l.length<=9223372036854775807->(-9223372036854775808<=n/\n<=9223372036854775807)->Row w a 6 (l.map PB.cells)->(∀ x,x∈l->PArg w x)->PArg w (.mk op s num n vs a c l)
inductive POwn (w:World) (S:Nat->Prop):PB->Prop
 | mk (op s:ByteArray) (num:Bool) (n:Int) (vs:ByteArray) (a:Option Addr) (c:Nat) (l:List PB):op.size<=1500000->s.size<=1500000->vs.size<=1500000->l.length<=10->(-9223372036854775808<=n/\n<=9223372036854775807)->Row w a 6 (l.map PB.cells)->Sl a c l.length->(∀ b o,a=some ⟨b,o,none⟩->S b/\b < w.heap.size)->(∀ b o,a=some ⟨b,o,none⟩->∃ cs T,w.heap[b]?=some (.cells cs T (0,0)))->(∀ x,x∈l->POwn w S x)->POwn w S (.mk op s num n vs a c l)
theorem Row.block {w w':World} {a:Option Addr} {k:Nat} {l:List (List Value)} (h:Row w a k l) (hb:∀ b o,a=some ⟨b,o,none⟩->w'.heap[b]?=w.heap[b]?) (hz:w.heap.size<=w'.heap.size):Row w' a k l:=by
 intro i hi;obtain ⟨b,o,h1,h2,h3⟩:=h i hi;exact ⟨b,o,h1,Nat.lt_of_lt_of_le h2 hz,fun j hj=>(World.cell?_of_block (w:=w) (a:=⟨b,o+i*k+j,none⟩) (hb b o h1)).trans (h3 j hj)⟩
theorem POwn.keep {w w':World} {S S':Nat->Prop} {p:PB} (h:POwn w S p) (hk:∀ b,S b->b < w.heap.size->w'.heap[b]?=w.heap[b]?/\S' b) (hz:w.heap.size<=w'.heap.size):POwn w' S' p:=by
 induction h with
 | mk op s num n vs a c l h0 h1 h2 h3 hn h4 h5 h6 h7 _ ih=>
  refine .mk op s num n vs a c l h0 h1 h2 h3 hn (h4.block (fun b o e=>?_) hz) h5 (fun b o e=>?_) (fun b o e=>?_) ih
  · obtain ⟨q1,q2⟩:=h6 b o e;exact (hk b q1 q2).1
  · obtain ⟨q1,q2⟩:=h6 b o e;exact ⟨(hk b q1 q2).2,Nat.lt_of_lt_of_le q2 hz⟩
  · obtain ⟨q1,q2⟩:=h6 b o e;rw [(hk b q1 q2).1];exact h7 b o e
theorem POwn.grow {w w':World} {S S':Nat->Prop} {p:PB} (h:POwn w S p) (hb:Below w.heap.size w w') (hS:∀ b,S b->S' b):POwn w' S' p:=h.keep (fun b h1 h2=>⟨hb.block b h2,hS b h1⟩) hb.size
theorem POwn.mem {w:World} {S:Nat->Prop} {p:PB} (h:POwn w S p):PMem w p:=by
 induction h with
 | mk op s num n vs a c l h0 h1 h2 h3 hn h4 h5 h6 h7 _ ih=>exact .mk op s num n vs a c l (by omega) (by omega) (by omega) h4 ih
theorem ROwn.plain {e:TypeId} {k:Nat} {w:World} {base:Nat} {v:Value} {l:List (List Value)} (h:ROwn e k w base v l) {b o n c:Nat} (hv:v=.slice (some ⟨b,o,none⟩) n c):∃ cs T,w.heap[b]?=some (.cells cs T (0,0)):=by
 rcases h.2 with ⟨h1,_⟩ | ⟨g,cap,cur,h1,hg,hh,_⟩
 · rw [h1] at hv;cases hv
 · rw [h1] at hv;cases hv;exact ⟨_,_,hh⟩
end Tryst
namespace Go.Proofs.YtcbicdencgjfiaaGreatDoor
open Go.RowKit Tryst
def BX (w:World) (g:Nat) (op s:ByteArray) (num:Bool) (n:Int) (vs:ByteArray) (u:Value):Prop:=w.heap[g]?=some (.cells #[.string op,.string s,.bool num,.int .i64 n,.string vs,u] 123 (0,0))
section
variable {w w':World} {g:Nat} {op s:ByteArray} {num:Bool} {n:Int} {vs:ByteArray} {u:Value}
theorem BX.box (h:BX w g op s num n vs u):PBox w g op s num n vs u:=by
 have hz:=(Array.getElem?_eq_some_iff.1 h).1;unfold BX at h
 constructor<;>first | exact hz | simp [World.cell?,h]
theorem BX.fz (h:BX w g op s num n vs u) (j:Nat):w.frozen? ⟨g,j,none⟩=false:=by
 unfold BX at h;simp [World.frozen?,h]
theorem BX.grow (h:BX w g op s num n vs u) (hb:Below w.heap.size w w'):BX w' g op s num n vs u:=(hb.block g (Array.getElem?_eq_some_iff.1 h).1).trans h
theorem BX.new (w:World) (op s:ByteArray) (num:Bool) (n:Int) (vs:ByteArray) (u:Value):BX (w.alloc (.cells #[.string op,.string s,.bool num,.int .i64 n,.string vs,u] 123)) w.heap.size op s num n vs u:=by
 show (w.heap.push _)[w.heap.size]?=_;simp
theorem BX.away (h:BX w g op s num n vs u) {c o:Nat} (hc:c≠g) (x:Value):BX (w.setCell ⟨c,o,none⟩ x) g op s num n vs u:=(Below.heap_setCell _ _ _ _ (fun e=>hc e.symm)).trans h
theorem BX.set0 (h:BX w g op s num n vs u) (op':ByteArray):BX (w.setCell ⟨g,0,none⟩ (.string op')) g op' s num n vs u:=by
 unfold BX at h ⊢;simp [World.setCell,Array.getElem?_modify,h]
theorem BX.set5 (h:BX w g op s num n vs u) (u':Value):BX (w.setCell ⟨g,5,none⟩ u') g op s num n vs u':=by
 unfold BX at h ⊢;simp [World.setCell,Array.getElem?_modify,h]
theorem BX.all (h:BX w g op s num n vs u) (op' s':ByteArray) (num':Bool) (n':Int) (vs':ByteArray) (u':Value):BX ((((((w.setCell ⟨g,0,none⟩ (.string op')).setCell ⟨g,1,none⟩ (.string s')).setCell ⟨g,2,none⟩ (.bool num')).setCell ⟨g,3,none⟩ (.int .i64 n')).setCell ⟨g,4,none⟩ (.string vs')).setCell ⟨g,5,none⟩ u') g op' s' num' n' vs' u':=by
 unfold BX at h ⊢;simp [World.setCell,Array.getElem?_modify,h]
end
theorem xQc:SliceOf Tryz.prog 41 123 6 88:=.mk' Tryz.underlying41 (z:=.agg #[.string ⟨#[]⟩,.string ⟨#[]⟩,.bool false,.int .i64 0,.string ⟨#[]⟩,.slice none 0 0]) (by kernel_rfl) rfl (by decide) (by decide)
theorem xJT (ρ:Operand->Value) (o:Oper) (w:World) (ho:o.op=.alloc 123):(execOp ρ o).run Tryz.prog w=.ok (.value (.pointer (some ⟨w.heap.size,0,none⟩))) (w.alloc (.cells #[.string ⟨#[]⟩,.string ⟨#[]⟩,.bool false,.int .i64 0,.string ⟨#[]⟩,.slice none 0 0] 123)):=by
 unfold execOp;rw [ho]
 kernel_rfl
def FewPR (w:World) (m:Nat) (e:Ending) (w':World):Prop:=∃ (y:PB) (n':Nat),e=.returned (.tuple #[y.agg,.int .i64 (n':Int)])/\POwn w' (fun b=>w.heap.size<=b) y/\(n'<=m/\J9 y+n'<=m+1)/\Below w.heap.size w w'
def kJ4 (W:World) (P Q g:Nat) (op1 s1:ByteArray) (num:Bool) (n:Int) (vs1:ByteArray) (op s vs:ByteArray) (u:Value) (len m:Nat) (lf i:Value) (wr:World):Prop:=
 ∃ (k r:Nat) (ys:List PB) (v:Value),i=.int .i64 k/\lf=.int .i64 r/\k<=3/\k<=len/\(r<=m/\Xz ys+r<=m)/\ys.length=k/\Hid (BX wr g op1 s1 num n vs1 v)/\Hid (ROwn 123 6 wr P v (ys.map PB.cells))/\Hid (Away v g/\Away v P/\Away v Q)/\
  Hid (∀ y∈ys,POwn wr (fun b=>P<=b/\Away v b/\b≠Q/\b≠g) y)/\Hid (BX wr P op s num n vs u)/\Hid (BX wr Q ⟨#[]⟩ ⟨#[]⟩ false 0 ⟨#[]⟩ (.slice none 0 0))/\Hid (Below W.heap.size W wr)
theorem jQU:∀ (l:List PB) (y:PB),Xz (l++[y])=Xz l+J9 y
 | [],y=>by simp [Xz]
 | x :: r,y=>by rw [List.cons_append,Xz,Xz,jQU r y];omega
theorem xQf {v:Value} {g' b:Nat} (h:v.ownBlock=some g') (ha:Away v b):g'≠b:=by
 cases v with
 | slice a0 n c=>
  cases a0 with
  | none=>simp [Value.ownBlock] at h
  | some A=>
   simp [Value.ownBlock] at h;subst h;exact ha A n c rfl
 | _=>simp [Value.ownBlock] at h
theorem xQg {W Z3 Z4:World} {P Q g g' N cap:Nat} {o:Obj} {op s op' s':ByteArray} {num num':Bool} {n n':Int} {vs vs':ByteArray} {v u':Value} {ys:List PB} {rows:List (List Value)} (RA:Away v g/\Away v P/\Away v Q) (G3:BX Z3 g op s num n vs v) (P3:BX Z3 P op' s' num' n' vs' u') (Q3:BX Z3 Q ⟨#[]⟩ ⟨#[]⟩ false 0 ⟨#[]⟩ (.slice none 0 0))
  (C3:∀ y∈ys,POwn Z3 (fun b=>P<=b/\Away v b/\b≠Q/\b≠g) y) (K3:Below P W Z3) (hgW:P<=g) (hgP:g≠P) (hgQ:g≠Q)
  (HO:ROwn 123 6 Z4 P (.slice (some ⟨g',0,none⟩) N cap) rows) (HB:Below P (Z3.alloc o) Z4) (HS:∀ k,k < (Z3.alloc o).heap.size->Away v k->Z4.heap[k]?=(Z3.alloc o).heap[k]?) (hat:v.ownBlock=some g'∨g'=(Z3.alloc o).heap.size) :
  BX (Z4.setCell ⟨g,5,none⟩ (.slice (some ⟨g',0,none⟩) N cap)) g op s num n vs (.slice (some ⟨g',0,none⟩) N cap)/\ROwn 123 6 (Z4.setCell ⟨g,5,none⟩ (.slice (some ⟨g',0,none⟩) N cap)) P (.slice (some ⟨g',0,none⟩) N cap) rows/\
  (Away (.slice (some ⟨g',0,none⟩) N cap) g/\Away (.slice (some ⟨g',0,none⟩) N cap) P/\Away (.slice (some ⟨g',0,none⟩) N cap) Q)/\(∀ y∈ys,POwn (Z4.setCell ⟨g,5,none⟩ (.slice (some ⟨g',0,none⟩) N cap)) (fun b=>P<=b/\Away (.slice (some ⟨g',0,none⟩) N cap) b/\b≠Q/\b≠g) y)/\
  BX (Z4.setCell ⟨g,5,none⟩ (.slice (some ⟨g',0,none⟩) N cap)) P op' s' num' n' vs' u'/\BX (Z4.setCell ⟨g,5,none⟩ (.slice (some ⟨g',0,none⟩) N cap)) Q ⟨#[]⟩ ⟨#[]⟩ false 0 ⟨#[]⟩ (.slice none 0 0)/\Below P W (Z4.setCell ⟨g,5,none⟩ (.slice (some ⟨g',0,none⟩) N cap)):=by
 have hza:(Z3.alloc o).heap.size=Z3.heap.size+1:=by simp
 have hold:∀ k,k < Z3.heap.size->Away v k->Z4.heap[k]?=Z3.heap[k]?:=fun k hk ha=>(HS k (by omega) ha).trans (Below.heap_alloc _ _ _ hk)
 have hne:∀ k,k < Z3.heap.size->Away v k->g'≠k:=fun k hk ha=>by
  rcases hat with h | h
  · exact xQf h ha
  · omega
 have haw:∀ k,k < Z3.heap.size->Away v k->Away (.slice (some ⟨g',0,none⟩) N cap) k:=fun k hk ha A m c hv=>by
  cases hv;exact hne k hk ha
 have hgz:=(Array.getElem?_eq_some_iff.1 G3).1;have hPz:=(Array.getElem?_eq_some_iff.1 P3).1;have hQz:=(Array.getElem?_eq_some_iff.1 Q3).1;have G4:BX Z4 g op s num n vs v:=(hold g hgz RA.1).trans G3;have P4:BX Z4 P op' s' num' n' vs' u':=(hold P hPz RA.2.1).trans P3;have Q4:BX Z4 Q ⟨#[]⟩ ⟨#[]⟩ false 0 ⟨#[]⟩ (.slice none 0 0):=(hold Q hQz RA.2.2).trans Q3;refine ⟨G4.set5 _,Kv HO _ (fun A m c hv=>by cases hv;exact hne g hgz RA.1),⟨haw g hgz RA.1,haw P hPz RA.2.1,haw Q hQz RA.2.2⟩,fun y hy=>?_,P4.away hgP _,Q4.away hgQ _,?_⟩
 · refine (C3 y hy).keep (fun b hb hbz=>⟨(Below.heap_setCell _ _ _ _ hb.2.2.2).trans (hold b hbz hb.2.1),hb.1,haw b hbz hb.2.1,hb.2.2.1,hb.2.2.2⟩) ?_;have:=HB.size;simp at this ⊢;omega
 · exact ((K3.alloc (by have:=K3.size;omega) o).trans HB).setCell (p:=⟨g,5,none⟩) hgW _
theorem jYi (w:World) (x:PB) (hx:PArg w x):∀ (d m:Nat),d<=9->m<=50->∀ W,Below w.heap.size w W->Calls Tryz.prog 132 #[x.agg,.int .i64 (d:Int),.int .i64 ((m:Int)+1)] W fun e W'=>FewPR W m e W':=by
 induction hx with
 | mk op s num n vs a c l hop hs hvs hl hnn hR _ ih=>
  intro d m hd hm W hW;have IH:=Zh ih;have HR:=Zh hR;have HW:=Zh hW;clear ih hR hW;unfold PB.agg;simp only [PB.op,PB.s,PB.num,PB.n,PB.vs,PB.a,PB.c,PB.l];go_enter Tryz.func132,Tryz.ntmps132;go_upto_region 1 with fail
  have bx0:=BX.new W op s num n vs (.slice a l.length c);have bx1:=BX.new (W.alloc (.cells #[.string op,.string s,.bool num,.int .i64 n,.string vs,.slice a l.length c] 123)) ⟨#[]⟩ ⟨#[]⟩ false 0 ⟨#[]⟩ (.slice none 0 0);rw [show (W.alloc (.cells #[.string op,.string s,.bool num,.int .i64 n,.string vs,.slice a l.length c] 123)).heap.size=W.heap.size+1 by simp] at bx1;refine Qg (fun v=>Hid (BX v W.heap.size op s num n vs (.slice a l.length c))/\Hid (BX v (W.heap.size+1) ⟨#[]⟩ ⟨#[]⟩ false 0 ⟨#[]⟩ (.slice none 0 0))/\Hid (Below W.heap.size W v)) ⟨bx0.grow (Qj _ (.refl _ _)),bx1,Qj _ (Qj _ (.refl _ _))⟩ ?_;rintro Y ⟨HP,HQ,HY⟩;clear bx0 bx1;have hPW:W.heap.size<=W.heap.size:=Nat.le_refl _;have hQW:W.heap.size<=W.heap.size+1:=Nat.le_succ _;have hPQ:W.heap.size≠W.heap.size+1:=by omega
  generalize W.heap.size+1=Q at HQ hQW hPQ ⊢;obtain ⟨P,hP⟩:∃ P,W.heap.size=P:=⟨_,rfl⟩;rw [hP] at HP hPQ;simp only [hP];obtain ⟨x0,x1,x2,x3,x4,x5,x6⟩:=HP.out.box;have CN:=Zh (fun W=>jQn s hs W);have CV:=Zh (fun W=>vJo num n vs hvs W);have u3:=Z7 s;have u4:=qJC vs;revert u3 u4 CN CV;generalize Q7 s=s1;generalize few vs=vs1;intro CN CV u3 u4;clear hs hvs;refine Tryst2.wp_region_grows [.is (.pointer (some ⟨P,0,none⟩)),.is (.string op),.is (.pointer (some ⟨P,1,none⟩)),.is (.string s),.is (.string s1),.is (.pointer (some ⟨P,2,none⟩)),.is (.agg #[.bool num,.int .i64 n,.string vs]),.is (.agg #[.bool num,.int .i64 n,.string vs1]),.is (.agg #[.string op,.string s1,.bool num,.int .i64 n,.string vs1,.slice none 0 0]),.any (qQk Y.heap.size 123 [.string ⟨#[]⟩,.string ⟨#[]⟩,.bool false,.int .i64 0,.string ⟨#[]⟩,.slice none 0 0])] (by kernel_rfl) (by kernel_rfl) ?obl ?fin
  case obl=>
   simp only [YA,YL,YO,YR,Op.operands,Call.operands]
   repeat' apply And.intro
   any_goals trivial
   all_goals (intro tv w' hg hold hd;(try simp at hold);obtain ⟨hcg,hfg,hsg⟩:=YG hg)
   all_goals first | (go_simp;done) | (go_simp;rw [if_neg (by omega)];exact ⟨.refl _,rfl⟩) | (obtain ⟨⟨g,hvg,hgg,hcell⟩,_⟩:=hd;have hcell0:=hcell 0 (by decide);simp at hcell0;go_simp;done) | (rw [xJT _ _ _ rfl,Tryst2.stepV_value];exact qJJ _ _ _ _ (by omega)) | (go_simp;go_at_call 30;refine (CN.out _).mono ?_;rintro e w2 ⟨rfl,rfl⟩;exact ⟨.refl _,rfl⟩) | (go_simp;go_at_call 66;refine (CV.out _).mono ?_;rintro e w2 ⟨rfl,hb2⟩;exact ⟨hb2,rfl⟩)
  case fin=>
   intro tv w' hg hR;simp only [YF,YL,YR] at hR;obtain ⟨hcg,hfg,hsg⟩:=YG hg;simp only [YP,YL,Act.put,hR];obtain ⟨g,e3,hg1,hg2,hg3⟩:=qQk.at hR.2.2.2.2.2.2.2.2.2.1;simp only [e3];have HBZ:=Zh (Tryst2.Grow.below hg (.refl Y.heap.size Y));have HX:Hid (BX w' g ⟨#[]⟩ ⟨#[]⟩ false 0 ⟨#[]⟩ (.slice none 0 0)):=hg3;have HPZ:=Zh (HP.out.grow HBZ.out);have HQZ:=Zh (HQ.out.grow HBZ.out);have HYZ:=Zh (Qk HBZ.out HY.out)
   have hgP:g≠P:=fun e=>by
    have:=(Array.getElem?_eq_some_iff.1 HP.out).1;omega
   have hgQ:g≠Q:=fun e=>by
    have:=(Array.getElem?_eq_some_iff.1 HQ.out).1;omega
   have hgW:P<=g:=by
    have:=(Array.getElem?_eq_some_iff.1 HP.out).1;omega
   clear hg hR hcg hfg hsg x0 x1 x2 x3 x4 x5 x6 CN CV hg3 e3 HP HQ HY HBZ;obtain ⟨x0,x1,x2,x3,x4,x5,x6⟩:=HX.out.box;have z0:=HX.out.fz 0;have z1:=HX.out.fz 1;have z2:=HX.out.fz 2;have z3:=HX.out.fz 3;have z4:=HX.out.fz 4;have z5:=HX.out.fz 5;go_upto_region 2 with fail
   refine Qg (fun v=>Hid (BX v g op s1 num n vs1 (.slice none 0 0))/\Hid (BX v P op s num n vs (.slice a l.length c))/\Hid (BX v Q ⟨#[]⟩ ⟨#[]⟩ false 0 ⟨#[]⟩ (.slice none 0 0))/\Hid (Below W.heap.size W v)/\g < v.heap.size) ⟨HX.out.all op s1 num n vs1 (.slice none 0 0),((((((HPZ.out.away hgP _).away hgP _).away hgP _).away hgP _).away hgP _).away hgP _),((((((HQZ.out.away hgQ _).away hgQ _).away hgQ _).away hgQ _).away hgQ _).away hgQ _),?_,by simpa using hg2⟩ ?_
   · rw [<- hP] at hgW;exact bset _ hgW (bset _ hgW (bset _ hgW (bset _ hgW (bset _ hgW (bset _ hgW HYZ.out)))))
   rintro Z ⟨HG,HPa,HQa,HZ,hgz⟩;clear x0 x1 x2 x3 x4 x5 x6 z0 z1 z2 z3 z4 z5 HX HPZ HQZ HYZ hg2;obtain ⟨x0,x1,x2,x3,x4,x5,x6⟩:=HG.out.box
   by_cases h8:8 < op.size
   ·
    have z0:=HG.out.fz 0;go_upto_region 4 with fail
    refine Qg (fun v=>Hid (BX v g (op.extract 0 8) s1 num n vs1 (.slice none 0 0))/\Hid (BX v P op s num n vs (.slice a l.length c))/\Hid (BX v Q ⟨#[]⟩ ⟨#[]⟩ false 0 ⟨#[]⟩ (.slice none 0 0))/\Hid (Below W.heap.size W v)) ⟨HG.out.set0 _,HPa.out.away hgP _,HQa.out.away hgQ _,bset _ (by rw [hP];exact hgW) HZ.out⟩ ?_;rintro Z2 ⟨HG2,HP2,HQ2,HZ2⟩;have hop8:(op.extract 0 8).size<=1500000:=by simp;omega
    clear x0 x1 x2 x3 x4 x5 x6 z0 HG HPa HQa HZ hgz;obtain ⟨HG,HPa,HQa,HZ⟩:=And.intro HG2 (And.intro HP2 (And.intro HQ2 HZ2));clear HG2 HP2 HQ2 HZ2;rw [show decide ((8:Int) < (op.size:Int))=true from decide_eq_true (by omega)];generalize op.extract 0 8=op1 at HG hop8 ⊢;clear h8;have y1:wrap64 ((m:Int)+1 - 1)=(m:Int):=by rw [IntWalk.wrap64_in _ (by omega)];omega
    go_upto_region 6 with fail
    go_loopw [2,9] (fun lf i wr=>kJ4 W P Q g op1 s1 num n vs1 op s vs (.slice a l.length c) l.length m lf i wr) (fun _ i _=>3 - (intOf i).toNat)
    case atStart=>
     exact ⟨0,m,[],.slice none 0 0,rfl,rfl,by omega,by omega,⟨by omega,by rw [Xz];omega⟩,rfl,HG,ROwn.nil _ _ _ _,⟨fun A n c h=>(by cases h),fun A n c h=>(by cases h),fun A n c h=>(by cases h)⟩,Zh (fun y h=>by cases h),HPa,HQa,HZ⟩
    case round=>
     obtain ⟨k,r,ys,v,rfl,rfl,hk3,hkl,hrm,hys,RG,RO,RA,RC,RP,RQ,RZ⟩:=hrel;obtain ⟨wo,rfl⟩:∃ wo,wo=wr:=⟨_,rfl⟩;obtain ⟨p0,p1,p2,p3,p4,p5,p6⟩:=RP.out.box
     by_cases hgo:(k < l.length/\k < 3)/\(0 < d/\0 < r)
     ·
      obtain ⟨⟨h1,h2⟩,h3,h4⟩:=hgo;obtain ⟨d',hd'⟩:∃ d',d=d'+1:=⟨d - 1,by omega⟩;obtain ⟨r',rfl⟩:∃ r',r=r'+1:=⟨r - 1,by omega⟩;obtain ⟨b,o,rfl,-⟩:=HR.out.head (i:=k) (by simpa using h1);obtain ⟨hbz,hc⟩:=(HR.out.grow (Qk RZ.out HW.out)).at (i:=k) (by simpa using h1);have r0:=hc 0 (by omega);have r1:=hc 1 (by omega);have r2:=hc 2 (by omega);have r3:=hc 3 (by omega);have r4:=hc 4 (by omega);have r5:=hc 5 (by omega);have IHk:=IH.out l[k] (List.getElem_mem h1) d' r' (by omega) (by omega) wo (Qk RZ.out HW.out);obtain ⟨q,hq⟩:∃ q,l[k]=q:=⟨_,rfl⟩;rw [List.getElem_map,hq] at r0 r1 r2 r3 r4 r5;rw [hq] at IHk;clear hq;obtain ⟨q0,q1,q2,q3,q4,q5,q6,q7⟩:=q;unfold PB.agg at IHk;simp only [PB.op,PB.s,PB.num,PB.n,PB.vs,PB.a,PB.c,PB.l] at IHk;clear hc
      replace r0:wo.cell? ⟨b,o+k*6,none⟩=some (.string q0):=r0
      replace r1:wo.cell? ⟨b,o+k*6+1,none⟩=some (.string q1):=r1
      replace r2:wo.cell? ⟨b,o+k*6+2,none⟩=some (.bool q2):=r2
      replace r3:wo.cell? ⟨b,o+k*6+3,none⟩=some (.int .i64 q3):=r3
      replace r4:wo.cell? ⟨b,o+k*6+4,none⟩=some (.string q4):=r4
      replace r5:wo.cell? ⟨b,o+k*6+5,none⟩=some (.slice q5 q7.length q6):=r5
      have HIK:=Zh IHk;have y2:wrap64 ((d:Int) - 1)=(d':Int):=by rw [IntWalk.wrap64_in _ (by omega)];omega
      have HD':=Zh hd';clear hd';clear IHk;go_upto_region 8 with fail
      go_wp2_with fail;rw [show ((d:Int) - 1)=(d':Int) from by have:=HD'.out;omega]
      with_reducible refine HIK.out.mono ?_
      rintro e w2 ⟨y,n',rfl,hO,hn',hb2⟩;have RG2:=Zh (RG.out.grow hb2);have RP2:=Zh (RP.out.grow hb2);have RQ2:=Zh (RQ.out.grow hb2);have RO2:=Zh (RO.out.grow hb2);have RC2:Hid (∀ y∈ys,POwn w2 (fun b=>P<=b/\Away v b/\b≠Q/\b≠g) y):=Zh (fun y hy=>(RC.out y hy).grow hb2 (fun _ h=>h));have RZ2:=Zh (Qk hb2 RZ.out)
      have HO2:Hid (POwn w2 (fun b=>P<=b/\Away v b/\b≠Q/\b≠g) y):=Zh (hO.grow (.refl _ _) (fun b hb=>by
       have q1:=(Array.getElem?_eq_some_iff.1 RQ.out).1;have q2:=(Array.getElem?_eq_some_iff.1 RG.out).1;refine ⟨by omega,fun A n c hv he=>?_,by omega,by omega⟩;have:=(World.ownsRow.lt RO.out A.block (by rw [hv];rfl)).2;omega))
      clear r0 r1 r2 r3 r4 r5 p0 p1 p2 p3 p4 p5 p6 RG RP RQ RO RC RZ hO hb2 HIK hbz;obtain ⟨o0,o1,o2,o3,o4,o5,o6,o7⟩:=y;unfold PB.agg;simp only [PB.op,PB.s,PB.num,PB.n,PB.vs,PB.a,PB.c,PB.l];go_upto_region 9 with fail
      refine Qg (fun u=>Hid (BX u w2.heap.size o0 o1 o2 o3 o4 (.slice o5 o7.length o6))/\Hid (BX u g op1 s1 num n vs1 v)/\Hid (BX u P op s num n vs (.slice (some ⟨b,o,none⟩) l.length c))/\Hid (BX u Q ⟨#[]⟩ ⟨#[]⟩ false 0 ⟨#[]⟩ (.slice none 0 0))/\Hid (ROwn 123 6 u P v (ys.map PB.cells))/\Hid (∀ y∈ys++[PB.mk o0 o1 o2 o3 o4 o5 o6 o7],POwn u (fun b=>P<=b/\Away v b/\b≠Q/\b≠g) y)/\Hid (Below W.heap.size W u)) ⟨BX.new _ _ _ _ _ _ _,RG2.out.grow (Qj _ (.refl _ _)),RP2.out.grow (Qj _ (.refl _ _)),RQ2.out.grow (Qj _ (.refl _ _)),RO2.out.alloc _,?_,Qj _ RZ2.out⟩ ?_
      ·
       intro y hy
       rcases List.mem_append.1 hy with hy | hy
       · exact (RC2.out y hy).grow (Qj _ (.refl _ _)) (fun _ h=>h)
       · rw [List.mem_singleton] at hy;subst hy;exact HO2.out.grow (Qj _ (.refl _ _)) (fun _ h=>h)
      rintro Z3 ⟨HB10,G3,P3,Q3,O3,C3,K3⟩;clear RG2 RP2 RQ2 RO2 RC2 RZ2 HO2;generalize w2.heap.size=B10 at HB10 ⊢;obtain ⟨x0,x1,x2,x3,x4,x5,x6⟩:=G3.out.box;obtain ⟨e0,e1,e2,e3,e4,e5,e6⟩:=HB10.out.box;have z5:=G3.out.fz 5;have hln:(ys.map PB.cells).length=k:=by rw [List.length_map];exact hys
      have HYS:=Zh hys;have hPZ:P<=Z3.heap.size:=by have:=(Array.getElem?_eq_some_iff.1 P3.out).1;omega
      clear hys;go_wp2_with (at_builtin;refine Q8 xQc rfl _ _ rfl P v (ys.map PB.cells) k hln rfl (O3.out.alloc _) [.string o0,.string o1,.bool o2,.int .i64 o3,.string o4,.slice o5 o7.length o6] rfl (by intro u hu;simp at hu;rcases hu with rfl | rfl | rfl | rfl | rfl | rfl<;>rfl) Z3.heap.size rfl (by intro j hj;rcases j with _ | _ | _ | _ | _ | _ | j<;>first | (simp [go_sem];done) | omega) (by omega) (by simp;omega) ?_;intro g' cap' Z4 ho4 hb4 hs4 hat4 hlt4;have hg4:=(hs4 g (by simp;omega) RA.out.1).trans (((Qj (w:=Z3) _ (.refl _ _)).block g x6).trans G3.out);have f5:=BX.fz hg4 5;have k5:=(BX.box hg4).c5;have HO4:=Zh ho4;have HB4:=Zh hb4;have HS4:=Zh hs4;have HG4:=Zh hg4;clear ho4 hb4 hs4 hg4);have HST:=Zh (xQg (op':=op) (s':=s) (vs':=vs) (num':=num) (n':=n) (u':=.slice (some ⟨b,o,none⟩) l.length c) RA.out G3.out P3.out Q3.out C3.out (by rw [hP] at K3;exact K3.out) (show P<=g from hgW) hgP hgQ HO4.out HB4.out HS4.out hat4);clear G3 P3 Q3 O3 C3 K3 HO4 HB4 HS4 HG4 x0 x1 x2 x3 x4 x5 x6 e0 e1 e2 e3 e4 e5 e6 z5 f5 k5 HB10;go_roundw
      case rel=>
       obtain ⟨q1,q2,q3,q4,q5,q6,q7⟩:=HST.out
       first | exact ⟨k+1,n',ys++[PB.mk o0 o1 o2 o3 o4 o5 o6 o7],.slice (some ⟨g',0,none⟩) (k+1) cap',by go_num,rfl,by omega,by omega,⟨by omega,by rw [jQU];omega⟩,by rw [List.length_append,HYS.out];rfl,q1,by rw [List.map_append];exact q2,q3,q4,q5,q6,by rw [hP];exact q7⟩ | ((repeat apply Exists.intro);refine And.intro ?_ rfl;exact ⟨k+1,n',ys++[PB.mk o0 o1 o2 o3 o4 o5 o6 o7],.slice (some ⟨g',0,none⟩) (k+1) cap',by go_num,rfl,by omega,by omega,⟨by omega,by rw [jQU];omega⟩,by rw [List.length_append,HYS.out];rfl,q1,by rw [List.map_append];exact q2,q3,q4,q5,q6,by rw [hP];exact q7⟩)
      case measure=>simp [intOf]<;>omega
     ·
      have RO2:=RO.out;obtain ⟨a9,c9,hv9,hR9,hS9,hA9⟩:=RO2.row (PB.cells_len _) (by decide);rw [List.length_map] at hv9 hS9;have hB9:∀ b o,a9=some ⟨b,o,none⟩->∃ cs T,wo.heap[b]?=some (.cells cs T (0,0)):=fun b o e=>RO2.plain (hv9.trans (by rw [e]))
      subst hv9;obtain ⟨g0,g1,g2,g3,g4,g5,g6⟩:=RG.out.box;obtain ⟨w0,w1,w2,w3,w4,w5,w6⟩:=RQ.out.box;have z0:=RQ.out.fz 0;have z1:=RQ.out.fz 1;have z2:=RQ.out.fz 2;have z3:=RQ.out.fz 3;have z4:=RQ.out.fz 4;have z5:=RQ.out.fz 5
      have HYO:Hid (POwn wo (fun b=>P<=b/\b≠Q) (PB.mk op1 s1 num n vs1 a9 c9 ys)):=Zh (.mk _ _ _ _ _ _ _ _ (by omega) (by omega) (by omega) (by omega) hnn hR9 hS9 (fun b o e=>by
       obtain ⟨e1,e2,_⟩:=hA9 b o e;refine ⟨⟨e1,fun q=>?_⟩,e2⟩;exact RA.out.2.2 ⟨b,o,none⟩ _ _ (by rw [e]) q) hB9 (fun y hy=>(RC.out y hy).grow (.refl _ _) (fun b hb=>⟨hb.1,hb.2.2.1⟩)))
      clear RO RO2 hR9 hS9 hA9 hB9 RC RA
      by_cases h1:k < l.length
      ·
       by_cases h2:k < 3
       ·
        by_cases h3:0 < d
        ·
         have h4:r=0:=by omega
         subst h4;go_wp2_with fail
         have HYE:Hid (POwn ((((((wo.setCell ⟨Q,0,none⟩ (.string op1)).setCell ⟨Q,1,none⟩ (.string s1)).setCell ⟨Q,2,none⟩ (.bool num)).setCell ⟨Q,3,none⟩ (.int .i64 n)).setCell ⟨Q,4,none⟩ (.string vs1)).setCell ⟨Q,5,none⟩ (.slice a9 k c9)) (fun b=>W.heap.size<=b) (PB.mk op1 s1 num n vs1 a9 c9 ys)):=Zh (HYO.out.keep (fun b hb hbz=>⟨by
           rw [Below.heap_setCell _ _ _ _ hb.2,Below.heap_setCell _ _ _ _ hb.2,Below.heap_setCell _ _ _ _ hb.2,Below.heap_setCell _ _ _ _ hb.2,Below.heap_setCell _ _ _ _ hb.2,Below.heap_setCell _ _ _ _ hb.2],by rw [hP];exact hb.1⟩) (by simp))
         refine bodyPost_ret (v:=.tuple #[(PB.mk op1 s1 num n vs1 a9 c9 ys).agg,.int .i64 (0:Nat)]) (by simp [results,Tryz.results132,go_sem,PB.agg,PB.op,PB.s,PB.num,PB.n,PB.vs,PB.a,PB.c,PB.l, *]) rfl ⟨_,0,rfl,HYE.out,⟨by omega,by rw [J9];omega⟩,bset _ hQW (bset _ hQW (bset _ hQW (bset _ hQW (bset _ hQW (bset _ hQW RZ.out)))))⟩
        ·
         have h5:d=0:=by omega
         subst h5;go_wp2_with fail
         have HYE:Hid (POwn ((((((wo.setCell ⟨Q,0,none⟩ (.string op1)).setCell ⟨Q,1,none⟩ (.string s1)).setCell ⟨Q,2,none⟩ (.bool num)).setCell ⟨Q,3,none⟩ (.int .i64 n)).setCell ⟨Q,4,none⟩ (.string vs1)).setCell ⟨Q,5,none⟩ (.slice a9 k c9)) (fun b=>W.heap.size<=b) (PB.mk op1 s1 num n vs1 a9 c9 ys)):=Zh (HYO.out.keep (fun b hb hbz=>⟨by
           rw [Below.heap_setCell _ _ _ _ hb.2,Below.heap_setCell _ _ _ _ hb.2,Below.heap_setCell _ _ _ _ hb.2,Below.heap_setCell _ _ _ _ hb.2,Below.heap_setCell _ _ _ _ hb.2,Below.heap_setCell _ _ _ _ hb.2],by rw [hP];exact hb.1⟩) (by simp))
         refine bodyPost_ret (v:=.tuple #[(PB.mk op1 s1 num n vs1 a9 c9 ys).agg,.int .i64 (r:Nat)]) (by simp [results,Tryz.results132,go_sem,PB.agg,PB.op,PB.s,PB.num,PB.n,PB.vs,PB.a,PB.c,PB.l, *]) rfl ⟨_,r,rfl,HYE.out,⟨by omega,by rw [J9];omega⟩,bset _ hQW (bset _ hQW (bset _ hQW (bset _ hQW (bset _ hQW (bset _ hQW RZ.out)))))⟩
       ·
        go_wp2_with fail
        have HYE:Hid (POwn ((((((wo.setCell ⟨Q,0,none⟩ (.string op1)).setCell ⟨Q,1,none⟩ (.string s1)).setCell ⟨Q,2,none⟩ (.bool num)).setCell ⟨Q,3,none⟩ (.int .i64 n)).setCell ⟨Q,4,none⟩ (.string vs1)).setCell ⟨Q,5,none⟩ (.slice a9 k c9)) (fun b=>W.heap.size<=b) (PB.mk op1 s1 num n vs1 a9 c9 ys)):=Zh (HYO.out.keep (fun b hb hbz=>⟨by
          rw [Below.heap_setCell _ _ _ _ hb.2,Below.heap_setCell _ _ _ _ hb.2,Below.heap_setCell _ _ _ _ hb.2,Below.heap_setCell _ _ _ _ hb.2,Below.heap_setCell _ _ _ _ hb.2,Below.heap_setCell _ _ _ _ hb.2],by rw [hP];exact hb.1⟩) (by simp))
        refine bodyPost_ret (v:=.tuple #[(PB.mk op1 s1 num n vs1 a9 c9 ys).agg,.int .i64 (r:Nat)]) (by simp [results,Tryz.results132,go_sem,PB.agg,PB.op,PB.s,PB.num,PB.n,PB.vs,PB.a,PB.c,PB.l, *]) rfl ⟨_,r,rfl,HYE.out,⟨by omega,by rw [J9];omega⟩,bset _ hQW (bset _ hQW (bset _ hQW (bset _ hQW (bset _ hQW (bset _ hQW RZ.out)))))⟩
      ·
       go_wp2_with fail
       have HYE:Hid (POwn ((((((wo.setCell ⟨Q,0,none⟩ (.string op1)).setCell ⟨Q,1,none⟩ (.string s1)).setCell ⟨Q,2,none⟩ (.bool num)).setCell ⟨Q,3,none⟩ (.int .i64 n)).setCell ⟨Q,4,none⟩ (.string vs1)).setCell ⟨Q,5,none⟩ (.slice a9 k c9)) (fun b=>W.heap.size<=b) (PB.mk op1 s1 num n vs1 a9 c9 ys)):=Zh (HYO.out.keep (fun b hb hbz=>⟨by
         rw [Below.heap_setCell _ _ _ _ hb.2,Below.heap_setCell _ _ _ _ hb.2,Below.heap_setCell _ _ _ _ hb.2,Below.heap_setCell _ _ _ _ hb.2,Below.heap_setCell _ _ _ _ hb.2,Below.heap_setCell _ _ _ _ hb.2],by rw [hP];exact hb.1⟩) (by simp))
       refine bodyPost_ret (v:=.tuple #[(PB.mk op1 s1 num n vs1 a9 c9 ys).agg,.int .i64 (r:Nat)]) (by simp [results,Tryz.results132,go_sem,PB.agg,PB.op,PB.s,PB.num,PB.n,PB.vs,PB.a,PB.c,PB.l, *]) rfl ⟨_,r,rfl,HYE.out,⟨by omega,by rw [J9];omega⟩,bset _ hQW (bset _ hQW (bset _ hQW (bset _ hQW (bset _ hQW (bset _ hQW RZ.out)))))⟩
   ·
    go_upto_region 4 with fail
    have hop8:op.size<=1500000:=by omega
    clear x0 x1 x2 x3 x4 x5 x6 hgz;have y1:wrap64 ((m:Int)+1 - 1)=(m:Int):=by rw [IntWalk.wrap64_in _ (by omega)];omega
    go_upto_region 6 with fail
    go_loopw [2,9] (fun lf i wr=>kJ4 W P Q g op s1 num n vs1 op s vs (.slice a l.length c) l.length m lf i wr) (fun _ i _=>3 - (intOf i).toNat)
    case atStart=>
     exact ⟨0,m,[],.slice none 0 0,rfl,rfl,by omega,by omega,⟨by omega,by rw [Xz];omega⟩,rfl,HG,ROwn.nil _ _ _ _,⟨fun A n c h=>(by cases h),fun A n c h=>(by cases h),fun A n c h=>(by cases h)⟩,Zh (fun y h=>by cases h),HPa,HQa,HZ⟩
    case round=>
     obtain ⟨k,r,ys,v,rfl,rfl,hk3,hkl,hrm,hys,RG,RO,RA,RC,RP,RQ,RZ⟩:=hrel;obtain ⟨wo,rfl⟩:∃ wo,wo=wr:=⟨_,rfl⟩;obtain ⟨p0,p1,p2,p3,p4,p5,p6⟩:=RP.out.box
     by_cases hgo:(k < l.length/\k < 3)/\(0 < d/\0 < r)
     ·
      obtain ⟨⟨h1,h2⟩,h3,h4⟩:=hgo;obtain ⟨d',hd'⟩:∃ d',d=d'+1:=⟨d - 1,by omega⟩;obtain ⟨r',rfl⟩:∃ r',r=r'+1:=⟨r - 1,by omega⟩;obtain ⟨b,o,rfl,-⟩:=HR.out.head (i:=k) (by simpa using h1);obtain ⟨hbz,hc⟩:=(HR.out.grow (Qk RZ.out HW.out)).at (i:=k) (by simpa using h1);have r0:=hc 0 (by omega);have r1:=hc 1 (by omega);have r2:=hc 2 (by omega);have r3:=hc 3 (by omega);have r4:=hc 4 (by omega);have r5:=hc 5 (by omega);have IHk:=IH.out l[k] (List.getElem_mem h1) d' r' (by omega) (by omega) wo (Qk RZ.out HW.out);obtain ⟨q,hq⟩:∃ q,l[k]=q:=⟨_,rfl⟩;rw [List.getElem_map,hq] at r0 r1 r2 r3 r4 r5;rw [hq] at IHk;clear hq;obtain ⟨q0,q1,q2,q3,q4,q5,q6,q7⟩:=q;unfold PB.agg at IHk;simp only [PB.op,PB.s,PB.num,PB.n,PB.vs,PB.a,PB.c,PB.l] at IHk;clear hc
      replace r0:wo.cell? ⟨b,o+k*6,none⟩=some (.string q0):=r0
      replace r1:wo.cell? ⟨b,o+k*6+1,none⟩=some (.string q1):=r1
      replace r2:wo.cell? ⟨b,o+k*6+2,none⟩=some (.bool q2):=r2
      replace r3:wo.cell? ⟨b,o+k*6+3,none⟩=some (.int .i64 q3):=r3
      replace r4:wo.cell? ⟨b,o+k*6+4,none⟩=some (.string q4):=r4
      replace r5:wo.cell? ⟨b,o+k*6+5,none⟩=some (.slice q5 q7.length q6):=r5
      have HIK:=Zh IHk;have y2:wrap64 ((d:Int) - 1)=(d':Int):=by rw [IntWalk.wrap64_in _ (by omega)];omega
      have HD':=Zh hd';clear hd';clear IHk;go_upto_region 8 with fail
      go_wp2_with fail;rw [show ((d:Int) - 1)=(d':Int) from by have:=HD'.out;omega]
      with_reducible refine HIK.out.mono ?_
      rintro e w2 ⟨y,n',rfl,hO,hn',hb2⟩;have RG2:=Zh (RG.out.grow hb2);have RP2:=Zh (RP.out.grow hb2);have RQ2:=Zh (RQ.out.grow hb2);have RO2:=Zh (RO.out.grow hb2);have RC2:Hid (∀ y∈ys,POwn w2 (fun b=>P<=b/\Away v b/\b≠Q/\b≠g) y):=Zh (fun y hy=>(RC.out y hy).grow hb2 (fun _ h=>h));have RZ2:=Zh (Qk hb2 RZ.out)
      have HO2:Hid (POwn w2 (fun b=>P<=b/\Away v b/\b≠Q/\b≠g) y):=Zh (hO.grow (.refl _ _) (fun b hb=>by
       have q1:=(Array.getElem?_eq_some_iff.1 RQ.out).1;have q2:=(Array.getElem?_eq_some_iff.1 RG.out).1;refine ⟨by omega,fun A n c hv he=>?_,by omega,by omega⟩;have:=(World.ownsRow.lt RO.out A.block (by rw [hv];rfl)).2;omega))
      clear r0 r1 r2 r3 r4 r5 p0 p1 p2 p3 p4 p5 p6 RG RP RQ RO RC RZ hO hb2 HIK hbz;obtain ⟨o0,o1,o2,o3,o4,o5,o6,o7⟩:=y;unfold PB.agg;simp only [PB.op,PB.s,PB.num,PB.n,PB.vs,PB.a,PB.c,PB.l];go_upto_region 9 with fail
      refine Qg (fun u=>Hid (BX u w2.heap.size o0 o1 o2 o3 o4 (.slice o5 o7.length o6))/\Hid (BX u g op s1 num n vs1 v)/\Hid (BX u P op s num n vs (.slice (some ⟨b,o,none⟩) l.length c))/\Hid (BX u Q ⟨#[]⟩ ⟨#[]⟩ false 0 ⟨#[]⟩ (.slice none 0 0))/\Hid (ROwn 123 6 u P v (ys.map PB.cells))/\Hid (∀ y∈ys++[PB.mk o0 o1 o2 o3 o4 o5 o6 o7],POwn u (fun b=>P<=b/\Away v b/\b≠Q/\b≠g) y)/\Hid (Below W.heap.size W u)) ⟨BX.new _ _ _ _ _ _ _,RG2.out.grow (Qj _ (.refl _ _)),RP2.out.grow (Qj _ (.refl _ _)),RQ2.out.grow (Qj _ (.refl _ _)),RO2.out.alloc _,?_,Qj _ RZ2.out⟩ ?_
      ·
       intro y hy
       rcases List.mem_append.1 hy with hy | hy
       · exact (RC2.out y hy).grow (Qj _ (.refl _ _)) (fun _ h=>h)
       · rw [List.mem_singleton] at hy;subst hy;exact HO2.out.grow (Qj _ (.refl _ _)) (fun _ h=>h)
      rintro Z3 ⟨HB10,G3,P3,Q3,O3,C3,K3⟩;clear RG2 RP2 RQ2 RO2 RC2 RZ2 HO2;generalize w2.heap.size=B10 at HB10 ⊢;obtain ⟨x0,x1,x2,x3,x4,x5,x6⟩:=G3.out.box;obtain ⟨e0,e1,e2,e3,e4,e5,e6⟩:=HB10.out.box;have z5:=G3.out.fz 5;have hln:(ys.map PB.cells).length=k:=by rw [List.length_map];exact hys
      have HYS:=Zh hys;have hPZ:P<=Z3.heap.size:=by have:=(Array.getElem?_eq_some_iff.1 P3.out).1;omega
      clear hys;go_wp2_with (at_builtin;refine Q8 xQc rfl _ _ rfl P v (ys.map PB.cells) k hln rfl (O3.out.alloc _) [.string o0,.string o1,.bool o2,.int .i64 o3,.string o4,.slice o5 o7.length o6] rfl (by intro u hu;simp at hu;rcases hu with rfl | rfl | rfl | rfl | rfl | rfl<;>rfl) Z3.heap.size rfl (by intro j hj;rcases j with _ | _ | _ | _ | _ | _ | j<;>first | (simp [go_sem];done) | omega) (by omega) (by simp;omega) ?_;intro g' cap' Z4 ho4 hb4 hs4 hat4 hlt4;have hg4:=(hs4 g (by simp;omega) RA.out.1).trans (((Qj (w:=Z3) _ (.refl _ _)).block g x6).trans G3.out);have f5:=BX.fz hg4 5;have k5:=(BX.box hg4).c5;have HO4:=Zh ho4;have HB4:=Zh hb4;have HS4:=Zh hs4;have HG4:=Zh hg4;clear ho4 hb4 hs4 hg4);have HST:=Zh (xQg (op':=op) (s':=s) (vs':=vs) (num':=num) (n':=n) (u':=.slice (some ⟨b,o,none⟩) l.length c) RA.out G3.out P3.out Q3.out C3.out (by rw [hP] at K3;exact K3.out) (show P<=g from hgW) hgP hgQ HO4.out HB4.out HS4.out hat4);clear G3 P3 Q3 O3 C3 K3 HO4 HB4 HS4 HG4 x0 x1 x2 x3 x4 x5 x6 e0 e1 e2 e3 e4 e5 e6 z5 f5 k5 HB10;go_roundw
      case rel=>
       obtain ⟨q1,q2,q3,q4,q5,q6,q7⟩:=HST.out
       first | exact ⟨k+1,n',ys++[PB.mk o0 o1 o2 o3 o4 o5 o6 o7],.slice (some ⟨g',0,none⟩) (k+1) cap',by go_num,rfl,by omega,by omega,⟨by omega,by rw [jQU];omega⟩,by rw [List.length_append,HYS.out];rfl,q1,by rw [List.map_append];exact q2,q3,q4,q5,q6,by rw [hP];exact q7⟩ | ((repeat apply Exists.intro);refine And.intro ?_ rfl;exact ⟨k+1,n',ys++[PB.mk o0 o1 o2 o3 o4 o5 o6 o7],.slice (some ⟨g',0,none⟩) (k+1) cap',by go_num,rfl,by omega,by omega,⟨by omega,by rw [jQU];omega⟩,by rw [List.length_append,HYS.out];rfl,q1,by rw [List.map_append];exact q2,q3,q4,q5,q6,by rw [hP];exact q7⟩)
      case measure=>simp [intOf]<;>omega
     ·
      have RO2:=RO.out;obtain ⟨a9,c9,hv9,hR9,hS9,hA9⟩:=RO2.row (PB.cells_len _) (by decide);rw [List.length_map] at hv9 hS9;have hB9:∀ b o,a9=some ⟨b,o,none⟩->∃ cs T,wo.heap[b]?=some (.cells cs T (0,0)):=fun b o e=>RO2.plain (hv9.trans (by rw [e]))
      subst hv9;obtain ⟨g0,g1,g2,g3,g4,g5,g6⟩:=RG.out.box;obtain ⟨w0,w1,w2,w3,w4,w5,w6⟩:=RQ.out.box;have z0:=RQ.out.fz 0;have z1:=RQ.out.fz 1;have z2:=RQ.out.fz 2;have z3:=RQ.out.fz 3;have z4:=RQ.out.fz 4;have z5:=RQ.out.fz 5
      have HYO:Hid (POwn wo (fun b=>P<=b/\b≠Q) (PB.mk op s1 num n vs1 a9 c9 ys)):=Zh (.mk _ _ _ _ _ _ _ _ (by omega) (by omega) (by omega) (by omega) hnn hR9 hS9 (fun b o e=>by
       obtain ⟨e1,e2,_⟩:=hA9 b o e;refine ⟨⟨e1,fun q=>?_⟩,e2⟩;exact RA.out.2.2 ⟨b,o,none⟩ _ _ (by rw [e]) q) hB9 (fun y hy=>(RC.out y hy).grow (.refl _ _) (fun b hb=>⟨hb.1,hb.2.2.1⟩)))
      clear RO RO2 hR9 hS9 hA9 hB9 RC RA
      by_cases h1:k < l.length
      ·
       by_cases h2:k < 3
       ·
        by_cases h3:0 < d
        ·
         have h4:r=0:=by omega
         subst h4;go_wp2_with fail
         have HYE:Hid (POwn ((((((wo.setCell ⟨Q,0,none⟩ (.string op)).setCell ⟨Q,1,none⟩ (.string s1)).setCell ⟨Q,2,none⟩ (.bool num)).setCell ⟨Q,3,none⟩ (.int .i64 n)).setCell ⟨Q,4,none⟩ (.string vs1)).setCell ⟨Q,5,none⟩ (.slice a9 k c9)) (fun b=>W.heap.size<=b) (PB.mk op s1 num n vs1 a9 c9 ys)):=Zh (HYO.out.keep (fun b hb hbz=>⟨by
           rw [Below.heap_setCell _ _ _ _ hb.2,Below.heap_setCell _ _ _ _ hb.2,Below.heap_setCell _ _ _ _ hb.2,Below.heap_setCell _ _ _ _ hb.2,Below.heap_setCell _ _ _ _ hb.2,Below.heap_setCell _ _ _ _ hb.2],by rw [hP];exact hb.1⟩) (by simp))
         refine bodyPost_ret (v:=.tuple #[(PB.mk op s1 num n vs1 a9 c9 ys).agg,.int .i64 (0:Nat)]) (by simp [results,Tryz.results132,go_sem,PB.agg,PB.op,PB.s,PB.num,PB.n,PB.vs,PB.a,PB.c,PB.l, *]) rfl ⟨_,0,rfl,HYE.out,⟨by omega,by rw [J9];omega⟩,bset _ hQW (bset _ hQW (bset _ hQW (bset _ hQW (bset _ hQW (bset _ hQW RZ.out)))))⟩
        ·
         have h5:d=0:=by omega
         subst h5;go_wp2_with fail
         have HYE:Hid (POwn ((((((wo.setCell ⟨Q,0,none⟩ (.string op)).setCell ⟨Q,1,none⟩ (.string s1)).setCell ⟨Q,2,none⟩ (.bool num)).setCell ⟨Q,3,none⟩ (.int .i64 n)).setCell ⟨Q,4,none⟩ (.string vs1)).setCell ⟨Q,5,none⟩ (.slice a9 k c9)) (fun b=>W.heap.size<=b) (PB.mk op s1 num n vs1 a9 c9 ys)):=Zh (HYO.out.keep (fun b hb hbz=>⟨by
           rw [Below.heap_setCell _ _ _ _ hb.2,Below.heap_setCell _ _ _ _ hb.2,Below.heap_setCell _ _ _ _ hb.2,Below.heap_setCell _ _ _ _ hb.2,Below.heap_setCell _ _ _ _ hb.2,Below.heap_setCell _ _ _ _ hb.2],by rw [hP];exact hb.1⟩) (by simp))
         refine bodyPost_ret (v:=.tuple #[(PB.mk op s1 num n vs1 a9 c9 ys).agg,.int .i64 (r:Nat)]) (by simp [results,Tryz.results132,go_sem,PB.agg,PB.op,PB.s,PB.num,PB.n,PB.vs,PB.a,PB.c,PB.l, *]) rfl ⟨_,r,rfl,HYE.out,⟨by omega,by rw [J9];omega⟩,bset _ hQW (bset _ hQW (bset _ hQW (bset _ hQW (bset _ hQW (bset _ hQW RZ.out)))))⟩
       ·
        go_wp2_with fail
        have HYE:Hid (POwn ((((((wo.setCell ⟨Q,0,none⟩ (.string op)).setCell ⟨Q,1,none⟩ (.string s1)).setCell ⟨Q,2,none⟩ (.bool num)).setCell ⟨Q,3,none⟩ (.int .i64 n)).setCell ⟨Q,4,none⟩ (.string vs1)).setCell ⟨Q,5,none⟩ (.slice a9 k c9)) (fun b=>W.heap.size<=b) (PB.mk op s1 num n vs1 a9 c9 ys)):=Zh (HYO.out.keep (fun b hb hbz=>⟨by
          rw [Below.heap_setCell _ _ _ _ hb.2,Below.heap_setCell _ _ _ _ hb.2,Below.heap_setCell _ _ _ _ hb.2,Below.heap_setCell _ _ _ _ hb.2,Below.heap_setCell _ _ _ _ hb.2,Below.heap_setCell _ _ _ _ hb.2],by rw [hP];exact hb.1⟩) (by simp))
        refine bodyPost_ret (v:=.tuple #[(PB.mk op s1 num n vs1 a9 c9 ys).agg,.int .i64 (r:Nat)]) (by simp [results,Tryz.results132,go_sem,PB.agg,PB.op,PB.s,PB.num,PB.n,PB.vs,PB.a,PB.c,PB.l, *]) rfl ⟨_,r,rfl,HYE.out,⟨by omega,by rw [J9];omega⟩,bset _ hQW (bset _ hQW (bset _ hQW (bset _ hQW (bset _ hQW (bset _ hQW RZ.out)))))⟩
      ·
       go_wp2_with fail
       have HYE:Hid (POwn ((((((wo.setCell ⟨Q,0,none⟩ (.string op)).setCell ⟨Q,1,none⟩ (.string s1)).setCell ⟨Q,2,none⟩ (.bool num)).setCell ⟨Q,3,none⟩ (.int .i64 n)).setCell ⟨Q,4,none⟩ (.string vs1)).setCell ⟨Q,5,none⟩ (.slice a9 k c9)) (fun b=>W.heap.size<=b) (PB.mk op s1 num n vs1 a9 c9 ys)):=Zh (HYO.out.keep (fun b hb hbz=>⟨by
         rw [Below.heap_setCell _ _ _ _ hb.2,Below.heap_setCell _ _ _ _ hb.2,Below.heap_setCell _ _ _ _ hb.2,Below.heap_setCell _ _ _ _ hb.2,Below.heap_setCell _ _ _ _ hb.2,Below.heap_setCell _ _ _ _ hb.2],by rw [hP];exact hb.1⟩) (by simp))
       refine bodyPost_ret (v:=.tuple #[(PB.mk op s1 num n vs1 a9 c9 ys).agg,.int .i64 (r:Nat)]) (by simp [results,Tryz.results132,go_sem,PB.agg,PB.op,PB.s,PB.num,PB.n,PB.vs,PB.a,PB.c,PB.l, *]) rfl ⟨_,r,rfl,HYE.out,⟨by omega,by rw [J9];omega⟩,bset _ hQW (bset _ hQW (bset _ hQW (bset _ hQW (bset _ hQW (bset _ hQW RZ.out)))))⟩
theorem PArg.grow {v w:World} {p:PB} (h:PArg v p) (hb:Below v.heap.size v w):PArg w p:=by
 induction h with
 | mk op s num n vs a c l h1 h2 h3 h4 hn h5 _ ih=>exact .mk op s num n vs a c l h1 h2 h3 h4 hn (h5.grow hb) ih
theorem xJL (x:PB) (w:World) (hx:PArg w x):Calls Tryz.prog 65 #[x.agg] w fun e w'=>∃ y:PB,e=.returned y.agg/\(POwn w' (fun b=>w.heap.size<=b) y/\J9 y<=50)/\Below w.heap.size w w':=by
 have HC:=Zh (fun W hW=>jYi w x hx 9 49 (by omega) (by omega) W hW);clear hx;obtain ⟨op,s,num,n,vs,a,c,l⟩:=x;unfold PB.agg at HC ⊢;simp only [PB.op,PB.s,PB.num,PB.n,PB.vs,PB.a,PB.c,PB.l] at HC ⊢;rw [show (((49:Nat):Int)+1)=50 from rfl,show ((9:Nat):Int)=9 from rfl] at HC;go_enter Tryz.func65,Tryz.ntmps65;go_upto_region 1 with fail
 have bx0:=BX.new w op s num n vs (.slice a l.length c);have bx1:=BX.new (w.alloc (.cells #[.string op,.string s,.bool num,.int .i64 n,.string vs,.slice a l.length c] 123)) ⟨#[]⟩ ⟨#[]⟩ false 0 ⟨#[]⟩ (.slice none 0 0);rw [show (w.alloc (.cells #[.string op,.string s,.bool num,.int .i64 n,.string vs,.slice a l.length c] 123)).heap.size=w.heap.size+1 by simp] at bx1;refine Qg (fun v=>Hid (BX v w.heap.size op s num n vs (.slice a l.length c))/\Hid (BX v (w.heap.size+1) ⟨#[]⟩ ⟨#[]⟩ false 0 ⟨#[]⟩ (.slice none 0 0))/\Hid (Below w.heap.size w v)) ⟨bx0.grow (Qj _ (.refl _ _)),bx1,Qj _ (Qj _ (.refl _ _))⟩ ?_;rintro Y ⟨HP,HQ,HY⟩;clear bx0 bx1;have hQW:w.heap.size<=w.heap.size+1:=Nat.le_succ _;generalize w.heap.size+1=Q at HQ hQW ⊢;obtain ⟨x0,x1,x2,x3,x4,x5,x6⟩:=HP.out.box;go_wp2_with fail;refine (HC.out Y HY.out).mono ?_;rintro e w2 ⟨y,n',rfl,hO,hn,hb2⟩
 have HNB:Hid (J9 y<=50):=by
  show _<=_;omega
 clear hn;have HQ2:=Zh (HQ.out.grow hb2);have HY2:=Zh (Qk hb2 HY.out);have hQz:Q < Y.heap.size:=(Array.getElem?_eq_some_iff.1 HQ.out).1;have HO2:Hid (POwn w2 (fun b=>w.heap.size<=b/\b≠Q) y):=Zh (hO.grow (.refl _ _) (fun b hb=>⟨by have:=HY.out.size;omega,by omega⟩));clear x0 x1 x2 x3 x4 x5 x6 HP HQ HY HC hO hb2;obtain ⟨o0,o1,o2,o3,o4,o5,o6,o7⟩:=y;unfold PB.agg;simp only [PB.op,PB.s,PB.num,PB.n,PB.vs,PB.a,PB.c,PB.l];go_upto_region 2 with fail
 refine Qg (fun u=>Hid (BX u w2.heap.size o0 o1 o2 o3 o4 (.slice o5 o7.length o6))/\Hid (BX u Q ⟨#[]⟩ ⟨#[]⟩ false 0 ⟨#[]⟩ (.slice none 0 0))/\Hid (POwn u (fun b=>w.heap.size<=b/\b≠Q) (PB.mk o0 o1 o2 o3 o4 o5 o6 o7))/\Hid (Below w.heap.size w u)) ⟨BX.new _ _ _ _ _ _ _,HQ2.out.grow (Qj _ (.refl _ _)),HO2.out.grow (Qj _ (.refl _ _)) (fun _ h=>h),Qj _ HY2.out⟩ ?_;rintro Z ⟨HB,HQ3,HO3,HZ⟩;generalize w2.heap.size=B at HB ⊢;clear HQ2 HY2 HO2;obtain ⟨x0,x1,x2,x3,x4,x5,x6⟩:=HB.out.box;obtain ⟨w0,w1,w2',w3,w4,w5,w6⟩:=HQ3.out.box;have z0:=HQ3.out.fz 0;have z1:=HQ3.out.fz 1;have z2:=HQ3.out.fz 2;have z3:=HQ3.out.fz 3;have z4:=HQ3.out.fz 4;have z5:=HQ3.out.fz 5;go_wp2_with fail
 have HYE:Hid (POwn ((((((Z.setCell ⟨Q,0,none⟩ (.string o0)).setCell ⟨Q,1,none⟩ (.string o1)).setCell ⟨Q,2,none⟩ (.bool o2)).setCell ⟨Q,3,none⟩ (.int .i64 o3)).setCell ⟨Q,4,none⟩ (.string o4)).setCell ⟨Q,5,none⟩ (.slice o5 o7.length o6)) (fun b=>w.heap.size<=b) (PB.mk o0 o1 o2 o3 o4 o5 o6 o7)):=Zh (HO3.out.keep (fun b hb hbz=>⟨by
  rw [Below.heap_setCell _ _ _ _ hb.2,Below.heap_setCell _ _ _ _ hb.2,Below.heap_setCell _ _ _ _ hb.2,Below.heap_setCell _ _ _ _ hb.2,Below.heap_setCell _ _ _ _ hb.2,Below.heap_setCell _ _ _ _ hb.2],hb.1⟩) (by simp))
 refine bodyPost_ret (v:=(PB.mk o0 o1 o2 o3 o4 o5 o6 o7).agg) (by simp [results,Tryz.results65,go_sem,PB.agg,PB.op,PB.s,PB.num,PB.n,PB.vs,PB.a,PB.c,PB.l, *]) rfl ⟨_,rfl,⟨HYE.out,HNB.out⟩,bset _ hQW (bset _ hQW (bset _ hQW (bset _ hQW (bset _ hQW (bset _ hQW HZ.out)))))⟩
end Go.Proofs.YtcbicdencgjfiaaGreatDoor
namespace Tryst
open Go Go.RowKit Go.ChangeShapes Go.WideShapes Go.Joins
theorem xQe {H:Type} {enc:TypeId × Value->H} {P:Program} {w:World} {base:Nat} {sp:Nat->Bool} {hd:Bool} {T E:TypeId} {k:Nat} {α:Type} (cells:α->List Value) (p:α->Prop) (zero:α) (hk:0 < k) (hu:P.underlying T=some (.slice E)) (hc:P.cellsOf E=k) (hlen:∀ y,(cells y).length=k)
  {fuel:Nat} (hread:∀ (m:Nat),m < fuel->∀ {cs:List Value} {x:DataW H × List MemPlace},DataW.trod enc P w base sp hd m E cs=some x->∃ y,cs=cells y/\p y)
  {cs:List Value} {x:DataW H × List MemPlace} (h:DataW.trod enc P w base sp hd fuel T cs=some x) :
  ∃ (a:Option Addr) (l:List α) (c:Nat),cs=[.slice a l.length c]/\Row w a k (l.map cells)/\(∀ y∈l,p y)/\l.length<=9223372036854775807:=by
 rcases DataW.trod_slice hu h with ⟨rfl,_⟩ | ⟨ad,len,cap,elems,rest,n,hn,rfl,_,_,hl,hm,hle,hel,_⟩
 · exact ⟨none,[],0,rfl,Row.nil _ _ _,(fun f hf=>by cases hf),Nat.zero_le _⟩
 ·
  have key:∀ i,i < len->∃ y:α,(∀ j,j < k->w.cell? ((ad.add (i*k)).add j)=(cells y)[j]?)/\p y:=fun i hil=>by
   have hi:=hel i hil;rw [List.getElem?_eq_getElem (by omega),Option.bind_eq_some_iff] at hi;obtain ⟨cs',hc',ht⟩:=hi;rw [hc] at hc';obtain ⟨_,_,hcell⟩:=World.cells?_some hc';obtain ⟨y,rfl,hy⟩:=hread n (by omega) ht;exact ⟨y,hcell,hy⟩
  obtain ⟨g,hg⟩:∃ g:Nat->α,∀ i,i < len->(∀ j,j < k->w.cell? ((ad.add (i*k)).add j)=(cells (g i))[j]?)/\p (g i):=
   ⟨fun i=>if h:i < len then (key i h).choose else zero,fun i h=>by simp only [dif_pos h];exact (key i h).choose_spec⟩
  refine ⟨some ad,(List.range len).map g,cap,by rw [List.length_map,List.length_range],?_,?_,?_⟩
  ·
   intro i hil;rw [List.length_map,List.length_map,List.length_range] at hil;obtain ⟨hc,_⟩:=hg i hil;obtain ⟨b,o,sp⟩:=ad;have hz0:=(hg 0 (by omega)).1 0 hk;have hk0:0 < (cells (g 0)).length:=by rw [hlen];exact hk
   rw [List.getElem?_eq_getElem hk0] at hz0;obtain ⟨hb,hs⟩:=zQn hz0;have hb':b < w.heap.size:=by simpa [Addr.add] using hb
   have hs':sp=none:=by simpa [Addr.add] using hs
   subst hs';refine ⟨b,o,rfl,hb',fun j hj=>?_⟩;have e:(((List.range len).map g).map cells)[i]'(by simpa using hil)=cells (g i):=by simp
   rw [e,<- hc j hj,Addr.add_lit,Addr.add_lit]
  · intro y hy;obtain ⟨i,hi',rfl⟩:=List.mem_map.1 hy;exact (hg i (by simpa using hi')).2
  · rw [List.length_map,List.length_range];exact Nat.le_trans hl hm
end Tryst
namespace Go.Proofs.YtcbicdencgjfiaaGreatDoor
open Go.RowKit Tryst Go.ChangeShapes Go.WideShapes Go.Joins
section
variable {H:Type} {enc:TypeId × Value->H} {w:World} {base:Nat} {sp:Nat->Bool} {hd:Bool}
theorem vJ2:Tryz.prog.cellsOf 123=6:=by kernel_rfl
theorem zJk:Tryz.prog.cellsOf 41=1:=by kernel_rfl
theorem kJT (fuel:Nat):∀ {cs:List Value} {x:DataW H × List MemPlace},DataW.trod enc Tryz.prog w base sp hd fuel 123 cs=some x->∃ y:PB,cs=y.cells/\PArg w y:=by
 induction fuel using Nat.strongRecOn with
 | _ fuel ih=>
  intro cs x h;obtain ⟨xs,n,hn,_,hlen,hxl,hf⟩:=DataW.trod_struct Tryz.underlying123 h;rw [vJ2] at hlen
  match cs,hlen,xs,hxl with
  | [c0,c1,c2,c3,c4,c5],_,[y0,y1,y2,y3],_=>
   have h0:DataW.trod enc Tryz.prog w base sp hd n 9 (([c0,c1,c2,c3,c4,c5].drop 0).take (Tryz.prog.cellsOf 9))=some y0:=hf 0 _ rfl;have h1:DataW.trod enc Tryz.prog w base sp hd n 9 (([c0,c1,c2,c3,c4,c5].drop 1).take (Tryz.prog.cellsOf 9))=some y1:=hf 1 _ rfl;have h2:DataW.trod enc Tryz.prog w base sp hd n 121 (([c0,c1,c2,c3,c4,c5].drop 2).take (Tryz.prog.cellsOf 121))=some y2:=hf 2 _ rfl;have h3:DataW.trod enc Tryz.prog w base sp hd n 41 (([c0,c1,c2,c3,c4,c5].drop 5).take (Tryz.prog.cellsOf 41))=some y3:=hf 3 _ rfl;rw [kStr] at h0 h1;rw [kVal] at h2;rw [zJk] at h3;obtain ⟨op,e0,ho⟩:=Xf h0;obtain ⟨s,e1,hs⟩:=Xf h1;obtain ⟨num,i,vs,e2,hv,hl,hh⟩:=jJC h2;obtain ⟨a,l,c,e3,q1,q2,q3⟩:=xQe PB.cells (PArg w) (.mk ⟨#[]⟩ ⟨#[]⟩ false 0 ⟨#[]⟩ none 0 []) (by decide) Tryz.underlying41 vJ2 (fun y=>by cases y;rfl) (fun m hm=>ih m (by omega)) h3;simp at e0 e1 e2 e3;obtain ⟨k2,k3,k4⟩:=e2;exact ⟨.mk op s num i vs a c l,by rw [e0,e1,k2,k3,k4,e3];rfl,.mk _ _ _ _ _ _ _ _ ho hs hv q3 ⟨hl,hh⟩ q1 q2⟩
end
end Go.Proofs.YtcbicdencgjfiaaGreatDoor
namespace Go.Proofs.YtcbicdencgjfiaaGreatDoor
open Go.RowKit Tryst
def PrO (base:Nat) (v:Value) (w:World):Prop:=∃ y:PB,v=y.agg/\(POwn w (fun b=>base<=b) y/\J9 y<=50)
theorem PrO.at {base:Nat} {v:Value} {w':World} (h:∃ w0,Tryst2.Grow w0 w'/\PrO base v w0):PrO base v w':=by
 obtain ⟨w0,hg,y,h1,h2,h3⟩:=h;exact ⟨y,h1,h2.grow hg (fun _ h=>h),h3⟩
theorem PrO.of {base:Nat} {w w':World} {y:PB} (h:POwn w' (fun b=>w.heap.size<=b) y/\J9 y<=50) (hb:Below w.heap.size w w') (hz:base<=w.heap.size):Tryst2.Grow w w'/\∃ w0,Tryst2.Grow w0 w'/\PrO base y.agg w0:=
 ⟨hb,w',Tryst2.Grow.refl _,y,rfl,h.1.grow (.refl _ _) (fun b hb=>Nat.le_trans hz hb),h.2⟩
theorem Flds.keep {w w':World} {a:Option Addr} {l:List FB} (h:Flds w a l) (hb:∀ b o,a=some ⟨b,o,none⟩->w'.heap[b]?=w.heap[b]?) (hz:w.heap.size<=w'.heap.size):Flds w' a l:=by
 intro i hi;obtain ⟨b,o,h1,h2,h3⟩:=h i hi;have hc:∀ j,w'.cell? ⟨b,j,none⟩=w.cell? ⟨b,j,none⟩:=fun j=>World.cell?_of_block (w:=w) (a:=⟨b,j,none⟩) (hb b o h1)
 obtain ⟨k0,k1,k2,k3⟩:=h3;exact ⟨b,o,h1,by omega,⟨by rw [hc];exact k0,by rw [hc];exact k1,by rw [hc];exact k2,by rw [hc];exact k3⟩⟩
section
variable {w:World} {B:Nat} {a0 a1:ByteArray} {a2:Bool} {a3:Int} {a4:ByteArray} {a5:Value} {b0 b1:ByteArray} {b2:Bool} {b3:Int} {b4:ByteArray} {b5:Value} {t p:ByteArray} {q:Int} {u:Value}
end
