import Derived.Test.YtcbicdencgjfiaaGreatDoorDrawS
import Derived.Test.YtcbicdencgjfiaaGreatDoorFewF
import Derived.Test.YtcbicdencgjfiaaGreatDoorTopOC
set_option linter.all false
set_option maxHeartbeats 4000000
set_option maxRecDepth 20000
namespace Go.Proofs.YtcbicdencgjfiaaGreatDoor
open Go Go.RowKit Tryst
def jQ1:EK KpB where
 T:=155
 k:=3
 cells:=KpB.cells
 val:=KpB.val
 E:=fun _ _ _=>True
 len:=fun y=>rfl
 one:=fun y u hu=>by
  simp [KpB.cells] at hu
  rcases hu with rfl | rfl | rfl<;>rfl
 keep:=fun _ _ _=>trivial
def Kb:EK InB where
 T:=130
 k:=4
 cells:=InB.cells
 val:=InB.val
 E:=fun S w y=>LM jQ1 S w y.la y.lc y.l
 len:=fun y=>rfl
 one:=fun y u hu=>by
  simp [InB.cells] at hu
  rcases hu with rfl | rfl | rfl | rfl<;>rfl
 keep:=fun h hk hz=>h.keep hk hz
def KpB.p (x:KpB):jJU:=(x.part,x.id,x.time)
def InB.p (x:InB):qQp:=(x.key,x.l.map KpB.p)
def jQT (x:InB):qQp:=(⟨x.num,x.n,(few x.s).data.toList⟩,(x.l.take 31).map KpB.p)
def KpT (L:List KpB) (lo hi:Nat) (v:Value) (w:World):Prop:=ROwn 155 3 w lo v (L.map KpB.cells)/\∀ A n c,v=.slice (some A) n c->A.block < hi
def BdT (xb:Bool) (xn:Int) (s:ByteArray) (vs:Nat->Value) (_ _:Nat) (v:Value) (_:World):Prop:=v=.agg #[.bool xb,.int .i64 xn,.string s,vs 12]/\∃ a n c,vs 12=.slice a n c
def RwT (T:TypeId) (vs:Nat->Value) (lo hi:Nat) (v:Value) (w:World):Prop:=∃ g,v=.slice (some ⟨g,0,none⟩) 1 1/\lo<=g/\g < hi/\w.heap[g]?=some (.cells (Tryst4.cellsOf (vs 13)).toArray T (0,0))
theorem instT:SliceOf Tryz.prog 66 130 4 56:=.mk' Tryz.underlying66 (z:=.agg #[.bool false,.int .i64 0,.string ⟨#[]⟩,.slice none 0 0]) (by kernel_rfl) rfl (by decide) (by decide)
theorem FwE.put {β:Type} {X:EK β} {w wo w2 w3:World} {ys:List β} {v:Value} {y:β} {g' cap n':Nat} (h:FwE X w ys v wo) (hy:X.E (fun g=>wo.heap.size<=g) w2 y) (ho:Below wo.heap.size wo w2)
  (hr:ROwn X.T X.k w3 w.heap.size (.slice (some ⟨g',0,none⟩) n' cap) (ys.map X.cells++[X.cells y])) (hb:Below w.heap.size w2 w3) (hst:∀ k,k < w2.heap.size->Away v k->w3.heap[k]?=w2.heap[k]?) (hat:v.ownBlock=some g'∨g'=w2.heap.size) :
  FwE X w (ys++[y]) (.slice (some ⟨g',0,none⟩) n' cap) w3:=by
 have hz:=h.low.size;have hz2:=ho.size;have hv:∀ A n c,v=.slice (some A) n c->A.block < wo.heap.size:=fun A n c e=>(World.ownsRow.lt h.row A.block (by rw [e];rfl)).2
 refine ⟨(Qk ho h.low).trans hb,by rw [List.map_append];exact hr,fun z hz=>?_⟩
 have h2:X.E (fun g=>w.heap.size<=g/\Away v g) w2 z:=by
  rcases List.mem_append.1 hz with hz | hz
  · exact X.keep (h.mem z hz) (fun g hg hl=>⟨ho.block g hl,hg⟩) ho.size
  · rw [List.mem_singleton] at hz;subst hz;exact X.keep hy (fun g hg _=>⟨rfl,by omega,fun A n c e he=>by have:=hv A n c e;omega⟩) (Nat.le_refl _)
 refine X.keep h2 (fun g hg hl=>⟨hst g hl hg.2,hg.1,fun A n c e he=>?_⟩) hb.size;cases e;have he:g'=g:=he
 rcases hat with hat | hat
 ·
  cases v with
  | slice a0 n c=>
   cases a0 with
   | none=>simp [Value.ownBlock] at hat
   | some A=>
    simp [Value.ownBlock] at hat;exact hg.2 A n c rfl (by omega)
  | _=>simp [Value.ownBlock] at hat
 · omega
structure InsA (w:World) (a:Option Addr) (l:List InB):Prop where
 row:Row w a 4 (l.map InB.cells)
 mem:∀ x∈l,Xg w x.la x.l
theorem InsA.grow {w W:World} {a:Option Addr} {l:List InB} (h:InsA w a l) (hb:Below w.heap.size w W):InsA W a l:=⟨h.row.grow hb,fun x hx=>Row.grow (h.mem x hx) hb⟩
theorem InsA.at {w:World} {b o:Nat} {l:List InB} (h:InsA w (some ⟨b,o,none⟩) l) {i:Nat} (hi:i < l.length):b < w.heap.size/\InAt w b (o+i*4) l[i]:=by
 obtain ⟨h1,h2⟩:=Row.at h.row (i:=i) (by simpa using hi);simp only [List.getElem_map] at h2;exact ⟨h1,h2 0 (by omega),h2 1 (by omega),h2 2 (by omega),h2 3 (by omega)⟩
theorem InsA.head {w:World} {a:Option Addr} {l:List InB} (h:InsA w a l) {i:Nat} (hi:i < l.length):∃ b o,a=some ⟨b,o,none⟩/\b < w.heap.size:=Row.head h.row (by simpa using hi)
theorem KpT.sl {L:List KpB} {lo hi:Nat} {v:Value} {w:World} (h:KpT L lo hi v w):∃ a n c,v=.slice a n c:=by
 rcases h.1.2 with ⟨h,_⟩ | ⟨g,cap,cur,h,_⟩
 · exact ⟨_,_,_,h⟩
 · exact ⟨_,_,_,h⟩
theorem KpT.at {L:List KpB} {base lo hi:Nat} {v:Value} {w:World} (h:∃ w0,Tryst4.Same base lo hi w0 w/\KpT L lo hi v w0):∃ a c,v=.slice a L.length c/\LM jQ1 (fun g=>lo<=g) w a c L:=by
 obtain ⟨w0,hs,h1,h2⟩:=h;have h3:=jQN h1 (w':=w) (fun A n c hv=>hs.block _ (.inr ⟨(h1.lt _ (by rw [hv];rfl)).1,h2 A n c hv⟩) (h1.lt _ (by rw [hv];rfl)).2);obtain ⟨a,c,e,h4,h5,h6⟩:=ROwn.row (k:=3) (l:=L.map KpB.cells) h3 (KpB.cells_len L) (by decide);rw [List.length_map] at e h5;exact ⟨a,c,e,h4,h5,fun b o e=>⟨(h6 b o e).1,(h6 b o e).2.1⟩,fun y hy=>trivial⟩
theorem kJC (a:Option Addr) (c:Nat) (l:List InB) (hl:l.length<=9223372036854775807) (hs:∀ x∈l,x.s.size<=9223372036854775807/\x.l.length<=9223372036854775807/\x.l.length<=x.lc) (w:World) (hO:InsA w a l) :
  Calls Tryz.prog 29 #[.slice a l.length c] w (MkE Kb InB.p w ((l.take 41).map jQT)):=by
 have HF:=Zh (fun W (hb:Below w.heap.size w W)=>hO.grow hb);have CV:=Zh (fun (k:Nat) (hk:k < l.length) W=>vJo l[k].num l[k].n l[k].s (hs _ (List.getElem_mem hk)).1 W);have CK:=Zh (fun (k:Nat) (hk:k < l.length) W (hb:Below w.heap.size w W)=>zJI l[k].la l[k].lc l[k].l (hs _ (List.getElem_mem hk)).2.1 (hs _ (List.getElem_mem hk)).2.2 W ((hO.grow hb).mem _ (List.getElem_mem hk)));clear hO hs;obtain ⟨L9,hL9⟩:∃ L9,(l.take 41).map jQT=L9:=⟨_,rfl⟩;rw [hL9];have HL9:=Zh hL9;clear hL9;go_enter Tryz.func29,Tryz.ntmps29;go_wp2_with fail;go_loopw [3,4] (fun s i wr=>FwS Kb InB.p jQT 41 w l s i wr) (fun _ i _=>l.length - (intOf i).toNat)
 case atStart=>exact ⟨0,[],by omega,by omega,rfl,Zh (FwE.start _ _),Zh rfl⟩
 case round=>
  obtain ⟨k,ys,hk51,hkl,rfl,HO,HY⟩:=hrel;obtain ⟨wo,rfl⟩:∃ wo,wo=wr:=⟨_,rfl⟩
  by_cases hlt:k < l.length/\k < 41
  ·
   obtain ⟨hl1,hl2⟩:=hlt;obtain ⟨b,o,ha,hb⟩:=(HF.out wo HO.out.low).head hl1;subst ha;obtain ⟨_,f0,f1,f2,f3⟩:=(HF.out wo HO.out.low).at hl1;have DV:=Zh (CV.out k hl1);have DK:=Zh (CK.out k hl1);have HL2:Hid ((l.take (k+1)).map jQT=(l.take k).map jQT++[(⟨l[k].num,l[k].n,(few l[k].s).data.toList⟩,(l[k].l.take 31).map KpB.p)]):=Zh (by rw [List.take_succ_eq_append_getElem hl1,List.map_append];rfl);have hyl:ys.length<=41:=by have:=congrArg List.length HY.out;simp at this;omega
   have x1:(k:Int) < l.length:=by omega
   have x2:(0:Int)<=k:=by omega
   have x3:(k:Int) < 41:=by omega
   obtain ⟨x,hx⟩:∃ x,l[k]=x:=⟨_,rfl⟩;rw [hx] at f0 f1 f2 f3 DV DK HL2;clear hx;obtain ⟨xb,xn,xs,xa,xl,xc⟩:=x;simp only at f0 f1 f2 f3 DV DK HL2;generalize few xs=s2 at DV HL2;generalize xl.take 31=L at DK HL2;go_upto_region 5 with fail
   refine Tryst4.wp_region_owns [.is u3,.is (.slice (some ⟨b,o,none⟩) l.length c),.is (.int .i64 (k:Int)),.is (.pointer (some ⟨b,o+k*4,none⟩)),.is (.pointer (some ⟨b,o+k*4,none⟩)),.is (.agg #[.bool xb,.int .i64 xn,.string xs]),.is (.agg #[.bool xb,.int .i64 xn,.string s2]),.is (.slice (some ⟨b,o,none⟩) l.length c),.is (.int .i64 (k:Int)),.is (.pointer (some ⟨b,o+k*4,none⟩)),.is (.pointer (some ⟨b,o+k*4+3,none⟩)),.is (.slice xa xl.length xc),.own (KpT L),.dep [12] (BdT xb xn s2),.dep [13] (RwT 130)] (by kernel_rfl) (by kernel_rfl) (by kernel_rfl) ?obl ?fin
   case obl=>
    simp only [Tryst4.AllObl,Tryst4.Obl,Tryst4.depsS,Tryst4.Rsp.R,Tryst4.Rsp.made,Tryst4.val,YL,YO,Op.operands,Call.operands]
    repeat' apply And.intro
    any_goals trivial
    all_goals (intro tv lo hi w' hg hold hd;(try simp at hold);obtain ⟨hcg,hfg,hsg⟩:=YG hg)
    all_goals first | (go_simp;done) | (go_simp;go_at_call 66;refine (DV.out _).mono ?_;rintro e w2 ⟨rfl,hb2⟩;exact ⟨hb2,rfl⟩) | (go_simp;go_at_call 67;refine (DK.out _ (Tryst2.Grow.below hg HO.out.low)).mono ?_;rintro e w2 ⟨v2,rfl,ho,hb2⟩;exact ⟨hb2,ho,fun A n c e=>(ho.lt _ (by rw [e];rfl)).2⟩) | (obtain ⟨e1,⟨w0,hs0,hk0⟩,-⟩:=hd;obtain ⟨a7,n7,c7,e7⟩:=hk0.sl;go_simp;exact ⟨by simp [Tryst4.mask,Tryst4.val,e7],a7,n7,c7,by simp [Tryst4.mask,Tryst4.val,e7]⟩) | (obtain ⟨⟨w0,hs0,e8,a7,n7,c7,e7⟩,-⟩:=hd;simp only [Tryst4.mask,Tryst4.val] at e8 e7;simp at e8 e7;rw [e7] at e8;go_simp;exact ⟨w'.heap.size,rfl,Nat.le_refl _,by simp,by (simp [Tryst4.mask,Tryst4.val,Tryst4.cellsOf,e8];show (w'.heap.push _)[_]=_;simp)⟩)
   case fin=>
    intro tv w' lo hi hg hR hL hT;simp only [Tryst4.allT,Tryst4.Rsp.R,Tryst4.val,Nat.reduceAdd,YL,YO] at hR;simp only [YL,Nat.reduceAdd] at hL hT;obtain ⟨hcg,hfg,hsg⟩:=YG hg;simp only [YP,YL,Act.put,hR];obtain ⟨-,-,-,-,-,-,-,-,-,-,-,-,h12,⟨w3,s3,e13,-⟩,⟨w4,s4,g,e14,l14,u14,h14⟩,-⟩:=hR;obtain ⟨a7,c7,e12,hm7⟩:=KpT.at h12;have e13:tv 28=.agg #[.bool xb,.int .i64 xn,.string s2,.slice a7 L.length c7]:=by simp [Tryst4.mask,Tryst4.val] at e13;rw [e13,e12]
    have h14:w'.heap[g]?=some (.cells [.bool xb,.int .i64 xn,.string s2,.slice a7 L.length c7].toArray 130 (0,0)):=by
     rw [s4.block g (.inr ⟨l14,u14⟩) (Array.getElem?_eq_some_iff.1 h14).1,h14];simp [Tryst4.mask,Tryst4.val,Tryst4.cellsOf,e13]
    simp only [e12,e13,e14];have i12:=(hL 12 (by decide)).1;have hbw:=Tryst2.Grow.below hg (.refl wo.heap.size wo);have HM:Hid (Kb.E (fun g=>wo.heap.size<=g) w' ⟨xb,xn,s2,a7,L,c7⟩):=Zh (LM.keep hm7 (fun g hg _=>⟨rfl,Nat.le_trans i12 hg⟩) (Nat.le_refl _));have HB2:=Zh hbw;have HR:=Zh (HO.out.row.grow hbw);have hz1:=HO.out.low.size;have hz2:=hbw.size;have HG:=Zh (show Var w' g 130 [.bool xb,.int .i64 xn,.string s2,.slice a7 L.length c7] from h14);have HLN:=Zh (show (ys.map InB.cells).length=ys.length by rw [List.length_map]);clear hg hL hT hcg hfg hsg f0 f1 f2 f3 DV DK h12 s3 s4 hm7 hbw;go_wp2_with (at_builtin;refine Q8 instT rfl _ _ rfl w.heap.size u3 (ys.map InB.cells) ys.length HLN.out rfl HR.out [.bool xb,.int .i64 xn,.string s2,.slice a7 L.length c7] rfl (Kb.one ⟨xb,xn,s2,a7,L,c7⟩) g rfl (fun j _=>HG.out.cell j) ?a3 ?a4 ?_)
    case a3=>omega
    case a4=>omega
    intro g' cap w5 hr hb hst hat _;have HO3:=Zh (HO.out.put HM.out HB2.out hr hb hst hat);have HY3:Hid ((ys++[InB.mk xb xn s2 a7 L c7]).map InB.p=(l.take (k+1)).map jQT):=Zh (by rw [List.map_append,HY.out,HL2.out];rfl);clear hr hb hst hat HO HY HL2 HM HB2 HR HG HLN;go_wp2_with fail;go_roundw
    case rel=>exact ⟨k+1,_,by omega,by omega,by go_num,HO3,HY3⟩
    case measure=>simp [intOf]<;>omega
  ·
   have HL:=Zh (HY.out.trans ((zQs hlt hk51).trans HL9.out))
   by_cases hks:k < l.length
   ·
    have h21:k=41:=by omega
    subst h21;go_wp2_with fail;go_ret;exact ⟨_,ys,rfl,HO.out,HL.out⟩
   · go_wp2_with fail;go_ret;exact ⟨_,ys,rfl,HO.out,HL.out⟩
end Go.Proofs.YtcbicdencgjfiaaGreatDoor
namespace Go.Proofs.YtcbicdencgjfiaaGreatDoor
open Go Go.RowKit Tryst
def topK:EK TB where
 T:=64
 k:=3
 cells:=TB.cells
 val:=tV
 E:=fun S w y=>LM strK S w y.la y.lc y.log
 len:=fun y=>rfl
 one:=fun y u hu=>by
  simp [TB.cells] at hu
  rcases hu with rfl | rfl | rfl<;>rfl
 keep:=fun h hk hz=>h.keep hk hz
def LB.val (x:LB):Value:=.agg #[.string x.producer,.int .u64 x.seq,.int .i64 x.off]
def Z9:EK LB where
 T:=104
 k:=3
 cells:=LB.cells
 val:=LB.val
 E:=fun _ _ _=>True
 len:=fun y=>rfl
 one:=fun y u hu=>by
  simp [LB.cells] at hu
  rcases hu with rfl | rfl | rfl<;>rfl
 keep:=fun _ _ _=>trivial
def OB.val (x:OB):Value:=.agg #[.string x.topic,.int .i64 x.next]
def offK:EK OB where
 T:=126
 k:=2
 cells:=OB.cells
 val:=OB.val
 E:=fun _ _ _=>True
 len:=fun y=>rfl
 one:=fun y u hu=>by
  simp [OB.cells] at hu
  rcases hu with rfl | rfl<;>rfl
 keep:=fun _ _ _=>trivial
def DeadB.val (x:DeadB):Value:=.agg #[.string x.sub,.string x.e]
def Kk:EK DeadB where
 T:=74
 k:=2
 cells:=DeadB.cells
 val:=DeadB.val
 E:=fun _ _ _=>True
 len:=fun y=>rfl
 one:=fun y u hu=>by
  simp [DeadB.cells] at hu
  rcases hu with rfl | rfl<;>rfl
 keep:=fun _ _ _=>trivial
structure DOS (S:Nat->Prop) (w:World) (d:DB):Prop where
 o:DO w d
 ga:∀ b o,d.ga=some ⟨b,o,none⟩->0 < d.gl.length->S b
 wa:∀ b o,d.wa=some ⟨b,o,none⟩->0 < d.wl.length->S b
 ps:∀ p∈d.wl,POwn w S p/\J9 p<=50
 g6:d.gl.length<=6
 w7:d.wl.length<=7
theorem DOS.keep {S S':Nat->Prop} {w w':World} {d:DB} (h:DOS S w d) (hk:∀ g,S g->g < w.heap.size->w'.heap[g]?=w.heap[g]?/\S' g) (hz:w.heap.size<=w'.heap.size):DOS S' w' d:=by
 have hp:∀ p∈d.wl,POwn w' S' p/\J9 p<=50:=fun p hp=>⟨(h.ps p hp).1.keep hk hz,(h.ps p hp).2⟩
 have hg:Strs w' d.ga d.gl:=by
  intro i hi;obtain ⟨b,o,h1,h2,h3⟩:=h.o.gS i hi;exact ⟨b,o,h1,Nat.lt_of_lt_of_le h2 hz,(World.cell?_of_block (w:=w) (a:=⟨b,o+i,none⟩) (hk b (h.ga b o h1 (by omega)) h2).1).trans h3⟩
 have hr:Row w' d.wa 6 (d.wl.map PB.cells):=by
  intro i hi;obtain ⟨b,o,h1,h2,h3⟩:=h.o.wR.row i hi;have hi2:0 < d.wl.length:=by rw [List.length_map] at hi;omega
  exact ⟨b,o,h1,Nat.lt_of_lt_of_le h2 hz,fun j hj=>(World.cell?_of_block (w:=w) (a:=⟨b,o+i*6+j,none⟩) (hk b (h.wa b o h1 hi2) h2).1).trans (h3 j hj)⟩
 refine ⟨⟨h.o.hn,h.o.hg,h.o.hgs,hg,h.o.gL,h.o.hw,⟨hr,h.o.wR.sl,fun p hp'=>⟨(hp p hp').1.grow (.refl _ _) (fun _ _=>trivial),(hp p hp').2⟩⟩,h.o.hk⟩,fun b o e h0=>?_,fun b o e h0=>?_,hp,h.g6,h.w7⟩
 · obtain ⟨b',o',h1,h2,_⟩:=h.o.gS 0 h0;rw [e] at h1;cases h1;exact (hk b (h.ga b o e h0) h2).2
 · obtain ⟨b',o',h1,h2,_⟩:=h.o.wR.row 0 (by rw [List.length_map];exact h0);rw [e] at h1;cases h1;exact (hk b (h.wa b o e h0) h2).2
theorem DOS.of {base:Nat} {w:World} {d:DB} (h:DOB base w d) {S:Nat->Prop} (hS:∀ g,base<=g->S g):DOS S w d:=
 ⟨h.o,fun b o e _=>hS b (h.ga b o e),fun b o e _=>hS b (h.wa b o e),fun p hp=>⟨(h.ps p hp).1.grow (.refl _ _) hS,(h.ps p hp).2⟩,h.g6,h.w7⟩
structure SubE (S:Nat->Prop) (w:World) (x:SubB):Prop where
 d:DOS S w x.d
 o:LM offK S w x.oa x.oc x.ol
 i:LM Kb S w x.ia x.ic x.il
def subF:EK SubB where
 T:=68
 k:=15
 cells:=SubB.cells
 val:=SubB.agg
 E:=SubE
 len:=fun y=>rfl
 one:=fun y u hu=>by
  simp [SubB.cells] at hu
  rcases hu with rfl | rfl | rfl | rfl | rfl | rfl | rfl | rfl | rfl | rfl | rfl | rfl | rfl | rfl | rfl<;>rfl
 keep:=fun h hk hz=>⟨h.d.keep hk hz,h.o.keep hk hz,h.i.keep hk hz⟩
structure FwO {β:Type} (X:EK β) (base:Nat) (ys:List β) (v:Value) (w:World):Prop where
 row:ROwn X.T X.k w base v (ys.map X.cells)
 mem:∀ y∈ys,X.E (fun g=>base<=g/\Away v g) w y
theorem FwE.o {β:Type} {X:EK β} {w wr:World} {ys:List β} {v:Value} (h:FwE X w ys v wr):FwO X w.heap.size ys v wr:=⟨h.row,h.mem⟩
theorem FwO.nil {β:Type} (X:EK β) (base:Nat) (w:World):FwO X base [] (.slice none 0 0) w:=⟨ROwn.nil _ _ _ _,fun y h=>by cases h⟩
theorem FwO.keep {β:Type} {X:EK β} {base:Nat} {ys:List β} {v:Value} {w w':World} (h:FwO X base ys v w) (hk:∀ g,base<=g->g < w.heap.size->w'.heap[g]?=w.heap[g]?) (hz:w.heap.size<=w'.heap.size):FwO X base ys v w':=
 ⟨jQN h.row (fun A n c e=>hk _ (h.row.lt _ (by rw [e];rfl)).1 (h.row.lt _ (by rw [e];rfl)).2),fun y hy=>X.keep (h.mem y hy) (fun g hg hl=>⟨hk g hg.1 hl,hg⟩) hz⟩
theorem FwO.lm {β:Type} {X:EK β} {base:Nat} {ys:List β} {v:Value} {w:World} (hk:0 < X.k) (h:FwO X base ys v w):∃ a c,v=.slice a ys.length c/\LM X (fun g=>base<=g) w a c ys:=
 LM.of hk h.row h.mem (fun _ hg=>hg)
theorem FwO.put {β:Type} {X:EK β} {base:Nat} {w2 w3:World} {ys:List β} {v:Value} {y:β} {g' cap n':Nat} (h:FwO X base ys v w2) (hy:X.E (fun g=>base<=g/\Away v g) w2 y) (hz:base<=w2.heap.size)
  (hr:ROwn X.T X.k w3 base (.slice (some ⟨g',0,none⟩) n' cap) (ys.map X.cells++[X.cells y])) (hb:Below base w2 w3) (hst:∀ k,k < w2.heap.size->Away v k->w3.heap[k]?=w2.heap[k]?) (hat:v.ownBlock=some g'∨g'=w2.heap.size) :
  FwO X base (ys++[y]) (.slice (some ⟨g',0,none⟩) n' cap) w3:=by
 refine ⟨by rw [List.map_append];exact hr,fun z hz=>?_⟩
 have h2:X.E (fun g=>base<=g/\Away v g) w2 z:=by
  rcases List.mem_append.1 hz with hz | hz
  · exact h.mem z hz
  · rw [List.mem_singleton] at hz;subst hz;exact hy
 refine X.keep h2 (fun g hg hl=>⟨hst g hl hg.2,hg.1,fun A n c e he=>?_⟩) hb.size;cases e;have he:g'=g:=he
 rcases hat with hat | hat
 ·
  cases v with
  | slice a0 n c=>
   cases a0 with
   | none=>simp [Value.ownBlock] at hat
   | some A=>
    simp [Value.ownBlock] at hat;exact hg.2 A n c rfl (by omega)
  | _=>simp [Value.ownBlock] at hat
 · omega
def FwT {β γ:Type} (X:EK β) (p:β->γ) (ts:List γ) (lo hi:Nat) (v:Value) (w:World):Prop:=w.heap.size=hi/\∃ ys,FwO X lo ys v w/\ys.map p=ts
theorem FwT.sl {β γ:Type} {X:EK β} {p:β->γ} {ts:List γ} {lo hi:Nat} {v:Value} {w:World} (h:FwT X p ts lo hi v w):∃ a n c,v=.slice a n c:=by
 obtain ⟨_,ys,h,_⟩:=h
 rcases h.row.2 with ⟨h,_⟩ | ⟨g,cap,cur,h,_⟩
 · exact ⟨_,_,_,h⟩
 · exact ⟨_,_,_,h⟩
theorem FwT.at {β γ:Type} {X:EK β} {p:β->γ} {ts:List γ} {base lo hi:Nat} {v:Value} {w:World} (h:∃ w0,Tryst4.Same base lo hi w0 w/\FwT X p ts lo hi v w0):∃ ys,FwO X lo ys v w/\ys.map p=ts/\(∀ A n c,v=.slice (some A) n c->A.block < hi)/\∀ y∈ys,X.E (fun g=>(lo<=g/\g < hi)/\Away v g) w y:=by
 obtain ⟨w0,hs,hz,ys,h,e⟩:=h;have hlt:∀ A n c,v=.slice (some A) n c->A.block < hi:=fun A n c hv=>by rw [<- hz];exact (h.row.lt _ (by rw [hv];rfl)).2
 have hk:∀ g,lo<=g->g < w0.heap.size->w.heap[g]?=w0.heap[g]?:=fun g h1 h2=>hs.block g (.inr ⟨h1,by omega⟩) h2
 exact ⟨ys,h.keep hk hs.size,e,hlt,fun y hy=>X.keep (h.mem y hy) (fun g hg hl=>⟨hk g hg.1 hl,⟨hg.1,by omega⟩,hg.2⟩) hs.size⟩
