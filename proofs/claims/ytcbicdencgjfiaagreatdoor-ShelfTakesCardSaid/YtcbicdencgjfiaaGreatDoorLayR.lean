import Derived.RegionTactic
import Derived.ChangeAlike
import Derived.Lib.UnsafeStr
import Derived.Test.YtcbicdencgjfiaaGreatDoorOffU
import Derived.Test.YtcbicdencgjfiaaGreatDoorRAll10
import Derived.Test.YtcbicdencgjfiaaGreatDoorShM
set_option linter.all false
set_option maxHeartbeats 4000000
set_option maxRecDepth 100000
namespace Go.Proofs.YtcbicdencgjfiaaGreatDoor
open Go.RowKit Tryst
theorem vQl {T:TypeId} (B b:Nat) (l:List UInt8) (w:World) (h:BldT T w B b l) (h0:l≠[]) :
  Calls Tryz.prog 33 #[.pointer (some ⟨b,0,none⟩)] w fun e w'=>e=.returned (.string ⟨l.toArray⟩)/\Below B w w':=by
 have hp:∃ p,Lib.BuilderAt T 5 B b p (Lib.byteCells l) w:=by
  unfold BldT Lib.IsBuilder at h
  rcases h with h | h<;>exact ⟨_,h⟩
 obtain ⟨p,-,v,hv,ho,-⟩:=hp;have hl0:0 < l.length:=List.length_pos_iff.2 h0;have hbl:(Lib.byteCells l).length=l.length:=Lib.byteCells_length l
 rcases ho.2 with ⟨_,hz⟩ | ⟨g,cap,cur,rfl,hg,hgh,hnc,hcm,hcs,_⟩
 · omega
 ·
  rw [hbl] at hv hnc ho
  have x1:w.drew.cell? ⟨b,1,none⟩=some (.slice (some ⟨g,0,none⟩) l.length cap):=by
   have e:w.drew.heap[b]?=w.heap[b]?:=rfl;rw [Lib.cell_of_heap (e.trans hv)];rfl
  have q1:(Builtin.unsafeSliceData_ #[77] 146 #[.slice (some ⟨g,0,none⟩) l.length cap]).run Tryz.prog w.drew=.ok (.pointer (some ⟨g,0,none⟩)) w.drew:=Lib.run_unsafeSliceData_row _ _ _ _ _ _ (by omega)
  have hsh:w.drew.shape? g=some (5,cur.size):=by
   have e:w.drew.heap[g]?=some (.cells cur 5 (0,0)):=hgh;simp [World.shape?,e]
  have q2:=Lib.run_unsafeString_row (P:=Tryz.prog) (w:=w.drew) 146 3 9 5 Tryz.underlying146 (by kernel_rfl) g cur.size hsh l h0 (by omega) (by unfold maxLen at hcm;omega) (fun j x hx=>ho.cells (g:=g) rfl j (.int .u8 x.toNat) (by simp [Lib.byteCells,hx]));clear hnc hcm hcs hbl;go_enter Tryz.func33,Tryz.ntmps33;go_wp2
  go_region
  all_goals
   go_wp2;go_ret;exact ⟨rfl,Lib.below_freeze (Below.drew (Below.refl B w)) (p:=⟨g,0,none⟩) hg _⟩
theorem jJT:∀ (d:Nat) (p:Pr),Kg p d=true->Zb p->(Yk p).length<=300*Q9 p:=by
 intro d
 induction d with
 | zero=>
  intro p h;obtain ⟨op,s,num,n,vs,l⟩:=p;rw [Kg] at h;simp at h
 | succ d ih=>
  intro p h hft;obtain ⟨op,s,num,n,vs,l⟩:=p;obtain ⟨k,rfl,h1,h2⟩:=zQ2 h;rw [Zb] at hft;rw [jQ3,Q9];cases k with
  | all=>simp;omega
  | topic=>
   simp only [Jj,Bool.and_eq_true,decide_eq_true_eq] at h1;have:=zQr h1.1;simp at this ⊢;omega
  | has=>
   simp only [Jj,Bool.and_eq_true,decide_eq_true_eq] at h1;have:=Zz h1.1;simp at this ⊢;omega
  | eq=>
   simp only [Jj,Bool.and_eq_true,decide_eq_true_eq,Go.Proofs.YtcbicdencgjfiaaGreatDoor.V.mayB] at h1;have:=Zz h1.1;have:=qQb _ h1.2.1 hft.1;simp at *;omega
  | lt=>
   simp only [Jj,Bool.and_eq_true,decide_eq_true_eq,Go.Proofs.YtcbicdencgjfiaaGreatDoor.V.mayB] at h1;have:=Zz h1.1;have:=qQb _ h1.2.1 hft.1;simp at *;omega
  | not=>
   simp only [Jj,Bool.and_eq_true,decide_eq_true_eq] at h1;obtain ⟨y,rfl⟩:=List.length_eq_one_iff.1 h1.2.2;have hy:Kg y d=true:=by simpa [jQL] using h2
   have fy:Zb y:=by
    have:=hft.2;rw [jQc] at this;exact this.1
   have:=ih y hy fy;simp [Jz,J3];omega
  | and=>
   simp only [Jj,Bool.and_eq_true,decide_eq_true_eq] at h1
   obtain ⟨y,z,rfl⟩:∃ y z,l=[y,z]:=by
    match l,h1.2.2 with
    | [y,z],_=>exact ⟨y,z,rfl⟩
   simp only [jQL,Bool.and_eq_true,and_true] at h2;have hft:=hft.2;simp only [jQc,and_true] at hft;have:=ih y h2.1 hft.1;have:=ih z h2.2 hft.2;simp [Jz,J3];omega
  | or=>
   simp only [Jj,Bool.and_eq_true,decide_eq_true_eq] at h1
   obtain ⟨y,z,rfl⟩:∃ y z,l=[y,z]:=by
    match l,h1.2.2 with
    | [y,z],_=>exact ⟨y,z,rfl⟩
   simp only [jQL,Bool.and_eq_true,and_true] at h2;have hft:=hft.2;simp only [jQc,and_true] at hft;have:=ih y h2.1 hft.1;have:=ih z h2.2 hft.2;simp [Jz,J3];omega
theorem kJe {p:Pr} (h:mayP p=true) (hf:Zb p):(Yk p).length<=12000:=by
 rw [qQi,Bool.and_eq_true,decide_eq_true_eq] at h;have:=jJT 8 p h.1 hf;omega
theorem qJU {d:DB} (h:mayD d=true):∀ p∈d.wl,mayP p.pr=true:=by
 unfold mayD at h;simp only [Bool.and_eq_true,List.all_eq_true] at h;exact h.2.2.2.2.2.2.2
structure DSm (d:DB):Prop where
 name:d.name.size<=16
 key:d.key.size<=16
 kind:d.j.kind.size<=5
 g:d.gl.length<=5
 gs:∀ g∈d.gl,g.size<=40
 w:d.wl.length<=6
theorem qJT {d:DB} (h:mayD d=true):DSm d:=by
 unfold mayD mayJ at h;simp only [Bool.and_eq_true,List.all_eq_true,decide_eq_true_eq,Bool.or_eq_true] at h;obtain ⟨h1,_,h2,⟨_,h3,_,_,h4⟩,h5,h6,h7,_⟩:=h;refine ⟨by have:=Zz h1;rwa [Qx] at this,?_,?_,h2,fun g hg=>by have:=zQr (h7 g hg);rwa [Qx] at this,by omega⟩
 ·
  rcases h6 with h6 | h6
  · rw [h6];decide
  · have:=Zz h6;rwa [Qx] at this
 ·
  split at h4
  ·
   rename_i hk
   rcases hk with hk | hk<;>rw [hk]<;>decide
  ·
   split at h4
   · rename_i hk;rw [hk];decide
   · cases h4
theorem xQE {d:DB} (hf:∀ p∈d.wl,Zb p.pr) (hm:mayD d=true):(defL d.dp).length<=80000:=by
 have h:=qJT hm;have h1:=kQb (f:=strL) (l:=d.gl) (m:=50) (fun x hx=>by have:=kQm x;have:=h.gs x hx;omega)
 have h2:=kQb (f:=Kz) (l:=d.wl.map PB.pr) (m:=12010) (fun x hx=>by
  obtain ⟨q,hq,rfl⟩:=List.mem_map.1 hx;have h4:=kJe (qJU hm q hq) (hf q hq);have:=Jf (Yk q.pr).length;unfold Kz jQM;rw [List.length_append];omega)
 have e1:=Jf d.gl.length;have e2:=Jf d.wl.length;have:=kQm d.name;have:=kQm d.key;have:=kQm d.j.kind;have:=kQk d.j.parts;have:=kQk d.j.need;have:=kQk d.j.window;have:=h.g;have:=h.w;have:=h.name;have:=h.key;have:=h.kind;unfold DB.dp defL Qf;simp only [List.length_append,List.length_map] at h2 ⊢;omega
theorem zJn {q:OPB} (hm:mayO q=true):q.s.size<=2000/\(q.kind=2->mayD q.d=true):=by
 unfold mayO at hm;simp only [Bool.and_eq_true,decide_eq_true_eq] at hm;exact ⟨hm.2.2.1,fun hk=>by rw [if_pos hk] at hm;exact hm.2.2.2⟩
theorem vJN {q:OPB} (hf:∀ p∈q.d.wl,Zb p.pr) (hm:mayO q=true):(opL q.p).length<=90000:=by
 obtain ⟨hs,hk⟩:=zJn hm;have:=kQk q.kind;have:=kQm q.s;have:=Jf q.id;have:=kQk q.n;have e:(zQG q.ok).length=1:=rfl;unfold OPB.p opL OpP.head Tryst.headL;simp only [List.length_append]
 split
 · rename_i h2;have:=xQE hf (hk h2);omega
 · simp only [List.length_nil];omega
theorem vJs (q:OPB):opL q.p≠[]:=by
 intro h;have h2:=congrArg List.length h;unfold OPB.p opL OpP.head Tryst.headL at h2;simp only [List.length_append,List.length_nil] at h2;have e:(zQG q.ok).length=1:=rfl;omega
theorem qJw (q:OPB) (w:World) (hM:MaxW w) (hT:Tab w) (hD:DO w q.d) (hj:JIn q.d.j) (hq:OPIn q) (hs:q.s.size<=1500000) :
  Calls Tryz.prog 17 #[q.agg] w fun e w'=>e=.returned (.tuple #[.string (if mayO q=true then ⟨(opL q.p).toArray⟩ else ⟨#[]⟩),.int .i64 (if mayO q=true then 0 else 1)])/\Below w.heap.size w w':=by
 have CM:=Zh (fun W (hb:Below w.heap.size w W)=>jJ5 q W (hM.grow hb) (hD.grow hb) hs);have CP:=Zh (fun (hm:mayO q=true) W0 (hb:Below w.heap.size w W0) Y X b hX=>pop_c q (W0:=W0) (Y:=Y) (w:=X) (b:=b) (o:=[]) hX (hM.grow hb) (hT.grow hb) (hD.grow hb) hj hq (fun hk=>qJU ((zJn hm).2 hk)) (by have:=vJN (fun p hp=>qQd p (hD.wR.po p hp).1) hm;simp;omega));have hne:=vJs q;obtain ⟨m,hm⟩:∃ m,mayO q=m:=⟨_,rfl⟩;rw [hm] at CM CP;rw [hm];generalize opL q.p=L at CP hne ⊢;clear hM hT hD hj hq hs hm;have HNE:=Zh hne;clear hne;obtain ⟨k,s,d,ok,id,n⟩:=q;have HX:=Zh (Var.new w 48 (OPB.mk k s d ok id n).cells);have HB0:=Zh (Qj (.cells (OPB.mk k s d ok id n).cells.toArray 48) (.refl w.heap.size w));unfold OPB.cells at HX HB0;unfold OPB.agg at CM CP ⊢;simp only at CM CP HX HB0 ⊢;go_enter Tryz.func17,Tryz.ntmps17;go_upto_region 1 with fail
 revert HX HB0;generalize w.alloc (.cells _ 48)=Z;intro HX HB0;obtain ⟨x0,x1,x2,x3,x4,x5,x6,x7,x8,x9,x10,x11,x12⟩:=v13 (HX.out);cases m with
 | false=>
  go_wp2_with fail;refine (CM.out _ HB0.out).mono ?_;rintro e w2 ⟨rfl,hb2⟩;have HB2:=Zh (Qk hb2 HB0.out);clear hb2;go_wp2_with fail;go_ret2;exact ⟨by simp,HB2.out⟩
 | true=>
  have HX0:=HX;go_wp2_with fail;refine (CM.out _ HB0.out).mono ?_;rintro e w2 ⟨rfl,hb2⟩;have HB2:=Zh (Qk hb2 HB0.out);have HX2:=Zh (HX.out.grow hb2);clear hb2 HX HB0 x0 x1 x2 x3 x4 x5 x6 x7 x8 x9 x10 x11 x12 HX0;have HP:=Zh (show PenS w2 (w2.alloc (.cells #[.pointer none,.slice none 0 0] 81)) w2.heap.size [] (w2.alloc (.cells #[.pointer none,.slice none 0 0] 81)) from ⟨Lib.fresh_isBuilder 81 5 w2,Qj _ (.refl _ _),Kept.refl _ _⟩);have HX3:=Zh (HX2.out.grow (Qj (.cells #[.pointer none,.slice none 0 0] 81) (.refl _ w2)));go_upto_region 4 with fail
  revert HP HX3;generalize w2.alloc (.cells #[.pointer none,.slice none 0 0] 81)=Y;intro HP HX3;obtain ⟨x0,x1,x2,x3,x4,x5,x6,x7,x8,x9,x10,x11,x12⟩:=v13 (HX3.out);go_wp2_with fail;refine (CP.out (by trivial) w2 HB2.out _ _ _ HP.out).mono ?_;rintro e w3 ⟨rfl,h3⟩;have H3:=Zh h3;clear h3 HP HX3 x0 x1 x2 x3 x4 x5 x6 x7 x8 x9 x10 x11 x12;go_wp2_with fail;refine (vQl w2.heap.size _ _ _ H3.out.bld HNE.out).mono ?_;rintro e w4 ⟨rfl,hb4⟩;have HB4:=Zh (Qk (H3.out.low.trans hb4) HB2.out);clear hb4 H3;go_wp2_with fail;go_ret2;exact ⟨by simp,HB4.out⟩
end Go.Proofs.YtcbicdencgjfiaaGreatDoor
namespace Go.Proofs.YtcbicdencgjfiaaGreatDoor
open Go Go.RowKit Tryst
def topK:EK TB where
 T:=64
 k:=3
 cells:=TB.cells
 val:=tV
 E:=fun S w y=>LM strK S w y.la y.lc y.log
 len:=fun y=>rfl
 one:=fun y u hu=>by
  simp [TB.cells] at hu
  rcases hu with rfl | rfl | rfl<;>rfl
 keep:=fun h hk hz=>h.keep hk hz
def LB.val (x:LB):Value:=.agg #[.string x.producer,.int .u64 x.seq,.int .i64 x.off]
def Z9:EK LB where
 T:=104
 k:=3
 cells:=LB.cells
 val:=LB.val
 E:=fun _ _ _=>True
 len:=fun y=>rfl
 one:=fun y u hu=>by
  simp [LB.cells] at hu
  rcases hu with rfl | rfl | rfl<;>rfl
 keep:=fun _ _ _=>trivial
def OB.val (x:OB):Value:=.agg #[.string x.topic,.int .i64 x.next]
def offK:EK OB where
 T:=126
 k:=2
 cells:=OB.cells
 val:=OB.val
 E:=fun _ _ _=>True
 len:=fun y=>rfl
 one:=fun y u hu=>by
  simp [OB.cells] at hu
  rcases hu with rfl | rfl<;>rfl
 keep:=fun _ _ _=>trivial
def DeadB.val (x:DeadB):Value:=.agg #[.string x.sub,.string x.e]
def Kk:EK DeadB where
 T:=74
 k:=2
 cells:=DeadB.cells
 val:=DeadB.val
 E:=fun _ _ _=>True
 len:=fun y=>rfl
 one:=fun y u hu=>by
  simp [DeadB.cells] at hu
  rcases hu with rfl | rfl<;>rfl
 keep:=fun _ _ _=>trivial
structure DOS (S:Nat->Prop) (w:World) (d:DB):Prop where
 o:DO w d
 ga:∀ b o,d.ga=some ⟨b,o,none⟩->0 < d.gl.length->S b
 wa:∀ b o,d.wa=some ⟨b,o,none⟩->0 < d.wl.length->S b
 ps:∀ p∈d.wl,POwn w S p/\J9 p<=50
 g6:d.gl.length<=6
 w7:d.wl.length<=7
theorem DOS.keep {S S':Nat->Prop} {w w':World} {d:DB} (h:DOS S w d) (hk:∀ g,S g->g < w.heap.size->w'.heap[g]?=w.heap[g]?/\S' g) (hz:w.heap.size<=w'.heap.size):DOS S' w' d:=by
 have hp:∀ p∈d.wl,POwn w' S' p/\J9 p<=50:=fun p hp=>⟨(h.ps p hp).1.keep hk hz,(h.ps p hp).2⟩
 have hg:Strs w' d.ga d.gl:=by
  intro i hi;obtain ⟨b,o,h1,h2,h3⟩:=h.o.gS i hi;exact ⟨b,o,h1,Nat.lt_of_lt_of_le h2 hz,(World.cell?_of_block (w:=w) (a:=⟨b,o+i,none⟩) (hk b (h.ga b o h1 (by omega)) h2).1).trans h3⟩
 have hr:Row w' d.wa 6 (d.wl.map PB.cells):=by
  intro i hi;obtain ⟨b,o,h1,h2,h3⟩:=h.o.wR.row i hi;have hi2:0 < d.wl.length:=by rw [List.length_map] at hi;omega
  exact ⟨b,o,h1,Nat.lt_of_lt_of_le h2 hz,fun j hj=>(World.cell?_of_block (w:=w) (a:=⟨b,o+i*6+j,none⟩) (hk b (h.wa b o h1 hi2) h2).1).trans (h3 j hj)⟩
 refine ⟨⟨h.o.hn,h.o.hg,h.o.hgs,hg,h.o.gL,h.o.hw,⟨hr,h.o.wR.sl,fun p hp'=>⟨(hp p hp').1.grow (.refl _ _) (fun _ _=>trivial),(hp p hp').2⟩⟩,h.o.hk⟩,fun b o e h0=>?_,fun b o e h0=>?_,hp,h.g6,h.w7⟩
 · obtain ⟨b',o',h1,h2,_⟩:=h.o.gS 0 h0;rw [e] at h1;cases h1;exact (hk b (h.ga b o e h0) h2).2
 · obtain ⟨b',o',h1,h2,_⟩:=h.o.wR.row 0 (by rw [List.length_map];exact h0);rw [e] at h1;cases h1;exact (hk b (h.wa b o e h0) h2).2
theorem DOS.of {base:Nat} {w:World} {d:DB} (h:DOB base w d) {S:Nat->Prop} (hS:∀ g,base<=g->S g):DOS S w d:=
 ⟨h.o,fun b o e _=>hS b (h.ga b o e),fun b o e _=>hS b (h.wa b o e),fun p hp=>⟨(h.ps p hp).1.grow (.refl _ _) hS,(h.ps p hp).2⟩,h.g6,h.w7⟩
structure SubE (S:Nat->Prop) (w:World) (x:SubB):Prop where
 d:DOS S w x.d
 o:LM offK S w x.oa x.oc x.ol
 i:LM Kb S w x.ia x.ic x.il
def subF:EK SubB where
 T:=68
 k:=15
 cells:=SubB.cells
 val:=SubB.agg
 E:=SubE
 len:=fun y=>rfl
 one:=fun y u hu=>by
  simp [SubB.cells] at hu
  rcases hu with rfl | rfl | rfl | rfl | rfl | rfl | rfl | rfl | rfl | rfl | rfl | rfl | rfl | rfl | rfl<;>rfl
 keep:=fun h hk hz=>⟨h.d.keep hk hz,h.o.keep hk hz,h.i.keep hk hz⟩
end Go.Proofs.YtcbicdencgjfiaaGreatDoor
namespace Go.Proofs.YtcbicdencgjfiaaGreatDoor
open Go Go.RowKit Tryst
theorem subT:SliceOf Tryz.prog 24 68 15 208:=.mk' Tryz.underlying24 (z:=.agg #[.string ⟨#[]⟩,.slice none 0 0,.slice none 0 0,.string ⟨#[]⟩,.string ⟨#[]⟩,.int .i64 0,.int .i64 0,.int .i64 0,.slice none 0 0,.slice none 0 0,.int .i64 0,.int .i64 0,.int .i64 0,.int .i64 0,.int .i64 0]) (by kernel_rfl) rfl (by decide) (by decide)
theorem deadT:SliceOf Tryz.prog 26 74 2 32:=.mk' Tryz.underlying26 (z:=.agg #[.string ⟨#[]⟩,.string ⟨#[]⟩]) (by kernel_rfl) rfl (by decide) (by decide)
abbrev I64 (n:Int):Prop:=-9223372036854775808<=n/\n<=9223372036854775807
def _root_.Tryst.TB.p (x:TB):TopT:=(x.name,x.first,x.log)
def _root_.Tryst.LB.p (x:LB):xQh:=(x.producer,x.seq,x.off)
def _root_.Tryst.OB.p (x:OB):OffT:=(x.topic,x.next)
def DeadB.p (x:DeadB):kJE:=(x.sub,x.e)
def SubB.p (x:SubB):SubT:=(x.d.dp,x.ol.map OB.p,x.il.map InB.p,x.fails,x.taken,x.passes,x.fires,x.over)
def RtB.p (x:RtB):RtT:=(x.now,x.tl.map TB.p,x.ll.map LB.p,x.sl.map SubB.p,x.total,x.ul.map UB.p,x.gl.map UB.p,x.dl.map DeadB.p)
def SubB.q (x:SubB):JB × List OB × List qQp × Int × Int × Int × Int × Int:=(x.d.j,x.ol,x.il.map InB.p,x.fails,x.taken,x.passes,x.fires,x.over)
structure SubW (w:World) (x:SubB):Prop where
 d:DO w x.d
 o:Row w x.oa 2 (x.ol.map OB.cells)
 i:Row w x.ia 4 (x.il.map InB.cells)
 k:∀ y∈x.il,Row w y.la 3 (y.l.map KpB.cells)/\y.l.length<=y.lc
theorem SubW.grow {w W:World} {x:SubB} (h:SubW w x) (hb:Below w.heap.size w W):SubW W x:=⟨h.d.grow hb,Row.grow h.o hb,Row.grow h.i hb,fun y hy=>⟨Row.grow (h.k y hy).1 hb,(h.k y hy).2⟩⟩
structure RtW (w:World) (x:RtB):Prop where
 t:Row w x.ta 3 (x.tl.map TB.cells)
 tm:∀ t∈x.tl,Row w t.la 1 (t.log.map strK.cells)/\Sl t.la t.lc t.log.length
 l:Row w x.la 3 (x.ll.map LB.cells)
 s:Row w x.sa 15 (x.sl.map SubB.cells)
 sm:∀ y∈x.sl,SubW w y
 u:Row w x.ua 5 (x.ul.map UB.cells)
 um:∀ y∈x.ul,Row w y.ia 1 (y.ids.map idK.cells)
 g:Row w x.ga 5 (x.gl.map UB.cells)
 gm:∀ y∈x.gl,Row w y.ia 1 (y.ids.map idK.cells)
 d:Row w x.da 2 (x.dl.map DeadB.cells)
theorem RtW.grow {w W:World} {x:RtB} (h:RtW w x) (hb:Below w.heap.size w W):RtW W x:=
 ⟨Row.grow h.t hb,fun t ht=>⟨Row.grow (h.tm t ht).1 hb,(h.tm t ht).2⟩,Row.grow h.l hb,Row.grow h.s hb,fun y hy=>(h.sm y hy).grow hb,Row.grow h.u hb,fun y hy=>Row.grow (h.um y hy) hb,Row.grow h.g hb,fun y hy=>Row.grow (h.gm y hy) hb,Row.grow h.d hb⟩
def TopX (y:TopT):Prop:=y.1.size<=1500000/\I64 y.2.1/\y.2.2.length<=1500000/\∀ s∈y.2.2,s.size<=1500000
def LastX (y:xQh):Prop:=y.1.size<=1500000/\y.2.1 < 2 ^ 64/\I64 y.2.2
def kQq (y:jJU):Prop:=I64 y.1/\y.2.1 < 2 ^ 64/\I64 y.2.2
def jYJ (y:qQp):Prop:=y.1.s.length<=1500000/\I64 y.1.n/\y.2.length<=1500000/\∀ k∈y.2,kQq k
def sumI (l:List qQp):Nat:=(l.map fun y=>y.2.length).sum
def SqX (q:JB × List OB × List qQp × Int × Int × Int × Int × Int):Prop:=JIn q.1/\(q.2.1.length<=1500000/\∀ y∈q.2.1,y.topic.size<=1500000/\I64 y.next)/\(q.2.2.1.length<=1500000/\sumI q.2.2.1<=1000000000/\∀ y∈q.2.2.1,jYJ y)/\I64 q.2.2.2.1/\I64 q.2.2.2.2.1/\I64 q.2.2.2.2.2.1/\I64 q.2.2.2.2.2.2.1/\I64 q.2.2.2.2.2.2.2
def OutX (y:OutT):Prop:=y.1 < 2 ^ 64/\y.2.1.size<=1500000/\(y.2.2.1.length<=1500000/\∀ n∈y.2.2.1,n < 2 ^ 64)/\I64 y.2.2.2.1/\I64 y.2.2.2.2
def DeadX (y:DeadB):Prop:=y.sub.size<=1500000/\y.e.size<=1500000
structure RtX (x:RtB):Prop where
 now:I64 x.now
 total:I64 x.total
 tn:x.tl.length<=1500000
 t:∀ y∈x.tl.map TB.p,TopX y
 ln:x.ll.length<=1500000
 l:∀ y∈x.ll,LastX y.p
 sn:x.sl.length<=1500000
 s:∀ y∈x.sl.map SubB.q,SqX y
 un:x.ul.length<=1500000
 u:∀ y∈x.ul.map UB.p,OutX y
 gn:x.gl.length<=1500000
 g:∀ y∈x.gl.map UB.p,OutX y
 dn:x.dl.length<=1500000
 d:∀ y∈x.dl,DeadX y
theorem vQQ:∀ l:List InB,Xj l=sumI (l.map InB.p)
 | []=>rfl
 | x :: l=>by
  rw [Xj,vQQ l];unfold sumI InB.p;simp
theorem RtW.o {w:World} {x:RtB} (h:RtW w x) (k:RtX x):RtO w x:=by
 have kt:∀ y∈x.tl,TopX y.p:=fun y hy=>k.t _ (List.mem_map.2 ⟨y,hy,rfl⟩)
 have ks:∀ y∈x.sl,SqX y.q:=fun y hy=>k.s _ (List.mem_map.2 ⟨y,hy,rfl⟩)
 have ku:∀ y∈x.ul,OutX (UB.p y):=fun y hy=>k.u _ (List.mem_map.2 ⟨y,hy,rfl⟩)
 have kg:∀ y∈x.gl,OutX (UB.p y):=fun y hy=>k.g _ (List.mem_map.2 ⟨y,hy,rfl⟩)
 refine ⟨⟨h.t,fun t ht=>⟨zQ9.2 (h.tm t ht).1,(h.tm t ht).2⟩⟩,fun t ht=>?_,k.tn,h.l,k.ln,fun y hy=>(k.l y hy).1,⟨h.s,fun y hy=>?_⟩,k.sn,k.total,h.u,k.un,fun y hy=>(ku y hy).2.1,h.g,k.gn,fun y hy=>(kg y hy).2.1,⟨h.d,k.d⟩,k.dn⟩
 · obtain ⟨h1,h2,h3,h4⟩:=kt t ht;exact ⟨Nat.le_trans h1 (by decide),fun s hs=>Nat.le_trans (h4 s hs) (by decide),Nat.le_trans h3 (by decide),h2.1,h2.2⟩
 ·
  obtain ⟨h1,⟨h2,h3⟩,⟨h4,h5,h6⟩,r1,r2,r3,r4,r5⟩:=ks y hy;have hm:=h.sm y hy;have hi:∀ z∈y.il,jYJ (InB.p z):=fun z hz=>h6 _ (List.mem_map.2 ⟨z,hz,rfl⟩)
  refine ⟨hm.d,hm.o,fun z hz=>(h3 z hz).1,h2,⟨hm.i,fun z hz=>(hm.k z hz).1,fun z hz=>(hm.k z hz).2,fun z hz c hc=>?_⟩,?_,fun z hz=>?_,fun z hz=>?_,?_,r1,r2,r3,r4,r5⟩
  · obtain ⟨_,_,_,h7⟩:=hi z hz;exact (h7 _ (List.mem_map.2 ⟨c,hc,rfl⟩)).2.1
  · have h4:(y.il.map InB.p).length<=1500000:=h4;rw [List.length_map] at h4;exact h4
  · have h7:(z.l.map KpB.p).length<=1500000:=(hi z hz).2.2.1;rw [List.length_map] at h7;exact h7
  · have h7:z.s.data.toList.length<=1500000:=(hi z hz).1;rw [Qx] at h7;exact h7
  · rw [vQQ];exact h5
end Go.Proofs.YtcbicdencgjfiaaGreatDoor
namespace Go.Proofs.YtcbicdencgjfiaaGreatDoor
open Go Go.RowKit Tryst
end Go.Proofs.YtcbicdencgjfiaaGreatDoor
namespace Go.Proofs.YtcbicdencgjfiaaGreatDoor
open Go Go.RowKit Tryst
end Go.Proofs.YtcbicdencgjfiaaGreatDoor
namespace Go.Proofs.YtcbicdencgjfiaaGreatDoor
open Go Go.RowKit Tryst
@[local go_sem] theorem idx5a (a b c d e:Value) (w:World):(Instr.index 199 (.agg #[a,b,c,d,e]) (.int .i64 0)).run Tryz.prog w=.ok a w:=by kernel_rfl
@[local go_sem] theorem idx5b (a b c d e:Value) (w:World):(Instr.index 199 (.agg #[a,b,c,d,e]) (.int .i64 1)).run Tryz.prog w=.ok b w:=by kernel_rfl
@[local go_sem] theorem idx5c (a b c d e:Value) (w:World):(Instr.index 199 (.agg #[a,b,c,d,e]) (.int .i64 2)).run Tryz.prog w=.ok c w:=by kernel_rfl
@[local go_sem] theorem idx5d (a b c d e:Value) (w:World):(Instr.index 199 (.agg #[a,b,c,d,e]) (.int .i64 3)).run Tryz.prog w=.ok d w:=by kernel_rfl
@[local go_sem] theorem idx5e (a b c d e:Value) (w:World):(Instr.index 199 (.agg #[a,b,c,d,e]) (.int .i64 4)).run Tryz.prog w=.ok e w:=by kernel_rfl
end Go.Proofs.YtcbicdencgjfiaaGreatDoor
namespace Go.Proofs.YtcbicdencgjfiaaGreatDoor
open Go Go.RowKit Tryst
theorem qJZ {α:Type} {f:Option α->α->Bool}:∀ {l:List α} {q:Option α},okK f q l=true->∀ x∈l,∃ p,f p x=true
 | [],_,_,x,hx=>by cases hx
 | y :: l,q,h,x,hx=>by
  rw [okK,Bool.and_eq_true] at h
  rcases List.mem_cons.1 hx with rfl | hx
  · exact ⟨q,h.1⟩
  · exact qJZ h.2 x hx
theorem jQR {r:RtB} (h:Xx r=true):∀ x∈r.sl,mayD x.d=true/\∀ i∈x.il,i.key.May:=by
 unfold Xx at h;simp only [Bool.and_eq_true] at h;obtain ⟨_,_,_,_,h5,_,_⟩:=h;unfold qQP at h5;rw [Bool.and_eq_true] at h5;intro x hx;obtain ⟨p,hp⟩:=qJZ h5.1 x hx;unfold jQr kQJ kQ9 qQM at hp;simp only [Bool.and_eq_true] at hp;obtain ⟨⟨_,_,h6,_,_,h7,_⟩,_⟩:=hp;refine ⟨h6,fun i hi=>?_⟩;obtain ⟨_,_,h8⟩:=h7;refine xQG (P:=fun i:InB=>i.key.May) (fun p x hx=>?_) _ _ h8 i hi;unfold kQ6 at hx;simp only [Bool.and_eq_true] at hx;have h9:=hx.1;unfold V.mayB at h9
 simpa using h9
