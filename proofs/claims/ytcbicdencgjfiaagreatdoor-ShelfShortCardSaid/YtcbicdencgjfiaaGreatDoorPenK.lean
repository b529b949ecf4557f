import Derived.RegionTactic
import Derived.ChangeAlike
import Derived.Lib.UnsafeStr
import Derived.Test.YtcbicdencgjfiaaGreatDoorCut20
import Derived.Test.YtcbicdencgjfiaaGreatDoorRtN
set_option linter.all false
set_option maxHeartbeats 4000000
set_option maxRecDepth 100000
namespace Go.Proofs.YtcbicdencgjfiaaGreatDoor
open Go.RowKit Tryst
theorem vQl {T:TypeId} (B b:Nat) (l:List UInt8) (w:World) (h:BldT T w B b l) (h0:l≠[]) :
  Calls Tryz.prog 33 #[.pointer (some ⟨b,0,none⟩)] w fun e w'=>e=.returned (.string ⟨l.toArray⟩)/\Below B w w':=by
 have hp:∃ p,Lib.BuilderAt T 5 B b p (Lib.byteCells l) w:=by
  unfold BldT Lib.IsBuilder at h
  rcases h with h | h<;>exact ⟨_,h⟩
 obtain ⟨p,-,v,hv,ho,-⟩:=hp;have hl0:0 < l.length:=List.length_pos_iff.2 h0;have hbl:(Lib.byteCells l).length=l.length:=Lib.byteCells_length l
 rcases ho.2 with ⟨_,hz⟩ | ⟨g,cap,cur,rfl,hg,hgh,hnc,hcm,hcs,_⟩
 · omega
 ·
  rw [hbl] at hv hnc ho
  have x1:w.drew.cell? ⟨b,1,none⟩=some (.slice (some ⟨g,0,none⟩) l.length cap):=by
   have e:w.drew.heap[b]?=w.heap[b]?:=rfl;rw [Lib.cell_of_heap (e.trans hv)];rfl
  have q1:(Builtin.unsafeSliceData_ #[77] 146 #[.slice (some ⟨g,0,none⟩) l.length cap]).run Tryz.prog w.drew=.ok (.pointer (some ⟨g,0,none⟩)) w.drew:=Lib.run_unsafeSliceData_row _ _ _ _ _ _ (by omega)
  have hsh:w.drew.shape? g=some (5,cur.size):=by
   have e:w.drew.heap[g]?=some (.cells cur 5 (0,0)):=hgh;simp [World.shape?,e]
  have q2:=Lib.run_unsafeString_row (P:=Tryz.prog) (w:=w.drew) 146 3 9 5 Tryz.underlying146 (by kernel_rfl) g cur.size hsh l h0 (by omega) (by unfold maxLen at hcm;omega) (fun j x hx=>ho.cells (g:=g) rfl j (.int .u8 x.toNat) (by simp [Lib.byteCells,hx]));clear hnc hcm hcs hbl;go_enter Tryz.func33,Tryz.ntmps33;go_wp2
  go_region
  all_goals
   go_wp2;go_ret;exact ⟨rfl,Lib.below_freeze (Below.drew (Below.refl B w)) (p:=⟨g,0,none⟩) hg _⟩
theorem jJT:∀ (d:Nat) (p:Pr),Kg p d=true->Zb p->(Yk p).length<=300*Q9 p:=by
 intro d
 induction d with
 | zero=>
  intro p h;obtain ⟨op,s,num,n,vs,l⟩:=p;rw [Kg] at h;simp at h
 | succ d ih=>
  intro p h hft;obtain ⟨op,s,num,n,vs,l⟩:=p;obtain ⟨k,rfl,h1,h2⟩:=zQ2 h;rw [Zb] at hft;rw [jQ3,Q9];cases k with
  | all=>simp;omega
  | topic=>
   simp only [Jj,Bool.and_eq_true,decide_eq_true_eq] at h1;have:=zQr h1.1;simp at this ⊢;omega
  | has=>
   simp only [Jj,Bool.and_eq_true,decide_eq_true_eq] at h1;have:=Zz h1.1;simp at this ⊢;omega
  | eq=>
   simp only [Jj,Bool.and_eq_true,decide_eq_true_eq,Go.Proofs.YtcbicdencgjfiaaGreatDoor.V.mayB] at h1;have:=Zz h1.1;have:=qQb _ h1.2.1 hft.1;simp at *;omega
  | lt=>
   simp only [Jj,Bool.and_eq_true,decide_eq_true_eq,Go.Proofs.YtcbicdencgjfiaaGreatDoor.V.mayB] at h1;have:=Zz h1.1;have:=qQb _ h1.2.1 hft.1;simp at *;omega
  | not=>
   simp only [Jj,Bool.and_eq_true,decide_eq_true_eq] at h1;obtain ⟨y,rfl⟩:=List.length_eq_one_iff.1 h1.2.2;have hy:Kg y d=true:=by simpa [jQL] using h2
   have fy:Zb y:=by
    have:=hft.2;rw [jQc] at this;exact this.1
   have:=ih y hy fy;simp [Jz,J3];omega
  | and=>
   simp only [Jj,Bool.and_eq_true,decide_eq_true_eq] at h1
   obtain ⟨y,z,rfl⟩:∃ y z,l=[y,z]:=by
    match l,h1.2.2 with
    | [y,z],_=>exact ⟨y,z,rfl⟩
   simp only [jQL,Bool.and_eq_true,and_true] at h2;have hft:=hft.2;simp only [jQc,and_true] at hft;have:=ih y h2.1 hft.1;have:=ih z h2.2 hft.2;simp [Jz,J3];omega
  | or=>
   simp only [Jj,Bool.and_eq_true,decide_eq_true_eq] at h1
   obtain ⟨y,z,rfl⟩:∃ y z,l=[y,z]:=by
    match l,h1.2.2 with
    | [y,z],_=>exact ⟨y,z,rfl⟩
   simp only [jQL,Bool.and_eq_true,and_true] at h2;have hft:=hft.2;simp only [jQc,and_true] at hft;have:=ih y h2.1 hft.1;have:=ih z h2.2 hft.2;simp [Jz,J3];omega
theorem kJe {p:Pr} (h:mayP p=true) (hf:Zb p):(Yk p).length<=12000:=by
 rw [qQi,Bool.and_eq_true,decide_eq_true_eq] at h;have:=jJT 8 p h.1 hf;omega
theorem qJU {d:DB} (h:mayD d=true):∀ p∈d.wl,mayP p.pr=true:=by
 unfold mayD at h;simp only [Bool.and_eq_true,List.all_eq_true] at h;exact h.2.2.2.2.2.2.2
structure DSm (d:DB):Prop where
 name:d.name.size<=16
 key:d.key.size<=16
 kind:d.j.kind.size<=5
 g:d.gl.length<=5
 gs:∀ g∈d.gl,g.size<=40
 w:d.wl.length<=6
theorem qJT {d:DB} (h:mayD d=true):DSm d:=by
 unfold mayD mayJ at h;simp only [Bool.and_eq_true,List.all_eq_true,decide_eq_true_eq,Bool.or_eq_true] at h;obtain ⟨h1,_,h2,⟨_,h3,_,_,h4⟩,h5,h6,h7,_⟩:=h;refine ⟨by have:=Zz h1;rwa [Qx] at this,?_,?_,h2,fun g hg=>by have:=zQr (h7 g hg);rwa [Qx] at this,by omega⟩
 ·
  rcases h6 with h6 | h6
  · rw [h6];decide
  · have:=Zz h6;rwa [Qx] at this
 ·
  split at h4
  ·
   rename_i hk
   rcases hk with hk | hk<;>rw [hk]<;>decide
  ·
   split at h4
   · rename_i hk;rw [hk];decide
   · cases h4
theorem xQE {d:DB} (hf:∀ p∈d.wl,Zb p.pr) (hm:mayD d=true):(defL d.dp).length<=80000:=by
 have h:=qJT hm;have h1:=kQb (f:=strL) (l:=d.gl) (m:=50) (fun x hx=>by have:=kQm x;have:=h.gs x hx;omega)
 have h2:=kQb (f:=Kz) (l:=d.wl.map PB.pr) (m:=12010) (fun x hx=>by
  obtain ⟨q,hq,rfl⟩:=List.mem_map.1 hx;have h4:=kJe (qJU hm q hq) (hf q hq);have:=Jf (Yk q.pr).length;unfold Kz jQM;rw [List.length_append];omega)
 have e1:=Jf d.gl.length;have e2:=Jf d.wl.length;have:=kQm d.name;have:=kQm d.key;have:=kQm d.j.kind;have:=kQk d.j.parts;have:=kQk d.j.need;have:=kQk d.j.window;have:=h.g;have:=h.w;have:=h.name;have:=h.key;have:=h.kind;unfold DB.dp defL Qf;simp only [List.length_append,List.length_map] at h2 ⊢;omega
theorem zJn {q:OPB} (hm:mayO q=true):q.s.size<=2000/\(q.kind=2->mayD q.d=true):=by
 unfold mayO at hm;simp only [Bool.and_eq_true,decide_eq_true_eq] at hm;exact ⟨hm.2.2.1,fun hk=>by rw [if_pos hk] at hm;exact hm.2.2.2⟩
theorem vJN {q:OPB} (hf:∀ p∈q.d.wl,Zb p.pr) (hm:mayO q=true):(opL q.p).length<=90000:=by
 obtain ⟨hs,hk⟩:=zJn hm;have:=kQk q.kind;have:=kQm q.s;have:=Jf q.id;have:=kQk q.n;have e:(zQG q.ok).length=1:=rfl;unfold OPB.p opL OpP.head Tryst.headL;simp only [List.length_append]
 split
 · rename_i h2;have:=xQE hf (hk h2);omega
 · simp only [List.length_nil];omega
theorem vJs (q:OPB):opL q.p≠[]:=by
 intro h;have h2:=congrArg List.length h;unfold OPB.p opL OpP.head Tryst.headL at h2;simp only [List.length_append,List.length_nil] at h2;have e:(zQG q.ok).length=1:=rfl;omega
theorem qJw (q:OPB) (w:World) (hM:MaxW w) (hT:Tab w) (hD:DO w q.d) (hj:JIn q.d.j) (hq:OPIn q) (hs:q.s.size<=1500000) :
  Calls Tryz.prog 17 #[q.agg] w fun e w'=>e=.returned (.tuple #[.string (if mayO q=true then ⟨(opL q.p).toArray⟩ else ⟨#[]⟩),.int .i64 (if mayO q=true then 0 else 1)])/\Below w.heap.size w w':=by
 have CM:=Zh (fun W (hb:Below w.heap.size w W)=>jJ5 q W (hM.grow hb) (hD.grow hb) hs);have CP:=Zh (fun (hm:mayO q=true) W0 (hb:Below w.heap.size w W0) Y X b hX=>pop_c q (W0:=W0) (Y:=Y) (w:=X) (b:=b) (o:=[]) hX (hM.grow hb) (hT.grow hb) (hD.grow hb) hj hq (fun hk=>qJU ((zJn hm).2 hk)) (by have:=vJN (fun p hp=>qQd p (hD.wR.po p hp).1) hm;simp;omega));have hne:=vJs q;obtain ⟨m,hm⟩:∃ m,mayO q=m:=⟨_,rfl⟩;rw [hm] at CM CP;rw [hm];generalize opL q.p=L at CP hne ⊢;clear hM hT hD hj hq hs hm;have HNE:=Zh hne;clear hne;obtain ⟨k,s,d,ok,id,n⟩:=q;have HX:=Zh (Var.new w 48 (OPB.mk k s d ok id n).cells);have HB0:=Zh (Qj (.cells (OPB.mk k s d ok id n).cells.toArray 48) (.refl w.heap.size w));unfold OPB.cells at HX HB0;unfold OPB.agg at CM CP ⊢;simp only at CM CP HX HB0 ⊢;go_enter Tryz.func17,Tryz.ntmps17;go_upto_region 1 with fail
 revert HX HB0;generalize w.alloc (.cells _ 48)=Z;intro HX HB0;obtain ⟨x0,x1,x2,x3,x4,x5,x6,x7,x8,x9,x10,x11,x12⟩:=v13 (HX.out);cases m with
 | false=>
  go_wp2_with fail;refine (CM.out _ HB0.out).mono ?_;rintro e w2 ⟨rfl,hb2⟩;have HB2:=Zh (Qk hb2 HB0.out);clear hb2;go_wp2_with fail;go_ret2;exact ⟨by simp,HB2.out⟩
 | true=>
  have HX0:=HX;go_wp2_with fail;refine (CM.out _ HB0.out).mono ?_;rintro e w2 ⟨rfl,hb2⟩;have HB2:=Zh (Qk hb2 HB0.out);have HX2:=Zh (HX.out.grow hb2);clear hb2 HX HB0 x0 x1 x2 x3 x4 x5 x6 x7 x8 x9 x10 x11 x12 HX0;have HP:=Zh (show PenS w2 (w2.alloc (.cells #[.pointer none,.slice none 0 0] 81)) w2.heap.size [] (w2.alloc (.cells #[.pointer none,.slice none 0 0] 81)) from ⟨Lib.fresh_isBuilder 81 5 w2,Qj _ (.refl _ _),Kept.refl _ _⟩);have HX3:=Zh (HX2.out.grow (Qj (.cells #[.pointer none,.slice none 0 0] 81) (.refl _ w2)));go_upto_region 4 with fail
  revert HP HX3;generalize w2.alloc (.cells #[.pointer none,.slice none 0 0] 81)=Y;intro HP HX3;obtain ⟨x0,x1,x2,x3,x4,x5,x6,x7,x8,x9,x10,x11,x12⟩:=v13 (HX3.out);go_wp2_with fail;refine (CP.out (by trivial) w2 HB2.out _ _ _ HP.out).mono ?_;rintro e w3 ⟨rfl,h3⟩;have H3:=Zh h3;clear h3 HP HX3 x0 x1 x2 x3 x4 x5 x6 x7 x8 x9 x10 x11 x12;go_wp2_with fail;refine (vQl w2.heap.size _ _ _ H3.out.bld HNE.out).mono ?_;rintro e w4 ⟨rfl,hb4⟩;have HB4:=Zh (Qk (H3.out.low.trans hb4) HB2.out);clear hb4 H3;go_wp2_with fail;go_ret2;exact ⟨by simp,HB4.out⟩
end Go.Proofs.YtcbicdencgjfiaaGreatDoor
namespace Go.Proofs.YtcbicdencgjfiaaGreatDoor
open Go Go.RowKit Tryst
def Puts (F:FuncId) (v:Value) (bs:List UInt8) (W0:World) (b:Nat):Prop:=∀ (Y w:World) (o:List UInt8),PenS W0 Y b o w->o.length+bs.length<=800000000->Calls Tryz.prog F #[.pointer (some ⟨b,0,none⟩),v] w (PenR W0 Y b (o++bs))
theorem kQK {α β:Type} (f:α->List UInt8) (p:β->α) (l:List β):Qf f (l.map p)=Qf (fun y=>f (p y)) l:=by
 unfold Qf;rw [List.length_map,List.flatMap_map]
theorem qJN {f:DeadB->List UInt8} (a:Option Addr) (c:Nat) (l:List DeadB) {W0 Y w:World} {b:Nat} {o:List UInt8} (h:PenS W0 Y b o w) (hR:Row W0 a 2 (l.map Kk.cells)) (HC:∀ y∈l,Puts 83 (Kk.val y) (f y) W0 b) (hl:o.length+(Qf f l).length<=800000000) (hn:l.length<=1500000) :
  Calls Tryz.prog 82 #[.pointer (some ⟨b,0,none⟩),.slice a l.length c,.func (.func 83) #[.pointer (some ⟨b,0,none⟩)] #[]] w (PenR W0 Y b (o++Qf f l)):=by
 have H0:=Zh h;have HS:=Zh hR;have HC2:=Zh HC;unfold Qf at hl ⊢;rw [List.length_append] at hl;have hpk:=Jf l.length;clear h hR HC;go_enter Tryz.func82,Tryz.ntmps82;go_wp2_with fail;refine (jQD l.length (by omega) H0.out (by omega)).mono ?_;rintro e w1 ⟨rfl,h1⟩;have H1:=Zh h1;clear h1 H0;go_wp2_with fail;go_loopw [15] (fun i wr=>PLR W0 Y b o f l i wr) (fun i _=>l.length - (intOf i).toNat)
 case atStart=>exact ⟨0,by omega,rfl,Zh (by rw [List.take_zero,List.flatMap_nil,List.append_nil];exact H1.out)⟩
 case round=>
  clear H1;obtain ⟨k,hk,rfl,HP⟩:=hrel;obtain ⟨wo,rfl⟩:∃ wo,wo=wr:=⟨_,rfl⟩
  by_cases hlt:k < l.length
  ·
   have hrow:=Row.grow HS.out HP.out.low;obtain ⟨g,j,ha,hb⟩:=Row.head hrow (i:=k) (by simpa using hlt);subst ha;have hat:=(Row.at hrow (i:=k) (by simpa using hlt)).2;rw [List.getElem_map] at hat;have hHC:=HC2.out l[k] (List.getElem_mem hlt);have hfl:=jQE f hlt;have HFN:=Zh (Xy f hlt);have hlen:(pack l.length++l.flatMap f).length=(pack l.length).length+(l.flatMap f).length:=List.length_append;generalize l[k]=y at hat hHC hfl HFN;clear hrow;obtain ⟨su,ev⟩:=y;have f0:wo.cell? ⟨g,j+k*2,none⟩=some (.string su):=hat 0 (by decide);have f1:wo.cell? ⟨g,j+k*2+1,none⟩=some (.string ev):=hat 1 (by decide);have HK:Hid (Puts 83 (.agg #[.string su,.string ev]) (f (DeadB.mk su ev)) W0 b):=Zh hHC;clear hat hHC;generalize f (DeadB.mk su ev)=bs at HK hfl HFN;have B0:=Zh (Qj (.cells #[.string su,.string ev] 74) (.refl wo.heap.size wo));have H1:=Zh (HP.out.enter B0.out);go_wp2_with fail;refine (HK.out _ _ _ H1.out (by rw [List.length_append,List.length_append];omega)).mono ?_;rintro e w2 ⟨rfl,h2⟩;have H2:=Zh ((HP.out.leave B0.out h2).tto (l':=o++pack l.length++(l.take (k+1)).flatMap f) (by rw [HFN.out,List.append_assoc _ _ bs]));clear h2 HP HFN hfl f0 f1 HK B0 H1;go_wp2_with fail;go_roundw
   case rel=>exact ⟨k+1,by omega,by go_num,H2⟩
   case measure=>simp [intOf]<;>omega
  · have H3:=Zh (HP.out.tto (l':=o++(pack l.length++l.flatMap f)) (by rw [List.take_of_length_le (by omega),List.append_assoc]));go_wp2_with fail;go_end0;exact ⟨rfl,H3.out⟩
theorem xJV (y:DeadB) {W0:World} {b:Nat} :Puts 83 (Kk.val y) (qQy (DeadB.p y)) W0 b:=by
 intro Y w o h hl;have H0:=Zh h;have hbw:=h.lt;clear h;obtain ⟨su,ev⟩:=y;show Calls Tryz.prog 83 #[.pointer (some ⟨b,0,none⟩),.agg #[.string su,.string ev]] w _;unfold DeadB.p qQy at hl ⊢;simp only [List.length_append] at hl ⊢;have HX:=Zh (Var.new w 74 [.string su,.string ev]);have B0:=Zh (Qj (.cells #[.string su,.string ev] 74) (.refl w.heap.size w));have H1:=Zh (H0.out.enter B0.out);go_enter Tryz.func83,Tryz.ntmps83;go_upto_region 1 with fail
 revert HX B0 H1;simp only [List.toArray];generalize w.alloc (.cells _ 74)=Z;intro HX B0 H1;have hgb:w.heap.size≠b:=by omega
 generalize w.heap.size=g at HX hgb ⊢;obtain ⟨x0,x1⟩:=v2 (HX.out);go_wp2_with fail;refine (Zg su H1.out (by omega)).mono ?_;rintro e w2 ⟨rfl,h2⟩;have H2:=Zh h2;clear h2 H1 x0 x1;obtain ⟨x0,x1⟩:=v2 ((Var.kept H2.out HX.out hgb (by decide)));go_wp2_with fail;refine (Zg ev H2.out (by simp only [List.length_append];omega)).mono ?_;rintro e w3 ⟨rfl,h3⟩;have H3:=Zh h3;clear h3 H2 x0 x1;obtain ⟨x0,x1⟩:=v2 ((Var.kept H3.out HX.out hgb (by decide)));go_wp2_with fail;go_end0;exact ⟨rfl,(H0.out.leave B0.out H3.out).tto (by simp only [List.append_assoc])⟩
theorem xJh (y:LB) {W0:World} {b:Nat} (h0:y.seq < 2 ^ 64) (h1:I64 y.off):Puts 77 (Z9.val y) (kQ5 (LB.p y)) W0 b:=by
 intro Y w o h hl;have H0:=Zh h;have hbw:=h.lt;clear h;obtain ⟨pr,sq,of⟩:=y;show Calls Tryz.prog 77 #[.pointer (some ⟨b,0,none⟩),.agg #[.string pr,.int .u64 sq,.int .i64 of]] w _;unfold LB.p kQ5 at hl ⊢;simp only [List.length_append] at hl ⊢;simp only at h0 h1;have HX:=Zh (Var.new w 104 [.string pr,.int .u64 sq,.int .i64 of]);have B0:=Zh (Qj (.cells #[.string pr,.int .u64 sq,.int .i64 of] 104) (.refl w.heap.size w));have H1:=Zh (H0.out.enter B0.out);go_enter Tryz.func77,Tryz.ntmps77;go_upto_region 1 with fail
 revert HX B0 H1;simp only [List.toArray];generalize w.alloc (.cells _ 104)=Z;intro HX B0 H1;have hgb:w.heap.size≠b:=by omega
 generalize w.heap.size=g at HX hgb ⊢;obtain ⟨x0,x1,x2⟩:=v3 (HX.out);go_wp2_with fail;refine (Zg pr H1.out (by omega)).mono ?_;rintro e w2 ⟨rfl,h2⟩;have H2:=Zh h2;clear h2 H1 x0 x1 x2;obtain ⟨x0,x1,x2⟩:=v3 ((Var.kept H2.out HX.out hgb (by decide)));go_wp2_with fail;refine (jQD sq h0 H2.out (by simp only [List.length_append];omega)).mono ?_;rintro e w3 ⟨rfl,h3⟩;have H3:=Zh h3;clear h3 H2 x0 x1 x2;obtain ⟨x0,x1,x2⟩:=v3 ((Var.kept H3.out HX.out hgb (by decide)));go_wp2_with fail;refine (Jk of h1.1 h1.2 H3.out (by simp only [List.length_append];omega)).mono ?_;rintro e w4 ⟨rfl,h4⟩;have H4:=Zh h4;clear h4 H3 x0 x1 x2;obtain ⟨x0,x1,x2⟩:=v3 ((Var.kept H4.out HX.out hgb (by decide)));go_wp2_with fail;go_end0;exact ⟨rfl,(H0.out.leave B0.out H4.out).tto (by simp only [List.append_assoc])⟩
theorem qY8 (y:OB) {W0:World} {b:Nat} (h0:I64 y.next):Puts 141 (offK.val y) (offL (OB.p y)) W0 b:=by
 intro Y w o h hl;have H0:=Zh h;have hbw:=h.lt;clear h;obtain ⟨tp,nx⟩:=y;show Calls Tryz.prog 141 #[.pointer (some ⟨b,0,none⟩),.agg #[.string tp,.int .i64 nx]] w _;unfold OB.p offL at hl ⊢;simp only [List.length_append] at hl ⊢;simp only at h0;have HX:=Zh (Var.new w 126 [.string tp,.int .i64 nx]);have B0:=Zh (Qj (.cells #[.string tp,.int .i64 nx] 126) (.refl w.heap.size w));have H1:=Zh (H0.out.enter B0.out);go_enter Tryz.func141,Tryz.ntmps141;go_upto_region 1 with fail
 revert HX B0 H1;simp only [List.toArray];generalize w.alloc (.cells _ 126)=Z;intro HX B0 H1;have hgb:w.heap.size≠b:=by omega
 generalize w.heap.size=g at HX hgb ⊢;obtain ⟨x0,x1⟩:=v2 (HX.out);go_wp2_with fail;refine (Zg tp H1.out (by omega)).mono ?_;rintro e w2 ⟨rfl,h2⟩;have H2:=Zh h2;clear h2 H1 x0 x1;obtain ⟨x0,x1⟩:=v2 ((Var.kept H2.out HX.out hgb (by decide)));go_wp2_with fail;refine (Jk nx h0.1 h0.2 H2.out (by simp only [List.length_append];omega)).mono ?_;rintro e w3 ⟨rfl,h3⟩;have H3:=Zh h3;clear h3 H2 x0 x1;obtain ⟨x0,x1⟩:=v2 ((Var.kept H3.out HX.out hgb (by decide)));go_wp2_with fail;go_end0;exact ⟨rfl,(H0.out.leave B0.out H3.out).tto (by simp only [List.append_assoc])⟩
theorem xJg (y:KpB) {W0:World} {b:Nat} (h0:I64 y.part) (h1:y.id < 2 ^ 64) (h2:I64 y.time):Puts 193 (jQ1.val y) (kQR (KpB.p y)) W0 b:=by
 intro Y w o h hl;have H0:=Zh h;have hbw:=h.lt;clear h;obtain ⟨pt,ki,tm⟩:=y;show Calls Tryz.prog 193 #[.pointer (some ⟨b,0,none⟩),.agg #[.int .i64 pt,.int .u64 ki,.int .i64 tm]] w _;unfold KpB.p kQR at hl ⊢;simp only [List.length_append] at hl ⊢;simp only at h0 h1 h2;have HX:=Zh (Var.new w 155 [.int .i64 pt,.int .u64 ki,.int .i64 tm]);have B0:=Zh (Qj (.cells #[.int .i64 pt,.int .u64 ki,.int .i64 tm] 155) (.refl w.heap.size w));have H1:=Zh (H0.out.enter B0.out);go_enter Tryz.func193,Tryz.ntmps193;go_upto_region 1 with fail
 revert HX B0 H1;simp only [List.toArray];generalize w.alloc (.cells _ 155)=Z;intro HX B0 H1;have hgb:w.heap.size≠b:=by omega
 generalize w.heap.size=g at HX hgb ⊢;obtain ⟨x0,x1,x2⟩:=v3 (HX.out);go_wp2_with fail;refine (Jk pt h0.1 h0.2 H1.out (by omega)).mono ?_;rintro e w2 ⟨rfl,h2⟩;have H2:=Zh h2;clear h2 H1 x0 x1 x2;obtain ⟨x0,x1,x2⟩:=v3 ((Var.kept H2.out HX.out hgb (by decide)));go_wp2_with fail;refine (jQD ki h1 H2.out (by simp only [List.length_append];omega)).mono ?_;rintro e w3 ⟨rfl,h3⟩;have H3:=Zh h3;clear h3 H2 x0 x1 x2;obtain ⟨x0,x1,x2⟩:=v3 ((Var.kept H3.out HX.out hgb (by decide)));go_wp2_with fail;refine (Jk tm h2.1 h2.2 H3.out (by simp only [List.length_append];omega)).mono ?_;rintro e w4 ⟨rfl,h4⟩;have H4:=Zh h4;clear h4 H3 x0 x1 x2;obtain ⟨x0,x1,x2⟩:=v3 ((Var.kept H4.out HX.out hgb (by decide)));go_wp2_with fail;go_end0;exact ⟨rfl,(H0.out.leave B0.out H4.out).tto (by simp only [List.append_assoc])⟩
theorem qY1 (y:TB) {W0:World} {b:Nat} (h0:I64 y.first) (hS:Strs W0 y.la y.log) (hn:y.log.length<=1500000):Puts 75 (topK.val y) (topL (TB.p y)) W0 b:=by
 intro Y w o h hl;have HG:=Zh (fun (Z wx:World) (ox:List UInt8) (hx:PenS W0 Z b ox wx) hlx=>jJe y.la y.lc y.log hx hS hlx hn);clear hS;have H0:=Zh h;have hbw:=h.lt;clear h;obtain ⟨nm,fi,la,lg,lc⟩:=y;show Calls Tryz.prog 75 #[.pointer (some ⟨b,0,none⟩),.agg #[.string nm,.int .i64 fi,.slice la lg.length lc]] w _;unfold TB.p topL at hl ⊢;simp only [List.length_append] at hl ⊢;simp only at h0 HG hn;have HX:=Zh (Var.new w 64 [.string nm,.int .i64 fi,.slice la lg.length lc]);have B0:=Zh (Qj (.cells #[.string nm,.int .i64 fi,.slice la lg.length lc] 64) (.refl w.heap.size w));have H1:=Zh (H0.out.enter B0.out);go_enter Tryz.func75,Tryz.ntmps75;go_upto_region 1 with fail
 revert HX B0 H1;simp only [List.toArray];generalize w.alloc (.cells _ 64)=Z;intro HX B0 H1;have hgb:w.heap.size≠b:=by omega
 generalize w.heap.size=g at HX hgb ⊢;obtain ⟨x0,x1,x2⟩:=v3 (HX.out);go_wp2_with fail;refine (Zg nm H1.out (by omega)).mono ?_;rintro e w2 ⟨rfl,h2⟩;have H2:=Zh h2;clear h2 H1 x0 x1 x2;obtain ⟨x0,x1,x2⟩:=v3 ((Var.kept H2.out HX.out hgb (by decide)));go_wp2_with fail;refine (Jk fi h0.1 h0.2 H2.out (by simp only [List.length_append];omega)).mono ?_;rintro e w3 ⟨rfl,h3⟩;have H3:=Zh h3;clear h3 H2 x0 x1 x2;obtain ⟨x0,x1,x2⟩:=v3 ((Var.kept H3.out HX.out hgb (by decide)));go_wp2_with fail;refine (HG.out _ _ _ H3.out (by simp only [List.length_append];omega)).mono ?_;rintro e w4 ⟨rfl,h4⟩;have H4:=Zh h4;clear h4 H3 x0 x1 x2;obtain ⟨x0,x1,x2⟩:=v3 ((Var.kept H4.out HX.out hgb (by decide)));go_wp2_with fail;go_end0;exact ⟨rfl,(H0.out.leave B0.out H4.out).tto (by simp only [List.append_assoc])⟩
