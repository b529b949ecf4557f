import Derived.Deep.Cut
import Derived.Test.YtcbicdencgjfiaaGreatDoorApart5
import Derived.Test.YtcbicdencgjfiaaGreatDoorParG
import Derived.Test.YtcbicdencgjfiaaGreatDoorRFH5
import Derived.Test.YtcbicdencgjfiaaGreatDoorRMeet5
import Derived.Test.YtcbicdencgjfiaaGreatDoorVal47
set_option linter.all false
set_option maxHeartbeats 8000000
set_option maxRecDepth 20000
namespace Tryst
open Go Go.RowKit
end Tryst
namespace Go.Proofs.YtcbicdencgjfiaaGreatDoor
open Go.RowKit Tryst
end Go.Proofs.YtcbicdencgjfiaaGreatDoor
namespace Tryst
open Go Go.RowKit Go.Lib
end Tryst
namespace Go.Proofs.YtcbicdencgjfiaaGreatDoor
open Go.RowKit Tryst
end Go.Proofs.YtcbicdencgjfiaaGreatDoor
namespace Tryst
open Go Go.RowKit Go.Lib
end Tryst
namespace Go.Proofs.YtcbicdencgjfiaaGreatDoor
open Go.RowKit Tryst
section
variable {B:Nat} {v:World} {a0 a1 a2 a3 a4 a5:Value} {T:TypeId} {op r0 r1:ByteArray} {r2:Bool} {r3:Int} {r4:ByteArray} {r5:Option Addr} {r6:Nat} {r7:List PB} {s0 s1:ByteArray} {s2:Bool} {s3:Int} {s4:ByteArray} {s5:Option Addr} {s6:Nat} {s7:List PB}
end
end Go.Proofs.YtcbicdencgjfiaaGreatDoor
namespace Go.Proofs.YtcbicdencgjfiaaGreatDoor
open Go.RowKit Tryst
theorem tB_le:∀ d:Nat,d<=8->tB d<=76500
 | 0,_=>by decide
 | 1,_=>by decide
 | 2,_=>by decide
 | 3,_=>by decide
 | 4,_=>by decide
 | 5,_=>by decide
 | 6,_=>by decide
 | 7,_=>by decide
 | 8,_=>by decide
 | d+9,h=>by omega
theorem vYL:∀ (d:Nat) (x:PB),d<=8->Kg x.pr d=true->Zb x.pr->∀ w,PO w x->
  Calls Tryz.prog 120 #[x.agg] w fun e w'=>e=.returned (.string ⟨(Yk x.pr).toArray⟩)/\Below w.heap.size w w':=by
 intro d
 induction d with
 | zero=>
  intro x _ hx;obtain ⟨op,s,num,n,vs,a,c,ps⟩:=x;rw [PB.pr,Kg] at hx;simp at hx
 | succ d ih=>
  intro x hd hx hft w hP;have htb:=tB_le d (by omega);obtain ⟨op,s,num,n,vs,a,c,ps⟩:=x;obtain ⟨⟨_,hs,hvs,hps⟩,⟨hn0,hn1⟩,hrow,hel⟩:=PO.parts hP;rw [PB.pr] at hx hft ⊢;obtain ⟨k,rfl,h1,h2⟩:=zQ2 hx;rw [Zb] at hft;rw [jQ3];rw [PB.prs_len] at h1;have HRW:=Zh hrow;have HEL:=Zh hel;have HIH:=Zh ih;clear hx hrow hel hP ih;unfold PB.agg;simp only [PB.op,PB.s,PB.num,PB.n,PB.vs,PB.a,PB.c,PB.l];go_enter Tryz.func120,Tryz.ntmps120;go_upto_region 1 with fail
  refine Qg (fun v=>Hid (BX v w.heap.size k.text s num n vs (.slice a ps.length c))/\Hid (Below w.heap.size w v)) ⟨BX.new w k.text s num n vs (.slice a ps.length c),Qj _ (.refl _ _)⟩ ?_;rintro Y ⟨HX,HB⟩;obtain ⟨B,hB⟩:∃ B,w.heap.size=B:=⟨_,rfl⟩;rw [hB] at HX ⊢;have hBY:Hid (∀ W,Below w.heap.size w W->Below B w W):=Zh (fun W h=>hB ▸ h);obtain ⟨x0,x1,x2,x3,x4,x5,x6⟩:=HX.out.box;cases k with
  | all=>
   rw [show Opk.all.text=⟨#[97,108,108]⟩ from rfl] at x0;go_wp2_with fail;go_ret;exact ⟨rfl,hBY.out _ HB.out⟩
  | topic=>
   rw [show Opk.topic.text=⟨#[116,111,112,105,99]⟩ from rfl] at x0;go_wp2_with fail;go_ret;exact ⟨congrArg (fun z=>Ending.returned (.string z)) (Xk (by simp)),hBY.out _ HB.out⟩
  | has=>
   rw [show Opk.has.text=⟨#[104,97,115]⟩ from rfl] at x0;go_wp2_with fail;go_ret;exact ⟨congrArg (fun z=>Ending.returned (.string z)) (Xk (by simp)),hBY.out _ HB.out⟩
  | eq=>
   have HV:=Zh (fun W=>zY6 (x:=num) (n:=n) (s:=vs) (by omega) hn0 hn1 W);rw [show Opk.eq.text=⟨#[101,113]⟩ from rfl] at x0;simp only [Jj,Bool.and_eq_true,decide_eq_true_eq,V.mayB] at h1;have hwl:=qQb _ h1.2.1 hft.1;obtain ⟨wv,hwv⟩:∃ wv,V.write ⟨num,n,vs.data.toList⟩=wv:=⟨_,rfl⟩;rw [hwv] at HV hwl;have HWV:=Zh hwv;clear hwv;clear h1 h2 hft;go_upto_region 9 with fail
   refine Tryst2.wp_region_grows [.is (.pointer (some ⟨B,1,none⟩)),.is (.string s),.is (.string (⟨#[40]⟩++s)),.is (.string (⟨#[40]⟩++s++⟨#[32,61,32]⟩)),.is (.pointer (some ⟨B,2,none⟩)),.is (.agg #[.bool num,.int .i64 n,.string vs]),.is (.string ⟨wv.toArray⟩),.is (.string (⟨#[40]⟩++s++⟨#[32,61,32]⟩++⟨wv.toArray⟩)),.is (.string (⟨#[40]⟩++s++⟨#[32,61,32]⟩++⟨wv.toArray⟩++⟨#[41]⟩))] (by kernel_rfl) (by kernel_rfl) ?obl ?fin
   case obl=>
    simp only [YA,YL,YO,YR,Op.operands,Call.operands]
    repeat' apply And.intro
    any_goals trivial
    all_goals (intro tv w' hg hold hd;(try simp at hold);obtain ⟨hcg,hfg,hsg⟩:=YG hg)
    all_goals first | (go_simp;done) | (go_simp;rw [if_neg (by omega)];exact ⟨.refl _,rfl⟩) | (obtain ⟨⟨g,hvg,hgg,hcell⟩,_⟩:=hd;have hcell0:=hcell 0 (by decide);simp at hcell0;go_simp;done) | (go_simp;refine (HV.out _).mono ?_;rintro e w2 ⟨rfl,hb2⟩;exact ⟨hb2,rfl⟩)
   case fin=>
    intro tv w' hg hR;simp only [YF,YL,YR] at hR;obtain ⟨hcg,hfg,hsg⟩:=YG hg;simp only [YP,YL,Act.put,hR];have HB9:=Zh (Qk (Tryst2.Grow.below hg (.refl Y.heap.size Y)) HB.out);clear hg hR hcg hfg hsg;go_wp2_with fail;go_ret;exact ⟨congrArg (fun z=>Ending.returned (.string z)) (Xk (by simp [HWV.out])),hBY.out _ HB9.out⟩
  | lt=>
   have HV:=Zh (fun W=>zY6 (x:=num) (n:=n) (s:=vs) (by omega) hn0 hn1 W);rw [show Opk.lt.text=⟨#[108,116]⟩ from rfl] at x0;simp only [Jj,Bool.and_eq_true,decide_eq_true_eq,V.mayB] at h1;have hwl:=qQb _ h1.2.1 hft.1;obtain ⟨wv,hwv⟩:∃ wv,V.write ⟨num,n,vs.data.toList⟩=wv:=⟨_,rfl⟩;rw [hwv] at HV hwl;have HWV:=Zh hwv;clear hwv;clear h1 h2 hft;go_upto_region 11 with fail
   refine Tryst2.wp_region_grows [.is (.pointer (some ⟨B,1,none⟩)),.is (.string s),.is (.string (⟨#[40]⟩++s)),.is (.string (⟨#[40]⟩++s++⟨#[32,60,32]⟩)),.is (.pointer (some ⟨B,2,none⟩)),.is (.agg #[.bool num,.int .i64 n,.string vs]),.is (.string ⟨wv.toArray⟩),.is (.string (⟨#[40]⟩++s++⟨#[32,60,32]⟩++⟨wv.toArray⟩)),.is (.string (⟨#[40]⟩++s++⟨#[32,60,32]⟩++⟨wv.toArray⟩++⟨#[41]⟩))] (by kernel_rfl) (by kernel_rfl) ?obl ?fin
   case obl=>
    simp only [YA,YL,YO,YR,Op.operands,Call.operands]
    repeat' apply And.intro
    any_goals trivial
    all_goals (intro tv w' hg hold hd;(try simp at hold);obtain ⟨hcg,hfg,hsg⟩:=YG hg)
    all_goals first | (go_simp;done) | (go_simp;rw [if_neg (by omega)];exact ⟨.refl _,rfl⟩) | (obtain ⟨⟨g,hvg,hgg,hcell⟩,_⟩:=hd;have hcell0:=hcell 0 (by decide);simp at hcell0;go_simp;done) | (go_simp;refine (HV.out _).mono ?_;rintro e w2 ⟨rfl,hb2⟩;exact ⟨hb2,rfl⟩)
   case fin=>
    intro tv w' hg hR;simp only [YF,YL,YR] at hR;obtain ⟨hcg,hfg,hsg⟩:=YG hg;simp only [YP,YL,Act.put,hR];have HB9:=Zh (Qk (Tryst2.Grow.below hg (.refl Y.heap.size Y)) HB.out);clear hg hR hcg hfg hsg;go_wp2_with fail;go_ret;exact ⟨congrArg (fun z=>Ending.returned (.string z)) (Xk (by simp [HWV.out])),hBY.out _ HB9.out⟩
  | not=>
   simp only [Jj,Bool.and_eq_true,decide_eq_true_eq] at h1;obtain ⟨y,rfl⟩:=List.length_eq_one_iff.1 h1.2.2;have hy:Kg y.pr d=true:=by simpa [jQL,PB.prs] using h2
   have fy:Zb y.pr:=by
    have:=hft.2;rw [PB.prs,jQc] at this;exact this.1
   have HI:=Zh (fun W (hb:Below w.heap.size w W)=>HIH.out y (by omega) hy fy W ((HEL.out y (by simp)).grow hb));obtain ⟨b,o,rfl,-⟩:=HRW.out.head (i:=0) (by simp);obtain ⟨hz,hc⟩:=(HRW.out.grow HB.out).at (i:=0) (by simp);have e0:=hc 0 (by omega);have e1:=hc 1 (by omega);have e2:=hc 2 (by omega);have e3:=hc 3 (by omega);have e4:=hc 4 (by omega);have e5:=hc 5 (by omega);simp [PB.cells] at e0 e1 e2 e3 e4 e5;have hyl:=jQd d _ hy fy;have HTE:Hid (Jz (PB.prs [y])=[Yk y.pr]):=Zh (by rw [PB.prs,PB.prs,Jz,Jz]);generalize Yk y.pr=ty at HI HTE hyl;obtain ⟨y0,y1,y2,y3,y4,y5,y6,y7⟩:=y;unfold PB.agg at HI;simp only [PB.op,PB.s,PB.num,PB.n,PB.vs,PB.a,PB.c,PB.l] at HI e0 e1 e2 e3 e4 e5;rw [show Opk.not.text=⟨#[110,111,116]⟩ from rfl] at x0;clear hc hz h1 h2 hft hy fy;simp only [List.length_cons,List.length_nil] at x5;go_wp2_with fail;refine (HI.out _ HB.out).mono ?_;rintro e w2 ⟨rfl,hb2⟩;have HB2:=Zh (Qk hb2 HB.out);go_wp2_with fail;go_ret;exact ⟨congrArg (fun z=>Ending.returned (.string z)) (Xk (by simp [HTE.out])),hBY.out _ HB2.out⟩
  | and=>
   simp only [Jj,Bool.and_eq_true,decide_eq_true_eq] at h1
   obtain ⟨y,z,rfl⟩:∃ y z,ps=[y,z]:=by
    match ps,h1.2.2 with
    | [y,z],_=>exact ⟨y,z,rfl⟩
   simp only [jQL,PB.prs,Bool.and_eq_true,and_true] at h2;have hft:=hft.2;simp only [PB.prs,jQc,and_true] at hft;have HI:=Zh (fun W (hb:Below w.heap.size w W)=>HIH.out y (by omega) h2.1 hft.1 W ((HEL.out y (by simp)).grow hb));have HJ:=Zh (fun W (hb:Below w.heap.size w W)=>HIH.out z (by omega) h2.2 hft.2 W ((HEL.out z (by simp)).grow hb));obtain ⟨b,o,rfl,-⟩:=HRW.out.head (i:=0) (by simp);obtain ⟨hz,hc⟩:=(HRW.out.grow HB.out).at (i:=0) (by simp);have e0:=hc 0 (by omega);have e1:=hc 1 (by omega);have e2:=hc 2 (by omega);have e3:=hc 3 (by omega);have e4:=hc 4 (by omega);have e5:=hc 5 (by omega);clear hc;obtain ⟨_,hc⟩:=(HRW.out.grow HB.out).at (i:=1) (by simp);have f0:=hc 0 (by omega);have f1:=hc 1 (by omega);have f2:=hc 2 (by omega);have f3:=hc 3 (by omega);have f4:=hc 4 (by omega);have f5:=hc 5 (by omega);simp [PB.cells] at e0 e1 e2 e3 e4 e5 f0 f1 f2 f3 f4 f5;have HTE:Hid (Jz (PB.prs [y,z])=[Yk y.pr,Yk z.pr]):=Zh (by rw [PB.prs,PB.prs,PB.prs,Jz,Jz,Jz]);have hyl:=jQd d _ h2.1 hft.1;have hzl:=jQd d _ h2.2 hft.2;generalize Yk y.pr=ty at HI HTE hyl;generalize Yk z.pr=tz at HJ HTE hzl;obtain ⟨y0,y1,y2,y3,y4,y5,y6,y7⟩:=y;obtain ⟨z0,z1,z2,z3,z4,z5,z6,z7⟩:=z;unfold PB.agg at HI HJ;simp only [PB.op,PB.s,PB.num,PB.n,PB.vs,PB.a,PB.c,PB.l] at HI HJ e0 e1 e2 e3 e4 e5 f0 f1 f2 f3 f4 f5;rw [show (Opk.and).text=⟨#[97,110,100]⟩ from rfl] at x0;clear hc h1 h2 hft;simp only [List.length_cons,List.length_nil] at x5;go_upto_region 14 with fail
   refine Tryst2.wp_region_grows [.is (.pointer (some ⟨B,5,none⟩)),.is (.slice (some ⟨b,o,none⟩) 2 c),.is (.pointer (some ⟨b,o,none⟩)),.is (.agg #[.string y0,.string y1,.bool y2,.int .i64 y3,.string y4,.slice y5 y7.length y6]),.is (.string ⟨ty.toArray⟩),.is (.string (⟨#[40]⟩++⟨ty.toArray⟩)),.is (.string (⟨#[40]⟩++⟨ty.toArray⟩++⟨#[32]⟩)),.is (.pointer (some ⟨B,0,none⟩)),.is (.string ⟨#[97,110,100]⟩),.is (.string (⟨#[40]⟩++⟨ty.toArray⟩++⟨#[32]⟩++⟨#[97,110,100]⟩)),.is (.string (⟨#[40]⟩++⟨ty.toArray⟩++⟨#[32]⟩++⟨#[97,110,100]⟩++⟨#[32]⟩)),.is (.pointer (some ⟨B,5,none⟩)),.is (.slice (some ⟨b,o,none⟩) 2 c),.is (.pointer (some ⟨b,o+6,none⟩)),.is (.agg #[.string z0,.string z1,.bool z2,.int .i64 z3,.string z4,.slice z5 z7.length z6]),.is (.string ⟨tz.toArray⟩),.is (.string (⟨#[40]⟩++⟨ty.toArray⟩++⟨#[32]⟩++⟨#[97,110,100]⟩++⟨#[32]⟩++⟨tz.toArray⟩)),.is (.string (⟨#[40]⟩++⟨ty.toArray⟩++⟨#[32]⟩++⟨#[97,110,100]⟩++⟨#[32]⟩++⟨tz.toArray⟩++⟨#[41]⟩))] (by kernel_rfl) (by kernel_rfl) ?obl ?fin
   case obl=>
    simp only [YA,YL,YO,YR,Op.operands,Call.operands]
    repeat' apply And.intro
    any_goals trivial
    all_goals (intro tv w' hg hold hd;(try simp at hold);obtain ⟨hcg,hfg,hsg⟩:=YG hg)
    all_goals first | (go_simp;done) | (go_simp;rw [if_neg (by omega)];exact ⟨.refl _,rfl⟩) | (obtain ⟨⟨g,hvg,hgg,hcell⟩,_⟩:=hd;have hcell0:=hcell 0 (by decide);simp at hcell0;go_simp;done) | (go_simp;(with_reducible refine (HI.out _ ?_).mono ?_);(exact Qk (Tryst2.Grow.below hg (.refl Y.heap.size Y)) HB.out);rintro e w2 ⟨rfl,hb2⟩;exact ⟨hb2,rfl⟩) | (go_simp;(with_reducible refine (HJ.out _ ?_).mono ?_);(exact Qk (Tryst2.Grow.below hg (.refl Y.heap.size Y)) HB.out);rintro e w2 ⟨rfl,hb2⟩;exact ⟨hb2,rfl⟩)
   case fin=>
    intro tv w' hg hR;simp only [YF,YL,YR] at hR;obtain ⟨hcg,hfg,hsg⟩:=YG hg;simp only [YP,YL,Act.put,hR];have HB9:=Zh (Qk (Tryst2.Grow.below hg (.refl Y.heap.size Y)) HB.out);clear hg hR hcg hfg hsg;go_wp2_with fail;go_ret;exact ⟨congrArg (fun z=>Ending.returned (.string z)) (Xk (by simp [HTE.out])),hBY.out _ HB9.out⟩
  | or=>
   simp only [Jj,Bool.and_eq_true,decide_eq_true_eq] at h1
   obtain ⟨y,z,rfl⟩:∃ y z,ps=[y,z]:=by
    match ps,h1.2.2 with
    | [y,z],_=>exact ⟨y,z,rfl⟩
   simp only [jQL,PB.prs,Bool.and_eq_true,and_true] at h2;have hft:=hft.2;simp only [PB.prs,jQc,and_true] at hft;have HI:=Zh (fun W (hb:Below w.heap.size w W)=>HIH.out y (by omega) h2.1 hft.1 W ((HEL.out y (by simp)).grow hb));have HJ:=Zh (fun W (hb:Below w.heap.size w W)=>HIH.out z (by omega) h2.2 hft.2 W ((HEL.out z (by simp)).grow hb));obtain ⟨b,o,rfl,-⟩:=HRW.out.head (i:=0) (by simp);obtain ⟨hz,hc⟩:=(HRW.out.grow HB.out).at (i:=0) (by simp);have e0:=hc 0 (by omega);have e1:=hc 1 (by omega);have e2:=hc 2 (by omega);have e3:=hc 3 (by omega);have e4:=hc 4 (by omega);have e5:=hc 5 (by omega);clear hc;obtain ⟨_,hc⟩:=(HRW.out.grow HB.out).at (i:=1) (by simp);have f0:=hc 0 (by omega);have f1:=hc 1 (by omega);have f2:=hc 2 (by omega);have f3:=hc 3 (by omega);have f4:=hc 4 (by omega);have f5:=hc 5 (by omega);simp [PB.cells] at e0 e1 e2 e3 e4 e5 f0 f1 f2 f3 f4 f5;have HTE:Hid (Jz (PB.prs [y,z])=[Yk y.pr,Yk z.pr]):=Zh (by rw [PB.prs,PB.prs,PB.prs,Jz,Jz,Jz]);have hyl:=jQd d _ h2.1 hft.1;have hzl:=jQd d _ h2.2 hft.2;generalize Yk y.pr=ty at HI HTE hyl;generalize Yk z.pr=tz at HJ HTE hzl;obtain ⟨y0,y1,y2,y3,y4,y5,y6,y7⟩:=y;obtain ⟨z0,z1,z2,z3,z4,z5,z6,z7⟩:=z;unfold PB.agg at HI HJ;simp only [PB.op,PB.s,PB.num,PB.n,PB.vs,PB.a,PB.c,PB.l] at HI HJ e0 e1 e2 e3 e4 e5 f0 f1 f2 f3 f4 f5;rw [show (Opk.or).text=⟨#[111,114]⟩ from rfl] at x0;clear hc h1 h2 hft;simp only [List.length_cons,List.length_nil] at x5;go_upto_region 14 with fail
   refine Tryst2.wp_region_grows [.is (.pointer (some ⟨B,5,none⟩)),.is (.slice (some ⟨b,o,none⟩) 2 c),.is (.pointer (some ⟨b,o,none⟩)),.is (.agg #[.string y0,.string y1,.bool y2,.int .i64 y3,.string y4,.slice y5 y7.length y6]),.is (.string ⟨ty.toArray⟩),.is (.string (⟨#[40]⟩++⟨ty.toArray⟩)),.is (.string (⟨#[40]⟩++⟨ty.toArray⟩++⟨#[32]⟩)),.is (.pointer (some ⟨B,0,none⟩)),.is (.string ⟨#[111,114]⟩),.is (.string (⟨#[40]⟩++⟨ty.toArray⟩++⟨#[32]⟩++⟨#[111,114]⟩)),.is (.string (⟨#[40]⟩++⟨ty.toArray⟩++⟨#[32]⟩++⟨#[111,114]⟩++⟨#[32]⟩)),.is (.pointer (some ⟨B,5,none⟩)),.is (.slice (some ⟨b,o,none⟩) 2 c),.is (.pointer (some ⟨b,o+6,none⟩)),.is (.agg #[.string z0,.string z1,.bool z2,.int .i64 z3,.string z4,.slice z5 z7.length z6]),.is (.string ⟨tz.toArray⟩),.is (.string (⟨#[40]⟩++⟨ty.toArray⟩++⟨#[32]⟩++⟨#[111,114]⟩++⟨#[32]⟩++⟨tz.toArray⟩)),.is (.string (⟨#[40]⟩++⟨ty.toArray⟩++⟨#[32]⟩++⟨#[111,114]⟩++⟨#[32]⟩++⟨tz.toArray⟩++⟨#[41]⟩))] (by kernel_rfl) (by kernel_rfl) ?obl ?fin
   case obl=>
    simp only [YA,YL,YO,YR,Op.operands,Call.operands]
    repeat' apply And.intro
    any_goals trivial
    all_goals (intro tv w' hg hold hd;(try simp at hold);obtain ⟨hcg,hfg,hsg⟩:=YG hg)
    all_goals first | (go_simp;done) | (go_simp;rw [if_neg (by omega)];exact ⟨.refl _,rfl⟩) | (obtain ⟨⟨g,hvg,hgg,hcell⟩,_⟩:=hd;have hcell0:=hcell 0 (by decide);simp at hcell0;go_simp;done) | (go_simp;(with_reducible refine (HI.out _ ?_).mono ?_);(exact Qk (Tryst2.Grow.below hg (.refl Y.heap.size Y)) HB.out);rintro e w2 ⟨rfl,hb2⟩;exact ⟨hb2,rfl⟩) | (go_simp;(with_reducible refine (HJ.out _ ?_).mono ?_);(exact Qk (Tryst2.Grow.below hg (.refl Y.heap.size Y)) HB.out);rintro e w2 ⟨rfl,hb2⟩;exact ⟨hb2,rfl⟩)
   case fin=>
    intro tv w' hg hR;simp only [YF,YL,YR] at hR;obtain ⟨hcg,hfg,hsg⟩:=YG hg;simp only [YP,YL,Act.put,hR];have HB9:=Zh (Qk (Tryst2.Grow.below hg (.refl Y.heap.size Y)) HB.out);clear hg hR hcg hfg hsg;go_wp2_with fail;go_ret;exact ⟨congrArg (fun z=>Ending.returned (.string z)) (Xk (by simp [HTE.out])),hBY.out _ HB9.out⟩
end Go.Proofs.YtcbicdencgjfiaaGreatDoor
namespace Tryst
open Go Go.RowKit Go.Lib
end Tryst
namespace Go.Proofs.YtcbicdencgjfiaaGreatDoor
open Go.RowKit Tryst
