import Derived.RegionTactic
import Derived.ChangeAlike
import Derived.Lib.UnsafeStr
import Derived.Test.YtcbicdencgjfiaaGreatDoorEyeA
import Derived.Test.YtcbicdencgjfiaaGreatDoorPenL
import Derived.Test.YtcbicdencgjfiaaGreatDoorSamE14
set_option linter.all false
set_option maxHeartbeats 4000000
set_option maxRecDepth 100000
namespace Go.Proofs.YtcbicdencgjfiaaGreatDoor
open Go.RowKit Tryst
theorem PenS.lt {W0 Y w:World} {b:Nat} {l:List UInt8} (h:PenS W0 Y b l w):b < w.heap.size:=(BldT.lt h.bld).2
theorem DX.kept {W0 Y w:World} {b g:Nat} {l:List UInt8} {nm ky kd:ByteArray} {G U:Value} {p n x:Int} (h:PenS W0 Y b l w) (hx:DX Y g nm G U ky kd p n x) (hg:g≠b):DX w g nm G U ky kd p n x:=Kept.box h.kept hx hg (by decide)
theorem vJW (d:DB) {W0 Y w:World} {b:Nat} {o:List UInt8} (h:PenS W0 Y b o w) (hM:MaxW W0) (hT:Tab W0) (hD:DO W0 d) (hj:JIn d.j) (hm:∀ p∈d.wl,mayP p.pr=true) (hl:o.length+(defL d.dp).length<=800000000) :
  Calls Tryz.prog 112 #[.pointer (some ⟨b,0,none⟩),d.agg] w (PenR W0 Y b (o++defL d.dp)):=by
 have HG:=Zh (fun (Z wx:World) (ox:List UInt8) (hx:PenS W0 Z b ox wx) hlx=>jJe d.ga d.gc d.gl hx hD.gS hlx (Nat.le_trans hD.hg (by decide)));have HU:=Zh (fun (Z wx:World) (ox:List UInt8) (hx:PenS W0 Z b ox wx) hlx=>vJV d.wa d.wc d.wl hx hM hT hD.wR hm (fun p hp=>qQd p (hD.wR.po p hp).1) hlx (Nat.le_trans hD.hw (by decide)));have H0:=Zh h;have hbw:=h.lt;obtain ⟨j0,j1,j2,j3,j4,j5,j6⟩:=hj;clear h hM hT hD hm;obtain ⟨nm,ga,gl,gc,wa,wl,wc,ky,⟨kd,p,n,x⟩⟩:=d;unfold DB.agg;unfold DB.dp defL at hl ⊢;simp only [List.length_append] at HG HU hl j0 j1 j2 j3 j4 j5 j6 ⊢;have HX:=Zh (DX.new w nm (.slice ga gl.length gc) (.slice wa wl.length wc) ky kd p n x);have B0:=Zh (Qj (.cells #[.string nm,.slice ga gl.length gc,.slice wa wl.length wc,.string ky,.string kd,.int .i64 p,.int .i64 n,.int .i64 x] 45) (.refl w.heap.size w));have H1:=Zh (H0.out.enter B0.out);go_enter Tryz.func112,Tryz.ntmps112;go_upto_region 1 with fail
 revert HX B0 H1;generalize w.alloc (.cells #[.string nm,.slice ga gl.length gc,.slice wa wl.length wc,.string ky,.string kd,.int .i64 p,.int .i64 n,.int .i64 x] 45)=Z;intro HX B0 H1;have hgb:w.heap.size≠b:=by omega
 generalize w.heap.size=g at HX hgb ⊢;obtain ⟨x0,x1,x2,x3,x4,x5,x6,x7,x8⟩:=HX.out.box;go_wp2_with fail;refine (Zg nm H1.out (by omega)).mono ?_;rintro e w2 ⟨rfl,h2⟩;have H2:=Zh h2;clear h2 H1 x0 x1 x2 x3 x4 x5 x6 x7 x8;obtain ⟨x0,x1,x2,x3,x4,x5,x6,x7,x8⟩:=(DX.kept H2.out HX.out hgb).box;go_wp2_with fail;refine (HG.out _ _ _ H2.out (by simp only [List.length_append];omega)).mono ?_;rintro e w3 ⟨rfl,h3⟩;have H3:=Zh h3;clear h3 H2 x0 x1 x2 x3 x4 x5 x6 x7 x8;obtain ⟨x0,x1,x2,x3,x4,x5,x6,x7,x8⟩:=(DX.kept H3.out HX.out hgb).box;go_wp2_with fail;refine (HU.out _ _ _ H3.out (by simp only [List.length_append];omega)).mono ?_;rintro e w4 ⟨rfl,h4⟩;have H4:=Zh h4;clear h4 H3 x0 x1 x2 x3 x4 x5 x6 x7 x8;obtain ⟨x0,x1,x2,x3,x4,x5,x6,x7,x8⟩:=(DX.kept H4.out HX.out hgb).box;go_wp2_with fail;refine (Zg ky H4.out (by simp only [List.length_append];omega)).mono ?_;rintro e w5 ⟨rfl,h5⟩;have H5:=Zh h5;clear h5 H4 x0 x1 x2 x3 x4 x5 x6 x7 x8;obtain ⟨x0,x1,x2,x3,x4,x5,x6,x7,x8⟩:=(DX.kept H5.out HX.out hgb).box;go_wp2_with fail;refine (Zg kd H5.out (by simp only [List.length_append];omega)).mono ?_;rintro e w6 ⟨rfl,h6⟩;have H6:=Zh h6;clear h6 H5 x0 x1 x2 x3 x4 x5 x6 x7 x8;obtain ⟨x0,x1,x2,x3,x4,x5,x6,x7,x8⟩:=(DX.kept H6.out HX.out hgb).box;go_wp2_with fail;refine (Jk p j1 j2 H6.out (by simp only [List.length_append];omega)).mono ?_;rintro e w7 ⟨rfl,h7⟩;have H7:=Zh h7;clear h7 H6 x0 x1 x2 x3 x4 x5 x6 x7 x8;obtain ⟨x0,x1,x2,x3,x4,x5,x6,x7,x8⟩:=(DX.kept H7.out HX.out hgb).box;go_wp2_with fail;refine (Jk n j3 j4 H7.out (by simp only [List.length_append];omega)).mono ?_;rintro e w8 ⟨rfl,h8⟩;have H8:=Zh h8;clear h8 H7 x0 x1 x2 x3 x4 x5 x6 x7 x8;obtain ⟨x0,x1,x2,x3,x4,x5,x6,x7,x8⟩:=(DX.kept H8.out HX.out hgb).box;go_wp2_with fail;refine (Jk x j5 j6 H8.out (by simp only [List.length_append];omega)).mono ?_;rintro e w9 ⟨rfl,h9⟩;have H9:=Zh h9;clear h9 H8 x0 x1 x2 x3 x4 x5 x6 x7 x8;obtain ⟨x0,x1,x2,x3,x4,x5,x6,x7,x8⟩:=(DX.kept H9.out HX.out hgb).box;go_wp2_with fail;go_end0;exact ⟨rfl,(H0.out.leave B0.out H9.out).tto (by simp only [List.append_assoc])⟩
theorem _root_.Tryst.Var.kept {W0 Y w:World} {b g:Nat} {l:List UInt8} {T:TypeId} {cs:List Value} (h:PenS W0 Y b l w) (hx:Var Y g T cs) (hg:g≠b) (hT:T≠5):Var w g T cs:=Kept.box h.kept hx hg hT
theorem pop_c (q:OPB) {W0 Y w:World} {b:Nat} {o:List UInt8} (h:PenS W0 Y b o w) (hM:MaxW W0) (hT:Tab W0) (hD:DO W0 q.d) (hj:JIn q.d.j) (hq:OPIn q) (hm:q.kind=2->∀ p∈q.d.wl,mayP p.pr=true) (hl:o.length+(opL q.p).length<=800000000) :
  Calls Tryz.prog 56 #[.pointer (some ⟨b,0,none⟩),q.agg] w (PenR W0 Y b (o++opL q.p)):=by
 have HD:=Zh (fun (hk:q.kind=2) (Z wx:World) (ox:List UInt8) (hx:PenS W0 Z b ox wx) hlx=>vJW q.d hx hM hT hD hj (hm hk) hlx);have H0:=Zh h;have hbw:=h.lt;obtain ⟨k0,k1,n0,n1,i0⟩:=hq;clear h hM hT hD hm hj;obtain ⟨k,s,d,ok,id,n⟩:=q;have HX:=Zh (Var.new w 48 (OPB.mk k s d ok id n).cells);have B0:=Zh (Qj (.cells (OPB.mk k s d ok id n).cells.toArray 48) (.refl w.heap.size w));have H1:=Zh (H0.out.enter B0.out);unfold OPB.cells at HX B0 H1;unfold OPB.agg;unfold OPB.p opL OpP.head Tryst.headL at hl ⊢;unfold DB.agg at HD;simp only [List.length_append] at HD HX B0 H1 hl k0 k1 n0 n1 i0 ⊢;go_enter Tryz.func56,Tryz.ntmps56;go_upto_region 1 with fail
 revert HX B0 H1;generalize w.alloc (.cells _ 48)=Z;intro HX B0 H1;have hgb:w.heap.size≠b:=by omega
 generalize w.heap.size=g at HX hgb ⊢;obtain ⟨x0,x1,x2,x3,x4,x5,x6,x7,x8,x9,x10,x11,x12⟩:=v13 (HX.out)
 by_cases hk:k=2
 · subst hk;rw [if_pos rfl] at hl ⊢;go_wp2_with fail;refine (Jk 2 k0 k1 H1.out (by omega)).mono ?_;rintro e w2 ⟨rfl,h2⟩;have H2:=Zh h2;clear h2 H1 x0 x1 x2 x3 x4 x5 x6 x7 x8 x9 x10 x11 x12;obtain ⟨x0,x1,x2,x3,x4,x5,x6,x7,x8,x9,x10,x11,x12⟩:=v13 ((Var.kept H2.out HX.out hgb (by decide)));go_wp2_with fail;refine (Zg s H2.out (by simp only [List.length_append];omega)).mono ?_;rintro e w3 ⟨rfl,h3⟩;have H3:=Zh h3;clear h3 H2 x0 x1 x2 x3 x4 x5 x6 x7 x8 x9 x10 x11 x12;obtain ⟨x0,x1,x2,x3,x4,x5,x6,x7,x8,x9,x10,x11,x12⟩:=v13 ((Var.kept H3.out HX.out hgb (by decide)));go_wp2_with fail;refine (xQx ok H3.out (by simp only [List.length_append];omega)).mono ?_;rintro e w4 ⟨rfl,h4⟩;have H4:=Zh h4;clear h4 H3 x0 x1 x2 x3 x4 x5 x6 x7 x8 x9 x10 x11 x12;obtain ⟨x0,x1,x2,x3,x4,x5,x6,x7,x8,x9,x10,x11,x12⟩:=v13 ((Var.kept H4.out HX.out hgb (by decide)));go_wp2_with fail;refine (jQD id (by omega) H4.out (by simp only [List.length_append];omega)).mono ?_;rintro e w5 ⟨rfl,h5⟩;have H5:=Zh h5;clear h5 H4 x0 x1 x2 x3 x4 x5 x6 x7 x8 x9 x10 x11 x12;obtain ⟨x0,x1,x2,x3,x4,x5,x6,x7,x8,x9,x10,x11,x12⟩:=v13 ((Var.kept H5.out HX.out hgb (by decide)));go_wp2_with fail;refine (Jk n n0 n1 H5.out (by simp only [List.length_append];omega)).mono ?_;rintro e w6 ⟨rfl,h6⟩;have H6:=Zh h6;clear h6 H5 x0 x1 x2 x3 x4 x5 x6 x7 x8 x9 x10 x11 x12;obtain ⟨x0,x1,x2,x3,x4,x5,x6,x7,x8,x9,x10,x11,x12⟩:=v13 ((Var.kept H6.out HX.out hgb (by decide)));go_wp2_with fail;refine (HD.out (by trivial) _ _ _ H6.out (by simp only [List.length_append];omega)).mono ?_;rintro e w7 ⟨rfl,h7⟩;have H7:=Zh h7;clear h7 H6 x0 x1 x2 x3 x4 x5 x6 x7 x8 x9 x10 x11 x12;obtain ⟨x0,x1,x2,x3,x4,x5,x6,x7,x8,x9,x10,x11,x12⟩:=v13 ((Var.kept H7.out HX.out hgb (by decide)));go_wp2_with fail;go_end0;exact ⟨rfl,(H0.out.leave B0.out H7.out).tto (by simp only [List.append_assoc])⟩
 ·
  rw [if_neg hk] at hl ⊢;have hk2:(k==2)=false:=by simpa using hk
  go_wp2_with fail;refine (Jk k k0 k1 H1.out (by omega)).mono ?_;rintro e w2 ⟨rfl,h2⟩;have H2:=Zh h2;clear h2 H1 x0 x1 x2 x3 x4 x5 x6 x7 x8 x9 x10 x11 x12;obtain ⟨x0,x1,x2,x3,x4,x5,x6,x7,x8,x9,x10,x11,x12⟩:=v13 ((Var.kept H2.out HX.out hgb (by decide)));go_wp2_with fail;refine (Zg s H2.out (by simp only [List.length_append];omega)).mono ?_;rintro e w3 ⟨rfl,h3⟩;have H3:=Zh h3;clear h3 H2 x0 x1 x2 x3 x4 x5 x6 x7 x8 x9 x10 x11 x12;obtain ⟨x0,x1,x2,x3,x4,x5,x6,x7,x8,x9,x10,x11,x12⟩:=v13 ((Var.kept H3.out HX.out hgb (by decide)));go_wp2_with fail;refine (xQx ok H3.out (by simp only [List.length_append];omega)).mono ?_;rintro e w4 ⟨rfl,h4⟩;have H4:=Zh h4;clear h4 H3 x0 x1 x2 x3 x4 x5 x6 x7 x8 x9 x10 x11 x12;obtain ⟨x0,x1,x2,x3,x4,x5,x6,x7,x8,x9,x10,x11,x12⟩:=v13 ((Var.kept H4.out HX.out hgb (by decide)));go_wp2_with fail;refine (jQD id (by omega) H4.out (by simp only [List.length_append];omega)).mono ?_;rintro e w5 ⟨rfl,h5⟩;have H5:=Zh h5;clear h5 H4 x0 x1 x2 x3 x4 x5 x6 x7 x8 x9 x10 x11 x12;obtain ⟨x0,x1,x2,x3,x4,x5,x6,x7,x8,x9,x10,x11,x12⟩:=v13 ((Var.kept H5.out HX.out hgb (by decide)));go_wp2_with fail;refine (Jk n n0 n1 H5.out (by simp only [List.length_append];omega)).mono ?_;rintro e w6 ⟨rfl,h6⟩;have H6:=Zh h6;clear h6 H5 x0 x1 x2 x3 x4 x5 x6 x7 x8 x9 x10 x11 x12;obtain ⟨x0,x1,x2,x3,x4,x5,x6,x7,x8,x9,x10,x11,x12⟩:=v13 ((Var.kept H6.out HX.out hgb (by decide)));go_wp2_with fail;go_end0;exact ⟨rfl,(H0.out.leave B0.out H6.out).tto (by simp only [List.append_assoc,List.append_nil])⟩
end Go.Proofs.YtcbicdencgjfiaaGreatDoor
namespace Go.Proofs.YtcbicdencgjfiaaGreatDoor
open Go.RowKit Tryst
theorem xQ9 {s:ByteArray} (h:¬ s=⟨#[]⟩):s.toList.isEmpty=false:=by
 cases e:s.toList with
 | nil=>exact absurd (Xk (by rw [<- Qp,e])) h
 | cons a b=>rfl
theorem jYd (d:DB) (w:World) (hg:d.gl.length<=1500000) (hw:d.wl.length<=1500000):Calls Tryz.prog 61 #[d.agg] w fun e w'=>e=.returned (.bool (zQ0 d))/\Below w.heap.size w w':=by
 obtain ⟨R,hR⟩:∃ R,zQ0 d=R:=⟨_,rfl⟩;rw [hR];unfold zQ0 vQt at hR;obtain ⟨nm,ga,gl,gc,wa,wl,wc,ky,⟨kd,p,n,x⟩⟩:=d;unfold DB.agg;simp only at hR hg hw ⊢;have HR:=Zh hR;have HX:=Zh (Var.new w 45 [.string nm,.slice ga gl.length gc,.slice wa wl.length wc,.string ky,.string kd,.int .i64 p,.int .i64 n,.int .i64 x]);have HB0:=Zh (Qj (.cells #[.string nm,.slice ga gl.length gc,.slice wa wl.length wc,.string ky,.string kd,.int .i64 p,.int .i64 n,.int .i64 x] 45) (.refl w.heap.size w));clear hR;go_enter Tryz.func61,Tryz.ntmps61;go_upto_region 1 with fail
 revert HX HB0;generalize w.alloc (.cells _ 45)=Z;intro HX HB0;obtain ⟨x0,x1,x2,x3,x4,x5,x6,x7⟩:=v8 (HX.out)
 by_cases h1:nm=⟨#[]⟩
 ·
  subst h1
  by_cases h2:(gl.length:Int)=0
  ·
   have e2:gl.length=0:=by omega
   by_cases h3:(wl.length:Int)=0
   ·
    have e3:wl.length=0:=by omega
    rw [e2] at x1;rw [e3] at x2
    by_cases h4:ky=⟨#[]⟩
    ·
     subst h4
     by_cases a1:kd=⟨#[]⟩
     ·
      subst a1
      by_cases a2:p=0
      ·
       subst a2
       by_cases a3:n=0
       ·
        subst a3
        by_cases a4:x=0
        · subst a4;have HN:=Zh (show R=true by rw [<- HR.out];simp [e2,e3]);clear h2 h3 e2 e3;go_wp2_with fail;go_ret;exact ⟨Qq HN.out.symm,HB0.out⟩
        ·
         have HN:=Zh (show R=false by rw [<- HR.out];simp [a4]);have b4:(x==0)=false:=by simpa using a4
         clear h2 h3 e2 e3;go_wp2_with fail;go_ret;exact ⟨Qq HN.out.symm,HB0.out⟩
       ·
        have HN:=Zh (show R=false by rw [<- HR.out];simp [a3]);have b4:(n==0)=false:=by simpa using a3
        clear h2 h3 e2 e3;go_wp2_with fail;go_ret;exact ⟨Qq HN.out.symm,HB0.out⟩
      ·
       have HN:=Zh (show R=false by rw [<- HR.out];simp [a2]);have b4:(p==0)=false:=by simpa using a2
       clear h2 h3 e2 e3;go_wp2_with fail;go_ret;exact ⟨Qq HN.out.symm,HB0.out⟩
     · have HN:=Zh (show R=false by rw [<- HR.out];simp [a1]);have b4:kd.toList.isEmpty=false:=xQ9 a1;clear h2 h3 e2 e3;go_wp2_with fail;go_ret;exact ⟨Qq HN.out.symm,HB0.out⟩
    · have HN:=Zh (show R=false by rw [<- HR.out];simp [h4]);have b4:ky.toList.isEmpty=false:=xQ9 h4;clear h2 h3 e2 e3;go_wp2_with fail;go_ret;exact ⟨Qq HN.out.symm,HB0.out⟩
   ·
    have HN:=Zh (show R=false by rw [<- HR.out,decide_eq_false (show ¬ wl.length=0 by omega)];simp);have b4:((wl.length:Int)==0)=false:=by simpa using h3
    rw [e2] at x1;clear h2 e2;go_wp2_with fail;go_ret;exact ⟨Qq HN.out.symm,HB0.out⟩
  ·
   have HN:=Zh (show R=false by rw [<- HR.out,decide_eq_false (show ¬ gl.length=0 by omega)];simp);have b4:((gl.length:Int)==0)=false:=by simpa using h2
   go_wp2_with fail;go_ret;exact ⟨Qq HN.out.symm,HB0.out⟩
 · have HN:=Zh (show R=false by rw [<- HR.out];simp [h1]);have b4:nm.toList.isEmpty=false:=xQ9 h1;go_wp2_with fail;go_ret;exact ⟨Qq HN.out.symm,HB0.out⟩
theorem DO.zero (w:World):DO w .zero where
 hn:=by decide
 hg:=by decide
 hgs:=fun g h=>by cases h
 gS:=fun i h=>absurd h (Nat.not_lt_zero i)
 gL:=⟨Nat.le_refl _,fun A h=>(by cases h),fun _=>rfl⟩
 hw:=by decide
 wR:=⟨Row.nil _ _ _,⟨Nat.le_refl _,fun A h=>(by cases h),fun _=>rfl⟩,fun p h=>by cases h⟩
 hk:=by decide
theorem jJ5 (o:OPB) (w:World) (hM:MaxW w) (hD:DO w o.d) (hs:o.s.size<=1500000):Calls Tryz.prog 22 #[o.agg] w fun e w'=>e=.returned (.bool (mayO o))/\Below w.heap.size w w':=by
 obtain ⟨k,s,d,ok,id,n⟩:=o;simp only at hD hs;have CM:=Zh (fun W (hb:Below w.heap.size w W)=>zJC d W (hM.grow hb) (hD.grow hb));have CN:=Zh (fun W (hb:Below w.heap.size w W)=>jYd d W (Nat.le_trans hD.hg (by decide)) (Nat.le_trans hD.hw (by decide)));have hNS:=qJL d;obtain ⟨R,hR⟩:∃ R,mayO (OPB.mk k s d ok id n)=R:=⟨_,rfl⟩;rw [hR];unfold mayO at hR;clear hM hD
 try rw [<- hNS] at CN
 simp only at hR;generalize mayD d=md at CM hR;generalize zQ0 d=nd at CN hR;have HR:=Zh hR;have HX:=Zh (Var.new w 48 (OPB.mk k s d ok id n).cells);have HB0:=Zh (Qj (.cells (OPB.mk k s d ok id n).cells.toArray 48) (.refl w.heap.size w));clear hR hNS;unfold OPB.cells at HX HB0;unfold OPB.agg;unfold DB.agg at CM CN
 try unfold DB.zero at CN
 simp only [List.length_nil] at CM CN HX HB0 ⊢;go_enter Tryz.func22,Tryz.ntmps22;go_upto_region 1 with fail
 revert HX HB0;generalize w.alloc (.cells _ 48)=Z;intro HX HB0;obtain ⟨x0,x1,x2,x3,x4,x5,x6,x7,x8,x9,x10,x11,x12⟩:=v13 (HX.out)
 by_cases h1:k < 1
 · have HN:=Zh (show R=false by rw [<- HR.out,decide_eq_false (show ¬ 1<=k by omega)];simp);go_wp2_with fail;go_ret;exact ⟨Qq HN.out.symm,HB0.out⟩
 ·
  by_cases h2:10 < k
  · have HN:=Zh (show R=false by rw [<- HR.out,decide_eq_false (show ¬ k<=10 by omega)];simp);go_wp2_with fail;go_ret;exact ⟨Qq HN.out.symm,HB0.out⟩
  ·
   by_cases h3:2000 < s.size
   · have HN:=Zh (show R=false by rw [<- HR.out,decide_eq_false (show ¬ s.size<=2000 by omega)];simp);go_wp2_with fail;go_ret;exact ⟨Qq HN.out.symm,HB0.out⟩
   ·
    have HR2:Hid (R=if k=2 then md else nd):=Zh (by
     rw [<- HR.out,decide_eq_true (show 1<=k by omega),decide_eq_true (show k<=10 by omega),decide_eq_true (show s.size<=2000 by omega)];simp)
    clear HR
    by_cases h4:k=2
    · subst h4;have HN:=Zh (show R=md by rw [HR2.out,if_pos rfl]);go_wp2_with fail;refine (CM.out _ HB0.out).mono ?_;rintro e w8 ⟨rfl,hb8⟩;have HB8:=Zh (Qk hb8 HB0.out);clear hb8;go_wp2_with fail;go_ret;exact ⟨Qq HN.out.symm,HB8.out⟩
    ·
     have HN:=Zh (show R=nd by rw [HR2.out,if_neg h4]);have b4:(k==2)=false:=by simpa using h4
     clear h4;go_wp2_with fail;refine (CN.out _ HB0.out).mono ?_;rintro e w8 ⟨rfl,hb8⟩;have HB8:=Zh (Qk hb8 HB0.out);clear hb8;go_wp2_with fail;go_ret;exact ⟨Qq HN.out.symm,HB8.out⟩
end Go.Proofs.YtcbicdencgjfiaaGreatDoor
namespace Go.Proofs.YtcbicdencgjfiaaGreatDoor
open Go.RowKit Tryst
theorem vQl {T:TypeId} (B b:Nat) (l:List UInt8) (w:World) (h:BldT T w B b l) (h0:l≠[]) :
  Calls Tryz.prog 33 #[.pointer (some ⟨b,0,none⟩)] w fun e w'=>e=.returned (.string ⟨l.toArray⟩)/\Below B w w':=by
 have hp:∃ p,Lib.BuilderAt T 5 B b p (Lib.byteCells l) w:=by
  unfold BldT Lib.IsBuilder at h
  rcases h with h | h<;>exact ⟨_,h⟩
 obtain ⟨p,-,v,hv,ho,-⟩:=hp;have hl0:0 < l.length:=List.length_pos_iff.2 h0;have hbl:(Lib.byteCells l).length=l.length:=Lib.byteCells_length l
 rcases ho.2 with ⟨_,hz⟩ | ⟨g,cap,cur,rfl,hg,hgh,hnc,hcm,hcs,_⟩
 · omega
 ·
  rw [hbl] at hv hnc ho
  have x1:w.drew.cell? ⟨b,1,none⟩=some (.slice (some ⟨g,0,none⟩) l.length cap):=by
   have e:w.drew.heap[b]?=w.heap[b]?:=rfl;rw [Lib.cell_of_heap (e.trans hv)];rfl
  have q1:(Builtin.unsafeSliceData_ #[77] 146 #[.slice (some ⟨g,0,none⟩) l.length cap]).run Tryz.prog w.drew=.ok (.pointer (some ⟨g,0,none⟩)) w.drew:=Lib.run_unsafeSliceData_row _ _ _ _ _ _ (by omega)
  have hsh:w.drew.shape? g=some (5,cur.size):=by
   have e:w.drew.heap[g]?=some (.cells cur 5 (0,0)):=hgh;simp [World.shape?,e]
  have q2:=Lib.run_unsafeString_row (P:=Tryz.prog) (w:=w.drew) 146 3 9 5 Tryz.underlying146 (by kernel_rfl) g cur.size hsh l h0 (by omega) (by unfold maxLen at hcm;omega) (fun j x hx=>ho.cells (g:=g) rfl j (.int .u8 x.toNat) (by simp [Lib.byteCells,hx]));clear hnc hcm hcs hbl;go_enter Tryz.func33,Tryz.ntmps33;go_wp2
  go_region
  all_goals
   go_wp2;go_ret;exact ⟨rfl,Lib.below_freeze (Below.drew (Below.refl B w)) (p:=⟨g,0,none⟩) hg _⟩
theorem jJT:∀ (d:Nat) (p:Pr),Kg p d=true->Zb p->(Yk p).length<=300*Q9 p:=by
 intro d
 induction d with
 | zero=>
  intro p h;obtain ⟨op,s,num,n,vs,l⟩:=p;rw [Kg] at h;simp at h
 | succ d ih=>
  intro p h hft;obtain ⟨op,s,num,n,vs,l⟩:=p;obtain ⟨k,rfl,h1,h2⟩:=zQ2 h;rw [Zb] at hft;rw [jQ3,Q9];cases k with
  | all=>simp;omega
  | topic=>
   simp only [Jj,Bool.and_eq_true,decide_eq_true_eq] at h1;have:=zQr h1.1;simp at this ⊢;omega
  | has=>
   simp only [Jj,Bool.and_eq_true,decide_eq_true_eq] at h1;have:=Zz h1.1;simp at this ⊢;omega
  | eq=>
   simp only [Jj,Bool.and_eq_true,decide_eq_true_eq,Go.Proofs.YtcbicdencgjfiaaGreatDoor.V.mayB] at h1;have:=Zz h1.1;have:=qQb _ h1.2.1 hft.1;simp at *;omega
  | lt=>
   simp only [Jj,Bool.and_eq_true,decide_eq_true_eq,Go.Proofs.YtcbicdencgjfiaaGreatDoor.V.mayB] at h1;have:=Zz h1.1;have:=qQb _ h1.2.1 hft.1;simp at *;omega
  | not=>
   simp only [Jj,Bool.and_eq_true,decide_eq_true_eq] at h1;obtain ⟨y,rfl⟩:=List.length_eq_one_iff.1 h1.2.2;have hy:Kg y d=true:=by simpa [jQL] using h2
   have fy:Zb y:=by
    have:=hft.2;rw [jQc] at this;exact this.1
   have:=ih y hy fy;simp [Jz,J3];omega
  | and=>
   simp only [Jj,Bool.and_eq_true,decide_eq_true_eq] at h1
   obtain ⟨y,z,rfl⟩:∃ y z,l=[y,z]:=by
    match l,h1.2.2 with
    | [y,z],_=>exact ⟨y,z,rfl⟩
   simp only [jQL,Bool.and_eq_true,and_true] at h2;have hft:=hft.2;simp only [jQc,and_true] at hft;have:=ih y h2.1 hft.1;have:=ih z h2.2 hft.2;simp [Jz,J3];omega
  | or=>
   simp only [Jj,Bool.and_eq_true,decide_eq_true_eq] at h1
   obtain ⟨y,z,rfl⟩:∃ y z,l=[y,z]:=by
    match l,h1.2.2 with
    | [y,z],_=>exact ⟨y,z,rfl⟩
   simp only [jQL,Bool.and_eq_true,and_true] at h2;have hft:=hft.2;simp only [jQc,and_true] at hft;have:=ih y h2.1 hft.1;have:=ih z h2.2 hft.2;simp [Jz,J3];omega
theorem kJe {p:Pr} (h:mayP p=true) (hf:Zb p):(Yk p).length<=12000:=by
 rw [qQi,Bool.and_eq_true,decide_eq_true_eq] at h;have:=jJT 8 p h.1 hf;omega
theorem qJU {d:DB} (h:mayD d=true):∀ p∈d.wl,mayP p.pr=true:=by
 unfold mayD at h;simp only [Bool.and_eq_true,List.all_eq_true] at h;exact h.2.2.2.2.2.2.2
structure DSm (d:DB):Prop where
 name:d.name.size<=16
 key:d.key.size<=16
 kind:d.j.kind.size<=5
 g:d.gl.length<=5
 gs:∀ g∈d.gl,g.size<=40
 w:d.wl.length<=6
theorem qJT {d:DB} (h:mayD d=true):DSm d:=by
 unfold mayD mayJ at h;simp only [Bool.and_eq_true,List.all_eq_true,decide_eq_true_eq,Bool.or_eq_true] at h;obtain ⟨h1,_,h2,⟨_,h3,_,_,h4⟩,h5,h6,h7,_⟩:=h;refine ⟨by have:=Zz h1;rwa [Qx] at this,?_,?_,h2,fun g hg=>by have:=zQr (h7 g hg);rwa [Qx] at this,by omega⟩
 ·
  rcases h6 with h6 | h6
  · rw [h6];decide
  · have:=Zz h6;rwa [Qx] at this
 ·
  split at h4
  ·
   rename_i hk
   rcases hk with hk | hk<;>rw [hk]<;>decide
  ·
   split at h4
   · rename_i hk;rw [hk];decide
   · cases h4
theorem xQE {d:DB} (hf:∀ p∈d.wl,Zb p.pr) (hm:mayD d=true):(defL d.dp).length<=80000:=by
 have h:=qJT hm;have h1:=kQb (f:=strL) (l:=d.gl) (m:=50) (fun x hx=>by have:=kQm x;have:=h.gs x hx;omega)
 have h2:=kQb (f:=Kz) (l:=d.wl.map PB.pr) (m:=12010) (fun x hx=>by
  obtain ⟨q,hq,rfl⟩:=List.mem_map.1 hx;have h4:=kJe (qJU hm q hq) (hf q hq);have:=Jf (Yk q.pr).length;unfold Kz jQM;rw [List.length_append];omega)
 have e1:=Jf d.gl.length;have e2:=Jf d.wl.length;have:=kQm d.name;have:=kQm d.key;have:=kQm d.j.kind;have:=kQk d.j.parts;have:=kQk d.j.need;have:=kQk d.j.window;have:=h.g;have:=h.w;have:=h.name;have:=h.key;have:=h.kind;unfold DB.dp defL Qf;simp only [List.length_append,List.length_map] at h2 ⊢;omega
theorem zJn {q:OPB} (hm:mayO q=true):q.s.size<=2000/\(q.kind=2->mayD q.d=true):=by
 unfold mayO at hm;simp only [Bool.and_eq_true,decide_eq_true_eq] at hm;exact ⟨hm.2.2.1,fun hk=>by rw [if_pos hk] at hm;exact hm.2.2.2⟩
theorem vJN {q:OPB} (hf:∀ p∈q.d.wl,Zb p.pr) (hm:mayO q=true):(opL q.p).length<=90000:=by
 obtain ⟨hs,hk⟩:=zJn hm;have:=kQk q.kind;have:=kQm q.s;have:=Jf q.id;have:=kQk q.n;have e:(zQG q.ok).length=1:=rfl;unfold OPB.p opL OpP.head Tryst.headL;simp only [List.length_append]
 split
 · rename_i h2;have:=xQE hf (hk h2);omega
 · simp only [List.length_nil];omega
theorem vJs (q:OPB):opL q.p≠[]:=by
 intro h;have h2:=congrArg List.length h;unfold OPB.p opL OpP.head Tryst.headL at h2;simp only [List.length_append,List.length_nil] at h2;have e:(zQG q.ok).length=1:=rfl;omega
theorem qJw (q:OPB) (w:World) (hM:MaxW w) (hT:Tab w) (hD:DO w q.d) (hj:JIn q.d.j) (hq:OPIn q) (hs:q.s.size<=1500000) :
  Calls Tryz.prog 17 #[q.agg] w fun e w'=>e=.returned (.tuple #[.string (if mayO q=true then ⟨(opL q.p).toArray⟩ else ⟨#[]⟩),.int .i64 (if mayO q=true then 0 else 1)])/\Below w.heap.size w w':=by
 have CM:=Zh (fun W (hb:Below w.heap.size w W)=>jJ5 q W (hM.grow hb) (hD.grow hb) hs);have CP:=Zh (fun (hm:mayO q=true) W0 (hb:Below w.heap.size w W0) Y X b hX=>pop_c q (W0:=W0) (Y:=Y) (w:=X) (b:=b) (o:=[]) hX (hM.grow hb) (hT.grow hb) (hD.grow hb) hj hq (fun hk=>qJU ((zJn hm).2 hk)) (by have:=vJN (fun p hp=>qQd p (hD.wR.po p hp).1) hm;simp;omega));have hne:=vJs q;obtain ⟨m,hm⟩:∃ m,mayO q=m:=⟨_,rfl⟩;rw [hm] at CM CP;rw [hm];generalize opL q.p=L at CP hne ⊢;clear hM hT hD hj hq hs hm;have HNE:=Zh hne;clear hne;obtain ⟨k,s,d,ok,id,n⟩:=q;have HX:=Zh (Var.new w 48 (OPB.mk k s d ok id n).cells);have HB0:=Zh (Qj (.cells (OPB.mk k s d ok id n).cells.toArray 48) (.refl w.heap.size w));unfold OPB.cells at HX HB0;unfold OPB.agg at CM CP ⊢;simp only at CM CP HX HB0 ⊢;go_enter Tryz.func17,Tryz.ntmps17;go_upto_region 1 with fail
 revert HX HB0;generalize w.alloc (.cells _ 48)=Z;intro HX HB0;obtain ⟨x0,x1,x2,x3,x4,x5,x6,x7,x8,x9,x10,x11,x12⟩:=v13 (HX.out);cases m with
 | false=>
  go_wp2_with fail;refine (CM.out _ HB0.out).mono ?_;rintro e w2 ⟨rfl,hb2⟩;have HB2:=Zh (Qk hb2 HB0.out);clear hb2;go_wp2_with fail;go_ret2;exact ⟨by simp,HB2.out⟩
 | true=>
  have HX0:=HX;go_wp2_with fail;refine (CM.out _ HB0.out).mono ?_;rintro e w2 ⟨rfl,hb2⟩;have HB2:=Zh (Qk hb2 HB0.out);have HX2:=Zh (HX.out.grow hb2);clear hb2 HX HB0 x0 x1 x2 x3 x4 x5 x6 x7 x8 x9 x10 x11 x12 HX0;have HP:=Zh (show PenS w2 (w2.alloc (.cells #[.pointer none,.slice none 0 0] 81)) w2.heap.size [] (w2.alloc (.cells #[.pointer none,.slice none 0 0] 81)) from ⟨Lib.fresh_isBuilder 81 5 w2,Qj _ (.refl _ _),Kept.refl _ _⟩);have HX3:=Zh (HX2.out.grow (Qj (.cells #[.pointer none,.slice none 0 0] 81) (.refl _ w2)));go_upto_region 4 with fail
  revert HP HX3;generalize w2.alloc (.cells #[.pointer none,.slice none 0 0] 81)=Y;intro HP HX3;obtain ⟨x0,x1,x2,x3,x4,x5,x6,x7,x8,x9,x10,x11,x12⟩:=v13 (HX3.out);go_wp2_with fail;refine (CP.out (by trivial) w2 HB2.out _ _ _ HP.out).mono ?_;rintro e w3 ⟨rfl,h3⟩;have H3:=Zh h3;clear h3 HP HX3 x0 x1 x2 x3 x4 x5 x6 x7 x8 x9 x10 x11 x12;go_wp2_with fail;refine (vQl w2.heap.size _ _ _ H3.out.bld HNE.out).mono ?_;rintro e w4 ⟨rfl,hb4⟩;have HB4:=Zh (Qk (H3.out.low.trans hb4) HB2.out);clear hb4 H3;go_wp2_with fail;go_ret2;exact ⟨by simp,HB4.out⟩
