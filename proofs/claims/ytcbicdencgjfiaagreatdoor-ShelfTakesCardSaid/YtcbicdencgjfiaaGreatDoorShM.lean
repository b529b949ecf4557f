import Derived.Deep.CutRange
import Derived.LaidEql
import Derived.Test.YtcbicdencgjfiaaGreatDoorDefU
import Derived.Test.YtcbicdencgjfiaaGreatDoorMeetB
import Derived.Test.YtcbicdencgjfiaaGreatDoorPenL
import Derived.Test.YtcbicdencgjfiaaGreatDoorRFH5
import Derived.Test.YtcbicdencgjfiaaGreatDoorRMeet5
import Derived.Test.YtcbicdencgjfiaaGreatDoorRNS5
set_option linter.all false
set_option maxHeartbeats 4000000
set_option maxRecDepth 20000
namespace Go.Proofs.YtcbicdencgjfiaaGreatDoor
open Go.RowKit Tryst
theorem zY1 (j:JB) (w:World):Calls Tryz.prog 119 #[.agg #[.string j.kind,.int .i64 j.parts,.int .i64 j.need,.int .i64 j.window]] w fun e w'=>e=.returned (.bool (mayJ j))/\Below w.heap.size w w':=by
 obtain ⟨kd,p,n,x⟩:=j;obtain ⟨R,hR⟩:∃ R,mayJ ⟨kd,p,n,x⟩=R:=⟨_,rfl⟩;rw [hR];unfold mayJ at hR;simp only at hR;have HR:=Zh hR;have HB:=Zh (Qj (.cells #[.string kd,.int .i64 p,.int .i64 n,.int .i64 x] 43) (.refl w.heap.size w));clear hR;have key:∀ k:ByteArray,¬ kd=k->(kd.toList==k.data.toList)=false:=fun k hk=>by rw [beq_eq_false_iff_ne];exact fun e=>hk (Xk (by rw [<- Qp,e]))
 by_cases kc:kd=⟨#[99,111,117,110,116]⟩
 ·
  subst kc;clear key
  by_cases hn:n < 1
  · have HN:=Zh (show R=false by rw [<- HR.out];simp;omega);go_enter Tryz.func119,Tryz.ntmps119;go_wp2_with fail;go_ret;exact ⟨Qq HN.out.symm,HB.out⟩
  ·
   by_cases hm:30 < n
   · have HN:=Zh (show R=false by rw [<- HR.out];simp;omega);go_enter Tryz.func119,Tryz.ntmps119;go_wp2_with fail;go_ret;exact ⟨Qq HN.out.symm,HB.out⟩
   ·
    have HK:Hid (R=(decide (1<=p)&&(decide (p<=6)&&(decide (0<=x)&&decide (x<=1073741824))))):=Zh (by
     rw [<- HR.out,if_neg (by decide),if_pos rfl,decide_eq_true (show 1<=n by omega),decide_eq_true (show n<=30 by omega)];simp)
    clear HR
    by_cases h1:1<=p
    ·
     by_cases h2:p<=6
     ·
      by_cases h3:0<=x
      ·
       by_cases h4:x<=1073741824
       · have HN:=Zh (show R=true by rw [HK.out];simp [h1,h2,h3,h4]);go_enter Tryz.func119,Tryz.ntmps119;go_wp2_with fail;go_ret;exact ⟨Qq HN.out.symm,HB.out⟩
       · have HN:=Zh (show R=false by rw [HK.out];simp [h4]);go_enter Tryz.func119,Tryz.ntmps119;go_wp2_with fail;go_ret;exact ⟨Qq HN.out.symm,HB.out⟩
      · have HN:=Zh (show R=false by rw [HK.out];simp [h3]);go_enter Tryz.func119,Tryz.ntmps119;go_wp2_with fail;go_ret;exact ⟨Qq HN.out.symm,HB.out⟩
     · have HN:=Zh (show R=false by rw [HK.out];simp [h2]);go_enter Tryz.func119,Tryz.ntmps119;go_wp2_with fail;go_ret;exact ⟨Qq HN.out.symm,HB.out⟩
    · have HN:=Zh (show R=false by rw [HK.out];simp [h1]);go_enter Tryz.func119,Tryz.ntmps119;go_wp2_with fail;go_ret;exact ⟨Qq HN.out.symm,HB.out⟩
 ·
  have q3:(kd.toList==[99,111,117,110,116])=false:=key _ kc
  by_cases ka:kd=⟨#[97,108,108]⟩
  ·
   subst ka;clear key kc
   by_cases hn:n=0
   ·
    subst hn
    have HK:Hid (R=(decide (1<=p)&&(decide (p<=6)&&(decide (0<=x)&&decide (x<=1073741824))))):=Zh (by
     rw [<- HR.out];simp)
    clear HR
    by_cases h1:1<=p
    ·
     by_cases h2:p<=6
     ·
      by_cases h3:0<=x
      ·
       by_cases h4:x<=1073741824
       · have HN:=Zh (show R=true by rw [HK.out];simp [h1,h2,h3,h4]);go_enter Tryz.func119,Tryz.ntmps119;go_wp2_with fail;go_ret;exact ⟨Qq HN.out.symm,HB.out⟩
       · have HN:=Zh (show R=false by rw [HK.out];simp [h4]);go_enter Tryz.func119,Tryz.ntmps119;go_wp2_with fail;go_ret;exact ⟨Qq HN.out.symm,HB.out⟩
      · have HN:=Zh (show R=false by rw [HK.out];simp [h3]);go_enter Tryz.func119,Tryz.ntmps119;go_wp2_with fail;go_ret;exact ⟨Qq HN.out.symm,HB.out⟩
     · have HN:=Zh (show R=false by rw [HK.out];simp [h2]);go_enter Tryz.func119,Tryz.ntmps119;go_wp2_with fail;go_ret;exact ⟨Qq HN.out.symm,HB.out⟩
    · have HN:=Zh (show R=false by rw [HK.out];simp [h1]);go_enter Tryz.func119,Tryz.ntmps119;go_wp2_with fail;go_ret;exact ⟨Qq HN.out.symm,HB.out⟩
   ·
    have HN:=Zh (show R=false by rw [<- HR.out];simp [hn]);have hn2:(n==0)=false:=by simpa using hn
    go_enter Tryz.func119,Tryz.ntmps119;go_wp2_with fail;go_ret;exact ⟨Qq HN.out.symm,HB.out⟩
  ·
   have q1:(kd.toList==[97,108,108])=false:=key _ ka
   by_cases kb:kd=⟨#[97,110,121]⟩
   ·
    subst kb;clear key kc ka
    by_cases hn:n=0
    ·
     subst hn
     have HK:Hid (R=(decide (1<=p)&&(decide (p<=6)&&(decide (0<=x)&&decide (x<=1073741824))))):=Zh (by
      rw [<- HR.out];simp)
     clear HR
     by_cases h1:1<=p
     ·
      by_cases h2:p<=6
      ·
       by_cases h3:0<=x
       ·
        by_cases h4:x<=1073741824
        · have HN:=Zh (show R=true by rw [HK.out];simp [h1,h2,h3,h4]);go_enter Tryz.func119,Tryz.ntmps119;go_wp2_with fail;go_ret;exact ⟨Qq HN.out.symm,HB.out⟩
        · have HN:=Zh (show R=false by rw [HK.out];simp [h4]);go_enter Tryz.func119,Tryz.ntmps119;go_wp2_with fail;go_ret;exact ⟨Qq HN.out.symm,HB.out⟩
       · have HN:=Zh (show R=false by rw [HK.out];simp [h3]);go_enter Tryz.func119,Tryz.ntmps119;go_wp2_with fail;go_ret;exact ⟨Qq HN.out.symm,HB.out⟩
      · have HN:=Zh (show R=false by rw [HK.out];simp [h2]);go_enter Tryz.func119,Tryz.ntmps119;go_wp2_with fail;go_ret;exact ⟨Qq HN.out.symm,HB.out⟩
     · have HN:=Zh (show R=false by rw [HK.out];simp [h1]);go_enter Tryz.func119,Tryz.ntmps119;go_wp2_with fail;go_ret;exact ⟨Qq HN.out.symm,HB.out⟩
    ·
     have HN:=Zh (show R=false by rw [<- HR.out];simp [hn]);have hn2:(n==0)=false:=by simpa using hn
     go_enter Tryz.func119,Tryz.ntmps119;go_wp2_with fail;go_ret;exact ⟨Qq HN.out.symm,HB.out⟩
   · have q2:(kd.toList==[97,110,121])=false:=key _ kb;have HN:=Zh (show R=false by rw [<- HR.out,if_neg (by rintro (h | h);exact ka h;exact kb h),if_neg kc];simp);clear key ka kb kc;go_enter Tryz.func119,Tryz.ntmps119;go_wp2_with fail;go_ret;exact ⟨Qq HN.out.symm,HB.out⟩
set_option maxHeartbeats 8000000 in
theorem vYH (d:DB) (w:World) (hD:DO w d):Calls Tryz.prog 58 #[d.agg] w fun e w'=>e=.returned (.bool (mayD d))/\Below w.heap.size w w':=by
 have CF:=Zh (fun W=>J1 d.name (Nat.le_trans hD.hn (by decide)) W);have CK:=Zh (fun W=>J1 d.key (Nat.le_trans hD.hk (by decide)) W);have CJ:=Zh (fun W=>zY1 d.j W);have CG:=Zh (fun (k:Nat) (hk:k < d.gl.length) W=>zYM d.gl[k] (Nat.le_trans (hD.hgs _ (List.getElem_mem hk)) (by decide)) W);have cP:=(fun (k:Nat) (hk:k < d.wl.length) W (hb:Below w.heap.size w W)=>vYV d.wl[k] W ((hD.wR.po _ (List.getElem_mem hk)).1.grow hb));unfold PB.agg at cP;have CP:=Zh cP;have HG:=Zh (fun W (hb:Below w.heap.size w W)=>hD.gS.grow hb);have HU:=Zh (fun W (hb:Below w.heap.size w W)=>hD.wR.grow hb);obtain ⟨R,hR⟩:∃ R,mayD d=R:=⟨_,rfl⟩;rw [hR];unfold mayD at hR;unfold DB.agg;have hlw:=hD.hw;have hlg:=hD.hg;clear hD cP;obtain ⟨nm,ga,gl,gc,wa,wl,wc,ky,j⟩:=d;simp only at CF CK CJ CG CP HG HU hR hlw hlg ⊢;obtain ⟨fb,hfb⟩:∃ b,Q5 nm.data.toList=b:=⟨_,rfl⟩;obtain ⟨kb,hkb⟩:∃ b,Q5 ky.data.toList=b:=⟨_,rfl⟩;obtain ⟨jb,hjb⟩:∃ b,mayJ j=b:=⟨_,rfl⟩;obtain ⟨gb,hgb⟩:∃ b,(gl.all fun s=>Yz s.data.toList)=b:=⟨_,rfl⟩;obtain ⟨pb,hpb⟩:∃ b,(wl.all fun p=>mayP p.pr)=b:=⟨_,rfl⟩;rw [hfb] at CF hR;rw [hkb] at CK hR;rw [hjb] at CJ hR;rw [hgb,hpb] at hR;have HG0:Hid (gb=(gl.drop 0).all fun s=>Yz s.data.toList):=Zh (by rw [<- hgb];rfl);have HP0:Hid (pb=(wl.drop 0).all fun p=>mayP p.pr):=Zh (by rw [<- hpb];rfl);clear hfb hkb hjb hgb hpb;obtain ⟨kd,p,n,x⟩:=j;simp only at CJ hR ⊢;have HR:=Zh hR;clear hR;go_enter Tryz.func58,Tryz.ntmps58;go_upto_region 1 with fail
 refine Qg (fun v=>Hid (DX v w.heap.size nm (.slice ga gl.length gc) (.slice wa wl.length wc) ky kd p n x)/\Hid (Below w.heap.size w v)) ⟨DX.new _ _ _ _ _ _ _ _ _,Qj _ (.refl _ _)⟩ ?_;rintro Y ⟨HX,HY⟩;obtain ⟨g,hg⟩:∃ g,w.heap.size=g:=⟨_,rfl⟩;rw [hg] at HX;simp only [hg];go_wp2_with fail;go_loopw [3] (fun i wr=>AllR gb (fun s:ByteArray=>Yz s.data.toList) gl Y i wr) (fun i _=>gl.length - (intOf i).toNat)
 case atStart=>exact ⟨0,by omega,rfl,HG0,.refl _ _,by omega⟩
 case round=>
  obtain ⟨k,hk,rfl,HP,HW,hz⟩:=hrel;obtain ⟨wo,rfl⟩:∃ wo,wo=wr:=⟨_,rfl⟩;have HXo:=Zh (HX.out.grow HW.out);obtain ⟨x0,x1,x2,x3,x4,x5,x6,x7,x8⟩:=HXo.out.box;have HBo:=Zh (Qk HW.out HY.out);clear HG0
  by_cases hlt:k < gl.length
  ·
   obtain ⟨b,o,ha,hb⟩:=(HG.out wo HBo.out).head hlt;subst ha;have hc1:=((HG.out wo HBo.out).at hlt).2;have hst:=zQJ hlt HP.out;obtain ⟨pp,hpp⟩:∃ pp,Yz gl[k].data.toList=pp:=⟨_,rfl⟩;rw [hpp] at hst;have HPP:=Zh hpp;have HST:=Zh hst;have HCC:=Zh (CG.out k hlt);clear hpp hst HP;go_wp2_with fail;refine (HCC.out _).mono ?_;rintro e w2 ⟨rfl,hb2⟩;have HB2:=Zh (Qk hb2 HW.out);have HBB:=Zh (Qk hb2 HBo.out);clear hb2 HCC;rw [HPP.out];cases pp with
   | true=>
    have HN:Hid (gb=(gl.drop (k+1)).all fun s=>Yz s.data.toList):=Zh (by have:=HST.out;rwa [Bool.true_and] at this);go_wp2_with fail;go_roundw
    case rel=>exact ⟨k+1,by omega,by go_num,HN,HB2.out,HB2.out.size⟩
    case measure=>simp [intOf]<;>omega
   | false=>
    have HN:Hid (R=false):=Zh (by
     have h5:=HST.out;rw [Bool.false_and] at h5;rw [<- HR.out,h5];simp)
    go_wp2_with fail;go_ret;exact ⟨Qq HN.out.symm,HBB.out⟩
  ·
   obtain rfl:gb=true:=vQC (by omega:gl.length<=k) HP.out;clear HP;go_wp2_with fail;go_loopw [4] (fun i wr=>AllR pb (fun p:PB=>mayP p.pr) wl wo i wr) (fun i _=>wl.length - (intOf i).toNat)
   case atStart=>exact ⟨0,by omega,rfl,HP0,.refl _ _,by omega⟩
   case round=>
    clear x0 x1 x2 x3 x4 x5 x6 x7 x8 HX HP0;obtain ⟨m,hm,rfl,HP,HW2,hz2⟩:=hrel;obtain ⟨wp,rfl⟩:∃ wp,wp=wr:=⟨_,rfl⟩;have HXp:=Zh (HXo.out.grow HW2.out);obtain ⟨x0,x1,x2,x3,x4,x5,x6,x7,x8⟩:=HXp.out.box;have HBp:=Zh (Qk HW2.out HBo.out);clear HW HXo HBo
    by_cases hlt2:m < wl.length
    ·
     obtain ⟨b,o,ha,hb⟩:=(HU.out wp HBp.out).head hlt2;subst ha;obtain ⟨_,f0,f1,f2,f3,f4,f5⟩:=Row.pat (HU.out wp HBp.out).row hlt2;have hst:=zQJ hlt2 HP.out;obtain ⟨pp,hpp⟩:∃ pp,mayP wl[m].pr=pp:=⟨_,rfl⟩;rw [hpp] at hst;have HPP:=Zh hpp;have HST:=Zh hst;have HCC:=Zh (CP.out m hlt2);clear hpp hst HP;go_wp2_with fail;refine (HCC.out _ HBp.out).mono ?_;rintro e w2 ⟨rfl,hb2⟩;have HB2:=Zh (Qk hb2 HW2.out);have HBB:=Zh (Qk hb2 HBp.out);clear hb2 HCC;rw [HPP.out];cases pp with
     | true=>
      have HN:Hid (pb=(wl.drop (m+1)).all fun p=>mayP p.pr):=Zh (by have:=HST.out;rwa [Bool.true_and] at this);go_wp2_with fail;go_roundw
      case rel=>exact ⟨m+1,by omega,by go_num,HN,HB2.out,HB2.out.size⟩
      case measure=>simp [intOf]<;>omega
     | false=>
      have HN:Hid (R=false):=Zh (by
       have h5:=HST.out;rw [Bool.false_and] at h5;rw [<- HR.out,h5];simp)
      go_wp2_with fail;go_ret;exact ⟨Qq HN.out.symm,HBB.out⟩
    ·
     obtain rfl:pb=true:=vQC (by omega:wl.length<=m) HP.out;clear HP CG CP HG HU;go_wp2_with fail;refine (CF.out _).mono ?_;rintro e w1 ⟨rfl,hb1⟩;have HX1:=Zh (HXp.out.grow hb1);have HB1:=Zh (Qk hb1 HBp.out);clear hb1 CF x0 x1 x2 x3 x4 x5 x6 x7 x8 HW2 HXp HBp;obtain ⟨x0,x1,x2,x3,x4,x5,x6,x7,x8⟩:=HX1.out.box;cases fb with
     | false=>
      have HN:=Zh (show R=false by rw [<- HR.out];rfl);go_wp2_with fail;go_ret;exact ⟨Qq HN.out.symm,HB1.out⟩
     | true=>
      by_cases h1:(1:Int)<=(gl.length:Int)
      ·
       by_cases h2:(gl.length:Int)<=5
       ·
        have HR2:Hid ((jb&&(decide ((wl.length:Int)=p)&&(decide (ky=⟨#[]⟩)||kb)))=R):=Zh (by
         rw [<- HR.out,decide_eq_true (show 1<=gl.length by omega),decide_eq_true (show gl.length<=5 by omega)];simp only [Bool.true_and,Bool.and_true])
        clear HR;go_wp2_with fail;refine (CJ.out _).mono ?_;rintro e w2 ⟨rfl,hb2⟩;have HX2:=Zh (HX1.out.grow hb2);have HB2:=Zh (Qk hb2 HB1.out);clear hb2 HX1 HB1 CJ x0 x1 x2 x3 x4 x5 x6 x7 x8;obtain ⟨x0,x1,x2,x3,x4,x5,x6,x7,x8⟩:=HX2.out.box;cases jb with
        | false=>
         have HN:=Zh (show R=false by rw [<- HR2.out];rfl);go_wp2_with fail;go_ret;exact ⟨Qq HN.out.symm,HB2.out⟩
        | true=>
         by_cases h3:(wl.length:Int)=p
         ·
          subst h3;have HR3:Hid ((decide (ky=⟨#[]⟩)||kb)=R):=Zh (by rw [<- HR2.out];simp);clear HR2
          by_cases hk:ky=⟨#[]⟩
          · subst hk;have HN:Hid (R=true):=Zh (by rw [<- HR3.out];simp);clear HR3;go_wp2_with fail;go_ret;exact ⟨Qq HN.out.symm,HB2.out⟩
          ·
           have hky:(ky.toList==[])=false:=by rw [beq_eq_false_iff_ne];exact fun e=>hk (Xk (by rw [<- Qp,e]))
           have HN:Hid (R=kb):=Zh (by rw [<- HR3.out];simp [hk]);clear hk HR3;go_wp2_with fail;refine (CK.out _).mono ?_;rintro e w3 ⟨rfl,hb3⟩;have HB3:=Zh (Qk hb3 HB2.out);clear hb3;go_wp2_with fail;go_ret;exact ⟨Qq HN.out.symm,HB3.out⟩
         · have HN:=Zh (show R=false by rw [<- HR2.out];simp [h3]);go_wp2_with fail;go_ret;exact ⟨Qq HN.out.symm,HB2.out⟩
       ·
        have HN:=Zh (show R=false by rw [<- HR.out];simp;omega);go_wp2_with fail;go_ret;refine ⟨Qq HN.out.symm,?_⟩
        first | exact HB1.out | (rw [<- hg];exact HB1.out)
      ·
       have HN:=Zh (show R=false by rw [<- HR.out];simp;omega);go_wp2_with fail;go_ret;refine ⟨Qq HN.out.symm,?_⟩
       first | exact HB1.out | (rw [<- hg];exact HB1.out)
end Go.Proofs.YtcbicdencgjfiaaGreatDoor
namespace Go.Proofs.YtcbicdencgjfiaaGreatDoor
open Go.RowKit Tryst
theorem PenS.lt {W0 Y w:World} {b:Nat} {l:List UInt8} (h:PenS W0 Y b l w):b < w.heap.size:=(BldT.lt h.bld).2
theorem DX.kept {W0 Y w:World} {b g:Nat} {l:List UInt8} {nm ky kd:ByteArray} {G U:Value} {p n x:Int} (h:PenS W0 Y b l w) (hx:DX Y g nm G U ky kd p n x) (hg:g≠b):DX w g nm G U ky kd p n x:=Kept.box h.kept hx hg (by decide)
theorem vJW (d:DB) {W0 Y w:World} {b:Nat} {o:List UInt8} (h:PenS W0 Y b o w) (hM:MaxW W0) (hT:Tab W0) (hD:DO W0 d) (hj:JIn d.j) (hm:∀ p∈d.wl,mayP p.pr=true) (hl:o.length+(defL d.dp).length<=800000000) :
  Calls Tryz.prog 112 #[.pointer (some ⟨b,0,none⟩),d.agg] w (PenR W0 Y b (o++defL d.dp)):=by
 have HG:=Zh (fun (Z wx:World) (ox:List UInt8) (hx:PenS W0 Z b ox wx) hlx=>jJe d.ga d.gc d.gl hx hD.gS hlx (Nat.le_trans hD.hg (by decide)));have HU:=Zh (fun (Z wx:World) (ox:List UInt8) (hx:PenS W0 Z b ox wx) hlx=>vJV d.wa d.wc d.wl hx hM hT hD.wR hm (fun p hp=>qQd p (hD.wR.po p hp).1) hlx (Nat.le_trans hD.hw (by decide)));have H0:=Zh h;have hbw:=h.lt;obtain ⟨j0,j1,j2,j3,j4,j5,j6⟩:=hj;clear h hM hT hD hm;obtain ⟨nm,ga,gl,gc,wa,wl,wc,ky,⟨kd,p,n,x⟩⟩:=d;unfold DB.agg;unfold DB.dp defL at hl ⊢;simp only [List.length_append] at HG HU hl j0 j1 j2 j3 j4 j5 j6 ⊢;have HX:=Zh (DX.new w nm (.slice ga gl.length gc) (.slice wa wl.length wc) ky kd p n x);have B0:=Zh (Qj (.cells #[.string nm,.slice ga gl.length gc,.slice wa wl.length wc,.string ky,.string kd,.int .i64 p,.int .i64 n,.int .i64 x] 45) (.refl w.heap.size w));have H1:=Zh (H0.out.enter B0.out);go_enter Tryz.func112,Tryz.ntmps112;go_upto_region 1 with fail
 revert HX B0 H1;generalize w.alloc (.cells #[.string nm,.slice ga gl.length gc,.slice wa wl.length wc,.string ky,.string kd,.int .i64 p,.int .i64 n,.int .i64 x] 45)=Z;intro HX B0 H1;have hgb:w.heap.size≠b:=by omega
 generalize w.heap.size=g at HX hgb ⊢;obtain ⟨x0,x1,x2,x3,x4,x5,x6,x7,x8⟩:=HX.out.box;go_wp2_with fail;refine (Zg nm H1.out (by omega)).mono ?_;rintro e w2 ⟨rfl,h2⟩;have H2:=Zh h2;clear h2 H1 x0 x1 x2 x3 x4 x5 x6 x7 x8;obtain ⟨x0,x1,x2,x3,x4,x5,x6,x7,x8⟩:=(DX.kept H2.out HX.out hgb).box;go_wp2_with fail;refine (HG.out _ _ _ H2.out (by simp only [List.length_append];omega)).mono ?_;rintro e w3 ⟨rfl,h3⟩;have H3:=Zh h3;clear h3 H2 x0 x1 x2 x3 x4 x5 x6 x7 x8;obtain ⟨x0,x1,x2,x3,x4,x5,x6,x7,x8⟩:=(DX.kept H3.out HX.out hgb).box;go_wp2_with fail;refine (HU.out _ _ _ H3.out (by simp only [List.length_append];omega)).mono ?_;rintro e w4 ⟨rfl,h4⟩;have H4:=Zh h4;clear h4 H3 x0 x1 x2 x3 x4 x5 x6 x7 x8;obtain ⟨x0,x1,x2,x3,x4,x5,x6,x7,x8⟩:=(DX.kept H4.out HX.out hgb).box;go_wp2_with fail;refine (Zg ky H4.out (by simp only [List.length_append];omega)).mono ?_;rintro e w5 ⟨rfl,h5⟩;have H5:=Zh h5;clear h5 H4 x0 x1 x2 x3 x4 x5 x6 x7 x8;obtain ⟨x0,x1,x2,x3,x4,x5,x6,x7,x8⟩:=(DX.kept H5.out HX.out hgb).box;go_wp2_with fail;refine (Zg kd H5.out (by simp only [List.length_append];omega)).mono ?_;rintro e w6 ⟨rfl,h6⟩;have H6:=Zh h6;clear h6 H5 x0 x1 x2 x3 x4 x5 x6 x7 x8;obtain ⟨x0,x1,x2,x3,x4,x5,x6,x7,x8⟩:=(DX.kept H6.out HX.out hgb).box;go_wp2_with fail;refine (Jk p j1 j2 H6.out (by simp only [List.length_append];omega)).mono ?_;rintro e w7 ⟨rfl,h7⟩;have H7:=Zh h7;clear h7 H6 x0 x1 x2 x3 x4 x5 x6 x7 x8;obtain ⟨x0,x1,x2,x3,x4,x5,x6,x7,x8⟩:=(DX.kept H7.out HX.out hgb).box;go_wp2_with fail;refine (Jk n j3 j4 H7.out (by simp only [List.length_append];omega)).mono ?_;rintro e w8 ⟨rfl,h8⟩;have H8:=Zh h8;clear h8 H7 x0 x1 x2 x3 x4 x5 x6 x7 x8;obtain ⟨x0,x1,x2,x3,x4,x5,x6,x7,x8⟩:=(DX.kept H8.out HX.out hgb).box;go_wp2_with fail;refine (Jk x j5 j6 H8.out (by simp only [List.length_append];omega)).mono ?_;rintro e w9 ⟨rfl,h9⟩;have H9:=Zh h9;clear h9 H8 x0 x1 x2 x3 x4 x5 x6 x7 x8;obtain ⟨x0,x1,x2,x3,x4,x5,x6,x7,x8⟩:=(DX.kept H9.out HX.out hgb).box;go_wp2_with fail;go_end0;exact ⟨rfl,(H0.out.leave B0.out H9.out).tto (by simp only [List.append_assoc])⟩
theorem _root_.Tryst.Var.kept {W0 Y w:World} {b g:Nat} {l:List UInt8} {T:TypeId} {cs:List Value} (h:PenS W0 Y b l w) (hx:Var Y g T cs) (hg:g≠b) (hT:T≠5):Var w g T cs:=Kept.box h.kept hx hg hT
theorem pop_c (q:OPB) {W0 Y w:World} {b:Nat} {o:List UInt8} (h:PenS W0 Y b o w) (hM:MaxW W0) (hT:Tab W0) (hD:DO W0 q.d) (hj:JIn q.d.j) (hq:OPIn q) (hm:q.kind=2->∀ p∈q.d.wl,mayP p.pr=true) (hl:o.length+(opL q.p).length<=800000000) :
  Calls Tryz.prog 56 #[.pointer (some ⟨b,0,none⟩),q.agg] w (PenR W0 Y b (o++opL q.p)):=by
 have HD:=Zh (fun (hk:q.kind=2) (Z wx:World) (ox:List UInt8) (hx:PenS W0 Z b ox wx) hlx=>vJW q.d hx hM hT hD hj (hm hk) hlx);have H0:=Zh h;have hbw:=h.lt;obtain ⟨k0,k1,n0,n1,i0⟩:=hq;clear h hM hT hD hm hj;obtain ⟨k,s,d,ok,id,n⟩:=q;have HX:=Zh (Var.new w 48 (OPB.mk k s d ok id n).cells);have B0:=Zh (Qj (.cells (OPB.mk k s d ok id n).cells.toArray 48) (.refl w.heap.size w));have H1:=Zh (H0.out.enter B0.out);unfold OPB.cells at HX B0 H1;unfold OPB.agg;unfold OPB.p opL OpP.head Tryst.headL at hl ⊢;unfold DB.agg at HD;simp only [List.length_append] at HD HX B0 H1 hl k0 k1 n0 n1 i0 ⊢;go_enter Tryz.func56,Tryz.ntmps56;go_upto_region 1 with fail
 revert HX B0 H1;generalize w.alloc (.cells _ 48)=Z;intro HX B0 H1;have hgb:w.heap.size≠b:=by omega
 generalize w.heap.size=g at HX hgb ⊢;obtain ⟨x0,x1,x2,x3,x4,x5,x6,x7,x8,x9,x10,x11,x12⟩:=v13 (HX.out)
 by_cases hk:k=2
 · subst hk;rw [if_pos rfl] at hl ⊢;go_wp2_with fail;refine (Jk 2 k0 k1 H1.out (by omega)).mono ?_;rintro e w2 ⟨rfl,h2⟩;have H2:=Zh h2;clear h2 H1 x0 x1 x2 x3 x4 x5 x6 x7 x8 x9 x10 x11 x12;obtain ⟨x0,x1,x2,x3,x4,x5,x6,x7,x8,x9,x10,x11,x12⟩:=v13 ((Var.kept H2.out HX.out hgb (by decide)));go_wp2_with fail;refine (Zg s H2.out (by simp only [List.length_append];omega)).mono ?_;rintro e w3 ⟨rfl,h3⟩;have H3:=Zh h3;clear h3 H2 x0 x1 x2 x3 x4 x5 x6 x7 x8 x9 x10 x11 x12;obtain ⟨x0,x1,x2,x3,x4,x5,x6,x7,x8,x9,x10,x11,x12⟩:=v13 ((Var.kept H3.out HX.out hgb (by decide)));go_wp2_with fail;refine (xQx ok H3.out (by simp only [List.length_append];omega)).mono ?_;rintro e w4 ⟨rfl,h4⟩;have H4:=Zh h4;clear h4 H3 x0 x1 x2 x3 x4 x5 x6 x7 x8 x9 x10 x11 x12;obtain ⟨x0,x1,x2,x3,x4,x5,x6,x7,x8,x9,x10,x11,x12⟩:=v13 ((Var.kept H4.out HX.out hgb (by decide)));go_wp2_with fail;refine (jQD id (by omega) H4.out (by simp only [List.length_append];omega)).mono ?_;rintro e w5 ⟨rfl,h5⟩;have H5:=Zh h5;clear h5 H4 x0 x1 x2 x3 x4 x5 x6 x7 x8 x9 x10 x11 x12;obtain ⟨x0,x1,x2,x3,x4,x5,x6,x7,x8,x9,x10,x11,x12⟩:=v13 ((Var.kept H5.out HX.out hgb (by decide)));go_wp2_with fail;refine (Jk n n0 n1 H5.out (by simp only [List.length_append];omega)).mono ?_;rintro e w6 ⟨rfl,h6⟩;have H6:=Zh h6;clear h6 H5 x0 x1 x2 x3 x4 x5 x6 x7 x8 x9 x10 x11 x12;obtain ⟨x0,x1,x2,x3,x4,x5,x6,x7,x8,x9,x10,x11,x12⟩:=v13 ((Var.kept H6.out HX.out hgb (by decide)));go_wp2_with fail;refine (HD.out (by trivial) _ _ _ H6.out (by simp only [List.length_append];omega)).mono ?_;rintro e w7 ⟨rfl,h7⟩;have H7:=Zh h7;clear h7 H6 x0 x1 x2 x3 x4 x5 x6 x7 x8 x9 x10 x11 x12;obtain ⟨x0,x1,x2,x3,x4,x5,x6,x7,x8,x9,x10,x11,x12⟩:=v13 ((Var.kept H7.out HX.out hgb (by decide)));go_wp2_with fail;go_end0;exact ⟨rfl,(H0.out.leave B0.out H7.out).tto (by simp only [List.append_assoc])⟩
 ·
  rw [if_neg hk] at hl ⊢;have hk2:(k==2)=false:=by simpa using hk
  go_wp2_with fail;refine (Jk k k0 k1 H1.out (by omega)).mono ?_;rintro e w2 ⟨rfl,h2⟩;have H2:=Zh h2;clear h2 H1 x0 x1 x2 x3 x4 x5 x6 x7 x8 x9 x10 x11 x12;obtain ⟨x0,x1,x2,x3,x4,x5,x6,x7,x8,x9,x10,x11,x12⟩:=v13 ((Var.kept H2.out HX.out hgb (by decide)));go_wp2_with fail;refine (Zg s H2.out (by simp only [List.length_append];omega)).mono ?_;rintro e w3 ⟨rfl,h3⟩;have H3:=Zh h3;clear h3 H2 x0 x1 x2 x3 x4 x5 x6 x7 x8 x9 x10 x11 x12;obtain ⟨x0,x1,x2,x3,x4,x5,x6,x7,x8,x9,x10,x11,x12⟩:=v13 ((Var.kept H3.out HX.out hgb (by decide)));go_wp2_with fail;refine (xQx ok H3.out (by simp only [List.length_append];omega)).mono ?_;rintro e w4 ⟨rfl,h4⟩;have H4:=Zh h4;clear h4 H3 x0 x1 x2 x3 x4 x5 x6 x7 x8 x9 x10 x11 x12;obtain ⟨x0,x1,x2,x3,x4,x5,x6,x7,x8,x9,x10,x11,x12⟩:=v13 ((Var.kept H4.out HX.out hgb (by decide)));go_wp2_with fail;refine (jQD id (by omega) H4.out (by simp only [List.length_append];omega)).mono ?_;rintro e w5 ⟨rfl,h5⟩;have H5:=Zh h5;clear h5 H4 x0 x1 x2 x3 x4 x5 x6 x7 x8 x9 x10 x11 x12;obtain ⟨x0,x1,x2,x3,x4,x5,x6,x7,x8,x9,x10,x11,x12⟩:=v13 ((Var.kept H5.out HX.out hgb (by decide)));go_wp2_with fail;refine (Jk n n0 n1 H5.out (by simp only [List.length_append];omega)).mono ?_;rintro e w6 ⟨rfl,h6⟩;have H6:=Zh h6;clear h6 H5 x0 x1 x2 x3 x4 x5 x6 x7 x8 x9 x10 x11 x12;obtain ⟨x0,x1,x2,x3,x4,x5,x6,x7,x8,x9,x10,x11,x12⟩:=v13 ((Var.kept H6.out HX.out hgb (by decide)));go_wp2_with fail;go_end0;exact ⟨rfl,(H0.out.leave B0.out H6.out).tto (by simp only [List.append_assoc,List.append_nil])⟩
end Go.Proofs.YtcbicdencgjfiaaGreatDoor
namespace Tryst
open Go Go.RowKit
structure RawKeyW (P:Program) (k:TypeId) (KS:Value->Prop) (w:World):Prop where
 check:∀ (em:Bool) {v:Value},KS v->(Instr.checkKey em 10000 k v).run P w=.ok () w
 find:∀ {x:Value},KS x->∀ es:List MapEntry,(∀ e∈es,KS e.key)->
  ((Instr.findKey k x es).run P w=.ok none w/\∀ e∈es,e.key≠x)∨∃ j e,(Instr.findKey k x es).run P w=.ok (some (j,e.val)) w/\es[j]?=some e/\e.key=x
 stays:∀ {v:Value},KS v->(Instr.keyThatStays v v).run P w=.ok v w
section
variable {A:Type} {enc:A->Value} {ok:A->Prop} {P:Program} {k e t:TypeId} {w w':World} {b n:Nat} {f:A->Option Value}
variable (K:RawKeyW P k (fun v=>∃ a,ok a/\v=enc a) w) (hi:∀ a a',enc a=enc a'→a=a')
include K hi
end
end Tryst
namespace Go.Proofs.YtcbicdencgjfiaaGreatDoor
open Go.RowKit Tryst
structure PK where
 a:Nat × Nat
 b:Nat × Nat
 n:Nat
deriving DecidableEq
end Go.Proofs.YtcbicdencgjfiaaGreatDoor
namespace Tryst
open Go Go.RowKit
theorem RawKeyW.sub {P:Program} {k:TypeId} {KS KS':Value->Prop} {w:World} (K:RawKeyW P k KS w) (h:∀ v,KS' v->KS v):RawKeyW P k KS' w where
 check em:=fun hv=>K.check em (h _ hv)
 find:=fun hx es hes=>K.find (h _ hx) es (fun e he=>h _ (hes e he))
 stays:=fun hv=>K.stays (h _ hv)
theorem SW.cells_len (l:List SW):∀ x∈l.map SW.cells,x.length=2:=by
 intro x hx;obtain ⟨s,_,rfl⟩:=List.mem_map.1 hx;rfl
end Tryst
namespace Go.Proofs.YtcbicdencgjfiaaGreatDoor
open Go.RowKit Tryst
section
variable {w W W':World} {M base:Nat} {S Wk:List SW} {met:PK->Bool} {v:Value}
end
end Go.Proofs.YtcbicdencgjfiaaGreatDoor
namespace Tryst
open Go Go.RowKit
end Tryst
namespace Go.Proofs.YtcbicdencgjfiaaGreatDoor
open Go.RowKit Tryst
structure D2 (w v:World) (g1:Nat) (nm:ByteArray) (G U:Value) (ky kd:ByteArray) (p n x:Int) (nm':ByteArray) (G' U':Value) (ky' kd':ByteArray) (p' n' x':Int) (g0:Nat):Prop where
 a:DX v g0 nm G U ky kd p n x
 b:DX v g1 nm' G' U' ky' kd' p' n' x'
 l:Below w.heap.size w v
theorem D2.grow {w v v':World} {g0 g1:Nat} {nm:ByteArray} {G U:Value} {ky kd:ByteArray} {p n x:Int} {nm':ByteArray} {G' U':Value} {ky' kd':ByteArray} {p' n' x':Int} (h:D2 w v g1 nm G U ky kd p n x nm' G' U' ky' kd' p' n' x' g0) (hb:Below v.heap.size v v'):D2 w v' g1 nm G U ky kd p n x nm' G' U' ky' kd' p' n' x' g0:=
 ⟨h.a.grow hb,h.b.grow hb,Qk hb h.l⟩
theorem D2.new (w:World) (nm:ByteArray) (G U:Value) (ky kd:ByteArray) (p n x:Int) (nm':ByteArray) (G' U':Value) (ky' kd':ByteArray) (p' n' x':Int) :
  D2 w ((w.alloc (.cells #[.string nm,G,U,.string ky,.string kd,.int .i64 p,.int .i64 n,.int .i64 x] 45)).alloc (.cells #[.string nm',G',U',.string ky',.string kd',.int .i64 p',.int .i64 n',.int .i64 x'] 45)) (w.heap.size+1) nm G U ky kd p n x nm' G' U' ky' kd' p' n' x' w.heap.size:=by
 have e1:=DX.new (w.alloc (.cells #[.string nm,G,U,.string ky,.string kd,.int .i64 p,.int .i64 n,.int .i64 x] 45)) nm' G' U' ky' kd' p' n' x';rw [show (w.alloc (.cells #[.string nm,G,U,.string ky,.string kd,.int .i64 p,.int .i64 n,.int .i64 x] 45)).heap.size=w.heap.size+1 by simp] at e1;exact ⟨(DX.new _ _ _ _ _ _ _ _ _).grow (Qj _ (.refl _ _)),e1,Qj _ (Qj _ (.refl _ _))⟩
end Go.Proofs.YtcbicdencgjfiaaGreatDoor
namespace Go.Proofs.YtcbicdencgjfiaaGreatDoor
open Go.RowKit Tryst
theorem xQ9 {s:ByteArray} (h:¬ s=⟨#[]⟩):s.toList.isEmpty=false:=by
 cases e:s.toList with
 | nil=>exact absurd (Xk (by rw [<- Qp,e])) h
 | cons a b=>rfl
theorem jYd (d:DB) (w:World) (hg:d.gl.length<=1500000) (hw:d.wl.length<=1500000):Calls Tryz.prog 61 #[d.agg] w fun e w'=>e=.returned (.bool (zQ0 d))/\Below w.heap.size w w':=by
 obtain ⟨R,hR⟩:∃ R,zQ0 d=R:=⟨_,rfl⟩;rw [hR];unfold zQ0 vQt at hR;obtain ⟨nm,ga,gl,gc,wa,wl,wc,ky,⟨kd,p,n,x⟩⟩:=d;unfold DB.agg;simp only at hR hg hw ⊢;have HR:=Zh hR;have HX:=Zh (Var.new w 45 [.string nm,.slice ga gl.length gc,.slice wa wl.length wc,.string ky,.string kd,.int .i64 p,.int .i64 n,.int .i64 x]);have HB0:=Zh (Qj (.cells #[.string nm,.slice ga gl.length gc,.slice wa wl.length wc,.string ky,.string kd,.int .i64 p,.int .i64 n,.int .i64 x] 45) (.refl w.heap.size w));clear hR;go_enter Tryz.func61,Tryz.ntmps61;go_upto_region 1 with fail
 revert HX HB0;generalize w.alloc (.cells _ 45)=Z;intro HX HB0;obtain ⟨x0,x1,x2,x3,x4,x5,x6,x7⟩:=v8 (HX.out)
 by_cases h1:nm=⟨#[]⟩
 ·
  subst h1
  by_cases h2:(gl.length:Int)=0
  ·
   have e2:gl.length=0:=by omega
   by_cases h3:(wl.length:Int)=0
   ·
    have e3:wl.length=0:=by omega
    rw [e2] at x1;rw [e3] at x2
    by_cases h4:ky=⟨#[]⟩
    ·
     subst h4
     by_cases a1:kd=⟨#[]⟩
     ·
      subst a1
      by_cases a2:p=0
      ·
       subst a2
       by_cases a3:n=0
       ·
        subst a3
        by_cases a4:x=0
        · subst a4;have HN:=Zh (show R=true by rw [<- HR.out];simp [e2,e3]);clear h2 h3 e2 e3;go_wp2_with fail;go_ret;exact ⟨Qq HN.out.symm,HB0.out⟩
        ·
         have HN:=Zh (show R=false by rw [<- HR.out];simp [a4]);have b4:(x==0)=false:=by simpa using a4
         clear h2 h3 e2 e3;go_wp2_with fail;go_ret;exact ⟨Qq HN.out.symm,HB0.out⟩
       ·
        have HN:=Zh (show R=false by rw [<- HR.out];simp [a3]);have b4:(n==0)=false:=by simpa using a3
        clear h2 h3 e2 e3;go_wp2_with fail;go_ret;exact ⟨Qq HN.out.symm,HB0.out⟩
      ·
       have HN:=Zh (show R=false by rw [<- HR.out];simp [a2]);have b4:(p==0)=false:=by simpa using a2
       clear h2 h3 e2 e3;go_wp2_with fail;go_ret;exact ⟨Qq HN.out.symm,HB0.out⟩
     · have HN:=Zh (show R=false by rw [<- HR.out];simp [a1]);have b4:kd.toList.isEmpty=false:=xQ9 a1;clear h2 h3 e2 e3;go_wp2_with fail;go_ret;exact ⟨Qq HN.out.symm,HB0.out⟩
    · have HN:=Zh (show R=false by rw [<- HR.out];simp [h4]);have b4:ky.toList.isEmpty=false:=xQ9 h4;clear h2 h3 e2 e3;go_wp2_with fail;go_ret;exact ⟨Qq HN.out.symm,HB0.out⟩
   ·
    have HN:=Zh (show R=false by rw [<- HR.out,decide_eq_false (show ¬ wl.length=0 by omega)];simp);have b4:((wl.length:Int)==0)=false:=by simpa using h3
    rw [e2] at x1;clear h2 e2;go_wp2_with fail;go_ret;exact ⟨Qq HN.out.symm,HB0.out⟩
  ·
   have HN:=Zh (show R=false by rw [<- HR.out,decide_eq_false (show ¬ gl.length=0 by omega)];simp);have b4:((gl.length:Int)==0)=false:=by simpa using h2
   go_wp2_with fail;go_ret;exact ⟨Qq HN.out.symm,HB0.out⟩
 · have HN:=Zh (show R=false by rw [<- HR.out];simp [h1]);have b4:nm.toList.isEmpty=false:=xQ9 h1;go_wp2_with fail;go_ret;exact ⟨Qq HN.out.symm,HB0.out⟩
theorem DO.zero (w:World):DO w .zero where
 hn:=by decide
 hg:=by decide
 hgs:=fun g h=>by cases h
 gS:=fun i h=>absurd h (Nat.not_lt_zero i)
 gL:=⟨Nat.le_refl _,fun A h=>(by cases h),fun _=>rfl⟩
 hw:=by decide
 wR:=⟨Row.nil _ _ _,⟨Nat.le_refl _,fun A h=>(by cases h),fun _=>rfl⟩,fun p h=>by cases h⟩
 hk:=by decide
theorem jJ5 (o:OPB) (w:World) (hM:MaxW w) (hD:DO w o.d) (hs:o.s.size<=1500000):Calls Tryz.prog 22 #[o.agg] w fun e w'=>e=.returned (.bool (mayO o))/\Below w.heap.size w w':=by
 obtain ⟨k,s,d,ok,id,n⟩:=o;simp only at hD hs;have CM:=Zh (fun W (hb:Below w.heap.size w W)=>zJC d W (hM.grow hb) (hD.grow hb));have CN:=Zh (fun W (hb:Below w.heap.size w W)=>jYd d W (Nat.le_trans hD.hg (by decide)) (Nat.le_trans hD.hw (by decide)));have hNS:=qJL d;obtain ⟨R,hR⟩:∃ R,mayO (OPB.mk k s d ok id n)=R:=⟨_,rfl⟩;rw [hR];unfold mayO at hR;clear hM hD
 try rw [<- hNS] at CN
 simp only at hR;generalize mayD d=md at CM hR;generalize zQ0 d=nd at CN hR;have HR:=Zh hR;have HX:=Zh (Var.new w 48 (OPB.mk k s d ok id n).cells);have HB0:=Zh (Qj (.cells (OPB.mk k s d ok id n).cells.toArray 48) (.refl w.heap.size w));clear hR hNS;unfold OPB.cells at HX HB0;unfold OPB.agg;unfold DB.agg at CM CN
 try unfold DB.zero at CN
 simp only [List.length_nil] at CM CN HX HB0 ⊢;go_enter Tryz.func22,Tryz.ntmps22;go_upto_region 1 with fail
 revert HX HB0;generalize w.alloc (.cells _ 48)=Z;intro HX HB0;obtain ⟨x0,x1,x2,x3,x4,x5,x6,x7,x8,x9,x10,x11,x12⟩:=v13 (HX.out)
 by_cases h1:k < 1
 · have HN:=Zh (show R=false by rw [<- HR.out,decide_eq_false (show ¬ 1<=k by omega)];simp);go_wp2_with fail;go_ret;exact ⟨Qq HN.out.symm,HB0.out⟩
 ·
  by_cases h2:10 < k
  · have HN:=Zh (show R=false by rw [<- HR.out,decide_eq_false (show ¬ k<=10 by omega)];simp);go_wp2_with fail;go_ret;exact ⟨Qq HN.out.symm,HB0.out⟩
  ·
   by_cases h3:2000 < s.size
   · have HN:=Zh (show R=false by rw [<- HR.out,decide_eq_false (show ¬ s.size<=2000 by omega)];simp);go_wp2_with fail;go_ret;exact ⟨Qq HN.out.symm,HB0.out⟩
   ·
    have HR2:Hid (R=if k=2 then md else nd):=Zh (by
     rw [<- HR.out,decide_eq_true (show 1<=k by omega),decide_eq_true (show k<=10 by omega),decide_eq_true (show s.size<=2000 by omega)];simp)
    clear HR
    by_cases h4:k=2
    · subst h4;have HN:=Zh (show R=md by rw [HR2.out,if_pos rfl]);go_wp2_with fail;refine (CM.out _ HB0.out).mono ?_;rintro e w8 ⟨rfl,hb8⟩;have HB8:=Zh (Qk hb8 HB0.out);clear hb8;go_wp2_with fail;go_ret;exact ⟨Qq HN.out.symm,HB8.out⟩
    ·
     have HN:=Zh (show R=nd by rw [HR2.out,if_neg h4]);have b4:(k==2)=false:=by simpa using h4
     clear h4;go_wp2_with fail;refine (CN.out _ HB0.out).mono ?_;rintro e w8 ⟨rfl,hb8⟩;have HB8:=Zh (Qk hb8 HB0.out);clear hb8;go_wp2_with fail;go_ret;exact ⟨Qq HN.out.symm,HB8.out⟩
