import Derived.Test.YtcbicdencgjfiaaGreatDoorEyeA
import Derived.Test.YtcbicdencgjfiaaGreatDoorFewD14
import Derived.Test.YtcbicdencgjfiaaGreatDoorPSm5
set_option linter.all false
set_option maxHeartbeats 4000000
set_option maxRecDepth 20000
namespace Tryst
open Go Go.RowKit
theorem qYi {α β:Type} {l:List α} {m:List β} (h:l.length=m.length):(l.zip m).length=l.length:=by rw [List.length_zip,<- h,Nat.min_self]
theorem qYR:∀ {l m:List ByteArray},l.length=m.length->(l.zip m).all (fun x=>decide (x.1=x.2))=decide (l=m)
 | [],[],_=>rfl
 | x :: r,y :: s,h=>by
  have ih:=qYR (l:=r) (m:=s) (by simpa using h);rw [List.zip_cons_cons,List.all_cons,ih]
  by_cases e:x=y<;>by_cases e2:r=s<;>simp [e,e2]
theorem qYO:∀ {l m:List PB},l.length=m.length->(l.zip m).all (fun x=>qQY x.1 x.2)=jQ7 l m
 | [],[],_=>by rw [jQ7];rfl
 | x :: r,y :: s,h=>by
  rw [List.zip_cons_cons,List.all_cons,qYO (by simpa using h),jQ7]
theorem qYV:∀ {l m:List PB},jQ7 l m=true->l.length=m.length
 | [],[],_=>rfl
 | x :: r,y :: s,h=>by
  rw [jQ7,Bool.and_eq_true] at h;simp [qYV h.2]
 | [],y :: s,h=>by rw [jQ7] at h;cases h
 | x :: r,[],h=>by rw [jQ7] at h;cases h
end Tryst
namespace Go.Proofs.YtcbicdencgjfiaaGreatDoor
open Go.RowKit Tryst
theorem qYT (a1 a2:Option Addr) (c1 c2:Nat) (l m:List ByteArray) (hl:l.length<=1500000) (hm:m.length<=1500000) (w:World) (h1:Strs w a1 l) (h2:Strs w a2 m) :
  Calls Tryz.prog 105 #[.slice a1 l.length c1,.slice a2 m.length c2] w fun e w'=>e=.returned (.bool (decide (l=m)))/\Below w.heap.size w w':=by
 have H1:=Zh h1;have H2:=Zh h2;clear h1 h2
 by_cases hn:(l.length:Int)=m.length
 ·
  have hn1:l.length=m.length:=by omega
  have hzl:=qYi hn1;obtain ⟨R,hR⟩:∃ R,decide (l=m)=R:=⟨_,rfl⟩;rw [hR];have HR:Hid (R=((l.zip m).drop 0).all (fun x=>decide (x.1=x.2))):=Zh (by rw [<- hR,List.drop_zero,qYR hn1]);have HZL:=Zh hzl;have HN:=Zh hn1;clear hR hzl hn hn1;rw [<- HN.out];go_enter Tryz.func105,Tryz.ntmps105;go_wp2_with fail;go_loopw [5] (fun i wr=>AllR R (fun x:ByteArray × ByteArray=>decide (x.1=x.2)) (l.zip m) w i wr) (fun i _=>l.length - (intOf i).toNat)
  case atStart=>exact ⟨0,by omega,rfl,HR,.refl _ _,by omega⟩
  case round=>
   obtain ⟨k,hk,rfl,HP,HW,hz⟩:=hrel;obtain ⟨wo,rfl⟩:∃ wo,wo=wr:=⟨_,rfl⟩;rw [HZL.out] at hk
   by_cases hlt:k < l.length
   ·
    have hlt2:k < m.length:=by have:=HN.out;omega
    have hst:=zQJ (by rw [HZL.out];exact hlt) HP.out;rw [List.getElem_zip] at hst;simp only at hst;have HA:=Zh (H1.out.grow HW.out);have HB:=Zh (H2.out.grow HW.out);obtain ⟨b1,o1,ha1,hb1⟩:=HA.out.head hlt;obtain ⟨b2,o2,ha2,hb2⟩:=HB.out.head hlt2;subst ha1 ha2;obtain ⟨_,f1⟩:=HA.out.at hlt;obtain ⟨_,f2⟩:=HB.out.at hlt2;have HST:=Zh hst;clear hst HP
    by_cases hx:l[k]=m[k]
    ·
     have HNX:Hid (R=((l.zip m).drop (k+1)).all (fun x=>decide (x.1=x.2))):=Zh (by have:=HST.out;rwa [decide_eq_true hx,Bool.true_and] at this);have ne:(l[k].toList != l[k].toList)=false:=bne_self_eq_false _;rw [<- hx] at f2;clear HST hx;go_upto_region 6 with fail
     refine Tryst2.wp_region_grows [.is (.slice (some ⟨b1,o1,none⟩) l.length c1),.is (.int .i64 (k:Int)),.is (.pointer (some ⟨b1,o1+k,none⟩)),.is (.string l[k]),.is (.slice (some ⟨b2,o2,none⟩) l.length c2),.is (.int .i64 (k:Int)),.is (.pointer (some ⟨b2,o2+k,none⟩)),.is (.string l[k]),.is (.bool false)] (by kernel_rfl) (by kernel_rfl) ?obl ?fin
     case obl=>
      simp only [YA,YL,YO,YR,Op.operands,Call.operands]
      repeat' apply And.intro
      any_goals trivial
      all_goals (intro tv w' hg hold hd;(try simp at hold);obtain ⟨hcg,hfg,hsg⟩:=YG hg)
      all_goals first | (go_simp;done) | (go_simp;rw [if_neg (by omega)];exact ⟨.refl _,rfl⟩) | (obtain ⟨⟨g,hvg,hgg,hcell⟩,_⟩:=hd;have hcell0:=hcell 0 (by decide);simp at hcell0;go_simp;done) 
     case fin=>
      intro tv w' hg hR;simp only [YF,YL,YR] at hR;obtain ⟨hcg,hfg,hsg⟩:=YG hg;simp only [YP,YL,Act.put,hR];have HW9:=Zh (Tryst2.Grow.below hg HW.out);clear hg hR hcg hfg hsg;go_wp2_with fail;go_roundw
      case rel=>exact ⟨k+1,by rw [HZL.out];omega,by go_num,HNX,HW9.out,HW9.out.size⟩
      case measure=>simp [intOf]<;>omega
    ·
     have HNX:Hid (R=false):=Zh (by have:=HST.out;rwa [decide_eq_false hx,Bool.false_and] at this);have ne0:(l[k].toList==m[k].toList)=false:=jY9 (fun e=>hx (Xk e));have ne:(l[k].toList != m[k].toList)=true:=by rw [bne_iff_ne];exact fun e=>hx (Xk (by rw [<- Qp,<- Qp,e]))
     clear HST hx;go_upto_region 6 with fail
     refine Tryst2.wp_region_grows [.is (.slice (some ⟨b1,o1,none⟩) l.length c1),.is (.int .i64 (k:Int)),.is (.pointer (some ⟨b1,o1+k,none⟩)),.is (.string l[k]),.is (.slice (some ⟨b2,o2,none⟩) l.length c2),.is (.int .i64 (k:Int)),.is (.pointer (some ⟨b2,o2+k,none⟩)),.is (.string m[k]),.is (.bool true)] (by kernel_rfl) (by kernel_rfl) ?obl ?fin
     case obl=>
      simp only [YA,YL,YO,YR,Op.operands,Call.operands]
      repeat' apply And.intro
      any_goals trivial
      all_goals (intro tv w' hg hold hd;(try simp at hold);obtain ⟨hcg,hfg,hsg⟩:=YG hg)
      all_goals first | (go_simp;done) | (go_simp;rw [if_neg (by omega)];exact ⟨.refl _,rfl⟩) | (obtain ⟨⟨g,hvg,hgg,hcell⟩,_⟩:=hd;have hcell0:=hcell 0 (by decide);simp at hcell0;go_simp;done) 
     case fin=>
      intro tv w' hg hR;simp only [YF,YL,YR] at hR;obtain ⟨hcg,hfg,hsg⟩:=YG hg;simp only [YP,YL,Act.put,hR];have HW9:=Zh (Tryst2.Grow.below hg HW.out);clear hg hR hcg hfg hsg;go_wp2_with fail;go_ret;exact ⟨Qq HNX.out.symm,HW9.out⟩
   · have HNX:=Zh (vQC (by rw [HZL.out];omega) HP.out);go_wp2_with fail;go_ret;exact ⟨Qq HNX.out.symm,HW.out⟩
 · have HN:Hid (decide (l=m)=false):=Zh (decide_eq_false (fun e=>hn (by rw [e])));rw [HN.out];go_enter Tryz.func105,Tryz.ntmps105;go_wp2_with fail;go_ret;exact ⟨rfl,.refl _ _⟩
structure D2 (w v:World) (g1:Nat) (nm:ByteArray) (G U:Value) (ky kd:ByteArray) (p n x:Int) (nm':ByteArray) (G' U':Value) (ky' kd':ByteArray) (p' n' x':Int) (g0:Nat):Prop where
 a:DX v g0 nm G U ky kd p n x
 b:DX v g1 nm' G' U' ky' kd' p' n' x'
 l:Below w.heap.size w v
theorem D2.grow {w v v':World} {g0 g1:Nat} {nm:ByteArray} {G U:Value} {ky kd:ByteArray} {p n x:Int} {nm':ByteArray} {G' U':Value} {ky' kd':ByteArray} {p' n' x':Int} (h:D2 w v g1 nm G U ky kd p n x nm' G' U' ky' kd' p' n' x' g0) (hb:Below v.heap.size v v'):D2 w v' g1 nm G U ky kd p n x nm' G' U' ky' kd' p' n' x' g0:=
 ⟨h.a.grow hb,h.b.grow hb,Qk hb h.l⟩
theorem D2.new (w:World) (nm:ByteArray) (G U:Value) (ky kd:ByteArray) (p n x:Int) (nm':ByteArray) (G' U':Value) (ky' kd':ByteArray) (p' n' x':Int) :
  D2 w ((w.alloc (.cells #[.string nm,G,U,.string ky,.string kd,.int .i64 p,.int .i64 n,.int .i64 x] 45)).alloc (.cells #[.string nm',G',U',.string ky',.string kd',.int .i64 p',.int .i64 n',.int .i64 x'] 45)) (w.heap.size+1) nm G U ky kd p n x nm' G' U' ky' kd' p' n' x' w.heap.size:=by
 have e1:=DX.new (w.alloc (.cells #[.string nm,G,U,.string ky,.string kd,.int .i64 p,.int .i64 n,.int .i64 x] 45)) nm' G' U' ky' kd' p' n' x';rw [show (w.alloc (.cells #[.string nm,G,U,.string ky,.string kd,.int .i64 p,.int .i64 n,.int .i64 x] 45)).heap.size=w.heap.size+1 by simp] at e1;exact ⟨(DX.new _ _ _ _ _ _ _ _ _).grow (Qj _ (.refl _ _)),e1,Qj _ (Qj _ (.refl _ _))⟩
set_option maxHeartbeats 8000000 in
theorem qYX (a b:DB) (w:World) (hA:DO w a) (hB:DO w b):Calls Tryz.prog 53 #[a.agg,b.agg] w fun e w'=>e=.returned (.bool (vJc a b))/\Below w.heap.size w w':=by
 have CE:=Zh (fun W (hb:Below w.heap.size w W)=>qYT a.ga b.ga a.gc b.gc a.gl b.gl (Nat.le_trans hA.hg (by decide)) (Nat.le_trans hB.hg (by decide)) W (hA.gS.grow hb) (hB.gS.grow hb));have H1:=Zh (fun W (hb:Below w.heap.size w W)=>hA.wR.grow hb);have H2:=Zh (fun W (hb:Below w.heap.size w W)=>hB.wR.grow hb);have cC:=(fun (k:Nat) (hk:k < a.wl.length) (hk2:k < b.wl.length) W (hb:Below w.heap.size w W)=>kY1 100 a.wl[k] b.wl[k] (Nat.le_trans (hA.wR.po _ (List.getElem_mem hk)).2 (by decide)) W ((hA.wR.po _ (List.getElem_mem hk)).1.grow hb) ((hB.wR.po _ (List.getElem_mem hk2)).1.grow hb));unfold PB.agg at cC;have CC:=Zh cC;have hl1:=hA.hw;have hl2:=hB.hw;obtain ⟨R,hR⟩:∃ R,vJc a b=R:=⟨_,rfl⟩;rw [hR];unfold vJc vQt at hR;clear hA hB cC;obtain ⟨nm,ga,gl,gc,wa,wl,wc,ky,⟨kd,p,n,x⟩⟩:=a;obtain ⟨nm',ga',gl',gc',wa',wl',wc',ky',⟨kd',p',n',x'⟩⟩:=b;unfold DB.agg;simp only at CE CC H1 H2 hl1 hl2 hR ⊢;obtain ⟨gb,hgb⟩:∃ b,decide (gl=gl')=b:=⟨_,rfl⟩;obtain ⟨pb,hpb⟩:∃ b,jQ7 wl wl'=b:=⟨_,rfl⟩;rw [hgb] at CE hR;rw [hpb] at hR;have HPB:=Zh hpb;have HR:=Zh hR;clear hR hgb hpb;go_enter Tryz.func53,Tryz.ntmps53;go_upto_region 1 with fail
 refine Qg (fun v=>Hid (D2 w v (w.heap.size+1) nm (.slice ga gl.length gc) (.slice wa wl.length wc) ky kd p n x nm' (.slice ga' gl'.length gc') (.slice wa' wl'.length wc') ky' kd' p' n' x' w.heap.size)) (D2.new _ _ _ _ _ _ _ _ _ _ _ _ _ _ _ _ _) ?_;rintro Y HY;generalize w.heap.size+1=g1 at HY ⊢;have HB0:=Zh HY.out.l;generalize w.heap.size=g0 at HY ⊢;obtain ⟨x0,x1,x2,x3,x4,x5,x6,x7,x8⟩:=HY.out.a.box;obtain ⟨y0,y1,y2,y3,y4,y5,y6,y7,y8⟩:=HY.out.b.box
 by_cases h1:nm=nm'
 ·
  subst h1
  by_cases h2:ky=ky'
  ·
   subst h2
   by_cases h3:kd=kd'/\p=p'/\n=n'/\x=x'
   ·
    obtain ⟨rfl,rfl,rfl,rfl⟩:=h3;have HR2:Hid ((gb&&pb)=R):=Zh (by rw [<- HR.out];simp);clear HR;go_wp2_with fail;refine (CE.out _ HB0.out).mono ?_;rintro e w1 ⟨rfl,hb1⟩;have HY1:=Zh (HY.out.grow hb1);have HB1:=Zh HY1.out.l;clear hb1 HY HB0 CE x0 x1 x2 x3 x4 x5 x6 x7 x8 y0 y1 y2 y3 y4 y5 y6 y7 y8;obtain ⟨x0,x1,x2,x3,x4,x5,x6,x7,x8⟩:=HY1.out.a.box;obtain ⟨y0,y1,y2,y3,y4,y5,y6,y7,y8⟩:=HY1.out.b.box;cases gb with
    | false=>
     have HN:=Zh (show R=false by rw [<- HR2.out];rfl);go_wp2_with fail;go_ret;exact ⟨Qq HN.out.symm,HB1.out⟩
    | true=>
     have HR3:Hid (R=pb):=Zh (by rw [<- HR2.out];rfl);clear HR2
     by_cases hn:(wl.length:Int)=wl'.length
     ·
      have hn1:wl.length=wl'.length:=by omega
      have HZL:=Zh (qYi hn1);have HN0:Hid (R=((wl.zip wl').drop 0).all (fun x=>qQY x.1 x.2)):=Zh (by rw [HR3.out,<- HPB.out,List.drop_zero,qYO hn1]);have HNN:=Zh hn1;have hne:((wl.length:Int) != (wl'.length:Int))=false:=by rw [hn];exact bne_self_eq_false _
      clear HR3 HPB hn1;go_wp2_with fail;go_loopw [5] (fun i wr=>AllR R (fun x:PB × PB=>qQY x.1 x.2) (wl.zip wl') w1 i wr) (fun i _=>wl.length - (intOf i).toNat)
      case atStart=>exact ⟨0,by omega,rfl,HN0,.refl _ _,by omega⟩
      case round=>
       clear HN0 x0 x1 x2 x3 x4 x5 x6 x7 x8 y0 y1 y2 y3 y4 y5 y6 y7 y8;obtain ⟨k,hk,rfl,HP,HW,hz⟩:=hrel;obtain ⟨wo,rfl⟩:∃ wo,wo=wr:=⟨_,rfl⟩;rw [HZL.out] at hk;have HYo:=Zh (HY1.out.grow HW.out);have HBo:=Zh HYo.out.l;obtain ⟨x0,x1,x2,x3,x4,x5,x6,x7,x8⟩:=HYo.out.a.box;obtain ⟨y0,y1,y2,y3,y4,y5,y6,y7,y8⟩:=HYo.out.b.box
       by_cases hlt:k < wl.length
       ·
        have hlt2:k < wl'.length:=by have:=HNN.out;omega
        have hst:=zQJ (by rw [HZL.out];exact hlt) HP.out;rw [List.getElem_zip] at hst;simp only at hst;have HCC:=Zh (CC.out k hlt hlt2);obtain ⟨pp,hpp⟩:∃ pp,qQY wl[k] wl'[k]=pp:=⟨_,rfl⟩;rw [hpp] at hst HCC;have HST:=Zh hst;clear hpp hst HP CC;have HA:=Zh (H1.out _ HBo.out);have HB:=Zh (H2.out _ HBo.out);obtain ⟨b1,o1,ha1,hb1⟩:=HA.out.head hlt;obtain ⟨b2,o2,ha2,hb2⟩:=HB.out.head hlt2;subst ha1 ha2;obtain ⟨_,f0,f1,f2,f3,f4,f5⟩:=Row.pat HA.out.row hlt;obtain ⟨_,e0,e1,e2,e3,e4,e5⟩:=Row.pat HB.out.row hlt2;have hlti:(k:Int) < (wl'.length:Int):=by omega
        go_upto_region 6 with fail
        refine Tryst2.wp_region_grows [.is (.pointer (some ⟨g0,2,none⟩)),.is (.slice (some ⟨b1,o1,none⟩) wl.length wc),.is (.int .i64 (k:Int)),.is (.pointer (some ⟨b1,o1+k*6,none⟩)),.is (.agg #[.string wl[k].op,.string wl[k].s,.bool wl[k].num,.int .i64 wl[k].n,.string wl[k].vs,.slice wl[k].a wl[k].l.length wl[k].c]),.is (.pointer (some ⟨g1,2,none⟩)),.is (.slice (some ⟨b2,o2,none⟩) wl'.length wc'),.is (.int .i64 (k:Int)),.is (.pointer (some ⟨b2,o2+k*6,none⟩)),.is (.agg #[.string wl'[k].op,.string wl'[k].s,.bool wl'[k].num,.int .i64 wl'[k].n,.string wl'[k].vs,.slice wl'[k].a wl'[k].l.length wl'[k].c]),.is (.bool pp),.is (.bool (!pp))] (by kernel_rfl) (by kernel_rfl) ?obl ?fin
        case obl=>
         simp only [YA,YL,YO,YR,Op.operands,Call.operands]
         repeat' apply And.intro
         any_goals trivial
         all_goals (intro tv w' hg hold hd;(try simp at hold);obtain ⟨hcg,hfg,hsg⟩:=YG hg)
         all_goals first | (go_simp;done) | (go_simp;rw [if_neg (by omega)];exact ⟨.refl _,rfl⟩) | (obtain ⟨⟨g,hvg,hgg,hcell⟩,_⟩:=hd;have hcell0:=hcell 0 (by decide);simp at hcell0;go_simp;done) | (go_simp;go_at_call 107;(with_reducible refine (HCC.out _ ?_).mono ?_);(exact Qk (Tryst2.Grow.below hg (.refl _ _)) HBo.out);rintro e w5 ⟨rfl,hb5⟩;exact ⟨hb5,rfl⟩)
        case fin=>
         intro tv w' hg hR;simp only [YF,YL,YR] at hR;obtain ⟨hcg,hfg,hsg⟩:=YG hg;simp only [YP,YL,Act.put,hR];have HW9:=Zh (Qk (Tryst2.Grow.below hg (.refl _ _)) HW.out);have HB9:=Zh (Qk (Tryst2.Grow.below hg (.refl _ _)) HBo.out);clear hg hR hcg hfg hsg;cases pp with
         | true=>
          have HNX:Hid (R=((wl.zip wl').drop (k+1)).all (fun x=>qQY x.1 x.2)):=Zh (by have:=HST.out;rwa [Bool.true_and] at this);go_wp2_with fail;go_roundw
          case rel=>exact ⟨k+1,by rw [HZL.out];omega,by go_num,HNX,HW9.out,HW9.out.size⟩
          case measure=>simp [intOf]<;>omega
         | false=>
          have HN:Hid (R=false):=Zh (by have:=HST.out;rwa [Bool.false_and] at this);go_wp2_with fail;go_ret;exact ⟨Qq HN.out.symm,HB9.out⟩
       · have HN:=Zh (vQC (by rw [HZL.out];omega) HP.out);go_wp2_with fail;go_ret;exact ⟨Qq HN.out.symm,HBo.out⟩
     ·
      have HN:Hid (R=false):=Zh (by
       rw [HR3.out,<- HPB.out];cases h:jQ7 wl wl' with
       | false=>rfl
       | true=>exact absurd (qYV h) (by omega))
      have hne:((wl.length:Int)==(wl'.length:Int))=false:=by simpa using hn
      go_wp2_with fail;go_ret;exact ⟨Qq HN.out.symm,HB1.out⟩
   ·
    have HN:=Zh (show R=false by
     rw [<- HR.out]
     by_cases a1:kd=kd'<;>by_cases a2:p=p'<;>by_cases a3:n=n'<;>by_cases a4:x=x'<;>first | (simp [a1,a2,a3,a4];done) | exact absurd (And.intro a1 (And.intro a2 (And.intro a3 a4))) h3)
    by_cases a1:kd=kd'
    ·
     subst a1
     by_cases a2:p=p'
     ·
      subst a2
      by_cases a3:n=n'
      ·
       subst a3;have a4:¬ x=x':=fun e=>h3 ⟨rfl,rfl,rfl,e⟩
       have b4:(x==x')=false:=by simpa using a4
       clear h3;go_wp2_with fail;go_ret;exact ⟨Qq HN.out.symm,HB0.out⟩
      ·
       have b4:(n==n')=false:=by simpa using a3
       clear h3;go_wp2_with fail;go_ret;exact ⟨Qq HN.out.symm,HB0.out⟩
     ·
      have b4:(p==p')=false:=by simpa using a2
      clear h3;go_wp2_with fail;go_ret;exact ⟨Qq HN.out.symm,HB0.out⟩
    · have b4:(kd.toList==kd'.toList)=false:=jY9 (fun e=>a1 (Xk e));clear h3;go_wp2_with fail;go_ret;exact ⟨Qq HN.out.symm,HB0.out⟩
  · have HN:=Zh (show R=false by rw [<- HR.out];simp [h2]);have b4:(ky.toList==ky'.toList)=false:=jY9 (fun e=>h2 (Xk e));go_wp2_with fail;go_ret;exact ⟨Qq HN.out.symm,HB0.out⟩
 · have HN:=Zh (show R=false by rw [<- HR.out];simp [h1]);have b4:(nm.toList==nm'.toList)=false:=jY9 (fun e=>h1 (Xk e));go_wp2_with fail;go_ret;exact ⟨Qq HN.out.symm,HB0.out⟩
