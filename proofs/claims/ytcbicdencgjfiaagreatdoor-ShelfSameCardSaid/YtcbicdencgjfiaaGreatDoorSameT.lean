import Derived.Test.YtcbicdencgjfiaaGreatDoorSameU
set_option linter.all false
set_option maxHeartbeats 4000000
set_option maxRecDepth 20000
namespace Go.Proofs.YtcbicdencgjfiaaGreatDoor
open Go Go.RowKit Tryst
def eqTB (x y:TB):Bool:=decide (x.name=y.name)&&(decide (x.first=y.first)&&decide (x.log=y.log))
theorem qYs (a1 a2:Option Addr) (c1 c2:Nat) (l m:List TB) (hl:l.length<=1500000) (w:World) (h1:Row w a1 3 (l.map TB.cells)) (h2:Row w a2 3 (m.map TB.cells)) (hE1:∀ y∈l,Row w y.la 1 (y.log.map strK.cells)/\y.log.length<=1500000) (hE2:∀ y∈m,Row w y.la 1 (y.log.map strK.cells)/\y.log.length<=1500000) :
  Calls Tryz.prog 50 #[.slice a1 l.length c1,.slice a2 m.length c2] w fun e w'=>e=.returned (.bool (qYC eqTB l m))/\Below w.heap.size w w':=by
 have H1:=Zh (fun W (hb:Below w.heap.size w W)=>Row.grow h1 hb);have H2:=Zh (fun W (hb:Below w.heap.size w W)=>Row.grow h2 hb);have HE:=Zh (fun W (hb:Below w.heap.size w W) (y:TB) (hy:y∈l) (z:TB) (hz:z∈m) W2 (hb2:Below W.heap.size W W2)=>qYT y.la z.la y.lc z.lc y.log z.log (hE1 y hy).2 (hE2 z hz).2 W2 (zQ9.2 (Row.grow (Row.grow (hE1 y hy).1 hb) hb2)) (zQ9.2 (Row.grow (Row.grow (hE2 z hz).1 hb) hb2)));clear hE1 hE2;clear h1 h2
 by_cases hn:(l.length:Int)=m.length
 ·
  have hn1:l.length=m.length:=by omega
  have hzl:=qYJ hn1;obtain ⟨R,hR⟩:∃ R,qYC eqTB l m=R:=⟨_,rfl⟩;rw [hR];have HR:Hid (R=((l.zip m).drop 0).all (fun x=>eqTB x.1 x.2)):=Zh (by rw [<- hR,List.drop_zero];unfold qYC;rw [decide_eq_true hn1];rfl);have HZL:=Zh hzl;have HN:=Zh hn1;clear hR hzl hn hn1;rw [<- HN.out];go_enter Tryz.func50,Tryz.ntmps50;go_wp2_with fail;go_loopw [5] (fun i wr=>AllR R (fun x:TB × TB=>eqTB x.1 x.2) (l.zip m) w i wr) (fun i _=>l.length - (intOf i).toNat)
  case atStart=>exact ⟨0,by omega,rfl,HR,.refl _ _,by omega⟩
  case round=>
   obtain ⟨k,hk,rfl,HP,HW,hz⟩:=hrel;obtain ⟨wo,rfl⟩:∃ wo,wo=wr:=⟨_,rfl⟩;rw [HZL.out] at hk
   by_cases hlt:k < l.length
   ·
    have hlt2:k < m.length:=by have:=HN.out;omega
    have hst:=zQJ (by rw [HZL.out];exact hlt) HP.out;rw [List.getElem_zip] at hst;simp only at hst;have hr1:=H1.out _ HW.out;have hr2:=H2.out _ HW.out;obtain ⟨b1,o1,ha1,hb1⟩:=Row.head hr1 (i:=k) (by simpa using hlt);obtain ⟨b2,o2,ha2,hb2⟩:=Row.head hr2 (i:=k) (by simpa using hlt2);subst ha1 ha2;have hat1:=(Row.at hr1 (i:=k) (by simpa using hlt)).2;have hat2:=(Row.at hr2 (i:=k) (by simpa using hlt2)).2;rw [List.getElem_map] at hat1 hat2;have hC:=HE.out wo HW.out l[k] (List.getElem_mem hlt) m[k] (List.getElem_mem hlt2);generalize l[k]=y at hat1 hst hC;generalize m[k]=z at hat2 hst hC;obtain ⟨s1,i1,la1,lg1,lc1⟩:=y;obtain ⟨s2,i2,la2,lg2,lc2⟩:=z;have f0:wo.cell? ⟨b1,o1+k*3,none⟩=some (.string s1):=hat1 0 (by decide);have f1:wo.cell? ⟨b1,o1+k*3+1,none⟩=some (.int .i64 i1):=hat1 1 (by decide);have f2:wo.cell? ⟨b1,o1+k*3+2,none⟩=some (.slice la1 lg1.length lc1):=hat1 2 (by decide);have e0:wo.cell? ⟨b2,o2+k*3,none⟩=some (.string s2):=hat2 0 (by decide);have e1:wo.cell? ⟨b2,o2+k*3+1,none⟩=some (.int .i64 i2):=hat2 1 (by decide);have e2:wo.cell? ⟨b2,o2+k*3+2,none⟩=some (.slice la2 lg2.length lc2):=hat2 2 (by decide);rw [eqTB] at hst;simp only at hst hC;generalize decide (lg1=lg2)=q at hst hC;generalize lg1.length=n1 at f2 hC;generalize lg2.length=n2 at e2 hC;have HC2:=Zh hC;have HST:=Zh hst;clear hst HP hat1 hat2 hr1 hr2 hC
    by_cases h1:s1=s2
    case neg=>
     have HNX:Hid (R=false):=Zh (by rw [HST.out,decide_eq_false h1];rfl);have b1':(s1.toList==s2.toList)=false:=jY9 (fun e=>h1 (Xk e));clear h1 HST HC2;go_upto_region 6 with fail
     refine Tryst2.wp_region_grows [.is (.slice (some ⟨b1,o1,none⟩) l.length c1),.is (.int .i64 (k:Int)),.is (.pointer (some ⟨b1,o1+k*3,none⟩)),.is (.pointer (some ⟨b1,o1+k*3,none⟩)),.is (.string s1),.is (.slice (some ⟨b2,o2,none⟩) l.length c2),.is (.int .i64 (k:Int)),.is (.pointer (some ⟨b2,o2+k*3,none⟩)),.is (.pointer (some ⟨b2,o2+k*3,none⟩)),.is (.string s2),.is (.bool true),.is (.bool true),.is undef,.is undef,.is undef,.is undef,.is undef,.is undef,.is undef,.is undef,.is undef,.is undef,.is undef,.is (.bool true),.is (.bool true),.is undef,.is undef,.is undef,.is undef,.is undef,.is undef,.is undef,.is undef,.is undef,.is undef,.is undef,.is undef,.is (.bool true)] (by kernel_rfl) (by kernel_rfl) ?obl ?fin
     case obl=>
      simp only [YA,YL,YO,YR,Op.operands,Call.operands]
      repeat' apply And.intro
      any_goals trivial
      all_goals (intro tv w' hg hold hd;(try simp at hold);obtain ⟨hcg,hfg,hsg⟩:=YG hg)
      all_goals first | (go_simp;done) | (go_simp;rw [if_neg (by omega)];exact ⟨.refl _,rfl⟩) | (obtain ⟨⟨g,hvg,hgg,hcell⟩,_⟩:=hd;have hcell0:=hcell 0 (by decide);simp at hcell0;go_simp;done) 
     case fin=>
      intro tv w' hg hR;simp only [YF,YL,YR] at hR;obtain ⟨hcg,hfg,hsg⟩:=YG hg;simp only [YP,YL,Act.put,hR];have HW9:=Zh (Tryst2.Grow.below hg HW.out);clear hg hR hcg hfg hsg;go_wp2_with fail;go_ret;exact ⟨Qq HNX.out.symm,HW9.out⟩
    subst h1
    by_cases h2:i1=i2
    case neg=>
     have HNX:Hid (R=false):=Zh (by rw [HST.out,decide_eq_false h2];simp);have b1':(i1==i2)=false:=by simpa using h2
     clear HST HC2;go_upto_region 6 with fail
     refine Tryst2.wp_region_grows [.is (.slice (some ⟨b1,o1,none⟩) l.length c1),.is (.int .i64 (k:Int)),.is (.pointer (some ⟨b1,o1+k*3,none⟩)),.is (.pointer (some ⟨b1,o1+k*3,none⟩)),.is (.string s1),.is (.slice (some ⟨b2,o2,none⟩) l.length c2),.is (.int .i64 (k:Int)),.is (.pointer (some ⟨b2,o2+k*3,none⟩)),.is (.pointer (some ⟨b2,o2+k*3,none⟩)),.is (.string s1),.is (.bool false),.is (.bool false),.is (.slice (some ⟨b1,o1,none⟩) l.length c1),.is (.int .i64 (k:Int)),.is (.pointer (some ⟨b1,o1+k*3,none⟩)),.is (.pointer (some ⟨b1,o1+k*3+1,none⟩)),.is (.int .i64 i1),.is (.slice (some ⟨b2,o2,none⟩) l.length c2),.is (.int .i64 (k:Int)),.is (.pointer (some ⟨b2,o2+k*3,none⟩)),.is (.pointer (some ⟨b2,o2+k*3+1,none⟩)),.is (.int .i64 i2),.is (.bool true),.is (.bool true),.is (.bool true),.is undef,.is undef,.is undef,.is undef,.is undef,.is undef,.is undef,.is undef,.is undef,.is undef,.is undef,.is undef,.is (.bool true)] (by kernel_rfl) (by kernel_rfl) ?obl ?fin
     case obl=>
      simp only [YA,YL,YO,YR,Op.operands,Call.operands]
      repeat' apply And.intro
      any_goals trivial
      all_goals (intro tv w' hg hold hd;(try simp at hold);obtain ⟨hcg,hfg,hsg⟩:=YG hg)
      all_goals first | (go_simp;done) | (go_simp;rw [if_neg (by omega)];exact ⟨.refl _,rfl⟩) | (obtain ⟨⟨g,hvg,hgg,hcell⟩,_⟩:=hd;have hcell0:=hcell 0 (by decide);simp at hcell0;go_simp;done) | (go_simp;simp [bne,h2,b1'];done)
     case fin=>
      intro tv w' hg hR;simp only [YF,YL,YR] at hR;obtain ⟨hcg,hfg,hsg⟩:=YG hg;simp only [YP,YL,Act.put,hR];have HW9:=Zh (Tryst2.Grow.below hg HW.out);clear hg hR hcg hfg hsg;go_wp2_with fail;go_ret;exact ⟨Qq HNX.out.symm,HW9.out⟩
    subst h2;have HS2:Hid (R=(q&&((l.zip m).drop (k+1)).all (fun x=>eqTB x.1 x.2))):=Zh (by rw [HST.out];simp);clear HST;go_upto_region 6 with fail
    refine Tryst2.wp_region_grows [.is (.slice (some ⟨b1,o1,none⟩) l.length c1),.is (.int .i64 (k:Int)),.is (.pointer (some ⟨b1,o1+k*3,none⟩)),.is (.pointer (some ⟨b1,o1+k*3,none⟩)),.is (.string s1),.is (.slice (some ⟨b2,o2,none⟩) l.length c2),.is (.int .i64 (k:Int)),.is (.pointer (some ⟨b2,o2+k*3,none⟩)),.is (.pointer (some ⟨b2,o2+k*3,none⟩)),.is (.string s1),.is (.bool false),.is (.bool false),.is (.slice (some ⟨b1,o1,none⟩) l.length c1),.is (.int .i64 (k:Int)),.is (.pointer (some ⟨b1,o1+k*3,none⟩)),.is (.pointer (some ⟨b1,o1+k*3+1,none⟩)),.is (.int .i64 i1),.is (.slice (some ⟨b2,o2,none⟩) l.length c2),.is (.int .i64 (k:Int)),.is (.pointer (some ⟨b2,o2+k*3,none⟩)),.is (.pointer (some ⟨b2,o2+k*3+1,none⟩)),.is (.int .i64 i1),.is (.bool false),.is (.bool false),.is (.bool false),.is (.slice (some ⟨b1,o1,none⟩) l.length c1),.is (.int .i64 (k:Int)),.is (.pointer (some ⟨b1,o1+k*3,none⟩)),.is (.pointer (some ⟨b1,o1+k*3+2,none⟩)),.is (.slice la1 n1 lc1),.is (.slice (some ⟨b2,o2,none⟩) l.length c2),.is (.int .i64 (k:Int)),.is (.pointer (some ⟨b2,o2+k*3,none⟩)),.is (.pointer (some ⟨b2,o2+k*3+2,none⟩)),.is (.slice la2 n2 lc2),.is (.bool q),.is (.bool (!q)),.is (.bool (!q))] (by kernel_rfl) (by kernel_rfl) ?obl ?fin
    case obl=>
     simp only [YA,YL,YO,YR,Op.operands,Call.operands]
     repeat' apply And.intro
     any_goals trivial
     all_goals (intro tv w' hg hold hd;(try simp at hold);obtain ⟨hcg,hfg,hsg⟩:=YG hg)
     all_goals first | (go_simp;done) | (go_simp;rw [if_neg (by omega)];exact ⟨.refl _,rfl⟩) | (obtain ⟨⟨g,hvg,hgg,hcell⟩,_⟩:=hd;have hcell0:=hcell 0 (by decide);simp at hcell0;go_simp;done) | (go_simp;go_at_call 105;refine (HC2.out _ (Tryst2.Grow.below hg (.refl _ _))).mono ?_;rintro e w2 ⟨rfl,hb2⟩;exact ⟨hb2,rfl⟩)
    case fin=>
     intro tv w' hg hR;simp only [YF,YL,YR] at hR;obtain ⟨hcg,hfg,hsg⟩:=YG hg;simp only [YP,YL,Act.put,hR];have HW9:=Zh (Tryst2.Grow.below hg HW.out);clear hg hR hcg hfg hsg;cases q with
     | false=>
      have HNX:Hid (R=false):=Zh (by rw [HS2.out,Bool.false_and]);go_wp2_with fail;go_ret;exact ⟨Qq HNX.out.symm,HW9.out⟩
     | true=>
      have HNX:=Zh (HS2.out.trans (Bool.true_and _));go_wp2_with fail;go_roundw
      case rel=>exact ⟨k+1,by rw [HZL.out];omega,by go_num,HNX,HW9.out,HW9.out.size⟩
      case measure=>simp [intOf]<;>omega
   · have HNX:=Zh (vQC (by rw [HZL.out];omega) HP.out);go_wp2_with fail;go_ret;exact ⟨Qq HNX.out.symm,HW.out⟩
 · have HN:Hid (qYC eqTB l m=false):=Zh (by unfold qYC;rw [decide_eq_false (by omega)];rfl);rw [HN.out];go_enter Tryz.func50,Tryz.ntmps50;go_wp2_with fail;go_ret;exact ⟨rfl,.refl _ _⟩
def eqIn (x y:InB):Bool:=(decide (x.num=y.num)&&(decide (x.n=y.n)&&decide (x.s=y.s)))&&qYC eqKp x.l y.l
theorem kY4 (a1 a2:Option Addr) (c1 c2:Nat) (l m:List InB) (hl:l.length<=1500000) (w:World) (h1:Row w a1 4 (l.map InB.cells)) (h2:Row w a2 4 (m.map InB.cells)) (hE1:∀ y∈l,Row w y.la 3 (y.l.map KpB.cells)/\y.l.length<=1500000) (hE2:∀ y∈m,Row w y.la 3 (y.l.map KpB.cells)) :
  Calls Tryz.prog 55 #[.slice a1 l.length c1,.slice a2 m.length c2] w fun e w'=>e=.returned (.bool (qYC eqIn l m))/\Below w.heap.size w w':=by
 have H1:=Zh (fun W (hb:Below w.heap.size w W)=>Row.grow h1 hb);have H2:=Zh (fun W (hb:Below w.heap.size w W)=>Row.grow h2 hb);have HE:=Zh (fun W (hb:Below w.heap.size w W) (y:InB) (hy:y∈l) (z:InB) (hz:z∈m) W2 (hb2:Below W.heap.size W W2)=>qYq y.la z.la y.lc z.lc y.l z.l (hE1 y hy).2 W2 (Row.grow (Row.grow (hE1 y hy).1 hb) hb2) (Row.grow (Row.grow (hE2 z hz) hb) hb2));clear hE1 hE2;clear h1 h2
 by_cases hn:(l.length:Int)=m.length
 ·
  have hn1:l.length=m.length:=by omega
  have hzl:=qYJ hn1;obtain ⟨R,hR⟩:∃ R,qYC eqIn l m=R:=⟨_,rfl⟩;rw [hR];have HR:Hid (R=((l.zip m).drop 0).all (fun x=>eqIn x.1 x.2)):=Zh (by rw [<- hR,List.drop_zero];unfold qYC;rw [decide_eq_true hn1];rfl);have HZL:=Zh hzl;have HN:=Zh hn1;clear hR hzl hn hn1;rw [<- HN.out];go_enter Tryz.func55,Tryz.ntmps55;go_wp2_with fail;go_loopw [5] (fun i wr=>AllR R (fun x:InB × InB=>eqIn x.1 x.2) (l.zip m) w i wr) (fun i _=>l.length - (intOf i).toNat)
  case atStart=>exact ⟨0,by omega,rfl,HR,.refl _ _,by omega⟩
  case round=>
   obtain ⟨k,hk,rfl,HP,HW,hz⟩:=hrel;obtain ⟨wo,rfl⟩:∃ wo,wo=wr:=⟨_,rfl⟩;rw [HZL.out] at hk
   by_cases hlt:k < l.length
   ·
    have hlt2:k < m.length:=by have:=HN.out;omega
    have hst:=zQJ (by rw [HZL.out];exact hlt) HP.out;rw [List.getElem_zip] at hst;simp only at hst;have hr1:=H1.out _ HW.out;have hr2:=H2.out _ HW.out;obtain ⟨b1,o1,ha1,hb1⟩:=Row.head hr1 (i:=k) (by simpa using hlt);obtain ⟨b2,o2,ha2,hb2⟩:=Row.head hr2 (i:=k) (by simpa using hlt2);subst ha1 ha2;have hat1:=(Row.at hr1 (i:=k) (by simpa using hlt)).2;have hat2:=(Row.at hr2 (i:=k) (by simpa using hlt2)).2;rw [List.getElem_map] at hat1 hat2;have hC:=HE.out wo HW.out l[k] (List.getElem_mem hlt) m[k] (List.getElem_mem hlt2);generalize l[k]=y at hat1 hst hC;generalize m[k]=z at hat2 hst hC;obtain ⟨nu1,kn1,ks1,la1,kl1,lc1⟩:=y;obtain ⟨nu2,kn2,ks2,la2,kl2,lc2⟩:=z;have f0:wo.cell? ⟨b1,o1+k*4,none⟩=some (.bool nu1):=hat1 0 (by decide);have f1:wo.cell? ⟨b1,o1+k*4+1,none⟩=some (.int .i64 kn1):=hat1 1 (by decide);have f2:wo.cell? ⟨b1,o1+k*4+2,none⟩=some (.string ks1):=hat1 2 (by decide);have f3:wo.cell? ⟨b1,o1+k*4+3,none⟩=some (.slice la1 kl1.length lc1):=hat1 3 (by decide);have e0:wo.cell? ⟨b2,o2+k*4,none⟩=some (.bool nu2):=hat2 0 (by decide);have e1:wo.cell? ⟨b2,o2+k*4+1,none⟩=some (.int .i64 kn2):=hat2 1 (by decide);have e2:wo.cell? ⟨b2,o2+k*4+2,none⟩=some (.string ks2):=hat2 2 (by decide);have e3:wo.cell? ⟨b2,o2+k*4+3,none⟩=some (.slice la2 kl2.length lc2):=hat2 3 (by decide);rw [eqIn] at hst;simp only at hst hC;generalize qYC eqKp kl1 kl2=q at hst hC;generalize kl1.length=n1 at f3 hC;generalize kl2.length=n2 at e3 hC;have HC2:=Zh hC;have HST:=Zh hst;clear hst HP hat1 hat2 hr1 hr2 hC
    by_cases h1:nu1=nu2/\kn1=kn2/\ks1=ks2
    case neg=>
     have HNX:Hid (R=false):=Zh (by rw [HST.out];by_cases a1:nu1=nu2<;>by_cases a2:kn1=kn2<;>by_cases a3:ks1=ks2<;>first | (simp [a1,a2,a3];done) | exact absurd ⟨a1,a2,a3⟩ h1);have h1t:¬ (nu1=nu2/\kn1=kn2/\ks1.toList=ks2.toList):=fun e=>h1 ⟨e.1,e.2.1,Xk (by rw [<- Qp,<- Qp];exact e.2.2)⟩
     clear h1 HST HC2;go_upto_region 6 with fail
     refine Tryst2.wp_region_grows [.is (.slice (some ⟨b1,o1,none⟩) l.length c1),.is (.int .i64 (k:Int)),.is (.pointer (some ⟨b1,o1+k*4,none⟩)),.is (.pointer (some ⟨b1,o1+k*4,none⟩)),.is (.agg #[.bool nu1,.int .i64 kn1,.string ks1]),.is (.slice (some ⟨b2,o2,none⟩) l.length c2),.is (.int .i64 (k:Int)),.is (.pointer (some ⟨b2,o2+k*4,none⟩)),.is (.pointer (some ⟨b2,o2+k*4,none⟩)),.is (.agg #[.bool nu2,.int .i64 kn2,.string ks2]),.is (.bool true),.is (.bool true),.is undef,.is undef,.is undef,.is undef,.is undef,.is undef,.is undef,.is undef,.is undef,.is undef,.is undef,.is undef,.is (.bool true)] (by kernel_rfl) (by kernel_rfl) ?obl ?fin
     case obl=>
      simp only [YA,YL,YO,YR,Op.operands,Call.operands]
      repeat' apply And.intro
      any_goals trivial
      all_goals (intro tv w' hg hold hd;(try simp at hold);obtain ⟨hcg,hfg,hsg⟩:=YG hg)
      all_goals first | (go_simp;done) | (go_simp;rw [if_neg (by omega)];exact ⟨.refl _,rfl⟩) | (obtain ⟨⟨g,hvg,hgg,hcell⟩,_⟩:=hd;have hcell0:=hcell 0 (by decide);simp at hcell0;go_simp;done) | (go_simp;(repeat' split);all_goals (first | (rw [Tryst2.stepV_value];exact ⟨Tryst2.Grow.refl _,rfl⟩) | (exfalso;simp_all;done)))
     case fin=>
      intro tv w' hg hR;simp only [YF,YL,YR] at hR;obtain ⟨hcg,hfg,hsg⟩:=YG hg;simp only [YP,YL,Act.put,hR];have HW9:=Zh (Tryst2.Grow.below hg HW.out);clear hg hR hcg hfg hsg;go_wp2_with fail;go_ret;exact ⟨Qq HNX.out.symm,HW9.out⟩
    obtain ⟨rfl,rfl,rfl⟩:=h1;have HS2:Hid (R=(q&&((l.zip m).drop (k+1)).all (fun x=>eqIn x.1 x.2))):=Zh (by rw [HST.out];simp);clear HST;go_upto_region 6 with fail
    refine Tryst2.wp_region_grows [.is (.slice (some ⟨b1,o1,none⟩) l.length c1),.is (.int .i64 (k:Int)),.is (.pointer (some ⟨b1,o1+k*4,none⟩)),.is (.pointer (some ⟨b1,o1+k*4,none⟩)),.is (.agg #[.bool nu1,.int .i64 kn1,.string ks1]),.is (.slice (some ⟨b2,o2,none⟩) l.length c2),.is (.int .i64 (k:Int)),.is (.pointer (some ⟨b2,o2+k*4,none⟩)),.is (.pointer (some ⟨b2,o2+k*4,none⟩)),.is (.agg #[.bool nu1,.int .i64 kn1,.string ks1]),.is (.bool false),.is (.bool false),.is (.slice (some ⟨b1,o1,none⟩) l.length c1),.is (.int .i64 (k:Int)),.is (.pointer (some ⟨b1,o1+k*4,none⟩)),.is (.pointer (some ⟨b1,o1+k*4+3,none⟩)),.is (.slice la1 n1 lc1),.is (.slice (some ⟨b2,o2,none⟩) l.length c2),.is (.int .i64 (k:Int)),.is (.pointer (some ⟨b2,o2+k*4,none⟩)),.is (.pointer (some ⟨b2,o2+k*4+3,none⟩)),.is (.slice la2 n2 lc2),.is (.bool q),.is (.bool (!q)),.is (.bool (!q))] (by kernel_rfl) (by kernel_rfl) ?obl ?fin
    case obl=>
     simp only [YA,YL,YO,YR,Op.operands,Call.operands]
     repeat' apply And.intro
     any_goals trivial
     all_goals (intro tv w' hg hold hd;(try simp at hold);obtain ⟨hcg,hfg,hsg⟩:=YG hg)
     all_goals first | (go_simp;done) | (go_simp;rw [if_neg (by omega)];exact ⟨.refl _,rfl⟩) | (obtain ⟨⟨g,hvg,hgg,hcell⟩,_⟩:=hd;have hcell0:=hcell 0 (by decide);simp at hcell0;go_simp;done) | (go_simp;go_at_call 108;refine (HC2.out _ (Tryst2.Grow.below hg (.refl _ _))).mono ?_;rintro e w2 ⟨rfl,hb2⟩;exact ⟨hb2,rfl⟩)
    case fin=>
     intro tv w' hg hR;simp only [YF,YL,YR] at hR;obtain ⟨hcg,hfg,hsg⟩:=YG hg;simp only [YP,YL,Act.put,hR];have HW9:=Zh (Tryst2.Grow.below hg HW.out);clear hg hR hcg hfg hsg;cases q with
     | false=>
      have HNX:Hid (R=false):=Zh (by rw [HS2.out,Bool.false_and]);go_wp2_with fail;go_ret;exact ⟨Qq HNX.out.symm,HW9.out⟩
     | true=>
      have HNX:=Zh (HS2.out.trans (Bool.true_and _));go_wp2_with fail;go_roundw
      case rel=>exact ⟨k+1,by rw [HZL.out];omega,by go_num,HNX,HW9.out,HW9.out.size⟩
      case measure=>simp [intOf]<;>omega
   · have HNX:=Zh (vQC (by rw [HZL.out];omega) HP.out);go_wp2_with fail;go_ret;exact ⟨Qq HNX.out.symm,HW.out⟩
 · have HN:Hid (qYC eqIn l m=false):=Zh (by unfold qYC;rw [decide_eq_false (by omega)];rfl);rw [HN.out];go_enter Tryz.func55,Tryz.ntmps55;go_wp2_with fail;go_ret;exact ⟨rfl,.refl _ _⟩
