import Derived.Deep.Upon
import Derived.Test.YtcbicdencgjfiaaGreatDoorOffU
import Derived.Test.YtcbicdencgjfiaaGreatDoorRtI
set_option linter.all false
set_option maxHeartbeats 4000000
set_option maxRecDepth 20000
namespace Tryst
open Go Go.Lib
def eqO (a b:OB):Bool:=decide (a.topic=b.topic)&&decide (a.next=b.next)
def qYL (l m:List OB):Bool:=decide (l.length=m.length)&&(l.zip m).all (fun x=>eqO x.1 x.2)
theorem kY2 {l m:List OB} (h:l.length=m.length):(l.zip m).length=l.length:=by rw [List.length_zip,<- h,Nat.min_self]
end Tryst
namespace Go.Proofs.YtcbicdencgjfiaaGreatDoor
open Go.RowKit Tryst
end Go.Proofs.YtcbicdencgjfiaaGreatDoor
namespace Tryst
open Go Go.Lib
end Tryst
namespace Go.Proofs.YtcbicdencgjfiaaGreatDoor
open Go.RowKit Tryst
def RP2 (w:World) (l:List OB) (tp:ByteArray) (pre:List OB) (s i:Value) (wr:World):Prop:=∃ (k:Nat) (v:Value),v=s/\k<=l.length/\i=.int .i64 k/\Hid (OOwn wr w.heap.size v (pre++(l.take k).filter (fun x=>Kf tp x.topic)))/\Hid (Below w.heap.size w wr)
theorem OOwn.len {w:World} {base:Nat} {v:Value} {l:List OB} (h:OOwn w base v l):(l.map OB.cells).length=l.length:=List.length_map ..
theorem kYG (a1 a2:Option Addr) (c1 c2:Nat) (l m:List OB) (hl:l.length<=1500000) (hm:m.length<=1500000) (w:World) (h1:Offs w a1 l) (h2:Offs w a2 m) :
  Calls Tryz.prog 54 #[.slice a1 l.length c1,.slice a2 m.length c2] w fun e w'=>e=.returned (.bool (qYL l m))/\Below w.heap.size w w':=by
 have H1:=Zh (fun W (hb:Below w.heap.size w W)=>OfR.mk (Row.grow h1 hb));have H2:=Zh (fun W (hb:Below w.heap.size w W)=>OfR.mk (Row.grow h2 hb));clear h1 h2
 by_cases hn:(l.length:Int)=m.length
 ·
  have hn1:l.length=m.length:=by omega
  have hzl:=kY2 hn1;obtain ⟨R,hR⟩:∃ R,qYL l m=R:=⟨_,rfl⟩;rw [hR];have HR:Hid (R=((l.zip m).drop 0).all (fun x=>eqO x.1 x.2)):=Zh (by rw [<- hR,List.drop_zero];unfold qYL;rw [decide_eq_true hn1];rfl);have HZL:=Zh hzl;have HN:=Zh hn1;clear hR hzl hn hn1;rw [<- HN.out];go_enter Tryz.func54,Tryz.ntmps54;go_wp2_with fail;go_loopw [5] (fun i wr=>AllR R (fun x:OB × OB=>eqO x.1 x.2) (l.zip m) w i wr) (fun i _=>l.length - (intOf i).toNat)
  case atStart=>exact ⟨0,by omega,rfl,HR,.refl _ _,by omega⟩
  case round=>
   obtain ⟨k,hk,rfl,HP,HW,hz⟩:=hrel;obtain ⟨wo,rfl⟩:∃ wo,wo=wr:=⟨_,rfl⟩;rw [HZL.out] at hk
   by_cases hlt:k < l.length
   ·
    have hlt2:k < m.length:=by have:=HN.out;omega
    have hst:=zQJ (by rw [HZL.out];exact hlt) HP.out;rw [List.getElem_zip] at hst;simp only at hst;have hq:eqO l[k] m[k]=(decide (l[k].topic=m[k].topic)&&decide (l[k].next=m[k].next)):=rfl;rw [hq] at hst;have HA:=Zh (H1.out _ HW.out);have HB:=Zh (H2.out _ HW.out);obtain ⟨b1,o1,ha1,hb1⟩:=HA.out.head hlt;obtain ⟨b2,o2,ha2,hb2⟩:=HB.out.head hlt2;subst ha1 ha2;obtain ⟨_,f1,f2⟩:=HA.out.r.at hlt;obtain ⟨_,e1,e2⟩:=HB.out.r.at hlt2;have HST:=Zh hst;clear hst HP hq;generalize l[k].topic=t at f1 HST;generalize l[k].next=x at f2 HST;generalize m[k].topic=t' at e1 HST;generalize m[k].next=x' at e2 HST
    by_cases hx:t=t'/\x=x'
    ·
     obtain ⟨rfl,rfl⟩:=hx;have HNX:Hid (R=((l.zip m).drop (k+1)).all (fun x=>eqO x.1 x.2)):=Zh (by have:=HST.out;simpa using this);clear HST;go_upto_region 6 with fail
     refine Tryst2.wp_region_grows [.is (.slice (some ⟨b1,o1,none⟩) l.length c1),.is (.int .i64 (k:Int)),.is (.pointer (some ⟨b1,o1+k*2,none⟩)),.is (.agg #[.string t,.int .i64 x]),.is (.slice (some ⟨b2,o2,none⟩) l.length c2),.is (.int .i64 (k:Int)),.is (.pointer (some ⟨b2,o2+k*2,none⟩)),.is (.agg #[.string t,.int .i64 x]),.is (.bool false)] (by kernel_rfl) (by kernel_rfl) ?obl ?fin
     case obl=>
      simp only [YA,YL,YO,YR,Op.operands,Call.operands]
      repeat' apply And.intro
      any_goals trivial
      all_goals (intro tv w' hg hold hd;(try simp at hold);obtain ⟨hcg,hfg,hsg⟩:=YG hg)
      all_goals first | (go_simp;done) | (go_simp;rw [if_neg (by omega)];exact ⟨.refl _,rfl⟩) | (obtain ⟨⟨g,hvg,hgg,hcell⟩,_⟩:=hd;have hcell0:=hcell 0 (by decide);simp at hcell0;go_simp;done) 
     case fin=>
      intro tv w' hg hR;simp only [YF,YL,YR] at hR;obtain ⟨hcg,hfg,hsg⟩:=YG hg;simp only [YP,YL,Act.put,hR];have HW9:=Zh (Tryst2.Grow.below hg HW.out);clear hg hR hcg hfg hsg;go_wp2_with fail;go_roundw
      case rel=>exact ⟨k+1,by rw [HZL.out];omega,by go_num,HNX,HW9.out,HW9.out.size⟩
      case measure=>simp [intOf]<;>omega
    ·
     have HNX:Hid (R=false):=Zh (by
      have:=HST.out;rw [this]
      by_cases a1:t=t'<;>by_cases a2:x=x'<;>first | (simp [a1,a2];done) | exact absurd (And.intro a1 a2) hx)
     clear HST;go_upto_region 6 with fail
     by_cases a1:t=t'
     ·
      subst a1;have b1':(x==x')=false:=by simpa using (fun e:x=x'=>hx ⟨rfl,e⟩)
      clear hx;refine Tryst2.wp_region_grows [.is (.slice (some ⟨b1,o1,none⟩) l.length c1),.is (.int .i64 (k:Int)),.is (.pointer (some ⟨b1,o1+k*2,none⟩)),.is (.agg #[.string t,.int .i64 x]),.is (.slice (some ⟨b2,o2,none⟩) l.length c2),.is (.int .i64 (k:Int)),.is (.pointer (some ⟨b2,o2+k*2,none⟩)),.is (.agg #[.string t,.int .i64 x']),.is (.bool true)] (by kernel_rfl) (by kernel_rfl) ?obl ?fin
      case obl=>
       simp only [YA,YL,YO,YR,Op.operands,Call.operands]
       repeat' apply And.intro
       any_goals trivial
       all_goals (intro tv w' hg hold hd;(try simp at hold);obtain ⟨hcg,hfg,hsg⟩:=YG hg)
       all_goals first | (go_simp;done) | (go_simp;rw [if_neg (by omega)];exact ⟨.refl _,rfl⟩) | (obtain ⟨⟨g,hvg,hgg,hcell⟩,_⟩:=hd;have hcell0:=hcell 0 (by decide);simp at hcell0;go_simp;done) 
      case fin=>
       intro tv w' hg hR;simp only [YF,YL,YR] at hR;obtain ⟨hcg,hfg,hsg⟩:=YG hg;simp only [YP,YL,Act.put,hR];have HW9:=Zh (Tryst2.Grow.below hg HW.out);clear hg hR hcg hfg hsg;go_wp2_with fail;go_ret;exact ⟨Qq HNX.out.symm,HW9.out⟩
     ·
      have b1':(t.toList==t'.toList)=false:=jY9 (fun e=>a1 (Xk e));clear hx a1;refine Tryst2.wp_region_grows [.is (.slice (some ⟨b1,o1,none⟩) l.length c1),.is (.int .i64 (k:Int)),.is (.pointer (some ⟨b1,o1+k*2,none⟩)),.is (.agg #[.string t,.int .i64 x]),.is (.slice (some ⟨b2,o2,none⟩) l.length c2),.is (.int .i64 (k:Int)),.is (.pointer (some ⟨b2,o2+k*2,none⟩)),.is (.agg #[.string t',.int .i64 x']),.is (.bool true)] (by kernel_rfl) (by kernel_rfl) ?obl ?fin
      case obl=>
       simp only [YA,YL,YO,YR,Op.operands,Call.operands]
       repeat' apply And.intro
       any_goals trivial
       all_goals (intro tv w' hg hold hd;(try simp at hold);obtain ⟨hcg,hfg,hsg⟩:=YG hg)
       all_goals first | (go_simp;done) | (go_simp;rw [if_neg (by omega)];exact ⟨.refl _,rfl⟩) | (obtain ⟨⟨g,hvg,hgg,hcell⟩,_⟩:=hd;have hcell0:=hcell 0 (by decide);simp at hcell0;go_simp;done) 
      case fin=>
       intro tv w' hg hR;simp only [YF,YL,YR] at hR;obtain ⟨hcg,hfg,hsg⟩:=YG hg;simp only [YP,YL,Act.put,hR];have HW9:=Zh (Tryst2.Grow.below hg HW.out);clear hg hR hcg hfg hsg;go_wp2_with fail;go_ret;exact ⟨Qq HNX.out.symm,HW9.out⟩
   · have HNX:=Zh (vQC (by rw [HZL.out];omega) HP.out);go_wp2_with fail;go_ret;exact ⟨Qq HNX.out.symm,HW.out⟩
 · have HN:Hid (qYL l m=false):=Zh (by unfold qYL;rw [decide_eq_false (by omega)];rfl);rw [HN.out];go_enter Tryz.func54,Tryz.ntmps54;go_wp2_with fail;go_ret;exact ⟨rfl,.refl _ _⟩
theorem OOwn.len' {w:World} {base:Nat} {v:Value} {l:List OB} (h:OOwn w base v l):(l.map OB.cells).length=l.length:=List.length_map ..
def fewO (x:OB):OB:=⟨Q7 x.topic,x.next⟩
def jQw (l:List OB):List OB:=(l.take 21).map fewO
def FewOR (w:World) (l:List OB) (e:Ending) (w':World):Prop:=∃ a c,e=.returned (.slice a l.length c)/\OOwn w' w.heap.size (.slice a l.length c) l/\Below w.heap.size w w'
def FO1 (w:World) (l:List OB) (s i:Value) (wr:World):Prop:=∃ (k:Nat) (v:Value),v=s/\k<=21/\k<=l.length/\i=.int .i64 k/\Hid (OOwn wr w.heap.size v ((l.take k).map fewO))/\Hid (Below w.heap.size w wr)
theorem xJR (a:Option Addr) (c:Nat) (l:List OB) (hl:l.length<=9223372036854775807) (hs:∀ x∈l,x.topic.size<=9223372036854775807) (w:World) (hO:Offs w a l) :
  Calls Tryz.prog 28 #[.slice a l.length c] w fun e w'=>FewOR w (jQw l) e w':=by
 have HF:=Zh (fun W (hb:Below w.heap.size w W)=>OfR.mk (Row.grow hO hb));have HC:=Zh (fun (k:Nat) (hk:k < l.length) W=>jQn l[k].topic (hs _ (List.getElem_mem hk)) W);clear hO hs;go_enter Tryz.func28,Tryz.ntmps28;go_wp2_with fail;go_loopw [3,4] (fun s i wr=>FO1 w l s i wr) (fun _ i _=>l.length - (intOf i).toNat)
 case atStart=>exact ⟨0,_,rfl,by omega,by omega,rfl,Zh (ROwn.nil _ _ _ _),Zh (.refl _ _)⟩
 case round=>
  obtain ⟨k,v,rfl,hk21,hkl,rfl,HO,HW⟩:=hrel;obtain ⟨wo,rfl⟩:∃ wo,wo=wr:=⟨_,rfl⟩;have hbW:w.heap.size<=wo.heap.size:=HW.out.size
  by_cases hlt:k < l.length/\k < 21
  ·
   obtain ⟨hl1,hl2⟩:=hlt;obtain ⟨b,o,ha,hb⟩:=(HF.out wo HW.out).head hl1;subst ha;obtain ⟨_,f0,f1⟩:=(HF.out wo HW.out).r.at hl1;have HCC:=Zh (HC.out k hl1);have HL2:Hid ((l.take (k+1)).map fewO=(l.take k).map fewO++[⟨Q7 l[k].topic,l[k].next⟩]):=Zh (by rw [List.take_succ_eq_append_getElem hl1,List.map_append];rfl);obtain ⟨L,hL⟩:∃ L,(l.take k).map fewO=L:=⟨_,rfl⟩;rw [hL] at HO HL2;have hLl:L.length<=21:=by rw [<- hL];simp;omega
   clear hL;have HLN:=Zh (OOwn.len' HO.out);generalize l[k].topic=t at f0 HCC HL2;generalize l[k].next=x at f1 HL2;generalize Q7 t=t1 at HCC HL2;have x1:(k:Int) < l.length:=by omega
   have x2:(0:Int)<=k:=by omega
   go_upto_region 5 with fail
   refine Tryst2.wp_region_grows [.is v,.is (.slice (some ⟨b,o,none⟩) l.length c),.is (.int .i64 (k:Int)),.is (.pointer (some ⟨b,o+k*2,none⟩)),.is (.pointer (some ⟨b,o+k*2,none⟩)),.is (.string t),.is (.string t1),.is (.slice (some ⟨b,o,none⟩) l.length c),.is (.int .i64 (k:Int)),.is (.pointer (some ⟨b,o+k*2,none⟩)),.is (.pointer (some ⟨b,o+k*2+1,none⟩)),.is (.int .i64 x),.is (.agg #[.string t1,.int .i64 x]),.any (OneO t1 x)] (by kernel_rfl) (by kernel_rfl) ?obl ?fin
   case obl=>
    simp only [YA,YL,YO,YR,Op.operands,Call.operands]
    repeat' apply And.intro
    any_goals trivial
    all_goals (intro tv w' hg hold hd;(try simp at hold);obtain ⟨hcg,hfg,hsg⟩:=YG hg)
    all_goals first | (go_simp;done) | (go_simp;rw [if_neg (by omega)];exact ⟨.refl _,rfl⟩) | (obtain ⟨⟨g,hvg,hgg,hcell⟩,_⟩:=hd;have hcell0:=hcell 0 (by decide);simp at hcell0;go_simp;done) | (go_simp;go_at_call 30;refine (HCC.out _).mono ?_;rintro e w5 ⟨rfl,rfl⟩;exact ⟨Tryst2.Grow.refl _,rfl⟩) | (go_simp;exact (OneO.of _ t1 x).2)
   case fin=>
    intro tv w' hg hR;simp only [YF,YL,YR] at hR;obtain ⟨hcg,hfg,hsg⟩:=YG hg;simp only [YP,YL,Act.put,hR];obtain ⟨gv,e6,h6⟩:=OneO.at hR.2.2.2.2.2.2.2.2.2.2.2.2.2.1;simp only [e6];have hbw:=Tryst2.Grow.below hg (.refl wo.heap.size wo);have HO6:=Zh (HO.out.grow hbw);have HW6:=Zh (Qk hbw HW.out);have H6:=Zh h6;have hz6:w.heap.size<=w'.heap.size:=HW6.out.size;clear hR hcg hfg hsg e6 hbw h6 hg HO HW f0 f1;refine Kq offT rfl _ _ rfl w.heap.size v (L.map OB.cells) L.length HLN.out rfl HO6.out [.string t1,.int .i64 x] rfl (fun u hu=>OB.cells_one [⟨t1,x⟩] [.string t1,.int .i64 x] (by simp [OB.cells]) u hu) gv rfl (by intro j hj;match j,hj with | 0,_=>exact H6.out.box.2.1 | 1,_=>exact H6.out.box.2.2) (by omega) hz6 ?_;intro v' w3 ho3 hb3 _
    have HO3:Hid (OOwn w3 w.heap.size v' ((l.take (k+1)).map fewO)):=Zh (by
     rw [HL2.out];show ROwn _ _ _ _ _ ((L++[_]).map OB.cells);rw [List.map_append];exact ho3)
    have HW3:=Zh (HW6.out.trans hb3);clear ho3 hb3;go_wp2_with fail;go_roundw
    case rel=>exact ⟨k+1,_,rfl,by omega,by omega,by go_num,HO3,HW3⟩
    case measure=>simp [intOf]<;>omega
  ·
   have HL:Hid ((l.take k).map fewO=jQw l):=Zh (by
    unfold jQw
    by_cases h:k < l.length
    ·
     have:k=21:=by omega
     rw [this]
    · rw [List.take_of_length_le (by omega),List.take_of_length_le (by omega)])
   have HO2:Hid (OOwn wo w.heap.size v (jQw l)):=Zh (by rw [<- HL.out];exact HO.out);clear HO HL;obtain ⟨L,hL⟩:∃ L,jQw l=L:=⟨_,rfl⟩;rw [hL] at HO2;have HLE:=Zh hL;clear hL;obtain ⟨a9,c9,hv9,_⟩:=ROwn.row HO2.out (OB.cells_len _) (by decide);rw [List.length_map] at hv9;subst hv9
   by_cases hks:k < l.length
   ·
    have h21:k=21:=by omega
    subst h21;go_wp2_with fail;go_ret;exact by rw [HLE.out];exact ⟨a9,c9,rfl,HO2.out,HW.out⟩
   · go_wp2_with fail;go_ret;exact by rw [HLE.out];exact ⟨a9,c9,rfl,HO2.out,HW.out⟩
end Go.Proofs.YtcbicdencgjfiaaGreatDoor
namespace Go.Proofs.YtcbicdencgjfiaaGreatDoor
open Go Go.RowKit Tryst
structure RtO (w:World) (r:RtB):Prop where
 t:Tops w r.ta r.tl
 tI:TIn r.tl
 tn:r.tl.length<=1500000
 l:qQF w r.la r.ll
 ln:r.ll.length<=1500000
 lS:∀ x∈r.ll,x.producer.size<=1500000
 s:Subs w r.sa r.sl
 sn:r.sl.length<=1500000
 tt:-9223372036854775808<=r.total/\r.total<=9223372036854775807
 u:Zj w r.ua r.ul
 un:r.ul.length<=1500000
 uS:∀ x∈r.ul,x.sub.size<=1500000
 g:Zj w r.ga r.gl
 gn:r.gl.length<=1500000
 gS:∀ x∈r.gl,x.sub.size<=1500000
 d:Deads w r.da r.dl
 dn:r.dl.length<=1500000
theorem RtO.grow {w W:World} {r:RtB} (h:RtO w r) (hb:Below w.heap.size w W):RtO W r:=
 ⟨h.t.grow hb,h.tI,h.tn,Row.grow h.l hb,h.ln,h.lS,h.s.grow hb,h.sn,h.tt,Row.grow h.u hb,h.un,h.uS,Row.grow h.g hb,h.gn,h.gS,h.d.grow hb,h.dn⟩
def Xx (r:RtB):Bool:=decide (0<=r.now)&&(decide (r.now<=1099511627775)&&(jQo (r.tl.map TB.tp)&&(qJd r.ll&&(qQP r&&(zQk r&&zQ6 r)))))
theorem xQM:∀ {l:List Tp} {q:Option ByteArray},okT q l=true->∀ t∈l,tMay t=true
 | [],_,_,t,ht=>by cases ht
 | x :: l,q,h,t,ht=>by
  obtain ⟨h1,_,h3⟩:=jJ7.1 h
  rcases List.mem_cons.1 ht with rfl | ht
  · exact h1
  · exact xQM h3 t ht
theorem xJP {l:List TB} (h:jQo (l.map TB.tp)=true):vJy l:=by
 unfold jQo at h;rw [Bool.and_eq_true] at h;intro t ht;obtain ⟨h1,h2,h3,_⟩:=qJ7 (xQM h.2 t.tp (List.mem_map.2 ⟨t,ht,rfl⟩));omega
theorem vQJ (r:RtB) (w:World) (hM:MaxW w) (hR:RtO w r) :
  Calls Tryz.prog 31 #[r.agg] w fun e w'=>e=.returned (.int .i64 (errO (Xx r)))/\Below w.heap.size w w':=by
 have C1:=Zh (fun W (hb:Below w.heap.size w W)=>zJR r.ta r.tc r.tl (Nat.le_trans hR.tn (by decide)) hR.tI W (hM.grow hb) (hR.t.grow hb));have C2:=Zh (fun W (hb:Below w.heap.size w W)=>zJp r.la r.lc r.ll hR.ln hR.lS W (hM.grow hb) (Row.grow hR.l hb));have C3:=Zh (fun (h:jQo (r.tl.map TB.tp)=true) W (hb:Below w.heap.size w W)=>kJr r hR.tn (xJP h) hR.sn W (hM.grow hb) (hR.t.grow hb) (hR.s.grow hb));have C4:=Zh (fun W (hb:Below w.heap.size w W)=>vJK r hR.un hR.uS hR.gn hR.gS hR.tt.2 W (hM.grow hb) (Row.grow hR.u hb) (Row.grow hR.g hb));have C5:=Zh (fun W (hb:Below w.heap.size w W)=>kJh r hR.sn hR.dn W (hM.grow hb) (hR.s.grow hb) (hR.d.grow hb));clear hM hR;unfold Xx;generalize jQo (r.tl.map TB.tp)=m1 at C1 C3 ⊢;generalize qJd r.ll=m2 at C2 ⊢;generalize qQP r=m3 at C3 ⊢;generalize zQk r=m4 at C4 ⊢;generalize zQ6 r=m5 at C5 ⊢;unfold RtB.agg at C3 C4 C5 ⊢;generalize r.tl.length=tn at *;generalize r.ll.length=ln at *;generalize r.sl.length=sn at *;generalize r.ul.length=un at *;generalize r.gl.length=gn at *;generalize r.dl.length=dn at *;obtain ⟨now,ta,tl,tc,la,ll,lc,sa,sl,sc,total,ua,ul,uc,ga,gl,gc,da,dl,dc⟩:=r;simp only at C1 C2 C3 C4 C5 ⊢;obtain ⟨VV,hVV⟩:∃ VV,errO (decide (0<=now)&&(decide (now<=1099511627775)&&(m1&&(m2&&(m3&&(m4&&m5))))))=VV:=⟨_,rfl⟩;rw [hVV];have HVV:=Zh hVV;clear hVV;have HS0:=Zh (Var.new w 28 [.int .i64 now,.slice ta tn tc,.slice la ln lc,.slice sa sn sc,.int .i64 total,.slice ua un uc,.slice ga gn gc,.slice da dn dc]);have HB0:=Zh (Qj (.cells #[.int .i64 now,.slice ta tn tc,.slice la ln lc,.slice sa sn sc,.int .i64 total,.slice ua un uc,.slice ga gn gc,.slice da dn dc] 28) (.refl w.heap.size w));go_enter Tryz.func31,Tryz.ntmps31;go_upto_region 1 with fail
 revert HS0 HB0;simp only [List.toArray];generalize w.alloc (.cells _ 28)=X;intro HS0 HB0;obtain ⟨s0,s1,s2,s3,s4,s5,s6,s7⟩:=v8 (HS0.out);have hzs:=HS0.out.lt
 by_cases h1:0<=now
 case neg=>
  have z1:now < 0:=by omega
  go_wp2_with fail;go_ret;exact ⟨Qy (by rw [<- HVV.out,decide_eq_false (show ¬ 0<=now by omega)];rfl),HB0.out⟩
 have z1:¬ now < 0:=by omega
 by_cases h2:now<=1099511627775
 case neg=>
  have z2:1099511627775 < now:=by omega
  go_wp2_with fail;go_ret;exact ⟨Qy (by rw [<- HVV.out,decide_eq_false (show ¬ now<=1099511627775 by omega),Bool.false_and,Bool.and_false];rfl),HB0.out⟩
 have z2:¬ 1099511627775 < now:=by omega
 have HV1:Hid (VV=errO (m1&&(m2&&(m3&&(m4&&m5))))):=Zh (by rw [<- HVV.out,decide_eq_true h1,decide_eq_true h2];rfl);clear HVV h1 h2;go_wp2_with fail;refine (C1.out _ HB0.out).mono ?_;rintro e w1 ⟨rfl,hb1⟩;have HB1:=Zh (Qk hb1 HB0.out);have HS1:=Zh (HS0.out.grow hb1);clear hb1 HB0 HS0 s0 s1 s2 s3 s4 s5 s6 s7 hzs;obtain ⟨s0,s1,s2,s3,s4,s5,s6,s7⟩:=v8 (HS1.out);have hzs:=HS1.out.lt;cases m1 with
 | false=>
  rw [show errV false=1 from rfl];go_wp2_with fail;go_ret;exact ⟨Qy (by rw [HV1.out];rfl),HB1.out⟩
 | true=>
  rw [show errV true=0 from rfl];go_wp2_with fail;refine (C2.out _ HB1.out).mono ?_;rintro e w2 ⟨rfl,hb2⟩;have HB2:=Zh (Qk hb2 HB1.out);have HS2:=Zh (HS1.out.grow hb2);clear hb2 HB1 HS1 s0 s1 s2 s3 s4 s5 s6 s7 hzs;obtain ⟨s0,s1,s2,s3,s4,s5,s6,s7⟩:=v8 (HS2.out);have hzs:=HS2.out.lt;cases m2 with
  | false=>
   rw [show errO false=1 from rfl];go_wp2_with fail;go_ret;exact ⟨Qy (by rw [HV1.out];rfl),HB2.out⟩
  | true=>
   rw [show errO true=0 from rfl];go_wp2_with fail;refine (C3.out trivial _ HB2.out).mono ?_;rintro e w3 ⟨rfl,hb3⟩;have HB3:=Zh (Qk hb3 HB2.out);have HS3:=Zh (HS2.out.grow hb3);clear hb3 HB2 HS2 s0 s1 s2 s3 s4 s5 s6 s7 hzs;obtain ⟨s0,s1,s2,s3,s4,s5,s6,s7⟩:=v8 (HS3.out);have hzs:=HS3.out.lt;cases m3 with
   | false=>
    go_wp2_with fail;go_ret;exact ⟨Qy (by rw [HV1.out];rfl),HB3.out⟩
   | true=>
    go_wp2_with fail;refine (C4.out _ HB3.out).mono ?_;rintro e w4 ⟨rfl,hb4⟩;have HB4:=Zh (Qk hb4 HB3.out);have HS4:=Zh (HS3.out.grow hb4);clear hb4 HB3 HS3 s0 s1 s2 s3 s4 s5 s6 s7 hzs;obtain ⟨s0,s1,s2,s3,s4,s5,s6,s7⟩:=v8 (HS4.out);have hzs:=HS4.out.lt;cases m4 with
    | false=>
     go_wp2_with fail;go_ret;exact ⟨Qy (by rw [HV1.out];rfl),HB4.out⟩
    | true=>
     go_wp2_with fail;refine (C5.out _ HB4.out).mono ?_;rintro e w5 ⟨rfl,hb5⟩;have HB5:=Zh (Qk hb5 HB4.out);have HS5:=Zh (HS4.out.grow hb5);clear hb5 HB4 HS4 s0 s1 s2 s3 s4 s5 s6 s7 hzs;obtain ⟨s0,s1,s2,s3,s4,s5,s6,s7⟩:=v8 (HS5.out);have hzs:=HS5.out.lt;cases m5 with
     | false=>
      go_wp2_with fail;go_ret;exact ⟨Qy (by rw [HV1.out];rfl),HB5.out⟩
     | true=>
      go_wp2_with fail;go_ret;exact ⟨Qy (by rw [HV1.out];rfl),HB5.out⟩
end Go.Proofs.YtcbicdencgjfiaaGreatDoor
namespace Go.Proofs.YtcbicdencgjfiaaGreatDoor
open Go Go.RowKit Tryst
def qQX (x:LB):LB:=⟨Q7 x.producer,x.seq,x.off⟩
def FwR {α:Type} (T:TypeId) (sz:Nat) (cells:α->List Value) (g:α->α) (n:Nat) (w:World) (l:List α) (s i:Value) (wr:World):Prop:=∃ k:Nat,k<=n/\k<=l.length/\i=.int .i64 k/\Hid (ROwn T sz wr w.heap.size s (((l.take k).map g).map cells))/\Hid (Below w.heap.size w wr)
def MkR {α:Type} (T:TypeId) (sz:Nat) (cells:α->List Value) (w:World) (l:List α) (e:Ending) (w':World):Prop:=∃ v,e=.returned v/\ROwn T sz w' w.heap.size v (l.map cells)/\Below w.heap.size w w'
theorem lastT:SliceOf Tryz.prog 23 104 3 32:=.mk' Tryz.underlying23 (z:=.agg #[.string ⟨#[]⟩,.int .u64 0,.int .i64 0]) (by kernel_rfl) rfl (by decide) (by decide)
theorem kJ9 (a:Option Addr) (c:Nat) (l:List LB) (hl:l.length<=9223372036854775807) (hs:∀ x∈l,x.producer.size<=9223372036854775807) (w:World) (hO:qQF w a l) :
  Calls Tryz.prog 25 #[.slice a l.length c] w (MkR 104 3 LB.cells w ((l.take 51).map qQX)):=by
 have HF:=Zh (fun W (hb:Below w.heap.size w W)=>Row.grow hO hb);have HC:=Zh (fun (k:Nat) (hk:k < l.length) W=>jQn l[k].producer (hs _ (List.getElem_mem hk)) W);clear hO hs;obtain ⟨L9,hL9⟩:∃ L9,(l.take 51).map qQX=L9:=⟨_,rfl⟩;rw [hL9];have HL9:=Zh hL9;clear hL9;go_enter Tryz.func25,Tryz.ntmps25;go_wp2_with fail;go_loopw [3,4] (fun s i wr=>FwR 104 3 LB.cells qQX 51 w l s i wr) (fun _ i _=>l.length - (intOf i).toNat)
 case atStart=>exact ⟨0,by omega,by omega,rfl,Zh (ROwn.nil _ _ _ _),Zh (.refl _ _)⟩
 case round=>
  obtain ⟨k,hk51,hkl,rfl,HO,HW⟩:=hrel;obtain ⟨wo,rfl⟩:∃ wo,wo=wr:=⟨_,rfl⟩
  by_cases hlt:k < l.length/\k < 51
  ·
   obtain ⟨hl1,hl2⟩:=hlt;obtain ⟨b,o,ha,hb⟩:=qQF.hd (HF.out wo HW.out) hl1;subst ha;obtain ⟨_,f0,f1,f2⟩:=qQF.at (HF.out wo HW.out) hl1;have HCC:=Zh (HC.out k hl1);have HL2:Hid ((((l.take (k+1)).map qQX).map LB.cells)=(((l.take k).map qQX).map LB.cells)++[[.string (Q7 l[k].producer),.int .u64 l[k].seq,.int .i64 l[k].off]]):=Zh (by rw [List.take_succ_eq_append_getElem hl1,List.map_append,List.map_append];rfl);obtain ⟨L,hL⟩:∃ L,(((l.take k).map qQX).map LB.cells)=L:=⟨_,rfl⟩;rw [hL] at HO HL2;have hLl:L.length<=51:=by rw [<- hL];simp;omega
   clear hL;generalize l[k].producer=p at f0 HCC HL2;generalize Q7 p=p2 at HCC HL2;generalize l[k].seq=sq at f1 HL2;generalize l[k].off=of at f2 HL2;have x1:(k:Int) < l.length:=by omega
   have x2:(0:Int)<=k:=by omega
   have x3:(k:Int) < 51:=by omega
   have HV1:=Zh (Var.new wo 104 [.string p2,.int .u64 sq,.int .i64 of]);have HB1:=Zh (Qj (.cells #[.string p2,.int .u64 sq,.int .i64 of] 104) (.refl wo.heap.size wo));go_wp2_with fail;refine (HCC.out _).mono ?_;rintro e w1 ⟨rfl,rfl⟩;go_upto_region 7 with fail
   revert HV1 HB1;simp only [List.toArray];generalize wo.alloc (.cells _ 104)=Y;intro HV1 HB1;have HOY:=Zh (HO.out.grow HB1.out);have HWY:=Zh (Qk HB1.out HW.out);have hzy:=HWY.out.size;clear HO HW HB1;obtain ⟨y0,y1,y2⟩:=v3 (HV1.out);have hzv:=HV1.out.lt;go_wp2_with (at_builtin;refine Kq lastT rfl _ _ rfl w.heap.size u3 L L.length rfl rfl (HOY.out.alloc _) [.string p2,.int .u64 sq,.int .i64 of] rfl ?h1 _ rfl ?hf (by omega) ?hz ?hk)
   case h1=>
    intro u hu;simp at hu
    rcases hu with rfl | rfl | rfl<;>rfl
   case hf=>
    intro j hj;have:j=0∨j=1∨j=2:=by omega
    rcases this with rfl | rfl | rfl<;>simp [go_sem]
   case hz=>simp;omega
   case hk=>
    intro v' w1 ho hb1' _;have HO3:=Zh (show ROwn 104 3 w1 w.heap.size v' (((l.take (k+1)).map qQX).map LB.cells) by rw [HL2.out];exact ho);have HW3:=Zh (Qk (Qj _ (.refl _ _)) HWY.out |>.trans hb1');clear ho hb1' HOY HL2;go_wp2_with fail;go_roundw
    case rel=>exact ⟨k+1,by omega,by omega,by go_num,HO3,HW3⟩
    case measure=>simp [intOf]<;>omega
  ·
   have HL:Hid ((l.take k).map qQX=(l.take 51).map qQX):=Zh (by
    by_cases h:k < l.length
    ·
     have:k=51:=by omega
     rw [this]
    · rw [List.take_of_length_le (by omega),List.take_of_length_le (by omega)])
   have HO2:=Zh (show ROwn 104 3 wo w.heap.size u3 (L9.map LB.cells) by rw [<- HL9.out,<- HL.out];exact HO.out)
   by_cases hks:k < l.length
   ·
    have h21:k=51:=by omega
    subst h21;go_wp2_with fail;go_ret;exact ⟨_,rfl,HO2.out,HW.out⟩
   · go_wp2_with fail;go_ret;exact ⟨_,rfl,HO2.out,HW.out⟩
end Go.Proofs.YtcbicdencgjfiaaGreatDoor
namespace Tryst
open Go Go.RowKit
theorem jQC {P:Program} {w:World} {ops:Array Oper} {rest:List Oper} {o:Oper} {a:Act} {Q:Exit->Act->World->Prop} {t e:TypeId} {k bytes:Nat} (E:SliceOf P t e k bytes) (hgd:o.guard=none) (s x:Operand)
  (ho:o.op=.call { callee:=.builtin .append,args:=#[s,x],argTypes:=#[t,t] })
  (base:Nat) (v:Value) (l:List (List Value)) (n:Nat) (hln:l.length=n) (hs:a.eval s=v) (hown:ROwn e k w base v l) (r:List (List Value)) (m:Nat) (hm:r.length=m) (hr:∀ x∈r,x.length=k) (h1:∀ x∈r,∀ u∈x,u.oneCell'=true)
  (ad:Option Addr) (c:Nat) (hx:a.eval x=.slice ad m c) (hf:Row w ad k r)
  (hn:n+m<=1073741824) (hbase:base<=w.heap.size)
  (h:∀ v' w',ROwn e k w' base v' (l++r)->Below base w w'→wpList P ops Q rest (a.put o.dst v') w'):wpList P ops Q (o :: rest) a w:=by
 by_cases h0:m=0
 ·
  subst h0;have hr0:r=[]:=List.eq_nil_of_length_eq_zero hm;subst hr0;obtain ⟨i,z,hi,hz,h2,h3,h4⟩:=E.info
  have hS:Src P i.size t (.slice ad 0 c) 0 [] w:=by
   cases ad with
   | none=>exact ⟨.inl ⟨e,E.und⟩,fun w'=>by simp [Builtin.lenOf],by simp [Builtin.firstCells],by simp [Builtin.firstCells],by simp,by simp⟩
   | some A=>exact Src.ofSlice w E.und A 0 c [] (by simp) (by simp) (by simp)
  have hv:∃ a0 nn cap,v=.slice a0 nn cap/\nn<=cap:=by
   rcases hown.2 with ⟨rfl,_⟩ | ⟨g,cap,cur,rfl,_,_,hc,_⟩
   · exact ⟨none,0,0,rfl,Nat.le_refl _⟩
   · exact ⟨_,_,_,rfl,hc⟩
  obtain ⟨a0,nn,cap,rfl,hc⟩:=hv;have hrun:=run_append_nothing w t t o.type e i E.und hi a0 nn cap hc _ hS;refine wpList_plain hgd fun K' hK'=>?_
  unfold Oper.wp;simp [execOp,ho,resolve,invoke,builtin,hs,hx,hrun,Result.andThen];exact hK' _ _ (h _ _ (by rw [List.append_nil];exact hown) (.refl _ _))
 · obtain ⟨b,i,rfl,hb⟩:=hf.head (i:=0) (by omega);exact xQN E hgd s x ho base v l n hln hs hown r m hm hr h1 b i c hx hf hn hbase h
end Tryst
namespace Go.Proofs.YtcbicdencgjfiaaGreatDoor
open Go Go.RowKit Tryst
theorem vJI:SliceOf Tryz.prog 128 155 3 24:=.mk' Tryz.underlying128 (z:=.agg #[.int .i64 0,.int .u64 0,.int .i64 0]) (by kernel_rfl) rfl (by decide) (by decide)
theorem KpB.cells_len (l:List KpB):∀ x∈l.map KpB.cells,x.length=3:=by
 intro x hx;obtain ⟨t,_,rfl⟩:=List.mem_map.1 hx;rfl
theorem KpB.cells_one (l:List KpB):∀ x∈l.map KpB.cells,∀ u∈x,u.oneCell'=true:=by
 intro x hx u hu;obtain ⟨t,_,rfl⟩:=List.mem_map.1 hx;simp [KpB.cells] at hu
 rcases hu with rfl | rfl | rfl<;>rfl
theorem zJI (a:Option Addr) (c:Nat) (l:List KpB) (hl:l.length<=9223372036854775807) (hc:l.length<=c) (w:World) (hO:Xg w a l) :
  Calls Tryz.prog 67 #[.slice a l.length c] w (MkR 155 3 KpB.cells w (l.take 31)):=by
 have HE:=Zh (ROwn.empty 155 3 w w.heap.size (Nat.le_refl _));have HR:=Zh (Row.grow (Xg.takeK hO 31) (Qj (.cells #[] 155) (.refl w.heap.size w)));have HB:=Zh (Qj (.cells #[] 155) (.refl w.heap.size w));clear hO
 by_cases h:31 < l.length
 ·
  have y1:(31:Int) < l.length:=by omega
  have y2:(31:Int)<=c:=by omega
  have y3:31<=c:=by omega
  have HL:Hid ((l.take 31).length=31):=Zh (by rw [List.length_take];omega);generalize l.take 31=L at HR HL ⊢;go_enter Tryz.func67,Tryz.ntmps67;go_wp2_with (at_builtin;refine jQC vJI rfl _ _ rfl w.heap.size _ [] 0 rfl rfl HE.out (L.map KpB.cells) 31 (by rw [List.length_map];exact HL.out) (KpB.cells_len L) (KpB.cells_one L) a c rfl HR.out (by omega) (by simp) ?hk)
  case hk=>
   intro v' w1 ho hb1;have HO:=Zh ho;have HB1:=Zh (HB.out.trans hb1);clear ho hb1;go_wp2_with fail;go_ret;exact ⟨_,rfl,HO.out,HB1.out⟩
 ·
  have y1:¬ (31:Int) < l.length:=by omega
  have HL:Hid (l.take 31=l):=Zh (List.take_of_length_le (by omega));rw [HL.out] at HR;obtain ⟨L,hL⟩:∃ L,l.take 31=L:=⟨_,rfl⟩;rw [hL];have HLL:Hid (L=l):=Zh (by rw [<- hL];exact HL.out);clear hL HL;go_enter Tryz.func67,Tryz.ntmps67;go_wp2_with (at_builtin;refine jQC vJI rfl _ _ rfl w.heap.size _ [] 0 rfl rfl HE.out (l.map KpB.cells) l.length (List.length_map ..) (KpB.cells_len l) (KpB.cells_one l) a c rfl HR.out (by omega) (by simp) ?hk)
  case hk=>
   intro v' w1 ho hb1;have HO:=Zh ho;have HB1:=Zh (HB.out.trans hb1);clear ho hb1;go_wp2_with fail;go_ret;exact ⟨_,rfl,by rw [HLL.out];exact HO.out,HB1.out⟩
