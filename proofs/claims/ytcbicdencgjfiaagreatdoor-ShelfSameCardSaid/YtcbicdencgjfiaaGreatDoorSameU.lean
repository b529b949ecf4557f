import Derived.Test.YtcbicdencgjfiaaGreatDoorPenRt
set_option linter.all false
set_option maxHeartbeats 4000000
set_option maxRecDepth 20000
namespace Go.Proofs.YtcbicdencgjfiaaGreatDoor
open Go Go.RowKit Tryst
theorem qYJ {α β:Type} {l:List α} {m:List β} (h:l.length=m.length):(l.zip m).length=l.length:=by rw [List.length_zip];omega
def qYC {α:Type} (f:α->α->Bool) (l m:List α):Bool:=decide (l.length=m.length)&&(l.zip m).all (fun x=>f x.1 x.2)
theorem qYI {α β:Type} {f:α->α->Bool} {p:α->β}:∀ {l m:List α},(∀ x∈l,∀ y∈m,f x y=true↔p x=p y)->(qYC f l m=true↔l.map p=m.map p)
 | [],[],_=>by simp [qYC]
 | [],y :: m,_=>by simp [qYC]
 | x :: l,[],_=>by simp [qYC]
 | x :: l,y :: m,h=>by
  have h1:=qYI (l:=l) (m:=m) (f:=f) (p:=p) (fun a ha b hb=>h a (List.mem_cons_of_mem _ ha) b (List.mem_cons_of_mem _ hb));have h2:=h x List.mem_cons_self y List.mem_cons_self;unfold qYC at h1 ⊢;simp only [Bool.and_eq_true,decide_eq_true_eq,List.length_cons,List.zip_cons_cons,List.all_cons,List.map_cons,List.cons.injEq,Nat.add_right_cancel_iff] at h1 ⊢;rw [<- h1,<- h2]
  constructor
  · rintro ⟨a,b,c⟩;exact ⟨b,a,c⟩
  · rintro ⟨a,b,c⟩;exact ⟨b,a,c⟩
theorem qYP (a b:ByteArray):decide (a.toList=b.toList)=decide (a=b):=by
 rw [decide_eq_decide]
 constructor
 · intro h;rw [Qp,Qp] at h;exact Xk h
 · intro h;rw [h]
theorem qYW (a b:Nat):decide ((a:Int)=b)=decide (a=b):=by
 rw [decide_eq_decide];omega
def eqLB (x y:LB):Bool:=decide (x.producer=y.producer)&&(decide (x.seq=y.seq)&&decide (x.off=y.off))
theorem qYn (a1 a2:Option Addr) (c1 c2:Nat) (l m:List LB) (hl:l.length<=1500000) (w:World) (h1:Row w a1 3 (l.map LB.cells)) (h2:Row w a2 3 (m.map LB.cells)) :
  Calls Tryz.prog 51 #[.slice a1 l.length c1,.slice a2 m.length c2] w fun e w'=>e=.returned (.bool (qYC eqLB l m))/\Below w.heap.size w w':=by
 have H1:=Zh (fun W (hb:Below w.heap.size w W)=>Row.grow h1 hb);have H2:=Zh (fun W (hb:Below w.heap.size w W)=>Row.grow h2 hb);clear h1 h2
 by_cases hn:(l.length:Int)=m.length
 ·
  have hn1:l.length=m.length:=by omega
  have hzl:=qYJ hn1;obtain ⟨R,hR⟩:∃ R,qYC eqLB l m=R:=⟨_,rfl⟩;rw [hR];have HR:Hid (R=((l.zip m).drop 0).all (fun x=>eqLB x.1 x.2)):=Zh (by rw [<- hR,List.drop_zero];unfold qYC;rw [decide_eq_true hn1];rfl);have HZL:=Zh hzl;have HN:=Zh hn1;clear hR hzl hn hn1;rw [<- HN.out];go_enter Tryz.func51,Tryz.ntmps51;go_wp2_with fail;go_loopw [5] (fun i wr=>AllR R (fun x:LB × LB=>eqLB x.1 x.2) (l.zip m) w i wr) (fun i _=>l.length - (intOf i).toNat)
  case atStart=>exact ⟨0,by omega,rfl,HR,.refl _ _,by omega⟩
  case round=>
   obtain ⟨k,hk,rfl,HP,HW,hz⟩:=hrel;obtain ⟨wo,rfl⟩:∃ wo,wo=wr:=⟨_,rfl⟩;rw [HZL.out] at hk
   by_cases hlt:k < l.length
   ·
    have hlt2:k < m.length:=by have:=HN.out;omega
    have hst:=zQJ (by rw [HZL.out];exact hlt) HP.out;rw [List.getElem_zip] at hst;simp only at hst;have hr1:=H1.out _ HW.out;have hr2:=H2.out _ HW.out;obtain ⟨b1,o1,ha1,hb1⟩:=Row.head hr1 (i:=k) (by simpa using hlt);obtain ⟨b2,o2,ha2,hb2⟩:=Row.head hr2 (i:=k) (by simpa using hlt2);subst ha1 ha2;have hat1:=(Row.at hr1 (i:=k) (by simpa using hlt)).2;have hat2:=(Row.at hr2 (i:=k) (by simpa using hlt2)).2;rw [List.getElem_map] at hat1 hat2;generalize l[k]=y at hat1 hst;generalize m[k]=z at hat2 hst;obtain ⟨y0,y1,y2⟩:=y;obtain ⟨z0,z1,z2⟩:=z;have f0:wo.cell? ⟨b1,o1+k*3,none⟩=some (.string y0):=hat1 0 (by decide);have f1:wo.cell? ⟨b1,o1+k*3+1,none⟩=some (.int .u64 y1):=hat1 1 (by decide);have f2:wo.cell? ⟨b1,o1+k*3+2,none⟩=some (.int .i64 y2):=hat1 2 (by decide);have e0:wo.cell? ⟨b2,o2+k*3,none⟩=some (.string z0):=hat2 0 (by decide);have e1:wo.cell? ⟨b2,o2+k*3+1,none⟩=some (.int .u64 z1):=hat2 1 (by decide);have e2:wo.cell? ⟨b2,o2+k*3+2,none⟩=some (.int .i64 z2):=hat2 2 (by decide);obtain ⟨q,hq⟩:∃ q,(decide (y0.toList=z0.toList)&&(decide ((y1:Int)=z1)&&decide (y2=z2)))=q:=⟨_,rfl⟩
    have hst2:R=(q&&((l.zip m).drop (k+1)).all (fun x=>eqLB x.1 x.2)):=by
     rw [hst,<- hq]
     try simp only [qYP,qYW]
     rfl
    have HST:=Zh hst2;clear hst hst2 HP hat1 hat2 hr1 hr2;go_upto_region 6 with fail
    refine Tryst2.wp_region_grows [.is (.slice (some ⟨b1,o1,none⟩) l.length c1),.is (.int .i64 (k:Int)),.is (.pointer (some ⟨b1,o1+k*3,none⟩)),.is (.agg #[.string y0,.int .u64 y1,.int .i64 y2]),.is (.slice (some ⟨b2,o2,none⟩) l.length c2),.is (.int .i64 (k:Int)),.is (.pointer (some ⟨b2,o2+k*3,none⟩)),.is (.agg #[.string z0,.int .u64 z1,.int .i64 z2]),.is (.bool (!q))] (by kernel_rfl) (by kernel_rfl) ?obl ?fin
    case obl=>
     simp only [YA,YL,YO,YR,Op.operands,Call.operands]
     repeat' apply And.intro
     any_goals trivial
     all_goals (intro tv w' hg hold hd;(try simp at hold);obtain ⟨hcg,hfg,hsg⟩:=YG hg)
     all_goals first | (go_simp;done) | (go_simp;rw [if_neg (by omega)];exact ⟨.refl _,rfl⟩) | (obtain ⟨⟨g,hvg,hgg,hcell⟩,_⟩:=hd;have hcell0:=hcell 0 (by decide);simp at hcell0;go_simp;done) | (go_simp;subst hq;(repeat' split);all_goals (first | (rw [Tryst2.stepV_value];exact ⟨Tryst2.Grow.refl _,by simp [*]⟩) | rfl))
    case fin=>
     intro tv w' hg hR;simp only [YF,YL,YR] at hR;obtain ⟨hcg,hfg,hsg⟩:=YG hg;simp only [YP,YL,Act.put,hR];have HW9:=Zh (Tryst2.Grow.below hg HW.out);clear hg hR hcg hfg hsg;cases q with
     | false=>
      have HNX:Hid (R=false):=Zh (by rw [HST.out,Bool.false_and]);go_wp2_with fail;go_ret;exact ⟨Qq HNX.out.symm,HW9.out⟩
     | true=>
      have HNX:=Zh (HST.out.trans (Bool.true_and _));go_wp2_with fail;go_roundw
      case rel=>exact ⟨k+1,by rw [HZL.out];omega,by go_num,HNX,HW9.out,HW9.out.size⟩
      case measure=>simp [intOf]<;>omega
   · have HNX:=Zh (vQC (by rw [HZL.out];omega) HP.out);go_wp2_with fail;go_ret;exact ⟨Qq HNX.out.symm,HW.out⟩
 · have HN:Hid (qYC eqLB l m=false):=Zh (by unfold qYC;rw [decide_eq_false (by omega)];rfl);rw [HN.out];go_enter Tryz.func51,Tryz.ntmps51;go_wp2_with fail;go_ret;exact ⟨rfl,.refl _ _⟩
def eqKp (x y:KpB):Bool:=decide (x.part=y.part)&&(decide (x.id=y.id)&&decide (x.time=y.time))
theorem qYq (a1 a2:Option Addr) (c1 c2:Nat) (l m:List KpB) (hl:l.length<=1500000) (w:World) (h1:Row w a1 3 (l.map KpB.cells)) (h2:Row w a2 3 (m.map KpB.cells)) :
  Calls Tryz.prog 108 #[.slice a1 l.length c1,.slice a2 m.length c2] w fun e w'=>e=.returned (.bool (qYC eqKp l m))/\Below w.heap.size w w':=by
 have H1:=Zh (fun W (hb:Below w.heap.size w W)=>Row.grow h1 hb);have H2:=Zh (fun W (hb:Below w.heap.size w W)=>Row.grow h2 hb);clear h1 h2
 by_cases hn:(l.length:Int)=m.length
 ·
  have hn1:l.length=m.length:=by omega
  have hzl:=qYJ hn1;obtain ⟨R,hR⟩:∃ R,qYC eqKp l m=R:=⟨_,rfl⟩;rw [hR];have HR:Hid (R=((l.zip m).drop 0).all (fun x=>eqKp x.1 x.2)):=Zh (by rw [<- hR,List.drop_zero];unfold qYC;rw [decide_eq_true hn1];rfl);have HZL:=Zh hzl;have HN:=Zh hn1;clear hR hzl hn hn1;rw [<- HN.out];go_enter Tryz.func108,Tryz.ntmps108;go_wp2_with fail;go_loopw [5] (fun i wr=>AllR R (fun x:KpB × KpB=>eqKp x.1 x.2) (l.zip m) w i wr) (fun i _=>l.length - (intOf i).toNat)
  case atStart=>exact ⟨0,by omega,rfl,HR,.refl _ _,by omega⟩
  case round=>
   obtain ⟨k,hk,rfl,HP,HW,hz⟩:=hrel;obtain ⟨wo,rfl⟩:∃ wo,wo=wr:=⟨_,rfl⟩;rw [HZL.out] at hk
   by_cases hlt:k < l.length
   ·
    have hlt2:k < m.length:=by have:=HN.out;omega
    have hst:=zQJ (by rw [HZL.out];exact hlt) HP.out;rw [List.getElem_zip] at hst;simp only at hst;have hr1:=H1.out _ HW.out;have hr2:=H2.out _ HW.out;obtain ⟨b1,o1,ha1,hb1⟩:=Row.head hr1 (i:=k) (by simpa using hlt);obtain ⟨b2,o2,ha2,hb2⟩:=Row.head hr2 (i:=k) (by simpa using hlt2);subst ha1 ha2;have hat1:=(Row.at hr1 (i:=k) (by simpa using hlt)).2;have hat2:=(Row.at hr2 (i:=k) (by simpa using hlt2)).2;rw [List.getElem_map] at hat1 hat2;generalize l[k]=y at hat1 hst;generalize m[k]=z at hat2 hst;obtain ⟨y0,y1,y2⟩:=y;obtain ⟨z0,z1,z2⟩:=z;have f0:wo.cell? ⟨b1,o1+k*3,none⟩=some (.int .i64 y0):=hat1 0 (by decide);have f1:wo.cell? ⟨b1,o1+k*3+1,none⟩=some (.int .u64 y1):=hat1 1 (by decide);have f2:wo.cell? ⟨b1,o1+k*3+2,none⟩=some (.int .i64 y2):=hat1 2 (by decide);have e0:wo.cell? ⟨b2,o2+k*3,none⟩=some (.int .i64 z0):=hat2 0 (by decide);have e1:wo.cell? ⟨b2,o2+k*3+1,none⟩=some (.int .u64 z1):=hat2 1 (by decide);have e2:wo.cell? ⟨b2,o2+k*3+2,none⟩=some (.int .i64 z2):=hat2 2 (by decide);obtain ⟨q,hq⟩:∃ q,(decide (y0=z0)&&(decide ((y1:Int)=z1)&&decide (y2=z2)))=q:=⟨_,rfl⟩
    have hst2:R=(q&&((l.zip m).drop (k+1)).all (fun x=>eqKp x.1 x.2)):=by
     rw [hst,<- hq]
     try simp only [qYP,qYW]
     rfl
    have HST:=Zh hst2;clear hst hst2 HP hat1 hat2 hr1 hr2;go_upto_region 6 with fail
    refine Tryst2.wp_region_grows [.is (.slice (some ⟨b1,o1,none⟩) l.length c1),.is (.int .i64 (k:Int)),.is (.pointer (some ⟨b1,o1+k*3,none⟩)),.is (.agg #[.int .i64 y0,.int .u64 y1,.int .i64 y2]),.is (.slice (some ⟨b2,o2,none⟩) l.length c2),.is (.int .i64 (k:Int)),.is (.pointer (some ⟨b2,o2+k*3,none⟩)),.is (.agg #[.int .i64 z0,.int .u64 z1,.int .i64 z2]),.is (.bool (!q))] (by kernel_rfl) (by kernel_rfl) ?obl ?fin
    case obl=>
     simp only [YA,YL,YO,YR,Op.operands,Call.operands]
     repeat' apply And.intro
     any_goals trivial
     all_goals (intro tv w' hg hold hd;(try simp at hold);obtain ⟨hcg,hfg,hsg⟩:=YG hg)
     all_goals first | (go_simp;done) | (go_simp;rw [if_neg (by omega)];exact ⟨.refl _,rfl⟩) | (obtain ⟨⟨g,hvg,hgg,hcell⟩,_⟩:=hd;have hcell0:=hcell 0 (by decide);simp at hcell0;go_simp;done) | (go_simp;subst hq;(repeat' split);all_goals (first | (rw [Tryst2.stepV_value];exact ⟨Tryst2.Grow.refl _,by simp [*]⟩) | rfl))
    case fin=>
     intro tv w' hg hR;simp only [YF,YL,YR] at hR;obtain ⟨hcg,hfg,hsg⟩:=YG hg;simp only [YP,YL,Act.put,hR];have HW9:=Zh (Tryst2.Grow.below hg HW.out);clear hg hR hcg hfg hsg;cases q with
     | false=>
      have HNX:Hid (R=false):=Zh (by rw [HST.out,Bool.false_and]);go_wp2_with fail;go_ret;exact ⟨Qq HNX.out.symm,HW9.out⟩
     | true=>
      have HNX:=Zh (HST.out.trans (Bool.true_and _));go_wp2_with fail;go_roundw
      case rel=>exact ⟨k+1,by rw [HZL.out];omega,by go_num,HNX,HW9.out,HW9.out.size⟩
      case measure=>simp [intOf]<;>omega
   · have HNX:=Zh (vQC (by rw [HZL.out];omega) HP.out);go_wp2_with fail;go_ret;exact ⟨Qq HNX.out.symm,HW.out⟩
 · have HN:Hid (qYC eqKp l m=false):=Zh (by unfold qYC;rw [decide_eq_false (by omega)];rfl);rw [HN.out];go_enter Tryz.func108,Tryz.ntmps108;go_wp2_with fail;go_ret;exact ⟨rfl,.refl _ _⟩
def eqN (x y:Nat):Bool:=decide (x=y)
theorem kYL (a1 a2:Option Addr) (c1 c2:Nat) (l m:List Nat) (hl:l.length<=1500000) (w:World) (h1:Row w a1 1 (l.map idK.cells)) (h2:Row w a2 1 (m.map idK.cells)) :
  Calls Tryz.prog 161 #[.slice a1 l.length c1,.slice a2 m.length c2] w fun e w'=>e=.returned (.bool (qYC eqN l m))/\Below w.heap.size w w':=by
 have H1:=Zh (fun W (hb:Below w.heap.size w W)=>Row.grow h1 hb);have H2:=Zh (fun W (hb:Below w.heap.size w W)=>Row.grow h2 hb);clear h1 h2
 by_cases hn:(l.length:Int)=m.length
 ·
  have hn1:l.length=m.length:=by omega
  have hzl:=qYJ hn1;obtain ⟨R,hR⟩:∃ R,qYC eqN l m=R:=⟨_,rfl⟩;rw [hR];have HR:Hid (R=((l.zip m).drop 0).all (fun x=>eqN x.1 x.2)):=Zh (by rw [<- hR,List.drop_zero];unfold qYC;rw [decide_eq_true hn1];rfl);have HZL:=Zh hzl;have HN:=Zh hn1;clear hR hzl hn hn1;rw [<- HN.out];go_enter Tryz.func161,Tryz.ntmps161;go_wp2_with fail;go_loopw [5] (fun i wr=>AllR R (fun x:Nat × Nat=>eqN x.1 x.2) (l.zip m) w i wr) (fun i _=>l.length - (intOf i).toNat)
  case atStart=>exact ⟨0,by omega,rfl,HR,.refl _ _,by omega⟩
  case round=>
   obtain ⟨k,hk,rfl,HP,HW,hz⟩:=hrel;obtain ⟨wo,rfl⟩:∃ wo,wo=wr:=⟨_,rfl⟩;rw [HZL.out] at hk
   by_cases hlt:k < l.length
   ·
    have hlt2:k < m.length:=by have:=HN.out;omega
    have hst:=zQJ (by rw [HZL.out];exact hlt) HP.out;rw [List.getElem_zip] at hst;simp only at hst;have hr1:=H1.out _ HW.out;have hr2:=H2.out _ HW.out;obtain ⟨b1,o1,ha1,hb1⟩:=Row.head hr1 (i:=k) (by simpa using hlt);obtain ⟨b2,o2,ha2,hb2⟩:=Row.head hr2 (i:=k) (by simpa using hlt2);subst ha1 ha2;have hat1:=(Row.at hr1 (i:=k) (by simpa using hlt)).2;have hat2:=(Row.at hr2 (i:=k) (by simpa using hlt2)).2;rw [List.getElem_map] at hat1 hat2;generalize l[k]=y0 at hat1 hst;generalize m[k]=z0 at hat2 hst;have f0:wo.cell? ⟨b1,o1+k,none⟩=some (.int .u64 y0):=by have h:=hat1 0 (by decide);rw [Nat.mul_one] at h;exact h
    have e0:wo.cell? ⟨b2,o2+k,none⟩=some (.int .u64 z0):=by have h:=hat2 0 (by decide);rw [Nat.mul_one] at h;exact h
    obtain ⟨q,hq⟩:∃ q,decide ((y0:Int)=z0)=q:=⟨_,rfl⟩
    have hst2:R=(q&&((l.zip m).drop (k+1)).all (fun x=>eqN x.1 x.2)):=by
     rw [hst,<- hq]
     try simp only [qYP,qYW]
     rfl
    have HST:=Zh hst2;clear hst hst2 HP hat1 hat2 hr1 hr2;go_upto_region 6 with fail
    refine Tryst2.wp_region_grows [.is (.slice (some ⟨b1,o1,none⟩) l.length c1),.is (.int .i64 (k:Int)),.is (.pointer (some ⟨b1,o1+k,none⟩)),.is (.int .u64 y0),.is (.slice (some ⟨b2,o2,none⟩) l.length c2),.is (.int .i64 (k:Int)),.is (.pointer (some ⟨b2,o2+k,none⟩)),.is (.int .u64 z0),.is (.bool (!q))] (by kernel_rfl) (by kernel_rfl) ?obl ?fin
    case obl=>
     simp only [YA,YL,YO,YR,Op.operands,Call.operands]
     repeat' apply And.intro
     any_goals trivial
     all_goals (intro tv w' hg hold hd;(try simp at hold);obtain ⟨hcg,hfg,hsg⟩:=YG hg)
     all_goals first | (go_simp;done) | (go_simp;rw [if_neg (by omega)];exact ⟨.refl _,rfl⟩) | (obtain ⟨⟨g,hvg,hgg,hcell⟩,_⟩:=hd;have hcell0:=hcell 0 (by decide);simp at hcell0;go_simp;done) | (go_simp;subst hq;(repeat' split);all_goals (first | (rw [Tryst2.stepV_value];exact ⟨Tryst2.Grow.refl _,by simp [*]⟩) | rfl))
    case fin=>
     intro tv w' hg hR;simp only [YF,YL,YR] at hR;obtain ⟨hcg,hfg,hsg⟩:=YG hg;simp only [YP,YL,Act.put,hR];have HW9:=Zh (Tryst2.Grow.below hg HW.out);clear hg hR hcg hfg hsg;cases q with
     | false=>
      have HNX:Hid (R=false):=Zh (by rw [HST.out,Bool.false_and]);go_wp2_with fail;go_ret;exact ⟨Qq HNX.out.symm,HW9.out⟩
     | true=>
      have HNX:=Zh (HST.out.trans (Bool.true_and _));go_wp2_with fail;go_roundw
      case rel=>exact ⟨k+1,by rw [HZL.out];omega,by go_num,HNX,HW9.out,HW9.out.size⟩
      case measure=>simp [intOf]<;>omega
   · have HNX:=Zh (vQC (by rw [HZL.out];omega) HP.out);go_wp2_with fail;go_ret;exact ⟨Qq HNX.out.symm,HW.out⟩
 · have HN:Hid (qYC eqN l m=false):=Zh (by unfold qYC;rw [decide_eq_false (by omega)];rfl);rw [HN.out];go_enter Tryz.func161,Tryz.ntmps161;go_wp2_with fail;go_ret;exact ⟨rfl,.refl _ _⟩
end Go.Proofs.YtcbicdencgjfiaaGreatDoor
namespace Go.Proofs.YtcbicdencgjfiaaGreatDoor
open Go Go.RowKit Tryst
def eqUB (x y:UB):Bool:=decide (x.id=y.id)&&(decide (x.sub=y.sub)&&(decide (x.tries=y.tries)&&(decide (x.due=y.due)&&qYC eqN x.ids y.ids)))
theorem kYM (x y:UB) (w:World) (hn:x.ids.length<=1500000) (hx:Row w x.ia 1 (x.ids.map idK.cells)) (hy:Row w y.ia 1 (y.ids.map idK.cells)) :
  Calls Tryz.prog 106 #[x.val,y.val] w fun e w'=>e=.returned (.bool (eqUB x y))/\Below w.heap.size w w':=by
 have CI:=Zh (fun W (hb:Below w.heap.size w W)=>kYL x.ia y.ia x.ic y.ic x.ids y.ids hn W (Row.grow hx hb) (Row.grow hy hb));clear hx hy hn;obtain ⟨i1,s1,a1,c1,l1,t1,d1⟩:=x;obtain ⟨i2,s2,a2,c2,l2,t2,d2⟩:=y;simp only at CI;unfold UB.val eqUB;simp only;generalize qYC eqN l1 l2=q at CI ⊢;generalize l1.length=n1 at CI ⊢;generalize l2.length=n2 at CI ⊢;have H1:=Zh ((Var.new w 90 [.int .u64 i1,.string s1,.slice a1 n1 c1,.int .i64 t1,.int .i64 d1]).grow (Qj (.cells #[.int .u64 i2,.string s2,.slice a2 n2 c2,.int .i64 t2,.int .i64 d2] 90) (.refl _ _)));have H2:=Zh (Var.new (w.alloc (.cells #[.int .u64 i1,.string s1,.slice a1 n1 c1,.int .i64 t1,.int .i64 d1] 90)) 90 [.int .u64 i2,.string s2,.slice a2 n2 c2,.int .i64 t2,.int .i64 d2]);have B0:=Zh (Qj (.cells #[.int .u64 i2,.string s2,.slice a2 n2 c2,.int .i64 t2,.int .i64 d2] 90) (Qj (.cells #[.int .u64 i1,.string s1,.slice a1 n1 c1,.int .i64 t1,.int .i64 d1] 90) (.refl w.heap.size w)));go_enter Tryz.func106,Tryz.ntmps106;go_upto_region 1 with fail
 revert H1 H2 B0;simp only [List.toArray,World.size_alloc];generalize (w.alloc (.cells _ 90)).alloc (.cells _ 90)=Z;intro H1 H2 B0;obtain ⟨x0,x1,x2,x3,x4⟩:=v5 (H1.out);obtain ⟨y0,y1,y2,y3,y4⟩:=v5 (H2.out)
 by_cases h1:i1=i2
 case neg=>
  have b1:((i1:Int)==i2)=false:=by simpa using (show ¬ (i1:Int)=i2 by omega)
  go_wp2_with fail;go_ret;exact ⟨Qq (by first | rfl | simp [*]),B0.out⟩
 subst h1
 by_cases h2:s1=s2
 case neg=>
  have b2:(s1.toList==s2.toList)=false:=jY9 (fun e=>h2 (Xk e));go_wp2_with fail;go_ret;exact ⟨Qq (by first | rfl | simp [*]),B0.out⟩
 subst h2
 by_cases h3:t1=t2
 case neg=>
  have b3:(t1==t2)=false:=by simpa using h3
  go_wp2_with fail;go_ret;exact ⟨Qq (by first | rfl | simp [*]),B0.out⟩
 subst h3
 by_cases h4:d1=d2
 case neg=>
  have b4:(d1==d2)=false:=by simpa using h4
  go_wp2_with fail;go_ret;exact ⟨Qq (by first | rfl | simp [*]),B0.out⟩
 subst h4;go_wp2_with fail;refine (CI.out _ B0.out).mono ?_;rintro e w1 ⟨rfl,hb1⟩;have B1:=Zh (Qk hb1 B0.out);clear hb1;go_wp2_with fail;go_ret;exact ⟨Qq (by first | rfl | simp [*]),B1.out⟩
theorem qYa (a1 a2:Option Addr) (c1 c2:Nat) (l m:List UB) (hl:l.length<=1500000) (w:World) (h1:Row w a1 5 (l.map UB.cells)) (h2:Row w a2 5 (m.map UB.cells)) (hE1:∀ y∈l,Row w y.ia 1 (y.ids.map idK.cells)/\y.ids.length<=1500000) (hE2:∀ y∈m,Row w y.ia 1 (y.ids.map idK.cells)) :
  Calls Tryz.prog 52 #[.slice a1 l.length c1,.slice a2 m.length c2] w fun e w'=>e=.returned (.bool (qYC eqUB l m))/\Below w.heap.size w w':=by
 have H1:=Zh (fun W (hb:Below w.heap.size w W)=>Row.grow h1 hb);have H2:=Zh (fun W (hb:Below w.heap.size w W)=>Row.grow h2 hb);have HE:=Zh (fun W (hb:Below w.heap.size w W) (y:UB) (hy:y∈l) (z:UB) (hz:z∈m) W2 (hb2:Below W.heap.size W W2)=>kYM y z W2 (hE1 y hy).2 (Row.grow (Row.grow (hE1 y hy).1 hb) hb2) (Row.grow (Row.grow (hE2 z hz) hb) hb2));clear hE1 hE2;clear h1 h2
 by_cases hn:(l.length:Int)=m.length
 ·
  have hn1:l.length=m.length:=by omega
  have hzl:=qYJ hn1;obtain ⟨R,hR⟩:∃ R,qYC eqUB l m=R:=⟨_,rfl⟩;rw [hR];have HR:Hid (R=((l.zip m).drop 0).all (fun x=>eqUB x.1 x.2)):=Zh (by rw [<- hR,List.drop_zero];unfold qYC;rw [decide_eq_true hn1];rfl);have HZL:=Zh hzl;have HN:=Zh hn1;clear hR hzl hn hn1;rw [<- HN.out];go_enter Tryz.func52,Tryz.ntmps52;go_wp2_with fail;go_loopw [5] (fun i wr=>AllR R (fun x:UB × UB=>eqUB x.1 x.2) (l.zip m) w i wr) (fun i _=>l.length - (intOf i).toNat)
  case atStart=>exact ⟨0,by omega,rfl,HR,.refl _ _,by omega⟩
  case round=>
   obtain ⟨k,hk,rfl,HP,HW,hz⟩:=hrel;obtain ⟨wo,rfl⟩:∃ wo,wo=wr:=⟨_,rfl⟩;rw [HZL.out] at hk
   by_cases hlt:k < l.length
   ·
    have hlt2:k < m.length:=by have:=HN.out;omega
    have hst:=zQJ (by rw [HZL.out];exact hlt) HP.out;rw [List.getElem_zip] at hst;simp only at hst;have hr1:=H1.out _ HW.out;have hr2:=H2.out _ HW.out;obtain ⟨b1,o1,ha1,hb1⟩:=Row.head hr1 (i:=k) (by simpa using hlt);obtain ⟨b2,o2,ha2,hb2⟩:=Row.head hr2 (i:=k) (by simpa using hlt2);subst ha1 ha2;have hat1:=(Row.at hr1 (i:=k) (by simpa using hlt)).2;have hat2:=(Row.at hr2 (i:=k) (by simpa using hlt2)).2;rw [List.getElem_map] at hat1 hat2;have hC:=HE.out wo HW.out l[k] (List.getElem_mem hlt) m[k] (List.getElem_mem hlt2);generalize l[k]=y at hat1 hst hC;generalize m[k]=z at hat2 hst hC;generalize eqUB y z=q at hst hC;obtain ⟨i1,s1,ia1,ic1,l1,t1,d1⟩:=y;obtain ⟨i2,s2,ia2,ic2,l2,t2,d2⟩:=z;have f0:wo.cell? ⟨b1,o1+k*5,none⟩=some (.int .u64 i1):=hat1 0 (by decide);have f1:wo.cell? ⟨b1,o1+k*5+1,none⟩=some (.string s1):=hat1 1 (by decide);have f2:wo.cell? ⟨b1,o1+k*5+2,none⟩=some (.slice ia1 l1.length ic1):=hat1 2 (by decide);have f3:wo.cell? ⟨b1,o1+k*5+3,none⟩=some (.int .i64 t1):=hat1 3 (by decide);have f4:wo.cell? ⟨b1,o1+k*5+4,none⟩=some (.int .i64 d1):=hat1 4 (by decide);have e0:wo.cell? ⟨b2,o2+k*5,none⟩=some (.int .u64 i2):=hat2 0 (by decide);have e1:wo.cell? ⟨b2,o2+k*5+1,none⟩=some (.string s2):=hat2 1 (by decide);have e2:wo.cell? ⟨b2,o2+k*5+2,none⟩=some (.slice ia2 l2.length ic2):=hat2 2 (by decide);have e3:wo.cell? ⟨b2,o2+k*5+3,none⟩=some (.int .i64 t2):=hat2 3 (by decide);have e4:wo.cell? ⟨b2,o2+k*5+4,none⟩=some (.int .i64 d2):=hat2 4 (by decide);have HC2:=Zh (fun W (hb:Below wo.heap.size wo W)=>hC W hb);unfold UB.val at HC2;simp only at HC2;generalize l1.length=n1 at f2 HC2;generalize l2.length=n2 at e2 HC2;have HST:=Zh hst;clear hst HP hat1 hat2 hr1 hr2 hC;go_upto_region 6 with fail
    refine Tryst2.wp_region_grows [.is (.slice (some ⟨b1,o1,none⟩) l.length c1),.is (.int .i64 (k:Int)),.is (.pointer (some ⟨b1,o1+k*5,none⟩)),.is (.agg #[.int .u64 i1,.string s1,.slice ia1 n1 ic1,.int .i64 t1,.int .i64 d1]),.is (.slice (some ⟨b2,o2,none⟩) l.length c2),.is (.int .i64 (k:Int)),.is (.pointer (some ⟨b2,o2+k*5,none⟩)),.is (.agg #[.int .u64 i2,.string s2,.slice ia2 n2 ic2,.int .i64 t2,.int .i64 d2]),.is (.bool q),.is (.bool (!q))] (by kernel_rfl) (by kernel_rfl) ?obl ?fin
    case obl=>
     simp only [YA,YL,YO,YR,Op.operands,Call.operands]
     repeat' apply And.intro
     any_goals trivial
     all_goals (intro tv w' hg hold hd;(try simp at hold);obtain ⟨hcg,hfg,hsg⟩:=YG hg)
     all_goals first | (go_simp;done) | (go_simp;rw [if_neg (by omega)];exact ⟨.refl _,rfl⟩) | (obtain ⟨⟨g,hvg,hgg,hcell⟩,_⟩:=hd;have hcell0:=hcell 0 (by decide);simp at hcell0;go_simp;done) | (go_simp;go_at_call 106;refine (HC2.out _ (Tryst2.Grow.below hg (.refl _ _))).mono ?_;rintro e w2 ⟨rfl,hb2⟩;exact ⟨hb2,rfl⟩)
    case fin=>
     intro tv w' hg hR;simp only [YF,YL,YR] at hR;obtain ⟨hcg,hfg,hsg⟩:=YG hg;simp only [YP,YL,Act.put,hR];have HW9:=Zh (Tryst2.Grow.below hg HW.out);clear hg hR hcg hfg hsg;cases q with
     | false=>
      have HNX:Hid (R=false):=Zh (by rw [HST.out,Bool.false_and]);go_wp2_with fail;go_ret;exact ⟨Qq HNX.out.symm,HW9.out⟩
     | true=>
      have HNX:=Zh (HST.out.trans (Bool.true_and _));go_wp2_with fail;go_roundw
      case rel=>exact ⟨k+1,by rw [HZL.out];omega,by go_num,HNX,HW9.out,HW9.out.size⟩
      case measure=>simp [intOf]<;>omega
   · have HNX:=Zh (vQC (by rw [HZL.out];omega) HP.out);go_wp2_with fail;go_ret;exact ⟨Qq HNX.out.symm,HW.out⟩
 · have HN:Hid (qYC eqUB l m=false):=Zh (by unfold qYC;rw [decide_eq_false (by omega)];rfl);rw [HN.out];go_enter Tryz.func52,Tryz.ntmps52;go_wp2_with fail;go_ret;exact ⟨rfl,.refl _ _⟩
