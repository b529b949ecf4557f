import Derived.Test.YtcbicdencgjfiaaGreatDoorLayR
import Derived.Test.YtcbicdencgjfiaaGreatDoorMeetB
set_option linter.all false
set_option maxHeartbeats 16000000
set_option maxRecDepth 20000
namespace Go.Proofs.YtcbicdencgjfiaaGreatDoor
open Go.RowKit Tryst
def RDR (w:World) (g:Nat) (nm:ByteArray) (G U:Value) (ky kd:ByteArray) (p n x:Int) (o:List UInt8) (l:List PB) (s i:Value) (wr:World):Prop:=
 ∃ (k:Nat) (A:ByteArray),k<=l.length/\i=.int .i64 k/\s=.string A/\Hid (A=⟨(o++((l.map PB.pr).take k).flatMap Kz).toArray⟩)/\Hid (Below w.heap.size w wr)/\Hid (DX wr g nm G U ky kd p n x)
theorem vYC (d:DB) (w:World) (hD:DO w d) (hj:JIn d.j) (hm:∀ p∈d.wl,mayP p.pr=true) (hl:(defL d.dp).length<=1500000) :
  Calls Tryz.prog 59 #[d.agg] w fun e w'=>e=.returned (.string ⟨(defL d.dp).toArray⟩)/\Below w.heap.size w w':=by
 have hlen:=hl;unfold DB.dp defL at hlen;simp only [List.length_append] at hlen;have C1:=Zh (fun W=>J2 d.name (Nat.le_trans hD.hn (by decide)) W);have C2:=Zh (fun W (hb:Below w.heap.size w W)=>kYp d.ga d.gc d.gl (by omega) (Nat.le_trans hD.hg (by decide)) W (hD.gS.grow hb));have C3:=Zh (fun W=>Q4 d.wl.length (Nat.le_trans hD.hw (by decide)) W)
 have C4:=Zh (fun (k:Nat) (hk:k < d.wl.length) W (hb:Below w.heap.size w W)=>vYL 8 d.wl[k] (Nat.le_refl _) (by
  have:=hm _ (List.getElem_mem hk);rw [qQi,Bool.and_eq_true] at this;exact this.1) (qQd _ (hD.wR.po _ (List.getElem_mem hk)).1) W ((hD.wR.po _ (List.getElem_mem hk)).1.grow hb))
 have C5:=Zh (fun W=>J2 d.key (Nat.le_trans hD.hk (by decide)) W);have C6:=Zh (fun W=>J2 d.j.kind (Nat.le_trans hj.k (by decide)) W);have C7:=Zh (fun W=>Q3 d.j.parts hj.p0 hj.p1 W);have C8:=Zh (fun W=>Q3 d.j.need hj.n0 hj.n1 W);have C9:=Zh (fun W=>Q3 d.j.window hj.w0 hj.w1 W);have HU:=Zh (fun W (hb:Below w.heap.size w W)=>hD.wR.grow hb);have hwn:=hD.hw;clear hD hj hm hl;obtain ⟨nm,ga,gl,gc,wa,wl,wc,ky,⟨kd,p,n,x⟩⟩:=d;unfold DB.agg;unfold DB.dp defL Qf;unfold PB.agg at C4;unfold Qf at hlen C2;simp only [List.length_append,List.length_map] at C1 C2 C3 C4 C5 C6 C7 C8 C9 HU hlen hwn ⊢;have s1:(⟨(strL nm).toArray⟩:ByteArray).size<=1500000:=by rw [mk_size];omega
 have s2:(⟨(pack gl.length++gl.flatMap strL).toArray⟩:ByteArray).size<=1500000:=by rw [mk_size,List.length_append];omega
 have s3:(⟨(pack wl.length).toArray⟩:ByteArray).size<=1500000:=by rw [mk_size];omega
 obtain ⟨A1,h1⟩:∃ A:ByteArray,⟨(strL nm).toArray⟩=A:=⟨_,rfl⟩;obtain ⟨A2,h2⟩:∃ A:ByteArray,⟨(pack gl.length++gl.flatMap strL).toArray⟩=A:=⟨_,rfl⟩;obtain ⟨A3,h3⟩:∃ A:ByteArray,⟨(pack wl.length).toArray⟩=A:=⟨_,rfl⟩;rw [h1] at C1 s1;rw [h2] at C2 s2;rw [h3] at C3 s3;have H1:=Zh h1;have H2:=Zh h2;have H3:=Zh h3;clear h1 h2 h3;have HX:=Zh (DX.new w nm (.slice ga gl.length gc) (.slice wa wl.length wc) ky kd p n x);have B0:=Zh (Qj (.cells #[.string nm,.slice ga gl.length gc,.slice wa wl.length wc,.string ky,.string kd,.int .i64 p,.int .i64 n,.int .i64 x] 45) (.refl w.heap.size w));go_enter Tryz.func59,Tryz.ntmps59;go_upto_region 1 with fail
 revert HX B0;generalize w.alloc (.cells _ 45)=Z;intro HX B0;generalize w.heap.size=g at HX ⊢;obtain ⟨x0,x1,x2,x3,x4,x5,x6,x7,x8⟩:=HX.out.box;refine Tryst2.wp_region_grows [.is (.pointer (some ⟨g,0,none⟩)),.is (.string nm),.is (.string A1),.is (.pointer (some ⟨g,1,none⟩)),.is (.slice ga gl.length gc),.is (.string A2),.is (.string (A1++A2)),.is (.pointer (some ⟨g,2,none⟩)),.is (.slice wa wl.length wc),.is (.int .i64 (wl.length:Int)),.is (.string A3),.is (.string (A1++A2++A3)),.is (.string (A1++A2++A3))] (by kernel_rfl) (by kernel_rfl) ?obl ?fin
 case obl=>
  simp only [YA,YL,YO,YR,Op.operands,Call.operands]
  repeat' apply And.intro
  any_goals trivial
  all_goals (intro tv w' hg hold hd;(try simp at hold);obtain ⟨hcg,hfg,hsg⟩:=YG hg)
  all_goals first | (go_simp;done) | (go_simp;rw [if_neg (by omega)];exact ⟨.refl _,rfl⟩) | (obtain ⟨⟨g,hvg,hgg,hcell⟩,_⟩:=hd;have hcell0:=hcell 0 (by decide);simp at hcell0;go_simp;done) | (go_simp;refine (C1.out _).mono ?_;rintro e w2 ⟨rfl,hb2⟩;exact ⟨hb2,rfl⟩) | (go_simp;refine (C3.out _).mono ?_;rintro e w2 ⟨rfl,hb2⟩;exact ⟨hb2,rfl⟩) | (go_simp;(with_reducible refine (C2.out _ ?_).mono ?_);(exact Qk (Tryst2.Grow.below hg (.refl _ _)) B0.out);rintro e w5 ⟨rfl,hb5⟩;exact ⟨hb5,rfl⟩)
 case fin=>
  intro tv w' hg hR;simp only [YF,YL,YR] at hR;obtain ⟨hcg,hfg,hsg⟩:=YG hg;simp only [YP,YL,Act.put,hR];have HZ1:=Zh (HX.out.grow (Tryst2.Grow.below hg (.refl _ _)));have HB1:=Zh (Qk (Tryst2.Grow.below hg (.refl _ _)) B0.out);clear hg hR hcg hfg hsg x0 x1 x2 x3 x4 x5 x6 x7 x8 HX B0 C1 C2 C3;obtain ⟨x0,x1,x2,x3,x4,x5,x6,x7,x8⟩:=HZ1.out.box;go_wp2_with fail;obtain ⟨o,ho⟩:∃ o,strL nm++(pack gl.length++gl.flatMap strL)++pack wl.length=o:=⟨_,rfl⟩;have HA0:Hid (A1++A2++A3=⟨o.toArray⟩):=Zh (by rw [<- H1.out,<- H2.out,<- H3.out,<- ho];exact Xk (by simp));have hol:o.length=(strL nm).length+((pack gl.length).length+(gl.flatMap strL).length)+(pack wl.length).length:=by rw [<- ho,List.length_append,List.length_append,List.length_append]
  have HO:=Zh ho;generalize A1++A2++A3=A0 at HA0 ⊢;clear H1 H2 H3 s1 s2 s3 ho x0 x1 x2 x3 x4 x5 x6 x7 x8;go_loopw [3,4] (fun s i wr=>RDR w g nm (.slice ga gl.length gc) (.slice wa wl.length wc) ky kd p n x o wl s i wr) (fun _ i _=>wl.length - (intOf i).toNat)
  case atStart=>exact ⟨0,A0,by omega,rfl,rfl,Zh (by rw [List.take_zero,List.flatMap_nil,List.append_nil];exact HA0.out),HB1,HZ1⟩
  case round=>
   clear HB1 HZ1 HA0;obtain ⟨k,A,hk,rfl,rfl,HA,HB,HX⟩:=hrel;obtain ⟨wo,rfl⟩:∃ wo,wo=wr:=⟨_,rfl⟩;obtain ⟨x0,x1,x2,x3,x4,x5,x6,x7,x8⟩:=HX.out.box
   by_cases hlt:k < wl.length
   ·
    have hlt2:k < (wl.map PB.pr).length:=by rw [List.length_map];exact hlt
    have hfl:=jQE Kz hlt2;have HFN:=Zh (Xy Kz hlt2);rw [List.getElem_map] at hfl HFN;have hsl:A.size<=o.length+(((wl.map PB.pr).take k).flatMap Kz).length:=by rw [HA.out,mk_size,List.length_append];exact Nat.le_refl _
    have hU:=HU.out wo HB.out;obtain ⟨b,j,ha,hb⟩:=hU.head hlt;subst ha;obtain ⟨_,f0,f1,f2,f3,f4,f5⟩:=Row.pat hU.row hlt;have HC:=Zh (C4.out k hlt)
    have hwl:(Yk wl[k].pr).length<=(Kz wl[k].pr).length:=by
     unfold Kz jQM;rw [List.length_append];omega
    have HT:=Zh (fun W=>J2 ⟨(Yk wl[k].pr).toArray⟩ (by rw [mk_size];omega) W);have e2:strL ⟨(Yk wl[k].pr).toArray⟩=Kz wl[k].pr:=by unfold strL Kz;rw [Jb]
    rw [e2] at HT;have hs2:(⟨(Kz wl[k].pr).toArray⟩:ByteArray).size<=1500000:=by rw [mk_size];omega
    have hs3:A.size<=1500000:=by omega
    have HN:Hid (A++(⟨(Kz wl[k].pr).toArray⟩:ByteArray)=⟨(o++((wl.map PB.pr).take (k+1)).flatMap Kz).toArray⟩):=Zh (by rw [HA.out,HFN.out];exact Xk (by simp));generalize (⟨(Kz wl[k].pr).toArray⟩:ByteArray)=B at HT HN hs2;generalize (⟨(Yk wl[k].pr).toArray⟩:ByteArray)=T at HT HC;clear HFN HA hU e2 hwl hfl hsl hol;go_wp2_with fail;refine (HC.out wo HB.out).mono ?_;rintro e w2 ⟨rfl,hb2⟩;have HB2:=Zh (Qk hb2 HB.out);have HX2:=Zh (HX.out.grow hb2);clear hb2;go_wp2_with fail;refine (HT.out _).mono ?_;rintro e w3 ⟨rfl,hb3⟩;have HB3:=Zh (Qk hb3 HB2.out);have HX3:=Zh (HX2.out.grow hb3);clear hb3 HB HX HB2 HX2 x0 x1 x2 x3 x4 x5 x6 x7 x8 f0 f1 f2 f3 f4 f5 HC HT;go_wp2_with fail;go_roundw
    case rel=>exact ⟨k+1,_,by omega,by go_num,rfl,HN,HB3,HX3⟩
    case measure=>simp [intOf]<;>omega
   ·
    have HA2:Hid (A=⟨(o++(wl.map PB.pr).flatMap Kz).toArray⟩):=Zh (by rw [HA.out,List.take_of_length_le (by rw [List.length_map];omega)]);have hs0:A.size<=1500000:=by rw [HA2.out,mk_size,List.length_append];omega
    clear HA;have t1:(⟨(strL ky).toArray⟩:ByteArray).size<=1500000:=by rw [mk_size];omega
    have t2:(⟨(strL kd).toArray⟩:ByteArray).size<=1500000:=by rw [mk_size];omega
    have t3:(⟨(numL p).toArray⟩:ByteArray).size<=1500000:=by rw [mk_size];omega
    have t4:(⟨(numL n).toArray⟩:ByteArray).size<=1500000:=by rw [mk_size];omega
    have t5:(⟨(numL x).toArray⟩:ByteArray).size<=1500000:=by rw [mk_size];omega
    have HE:Hid (A++(⟨(strL ky).toArray⟩:ByteArray)++⟨(strL kd).toArray⟩++⟨(numL p).toArray⟩++⟨(numL n).toArray⟩++⟨(numL x).toArray⟩=⟨(strL nm++(pack gl.length++gl.flatMap strL++(pack wl.length++(wl.map PB.pr).flatMap Kz++(strL ky++(strL kd++(numL p++(numL n++numL x))))))).toArray⟩):=Zh (by rw [HA2.out,<- HO.out];exact Xk (by simp));generalize (⟨(strL ky).toArray⟩:ByteArray)=B1 at C5 t1 HE;generalize (⟨(strL kd).toArray⟩:ByteArray)=B2 at C6 t2 HE;generalize (⟨(numL p).toArray⟩:ByteArray)=B3 at C7 t3 HE;generalize (⟨(numL n).toArray⟩:ByteArray)=B4 at C8 t4 HE;generalize (⟨(numL x).toArray⟩:ByteArray)=B5 at C9 t5 HE;clear HA2 HO hol hlen HU C4;go_upto_region 6 with fail
    refine Tryst2.wp_region_grows [.is (.string A),.is (.pointer (some ⟨g,3,none⟩)),.is (.string ky),.is (.string B1),.is (.string (A++B1)),.is (.pointer (some ⟨g,4,none⟩)),.is (.pointer (some ⟨g,4,none⟩)),.is (.string kd),.is (.string B2),.is (.string (A++B1++B2)),.is (.pointer (some ⟨g,4,none⟩)),.is (.pointer (some ⟨g,5,none⟩)),.is (.int .i64 p),.is (.string B3),.is (.string (A++B1++B2++B3)),.is (.pointer (some ⟨g,4,none⟩)),.is (.pointer (some ⟨g,6,none⟩)),.is (.int .i64 n),.is (.string B4),.is (.string (A++B1++B2++B3++B4)),.is (.pointer (some ⟨g,4,none⟩)),.is (.pointer (some ⟨g,7,none⟩)),.is (.int .i64 x),.is (.string B5),.is (.string (A++B1++B2++B3++B4++B5)),.is (.string (A++B1++B2++B3++B4++B5))] (by kernel_rfl) (by kernel_rfl) ?obl ?fin
    case obl=>
     simp only [YA,YL,YO,YR,Op.operands,Call.operands]
     repeat' apply And.intro
     any_goals trivial
     all_goals (intro tv w' hg hold hd;(try simp at hold);obtain ⟨hcg,hfg,hsg⟩:=YG hg)
     all_goals first | (go_simp;done) | (go_simp;rw [if_neg (by omega)];exact ⟨.refl _,rfl⟩) | (obtain ⟨⟨g,hvg,hgg,hcell⟩,_⟩:=hd;have hcell0:=hcell 0 (by decide);simp at hcell0;go_simp;done) | (go_simp;(first | with_reducible refine (C5.out _).mono ?_ | with_reducible refine (C6.out _).mono ?_ | with_reducible refine (C7.out _).mono ?_ | with_reducible refine (C8.out _).mono ?_ | with_reducible refine (C9.out _).mono ?_);rintro e w2 ⟨rfl,hb2⟩;exact ⟨hb2,rfl⟩)
    case fin=>
     intro tv w' hg hR;simp only [YF,YL,YR] at hR;obtain ⟨hcg,hfg,hsg⟩:=YG hg;simp only [YP,YL,Act.put,hR];have HB1:=Zh (Qk (Tryst2.Grow.below hg (.refl _ _)) HB.out);clear hg hR hcg hfg hsg x0 x1 x2 x3 x4 x5 x6 x7 x8 HX HB C5 C6 C7 C8 C9;go_wp2_with fail;go_ret;exact ⟨congrArg (fun z=>Ending.returned (.string z)) HE.out,HB1.out⟩
end Go.Proofs.YtcbicdencgjfiaaGreatDoor
namespace Go.Proofs.YtcbicdencgjfiaaGreatDoor
open Go Go.RowKit Tryst
theorem zYT (n:Nat) (hn:n < 2 ^ 64) (w:World):Calls Tryz.prog 47 #[.int .u64 n] w fun e w'=>e=.returned (.string ⟨(pack n).toArray⟩)/\Below w.heap.size w w':=by
 have h:=Y4 (n:Int) w (by omega) (by omega)
 rwa [Int.toNat_natCast] at h
theorem kYu (a:Option Addr) (c:Nat) (l:List UB) (hl:l.length<=1500000) (hx:∀ y∈l,OutX (UB.p y)) (hlen:(Qf outL (l.map UB.p)).length<=1000000000) (w:World) (hR:Zj w a l) (hm:∀ y∈l,Row w y.ia 1 (y.ids.map idK.cells)) :
  Calls Tryz.prog 49 #[.slice a l.length c] w fun e w'=>e=.returned (.string ⟨(Qf outL (l.map UB.p)).toArray⟩)/\Below w.heap.size w w':=by
 have HF:=Zh (fun W (hb:Below w.heap.size w W)=>(show Zj W a l from Row.grow hR hb));have HM:=Zh (fun (k:Nat) (hk:k < l.length) W (hb:Below w.heap.size w W)=>Row.grow (hm _ (List.getElem_mem hk)) hb);have HX:=Zh (fun (k:Nat) (hk:k < l.length)=>hx _ (List.getElem_mem hk));have CC:=Zh (fun W=>Q4 l.length (by omega) W);have hmp:(l.map UB.p).length=l.length:=List.length_map ..;clear hR hm hx;unfold Qf at hlen ⊢;rw [List.length_append,hmp] at hlen;rw [hmp];obtain ⟨ps,hps⟩:∃ ps,l.map UB.p=ps:=⟨_,rfl⟩;have HPS:Hid (∀ (k:Nat) (hk:k < l.length) (hp:k < ps.length),ps[k]=UB.p l[k]):=Zh (fun k hk hp=>by subst hps;exact List.getElem_map ..);rw [hps] at hmp hlen ⊢;clear hps;obtain ⟨A0,hA0⟩:∃ A:ByteArray,⟨(pack l.length).toArray⟩=A:=⟨_,rfl⟩;rw [hA0] at CC;have HA0:=Zh hA0;clear hA0;go_enter Tryz.func49,Tryz.ntmps49;go_wp2_with fail;refine (CC.out _).mono ?_;rintro e w1 ⟨rfl,hb1⟩;have HB1:=Zh hb1;clear hb1 CC;go_wp2_with fail;go_loopw [3,4] (fun s i wr=>RLR w outL (pack l.length) ps s i wr) (fun _ i _=>l.length - (intOf i).toNat)
 case atStart=>exact ⟨0,A0,by omega,rfl,rfl,Zh (by rw [List.take_zero,List.flatMap_nil,List.append_nil];exact HA0.out.symm),HB1⟩
 case round=>
  clear HB1 HA0;obtain ⟨k,A,hk,rfl,rfl,HA,HB⟩:=hrel;obtain ⟨wo,rfl⟩:∃ wo,wo=wr:=⟨_,rfl⟩
  by_cases hlt:k < l.length
  ·
   have hlp:k < ps.length:=by omega
   have hrow:=HF.out wo HB.out;obtain ⟨b,o,ha,hb⟩:=Zj.hd hrow hlt;subst ha;obtain ⟨_,f0,f1,f2,f3,f4⟩:=Zj.at hrow hlt;have hfl:=jQE outL hlp;have HFN:=Zh (Xy outL hlp);rw [HPS.out k hlt hlp] at hfl HFN;have hsl:A.size=(pack l.length).length+((ps.take k).flatMap outL).length:=by rw [HA.out,mk_size,List.length_append]
   have HMK:=Zh (fun W hb=>HM.out k hlt W hb);obtain ⟨q1,q2,⟨q3,q4⟩,⟨q5,q6⟩,⟨q7,q8⟩⟩:=HX.out k hlt;have x1:(k:Int) < l.length:=by omega
   have x2:(0:Int)<=k:=by omega
   clear hrow;obtain ⟨x,hx⟩:∃ x,l[k]=x:=⟨_,rfl⟩;rw [hx] at f0 f1 f2 f3 f4 hfl HFN HMK q1 q2 q3 q4 q5 q6 q7 q8;have hlk:=hx;clear hx;obtain ⟨id,sub,ia,ic,ids,tries,due⟩:=x;have hfl:((ps.take k).flatMap outL).length+(pack id++(strL sub++((pack ids.length++ids.flatMap pack)++(numL tries++numL due)))).length<=(ps.flatMap outL).length:=hfl;have HFN:Hid ((ps.take (k+1)).flatMap outL=(ps.take k).flatMap outL++(pack id++(strL sub++((pack ids.length++ids.flatMap pack)++(numL tries++numL due))))):=HFN;unfold UB.p at q1 q2 q3 q4 q5 q6 q7 q8;simp only [List.length_append] at f0 f1 f2 f3 f4 hfl HMK q1 q2 q3 q4 q5 q6 q7 q8;have D1:=Zh (fun W=>zYT id q1 W);have D2:=Zh (fun W=>J2 sub (by omega) W);have D3:=Zh (fun W=>Q4 ids.length (by omega) W);have E4:=Zh (fun (q:Nat) (hq:q < ids.length) W=>zYT ids[q] (q4 _ (List.getElem_mem hq)) W);have E5:=Zh (fun W=>Q3 tries q5 q6 W);have E6:=Zh (fun W=>Q3 due q7 q8 W);obtain ⟨P1,h1⟩:∃ A:ByteArray,⟨(pack id).toArray⟩=A:=⟨_,rfl⟩;obtain ⟨P2,h2⟩:∃ A:ByteArray,⟨(strL sub).toArray⟩=A:=⟨_,rfl⟩;obtain ⟨P3,h3⟩:∃ A:ByteArray,⟨(pack ids.length).toArray⟩=A:=⟨_,rfl⟩;obtain ⟨P5,h5⟩:∃ A:ByteArray,⟨(numL tries).toArray⟩=A:=⟨_,rfl⟩;obtain ⟨P6,h6⟩:∃ A:ByteArray,⟨(numL due).toArray⟩=A:=⟨_,rfl⟩;have s1:P1.size=(pack id).length:=by rw [<- h1,mk_size]
   have s2:P2.size=(strL sub).length:=by rw [<- h2,mk_size]
   have s3:P3.size=(pack ids.length).length:=by rw [<- h3,mk_size]
   have s5:P5.size=(numL tries).length:=by rw [<- h5,mk_size]
   have s6:P6.size=(numL due).length:=by rw [<- h6,mk_size]
   rw [h1] at D1;rw [h2] at D2;rw [h3] at D3;rw [h5] at E5;rw [h6] at E6;obtain ⟨O,hO⟩:∃ O,(pack l.length++(ps.take k).flatMap outL)++(pack id++(strL sub++pack ids.length))=O:=⟨_,rfl⟩;have HO:Hid (A++(P1++P2++P3)=⟨O.toArray⟩):=Zh (by rw [HA.out,<- h1,<- h2,<- h3,<- hO];exact Xk (by simp));have HN:Hid (∀ F:List UInt8,F=O++ids.flatMap pack->(⟨F.toArray⟩:ByteArray)++(P5++P6)=⟨(pack l.length++(ps.take (k+1)).flatMap outL).toArray⟩):=Zh (fun F hF=>by rw [hF,<- hO,HFN.out,<- h5,<- h6];exact Xk (by simp));have hOl:O.length=A.size+(P1.size+P2.size+P3.size):=by rw [<- hO,hsl,s1,s2,s3];simp only [List.length_append];omega
   have b0:A.size<=1000000000:=by omega
   have b1:P1.size<=1000000000:=by omega
   have b2:P2.size<=1000000000:=by omega
   have b3:P3.size<=1000000000:=by omega
   have b5:P5.size<=1000000000:=by omega
   have b6:P6.size<=1000000000:=by omega
   have hol:O.length+(ids.flatMap pack).length<=1000000000:=by omega
   clear h1 h2 h3 h5 h6 hO HFN HA s1 s2 s3 s5 s6 hOl hsl hfl;go_upto_region 5 with fail
   refine Tryst2.wp_region_text 23 (by kernel_rfl) (by kernel_rfl) ?_
   iterate 23 ((first | refine Tryst2.TW.skip (by rfl) ?_ | (refine' Tryst2.TW.op _ ?_ (by rfl) ?_;rotate_left;focus (intro w' hg;obtain ⟨hcg,hfg,hsg⟩:=YG hg;first | (go_simp;done) | (go_simp;with_reducible rfl) | (go_simp;rw [if_neg (by omega),Tryst2.stepV_value];refine ⟨.refl _,?_⟩;with_reducible rfl) | (go_simp;(first | go_at_call 47 | go_at_call 45 | go_at_call 44 | go_at_call 43 | go_at_call 46 | go_at_call 59 | go_at_call 49 | go_at_call 104);(first | with_reducible refine (D1.out _).mono ?_ | with_reducible refine (D2.out _).mono ?_ | with_reducible refine (D3.out _).mono ?_ | with_reducible refine (D4.out _).mono ?_ | with_reducible refine (D5.out _).mono ?_ | with_reducible refine (D6.out _).mono ?_);rintro e w5 ⟨rfl,hb5⟩;refine ⟨hb5,?_⟩;with_reducible rfl))));simp only [Act.put,List.setIfInBounds_toArray,List.set_cons_zero,List.set_cons_succ])
   intro w' hg;obtain ⟨hcg,hfg,hsg⟩:=YG hg
   try change wpList _ _ _ [] _ _
   have HB2:=Zh (Qk (Tryst2.Grow.below hg (.refl _ _)) HB.out);clear hg hcg hfg hsg D1 D2 D3 HB f0 f1 f2 f3 f4;go_wp2_with fail;obtain ⟨A2,hA2⟩:∃ A2,A++(P1++P2++P3)=A2:=⟨_,rfl⟩;rw [hA2] at HO ⊢;clear hA2;go_loopw [3,5] (fun s i wr=>RLR w pack O ids s i wr) (fun _ i _=>ids.length - (intOf i).toNat)
   case atStart=>exact ⟨0,A2,by omega,rfl,rfl,Zh (by rw [List.take_zero,List.flatMap_nil,List.append_nil];exact HO.out),HB2⟩
   case round=>
    clear HB2 HO;obtain ⟨q,B,hq,rfl,rfl,HC,HB3⟩:=hrel;obtain ⟨wq,rfl⟩:∃ wq,wq=wr:=⟨_,rfl⟩;have hrow:=HF.out wq HB3.out;obtain ⟨_,f0,f1,f2,f3,f4⟩:=Zj.at hrow hlt;obtain ⟨y,hy⟩:∃ y,l[k]=y:=⟨_,rfl⟩;rw [hy] at f0 f1 f2 f3 f4;obtain rfl:y=⟨id,sub,ia,ic,ids,tries,due⟩:=hy.symm.trans hlk;clear hy hrow;simp only at f0 f1 f2 f3 f4
    by_cases hql:q < ids.length
    ·
     have hf2:=jQE pack hql;have HF2:=Zh (Xy pack hql);have D1:=Zh (E4.out q hql);have hid:=HMK.out wq HB3.out;obtain ⟨b2,o2,ha2,hb2⟩:=hid.head (i:=q) (by simpa using hql);subst ha2;obtain ⟨_,g0⟩:=hid.at (i:=q) (by simpa using hql);have g1:=g0 0 (by decide);simp only [List.getElem_map,idK,List.length_cons,List.length_nil,Nat.add_zero,Nat.mul_one] at g1;obtain ⟨P,hP⟩:∃ A:ByteArray,⟨(pack ids[q]).toArray⟩=A:=⟨_,rfl⟩;have s1:P.size=(pack ids[q]).length:=by rw [<- hP,mk_size]
     have s2:B.size=O.length+((ids.take q).flatMap pack).length:=by rw [HC.out,mk_size,List.length_append]
     rw [hP] at D1;have HN2:Hid (B++P=⟨(O++(ids.take (q+1)).flatMap pack).toArray⟩):=Zh (by rw [HC.out,<- hP,HF2.out];exact Xk (by simp));have t0:B.size<=1000000000:=by omega
     have t1:P.size<=1000000000:=by omega
     have y1:(q:Int) < ids.length:=by omega
     have y2:(0:Int)<=q:=by omega
     clear hP s1 s2 hf2 HF2 g0 hid HC;go_wp2_with fail;refine (D1.out _).mono ?_;rintro e w5 ⟨rfl,hb5⟩;have HB5:=Zh (Qk hb5 HB3.out);clear hb5;go_wp2_with fail;go_roundw
     case rel=>exact ⟨q+1,_,by omega,by go_num,rfl,HN2,HB5⟩
     case measure=>simp [intOf]<;>omega
    ·
     have HN3:=Zh (HN.out (O++ids.flatMap pack) rfl);have hB:B=⟨(O++ids.flatMap pack).toArray⟩:=by rw [HC.out,List.take_of_length_le (by omega)]
     rw [<- hB] at HN3;have t0:B.size<=1000000000:=by rw [hB,mk_size,List.length_append];omega
     have D1:=E5;have D2:=E6;clear hB HC E4 E5 E6 HN;go_upto_region 10 with fail
     refine Tryst2.wp_region_text 15 (by kernel_rfl) (by kernel_rfl) ?_
     iterate 15 ((first | refine Tryst2.TW.skip (by rfl) ?_ | (refine' Tryst2.TW.op _ ?_ (by rfl) ?_;rotate_left;focus (intro w' hg;obtain ⟨hcg,hfg,hsg⟩:=YG hg;first | (go_simp;done) | (go_simp;with_reducible rfl) | (go_simp;rw [if_neg (by omega),Tryst2.stepV_value];refine ⟨.refl _,?_⟩;with_reducible rfl) | (go_simp;(first | go_at_call 47 | go_at_call 45 | go_at_call 44 | go_at_call 43 | go_at_call 46 | go_at_call 59 | go_at_call 49 | go_at_call 104);(first | with_reducible refine (D1.out _).mono ?_ | with_reducible refine (D2.out _).mono ?_ | with_reducible refine (D3.out _).mono ?_ | with_reducible refine (D4.out _).mono ?_ | with_reducible refine (D5.out _).mono ?_ | with_reducible refine (D6.out _).mono ?_);rintro e w5 ⟨rfl,hb5⟩;refine ⟨hb5,?_⟩;with_reducible rfl))));simp only [Act.put,List.setIfInBounds_toArray,List.set_cons_zero,List.set_cons_succ])
     intro w' hg;obtain ⟨hcg,hfg,hsg⟩:=YG hg
     try change wpList _ _ _ [] _ _
     have HB5:=Zh (Qk (Tryst2.Grow.below hg (.refl _ _)) HB3.out);clear hg hcg hfg hsg;go_wp2_with fail;go_roundw
     case rel=>exact ⟨k+1,_,by omega,by go_num,rfl,HN3,HB5⟩
     case measure=>simp [intOf]<;>omega
  · have HN:Hid (A=⟨(pack l.length++ps.flatMap outL).toArray⟩):=Zh (by rw [HA.out,List.take_of_length_le (by omega)]);go_wp2_with fail;go_ret;exact ⟨congrArg (fun z=>Ending.returned (.string z)) HN.out,HB.out⟩
