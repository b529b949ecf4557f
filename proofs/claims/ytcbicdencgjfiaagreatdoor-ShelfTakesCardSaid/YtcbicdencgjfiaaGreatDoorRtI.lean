import Derived.Test.YtcbicdencgjfiaaGreatDoorRtH
set_option linter.all false
set_option maxHeartbeats 4000000
set_option maxRecDepth 20000
namespace Go.Proofs.YtcbicdencgjfiaaGreatDoor
open Go Go.RowKit Tryst
def zQF (total:Int) (l:List UB):Bool:=match l.getLast? with | some x=>decide ((x.id:Int)<=total) | none=>true
def jQ5:List UB->List UB->Bool
 | [],_=>true
 | _ :: _,[]=>true
 | x :: u,y :: g=>if x.id=y.id then false else if x.id < y.id then jQ5 u (y :: g) else jQ5 (x :: u) g
termination_by u g=>u.length+g.length
theorem jJm (u:List UB):jQ5 u []=true:=by cases u<;>rw [jQ5]
theorem kJi {u g:List UB} {i j:Nat} (hi:i < u.length) (hj:j < g.length):jQ5 (u.drop i) (g.drop j)=if u[i].id=g[j].id then false else if u[i].id < g[j].id then jQ5 (u.drop (i+1)) (g.drop j) else jQ5 (u.drop i) (g.drop (j+1)):=by
 conv=>lhs;rw [List.drop_eq_getElem_cons hi,List.drop_eq_getElem_cons hj,jQ5]
 rw [<- List.drop_eq_getElem_cons hi,<- List.drop_eq_getElem_cons hj]
def zQk (r:RtB):Bool:=decide (0<=r.total)&&(xQ8 r.ul&&(xQ8 r.gl&&((zQF r.total r.ul&&zQF r.total r.gl)&&jQ5 r.ul r.gl)))
def MoR (w:World) (A B R:Bool) (i:Value) (wr:World):Prop:=∃ k:Nat,k<=2/\i=.int .i64 k/\Hid (R=if k=0 then A&&B else if k=1 then B else true)/\Hid (Below w.heap.size w wr)
def MoC (w:World) (u g:List UB) (C:Bool) (i j:Value) (wr:World):Prop:=∃ p q:Nat,p<=u.length/\q<=g.length/\i=.int .i64 p/\j=.int .i64 q/\Hid (C=jQ5 (u.drop p) (g.drop q))/\Hid (Below w.heap.size w wr)
theorem vJw (a b:Option Addr) (n m c d:Nat) (w:World):(Instr.index 190 (.agg #[.slice a n c,.slice b m d]) (.int .i64 0)).run Tryz.prog w=.ok (.slice a n c) w:=by kernel_rfl
theorem vJa (a b:Option Addr) (n m c d:Nat) (w:World):(Instr.index 190 (.agg #[.slice a n c,.slice b m d]) (.int .i64 1)).run Tryz.prog w=.ok (.slice b m d) w:=by kernel_rfl
theorem vJK (r:RtB) (hu:r.ul.length<=1500000) (hus:∀ x∈r.ul,x.sub.size<=1500000) (hg:r.gl.length<=1500000) (hgs:∀ x∈r.gl,x.sub.size<=1500000) (htt:r.total<=9223372036854775807) (w:World) (hM:MaxW w) (hU:Zj w r.ua r.ul) (hG:Zj w r.ga r.gl) :
  Calls Tryz.prog 71 #[r.agg] w fun e w'=>e=.returned (.bool (zQk r))/\Below w.heap.size w w':=by
 have hi0:=vJw;have hi1:=vJa;have HU:=Zh (fun W (hb:Below w.heap.size w W)=>hU.grow hb);have HG:=Zh (fun W (hb:Below w.heap.size w W)=>hG.grow hb);have CU:=Zh (fun W (hb:Below w.heap.size w W)=>jJZ r.ua r.uc r.ul hu hus W (hM.grow hb) (hU.grow hb));have CG:=Zh (fun W (hb:Below w.heap.size w W)=>jJZ r.ga r.gc r.gl hg hgs W (hM.grow hb) (hG.grow hb));clear hM hU hG hus hgs;obtain ⟨now,ta,tl,tc,la,ll,lc,sa,sl,sc,total,ua,ul,uc,ga,gl,gc,da,dl,dc⟩:=r;unfold zQk RtB.agg;simp only at HU HG CU CG hu hg htt ⊢;generalize xQ8 ul=mu at CU ⊢;generalize xQ8 gl=mg at CG ⊢;obtain ⟨A,hA⟩:∃ A,zQF total ul=A:=⟨_,rfl⟩;obtain ⟨B,hB⟩:∃ B,zQF total gl=B:=⟨_,rfl⟩;obtain ⟨C,hC⟩:∃ C,jQ5 ul gl=C:=⟨_,rfl⟩;rw [hA,hB,hC];obtain ⟨VV,hVV⟩:∃ VV,(decide (0<=total)&&(mu&&(mg&&((A&&B)&&C))))=VV:=⟨_,rfl⟩;rw [hVV];have HVV:=Zh hVV;have HA:=Zh hA;have HB:=Zh hB;have HC:=Zh hC;clear hVV hA hB hC;have HS0:=Zh (Var.new w 28 [.int .i64 now,.slice ta tl.length tc,.slice la ll.length lc,.slice sa sl.length sc,.int .i64 total,.slice ua ul.length uc,.slice ga gl.length gc,.slice da dl.length dc]);have HB0:=Zh (Qj (.cells #[.int .i64 now,.slice ta tl.length tc,.slice la ll.length lc,.slice sa sl.length sc,.int .i64 total,.slice ua ul.length uc,.slice ga gl.length gc,.slice da dl.length dc] 28) (.refl w.heap.size w));go_enter Tryz.func71,Tryz.ntmps71;go_upto_region 1 with fail
 revert HS0 HB0;simp only [List.toArray];generalize w.alloc (.cells _ 28)=X;intro HS0 HB0;obtain ⟨s0,s1,s2,s3,s4,s5,s6,s7⟩:=v8 (HS0.out);have hzs:=HS0.out.lt
 by_cases h1:0<=total
 case neg=>
  have z1:total < 0:=by omega
  go_wp2_with fail;go_ret;exact ⟨Qq (by rw [<- HVV.out,decide_eq_false (show ¬ 0<=total by omega),Bool.false_and]),HB0.out⟩
 have z1:¬ total < 0:=by omega
 have yu:IntKind.u64.wrap total=total:=IntWalk.u64_in _ (by omega);go_wp2_with fail;refine (CU.out _ HB0.out).mono ?_;rintro e w1 ⟨rfl,hb1⟩;have HB1:=Zh (Qk hb1 HB0.out);have HS1:=Zh (HS0.out.grow hb1);clear hb1 s0 s1 s2 s3 s4 s5 s6 s7 hzs HB0 HS0 CU;obtain ⟨s0,s1,s2,s3,s4,s5,s6,s7⟩:=v8 (HS1.out);have hzs:=HS1.out.lt;cases mu with
 | false=>
  rw [show errO false=1 from rfl];go_wp2_with fail;go_ret;exact ⟨Qq (by rw [<- HVV.out,decide_eq_true h1];rfl),HB1.out⟩
 | true=>
  rw [show errO true=0 from rfl];go_wp2_with fail;refine (CG.out _ HB1.out).mono ?_;rintro e w2 ⟨rfl,hb2⟩;have HB2:=Zh (Qk hb2 HB1.out);have HS2:=Zh (HS1.out.grow hb2);clear hb2 s0 s1 s2 s3 s4 s5 s6 s7 hzs HB1 HS1 CG;obtain ⟨s0,s1,s2,s3,s4,s5,s6,s7⟩:=v8 (HS2.out);have hzs:=HS2.out.lt;cases mg with
  | false=>
   rw [show errO false=1 from rfl];go_wp2_with fail;go_ret;exact ⟨Qq (by rw [<- HVV.out,decide_eq_true h1];rfl),HB2.out⟩
  | true=>
   rw [show errO true=0 from rfl];have HV2:Hid (VV=((A&&B)&&C)):=Zh (by rw [<- HVV.out,decide_eq_true h1];rfl);clear HVV;go_wp2_with fail;clear s0 s1 s2 s3 s4 s5 s6 s7 hzs;go_loopw [29] (fun i wr=>MoR w2 A B (A&&B) i wr) (fun i _=>2 - (intOf i).toNat)
   case atStart=>exact ⟨0,by omega,rfl,Zh rfl,Zh (.refl _ _)⟩
   case round=>
    obtain ⟨k,hk,rfl,HP,HW⟩:=hrel;obtain ⟨wo,rfl⟩:∃ wo,wo=wr:=⟨_,rfl⟩;have HWW:=Zh (Qk HW.out HB2.out);have HSo:=Zh (HS2.out.grow HW.out);obtain ⟨s0,s1,s2,s3,s4,s5,s6,s7⟩:=v8 (HSo.out);have hzs:=HSo.out.lt;have hk3:k=0∨k=1∨k=2:=by omega
    rcases hk3 with rfl | rfl | rfl
    ·
     go_upto_region 6 with fail
     by_cases h0:(ul).length=0
     ·
      have hn:ul=[]:=List.eq_nil_of_length_eq_zero h0;have HT:Hid (A=true):=Zh (by rw [<- HA.out,hn];rfl);have y1:¬ 0 < (ul).length:=by omega
      have y2:¬ (0:Int) < (ul).length:=by omega
      clear hn;refine Tryst2.wp_region_text 16 (by kernel_rfl) (by kernel_rfl) ?_
      iterate 16 ((first | refine Tryst2.TW.skip (by rfl) ?_ | (refine' Tryst2.TW.op _ ?_ (by rfl) ?_;rotate_left;focus (intro w' hg;obtain ⟨hcg,hfg,hsg⟩:=YG hg;first | (go_simp;done) | (go_simp;with_reducible rfl) )));simp only [Act.put,List.setIfInBounds_toArray,List.set_cons_zero,List.set_cons_succ])
      intro w' hg;obtain ⟨hcg,hfg,hsg⟩:=YG hg
      try change wpList _ _ _ [] _ _
      have HB9:=Zh (Tryst2.Grow.below hg HW.out);clear hg hcg hfg hsg;go_wp2_with fail;go_roundw
      case rel=>exact ⟨1,by omega,by go_num,Zh (HP.out.trans (by simp [HT.out])),HB9⟩
      case measure=>simp [intOf]<;>omega
     ·
      have hm:(ul).length - 1 < (ul).length:=by omega
      have HL:Hid (A=decide (((ul)[(ul).length - 1].id:Int)<=total)):=Zh (by
       rw [<- HA.out];unfold zQF;rw [List.getLast?_eq_getElem?,List.getElem?_eq_getElem hm])
      obtain ⟨b,o,ha,hb⟩:=Zj.hd (HU.out wo HWW.out) hm;subst ha;have f0:=(Zj.at (HU.out wo HWW.out) hm).2.c0;obtain ⟨m,hmm⟩:∃ m,(ul).length - 1=m:=⟨_,rfl⟩;have y1:0 < (ul).length:=by omega
      have y2:(0:Int) < (ul).length:=by omega
      have y3:IntKind.i64.wrap (((ul).length:Int) - 1)=(m:Int):=by rw [IntWalk.i64_in _ (by omega)];omega
      have y4:(m:Int) < ((ul).length:Int):=by omega
      have y5:(0:Int)<=(m:Int):=by omega
      generalize (ul)[(ul).length - 1].id=lid at HL f0;rw [hmm] at f0;clear hmm hm
      by_cases hle:(lid:Int)<=total
      ·
       have HT:Hid (A=true):=Zh (by rw [HL.out,decide_eq_true hle]);have y6:¬ total < (lid:Int):=by omega
       clear HL;refine Tryst2.wp_region_text 16 (by kernel_rfl) (by kernel_rfl) ?_
       iterate 16 ((first | refine Tryst2.TW.skip (by rfl) ?_ | (refine' Tryst2.TW.op _ ?_ (by rfl) ?_;rotate_left;focus (intro w' hg;obtain ⟨hcg,hfg,hsg⟩:=YG hg;first | (go_simp;done) | (go_simp;with_reducible rfl) )));simp only [Act.put,List.setIfInBounds_toArray,List.set_cons_zero,List.set_cons_succ])
       intro w' hg;obtain ⟨hcg,hfg,hsg⟩:=YG hg
       try change wpList _ _ _ [] _ _
       have HB9:=Zh (Tryst2.Grow.below hg HW.out);clear hg hcg hfg hsg;go_wp2_with fail;go_roundw
       case rel=>exact ⟨1,by omega,by go_num,Zh (HP.out.trans (by simp [HT.out])),HB9⟩
       case measure=>simp [intOf]<;>omega
      ·
       have HT:Hid (A=false):=Zh (by rw [HL.out,decide_eq_false hle]);have y6:total < (lid:Int):=by omega
       clear HL;refine Tryst2.wp_region_text 16 (by kernel_rfl) (by kernel_rfl) ?_
       iterate 16 ((first | refine Tryst2.TW.skip (by rfl) ?_ | (refine' Tryst2.TW.op _ ?_ (by rfl) ?_;rotate_left;focus (intro w' hg;obtain ⟨hcg,hfg,hsg⟩:=YG hg;first | (go_simp;done) | (go_simp;with_reducible rfl) )));simp only [Act.put,List.setIfInBounds_toArray,List.set_cons_zero,List.set_cons_succ])
       intro w' hg;obtain ⟨hcg,hfg,hsg⟩:=YG hg
       try change wpList _ _ _ [] _ _
       have HB9:=Zh (Tryst2.Grow.below hg HWW.out);clear hg hcg hfg hsg;go_wp2_with fail;go_ret;exact ⟨Qq (by rw [HV2.out,HT.out];simp),HB9.out⟩
    ·
     go_upto_region 6 with fail
     by_cases h0:(gl).length=0
     ·
      have hn:gl=[]:=List.eq_nil_of_length_eq_zero h0;have HT:Hid (B=true):=Zh (by rw [<- HB.out,hn];rfl);have y1:¬ 0 < (gl).length:=by omega
      have y2:¬ (0:Int) < (gl).length:=by omega
      clear hn;refine Tryst2.wp_region_text 16 (by kernel_rfl) (by kernel_rfl) ?_
      iterate 16 ((first | refine Tryst2.TW.skip (by rfl) ?_ | (refine' Tryst2.TW.op _ ?_ (by rfl) ?_;rotate_left;focus (intro w' hg;obtain ⟨hcg,hfg,hsg⟩:=YG hg;first | (go_simp;done) | (go_simp;with_reducible rfl) )));simp only [Act.put,List.setIfInBounds_toArray,List.set_cons_zero,List.set_cons_succ])
      intro w' hg;obtain ⟨hcg,hfg,hsg⟩:=YG hg
      try change wpList _ _ _ [] _ _
      have HB9:=Zh (Tryst2.Grow.below hg HW.out);clear hg hcg hfg hsg;go_wp2_with fail;go_roundw
      case rel=>exact ⟨2,by omega,by go_num,Zh (HP.out.trans (by simp [HT.out])),HB9⟩
      case measure=>simp [intOf]<;>omega
     ·
      have hm:(gl).length - 1 < (gl).length:=by omega
      have HL:Hid (B=decide (((gl)[(gl).length - 1].id:Int)<=total)):=Zh (by
       rw [<- HB.out];unfold zQF;rw [List.getLast?_eq_getElem?,List.getElem?_eq_getElem hm])
      obtain ⟨b,o,ha,hb⟩:=Zj.hd (HG.out wo HWW.out) hm;subst ha;have f0:=(Zj.at (HG.out wo HWW.out) hm).2.c0;obtain ⟨m,hmm⟩:∃ m,(gl).length - 1=m:=⟨_,rfl⟩;have y1:0 < (gl).length:=by omega
      have y2:(0:Int) < (gl).length:=by omega
      have y3:IntKind.i64.wrap (((gl).length:Int) - 1)=(m:Int):=by rw [IntWalk.i64_in _ (by omega)];omega
      have y4:(m:Int) < ((gl).length:Int):=by omega
      have y5:(0:Int)<=(m:Int):=by omega
      generalize (gl)[(gl).length - 1].id=lid at HL f0;rw [hmm] at f0;clear hmm hm
      by_cases hle:(lid:Int)<=total
      ·
       have HT:Hid (B=true):=Zh (by rw [HL.out,decide_eq_true hle]);have y6:¬ total < (lid:Int):=by omega
       clear HL;refine Tryst2.wp_region_text 16 (by kernel_rfl) (by kernel_rfl) ?_
       iterate 16 ((first | refine Tryst2.TW.skip (by rfl) ?_ | (refine' Tryst2.TW.op _ ?_ (by rfl) ?_;rotate_left;focus (intro w' hg;obtain ⟨hcg,hfg,hsg⟩:=YG hg;first | (go_simp;done) | (go_simp;with_reducible rfl) )));simp only [Act.put,List.setIfInBounds_toArray,List.set_cons_zero,List.set_cons_succ])
       intro w' hg;obtain ⟨hcg,hfg,hsg⟩:=YG hg
       try change wpList _ _ _ [] _ _
       have HB9:=Zh (Tryst2.Grow.below hg HW.out);clear hg hcg hfg hsg;go_wp2_with fail;go_roundw
       case rel=>exact ⟨2,by omega,by go_num,Zh (HP.out.trans (by simp [HT.out])),HB9⟩
       case measure=>simp [intOf]<;>omega
      ·
       have HT:Hid (B=false):=Zh (by rw [HL.out,decide_eq_false hle]);have y6:total < (lid:Int):=by omega
       clear HL;refine Tryst2.wp_region_text 16 (by kernel_rfl) (by kernel_rfl) ?_
       iterate 16 ((first | refine Tryst2.TW.skip (by rfl) ?_ | (refine' Tryst2.TW.op _ ?_ (by rfl) ?_;rotate_left;focus (intro w' hg;obtain ⟨hcg,hfg,hsg⟩:=YG hg;first | (go_simp;done) | (go_simp;with_reducible rfl) )));simp only [Act.put,List.setIfInBounds_toArray,List.set_cons_zero,List.set_cons_succ])
       intro w' hg;obtain ⟨hcg,hfg,hsg⟩:=YG hg
       try change wpList _ _ _ [] _ _
       have HB9:=Zh (Tryst2.Grow.below hg HWW.out);clear hg hcg hfg hsg;go_wp2_with fail;go_ret;exact ⟨Qq (by rw [HV2.out,HT.out];simp),HB9.out⟩
    ·
     have HV3:Hid (VV=C):=Zh (by rw [HV2.out,show (A&&B)=true from HP.out.trans (by simp),Bool.true_and]);clear HV2 HP HA HB;go_wp2_with fail;clear s0 s1 s2 s3 s4 s5 s6 s7 hzs;have HC0:Hid (C=jQ5 (ul.drop 0) (gl.drop 0)):=Zh (by rw [<- HC.out];rfl);go_loopw [5,6] (fun i j wr=>MoC w2 ul gl C i j wr) (fun i j _=>(ul.length - (intOf i).toNat)+(gl.length - (intOf j).toNat))
     case atStart=>exact ⟨0,0,by omega,by omega,rfl,rfl,HC0,HW⟩
     case round=>
      clear HW HWW HSo HC0 HC;obtain ⟨p,q,hp,hq,rfl,rfl,HPC,HW⟩:=hrel;obtain ⟨wq,rfl⟩:∃ wq,wq=wr:=⟨_,rfl⟩;have HWW:=Zh (Qk HW.out HB2.out);have HSo:=Zh (HS2.out.grow HW.out);obtain ⟨s0,s1,s2,s3,s4,s5,s6,s7⟩:=v8 (HSo.out);have hzs:=HSo.out.lt
      by_cases hpl:p < ul.length
      case neg=>
       have HN:Hid (C=true):=Zh (by rw [HPC.out,List.drop_eq_nil_of_le (show ul.length<=p by omega),jQ5]);have y1:¬ (p:Int) < ul.length:=by omega
       clear HPC;go_wp2_with fail;go_ret;exact ⟨Qq (by rw [HV3.out,HN.out]),HWW.out⟩
      by_cases hql:q < gl.length
      case neg=>
       have HN:Hid (C=true):=Zh (by rw [HPC.out,List.drop_eq_nil_of_le (show gl.length<=q by omega),jJm]);have y1:(p:Int) < ul.length:=by omega
       have y2:¬ (q:Int) < gl.length:=by omega
       clear HPC;go_wp2_with fail;go_ret;exact ⟨Qq (by rw [HV3.out,HN.out]),HWW.out⟩
      have HST:=Zh (HPC.out.trans (kJi hpl hql));obtain ⟨b,o,ha,hb⟩:=Zj.hd (HU.out wq HWW.out) hpl;subst ha;have f0:=(Zj.at (HU.out wq HWW.out) hpl).2.c0;obtain ⟨b2,o2,ha2,hb2⟩:=Zj.hd (HG.out wq HWW.out) hql;subst ha2;have g0:=(Zj.at (HG.out wq HWW.out) hql).2.c0;have y1:(p:Int) < ul.length:=by omega
      have y2:(q:Int) < gl.length:=by omega
      have y3:(0:Int)<=p:=by omega
      have y4:(0:Int)<=q:=by omega
      generalize ul[p].id=x at f0 HST;generalize gl[q].id=y at g0 HST;clear HPC;go_upto_region 11 with fail
      by_cases e1:x=y
      ·
       have HN:Hid (C=false):=Zh (by rw [HST.out,if_pos e1]);clear HST;subst e1;refine Tryst2.wp_region_text 14 (by kernel_rfl) (by kernel_rfl) ?_
       iterate 14 ((first | refine Tryst2.TW.skip (by rfl) ?_ | (refine' Tryst2.TW.op _ ?_ (by rfl) ?_;rotate_left;focus (intro w' hg;obtain ⟨hcg,hfg,hsg⟩:=YG hg;first | (go_simp;done) | (go_simp;with_reducible rfl) )));simp only [Act.put,List.setIfInBounds_toArray,List.set_cons_zero,List.set_cons_succ])
       intro w' hg;obtain ⟨hcg,hfg,hsg⟩:=YG hg
       try change wpList _ _ _ [] _ _
       have HB9:=Zh (Tryst2.Grow.below hg HWW.out);clear hg hcg hfg hsg;go_wp2_with fail;go_ret;exact ⟨Qq (by rw [HV3.out,HN.out]),HB9.out⟩
      ·
       have z1:((x:Int)==(y:Int))=false:=beq_false_of_ne (by omega)
       by_cases e2:x < y
       ·
        have HN:Hid (C=jQ5 (ul.drop (p+1)) (gl.drop q)):=Zh (by rw [HST.out,if_neg e1,if_pos e2]);have z2:(x:Int) < (y:Int):=by omega
        clear HST;refine Tryst2.wp_region_text 14 (by kernel_rfl) (by kernel_rfl) ?_
        iterate 14 ((first | refine Tryst2.TW.skip (by rfl) ?_ | (refine' Tryst2.TW.op _ ?_ (by rfl) ?_;rotate_left;focus (intro w' hg;obtain ⟨hcg,hfg,hsg⟩:=YG hg;first | (go_simp;done) | (go_simp;with_reducible rfl) )));simp only [Act.put,List.setIfInBounds_toArray,List.set_cons_zero,List.set_cons_succ])
        intro w' hg;obtain ⟨hcg,hfg,hsg⟩:=YG hg
        try change wpList _ _ _ [] _ _
        have HB9:=Zh (Tryst2.Grow.below hg HW.out);clear hg hcg hfg hsg;go_wp2_with fail;go_roundw
        case rel=>exact ⟨p+1,q,by omega,by omega,by go_num,rfl,HN,HB9⟩
        case measure=>simp [intOf]<;>omega
       ·
        have HN:Hid (C=jQ5 (ul.drop p) (gl.drop (q+1))):=Zh (by rw [HST.out,if_neg e1,if_neg e2]);have z2:¬ (x:Int) < (y:Int):=by omega
        clear HST;refine Tryst2.wp_region_text 14 (by kernel_rfl) (by kernel_rfl) ?_
        iterate 14 ((first | refine Tryst2.TW.skip (by rfl) ?_ | (refine' Tryst2.TW.op _ ?_ (by rfl) ?_;rotate_left;focus (intro w' hg;obtain ⟨hcg,hfg,hsg⟩:=YG hg;first | (go_simp;done) | (go_simp;with_reducible rfl) )));simp only [Act.put,List.setIfInBounds_toArray,List.set_cons_zero,List.set_cons_succ])
        intro w' hg;obtain ⟨hcg,hfg,hsg⟩:=YG hg
        try change wpList _ _ _ [] _ _
        have HB9:=Zh (Tryst2.Grow.below hg HW.out);clear hg hcg hfg hsg;go_wp2_with fail;go_roundw
        case rel=>exact ⟨p,q+1,by omega,by omega,rfl,by go_num,HN,HB9⟩
        case measure=>simp [intOf]<;>omega
