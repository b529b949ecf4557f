import Derived.Test.YtcbicdencgjfiaaGreatDoorLayR
import Derived.Test.YtcbicdencgjfiaaGreatDoorRSub16
set_option linter.all false
set_option maxHeartbeats 16000000
set_option maxRecDepth 20000
namespace Go.Proofs.YtcbicdencgjfiaaGreatDoor
open Go Go.RowKit Tryst
theorem RtW.ta {w:World} {r:RtB} (h:RtW w r):qQu w r.ta r.tl:=⟨h.t,fun t ht=>zQ9.2 (h.tm t ht).1⟩
theorem kYn (r:RtB) (w:World) (hW:RtW w r) (hX:RtX r) :
  Calls Tryz.prog 11 #[r.agg] w fun e w'=>e=.returned (.bool (Xx r))/\Below w.heap.size w w':=by
 have hO:=hW.o hX;have hTN:∀ t∈r.tl,t.name.size<=1500000:=fun t ht=>(hX.t _ (List.mem_map.2 ⟨t,ht,rfl⟩)).1
 have CT:=Zh (fun W (hb:Below w.heap.size w W)=>zYw r.ta r.tc r.tl (by have:=hX.tn;omega) hO.tI hTN W (hW.grow hb).ta);have CL:=Zh (fun W (hb:Below w.heap.size w W)=>zYr r.la r.lc r.ll hX.ln hO.lS W (Row.grow hO.l hb));have CU:=Zh (fun W (hb:Below w.heap.size w W)=>zYP r.ua r.uc r.ul hX.un hO.uS W (Row.grow hO.u hb));have CG:=Zh (fun W (hb:Below w.heap.size w W)=>zYP r.ga r.gc r.gl hX.gn hO.gS W (Row.grow hO.g hb));have CS:=Zh (fun (h:jQo (r.tl.map TB.tp)=true) (k:Nat) (hk:k < r.sl.length) W (hb:Below w.heap.size w W)=>zY5 r r.sl[k] hX.tn (xJP h) W (hW.grow hb).ta ((hO.s.grow hb).mem _ (List.getElem_mem hk)));have CF:=Zh (fun (k:Nat) (hk:k < r.ul.length) W (hb:Below w.heap.size w W)=>zYz r.ga r.gc r.gl r.ul[k].id hX.gn W (Row.grow hO.g hb));have CE:=Zh (fun (k:Nat) (hk:k < r.dl.length) W=>zYq r.dl[k].e (hX.d _ (List.getElem_mem hk)).2 W);have CP:=Zh (fun (k:Nat) (hk:k < r.dl.length) W (hb:Below w.heap.size w W)=>zYy r r.dl[k].sub hX.sn W (hO.s.grow hb));have FS:=Zh (fun W (hb:Below w.heap.size w W)=>hO.s.grow hb);have FU:=Zh (fun W (hb:Below w.heap.size w W)=>(show Zj W r.ua r.ul from Row.grow hO.u hb));have FG:=Zh (fun W (hb:Below w.heap.size w W)=>(show Zj W r.ga r.gl from Row.grow hO.g hb));have FD:=Zh (fun W (hb:Below w.heap.size w W)=>hO.d.grow hb);obtain ⟨VV,hVV⟩:∃ VV,Xx r=VV:=⟨_,rfl⟩;rw [hVV];rw [zYc] at hVV;obtain ⟨R1,hR1⟩:∃ R1,okK (jQr r) none r.sl=R1:=⟨_,rfl⟩;obtain ⟨R2,hR2⟩:∃ R2,r.ul.all (outU r.total r.gl)=R2:=⟨_,rfl⟩;obtain ⟨R3,hR3⟩:∃ R3,r.gl.all (fun x=>decide ((x.id:Int)<=r.total))=R3:=⟨_,rfl⟩;obtain ⟨R4,hR4⟩:∃ R4,r.dl.all (qQl r.sl)=R4:=⟨_,rfl⟩;rw [hR1,hR2,hR3,hR4] at hVV;have HR1:Hid (R1=okK (jQr r) (Xq r.sl 0) (r.sl.drop 0)):=Zh (by rw [<- hR1];rfl);have HR2:Hid (R2=(r.ul.drop 0).all (outU r.total r.gl)):=Zh (by rw [<- hR2];rfl);have HR3:Hid (R3=(r.gl.drop 0).all (fun x=>decide ((x.id:Int)<=r.total))):=Zh (by rw [<- hR3];rfl);have HR4:Hid (R4=(r.dl.drop 0).all (qQl r.sl)):=Zh (by rw [<- hR4];rfl);have HVV:=Zh hVV;obtain ⟨ht0,ht1⟩:=hX.total;have hsn:=hX.sn;have hun:=hX.un;have hgn:=hX.gn;have hdn:=hX.dn;clear hVV hR1 hR2 hR3 hR4 hTN hO hW hX;generalize jQo (r.tl.map TB.tp)=mt at CT CS HVV;generalize qJd r.ll=ml at CL HVV;generalize xQ8 r.ul=mu at CU HVV;generalize xQ8 r.gl=mg at CG HVV;unfold RtB.agg SubB.agg at CS;unfold RtB.agg at CP ⊢;have HS0:=Zh (Var.new w 28 [.int .i64 r.now,.slice r.ta r.tl.length r.tc,.slice r.la r.ll.length r.lc,.slice r.sa r.sl.length r.sc,.int .i64 r.total,.slice r.ua r.ul.length r.uc,.slice r.ga r.gl.length r.gc,.slice r.da r.dl.length r.dc]);have HB0:=Zh (Qj (.cells #[.int .i64 r.now,.slice r.ta r.tl.length r.tc,.slice r.la r.ll.length r.lc,.slice r.sa r.sl.length r.sc,.int .i64 r.total,.slice r.ua r.ul.length r.uc,.slice r.ga r.gl.length r.gc,.slice r.da r.dl.length r.dc] 28) (.refl w.heap.size w));go_enter Tryz.func11,Tryz.ntmps11;go_upto_region 1 with fail
 revert HS0 HB0;simp only [List.toArray];generalize w.alloc (.cells _ 28)=X;intro HS0 HB0;obtain ⟨s0,s1,s2,s3,s4,s5,s6,s7⟩:=v8 (HS0.out);have hzs:=HS0.out.lt
 by_cases c1:0<=r.now
 case neg=>
  have HN:Hid (VV=false):=Zh (by rw [<- HVV.out,decide_eq_false c1];rfl);have y1:r.now < 0:=by omega
  go_wp2_with fail;go_ret;exact ⟨Qq HN.out.symm,HB0.out⟩
 have y1:¬ r.now < 0:=by omega
 by_cases c2:r.now<=1099511627775
 case neg=>
  have HN:Hid (VV=false):=Zh (by rw [<- HVV.out,decide_eq_false c2];simp);have y2:1099511627775 < r.now:=by omega
  go_wp2_with fail;go_ret;exact ⟨Qq HN.out.symm,HB0.out⟩
 have y2:¬ 1099511627775 < r.now:=by omega
 by_cases c3:0<=r.total
 case neg=>
  have HN:Hid (VV=false):=Zh (by rw [<- HVV.out,decide_eq_false c3];simp);have y3:r.total < 0:=by omega
  go_wp2_with fail;go_ret;exact ⟨Qq HN.out.symm,HB0.out⟩
 have y3:¬ r.total < 0:=by omega
 by_cases c4:r.sl.length<=8
 case neg=>
  have HN:Hid (VV=false):=Zh (by rw [<- HVV.out,decide_eq_false c4];simp);have y4:(8:Int) < r.sl.length:=by omega
  go_wp2_with fail;go_ret;exact ⟨Qq HN.out.symm,HB0.out⟩
 have y4:¬ (8:Int) < r.sl.length:=by omega
 by_cases c5:r.dl.length<=40
 case neg=>
  have HN:Hid (VV=false):=Zh (by rw [<- HVV.out,decide_eq_false c5];simp);have y5:(40:Int) < r.dl.length:=by omega
  go_wp2_with fail;go_ret;exact ⟨Qq HN.out.symm,HB0.out⟩
 have y5:¬ (40:Int) < r.dl.length:=by omega
 have HV1:Hid (VV=((mt&&(ml&&(mu&&mg)))&&(R1&&(R2&&(R3&&R4))))):=Zh (by rw [<- HVV.out,decide_eq_true c1,decide_eq_true c2,decide_eq_true c3,decide_eq_true c4,decide_eq_true c5];rfl);clear HVV;go_wp2_with fail;refine (CT.out _ HB0.out).mono ?_;rintro e w1 ⟨rfl,hb1⟩;have HB1:=Zh (Qk hb1 HB0.out);have HS1:=Zh (HS0.out.grow hb1);clear hb1 HB0 HS0 s0 s1 s2 s3 s4 s5 s6 s7 hzs;obtain ⟨s0,s1,s2,s3,s4,s5,s6,s7⟩:=v8 (HS1.out);have hzs:=HS1.out.lt;cases mt with
 | false=>
  have HN:Hid (VV=false):=Zh (by rw [HV1.out];rfl);go_wp2_with fail;go_ret;exact ⟨Qq HN.out.symm,HB1.out⟩
 | true=>
  go_wp2_with fail;refine (CL.out _ HB1.out).mono ?_;rintro e w2 ⟨rfl,hb2⟩;have HB2:=Zh (Qk hb2 HB1.out);have HS2:=Zh (HS1.out.grow hb2);clear hb2 HB1 HS1 s0 s1 s2 s3 s4 s5 s6 s7 hzs;obtain ⟨s0,s1,s2,s3,s4,s5,s6,s7⟩:=v8 (HS2.out);have hzs:=HS2.out.lt;cases ml with
  | false=>
   have HN:Hid (VV=false):=Zh (by rw [HV1.out];rfl);go_wp2_with fail;go_ret;exact ⟨Qq HN.out.symm,HB2.out⟩
  | true=>
   go_wp2_with fail;refine (CU.out _ HB2.out).mono ?_;rintro e w3 ⟨rfl,hb3⟩;have HB3:=Zh (Qk hb3 HB2.out);have HS3:=Zh (HS2.out.grow hb3);clear hb3 HB2 HS2 s0 s1 s2 s3 s4 s5 s6 s7 hzs;obtain ⟨s0,s1,s2,s3,s4,s5,s6,s7⟩:=v8 (HS3.out);have hzs:=HS3.out.lt;cases mu with
   | false=>
    have HN:Hid (VV=false):=Zh (by rw [HV1.out];rfl);go_wp2_with fail;go_ret;exact ⟨Qq HN.out.symm,HB3.out⟩
   | true=>
    go_wp2_with fail;refine (CG.out _ HB3.out).mono ?_;rintro e w4 ⟨rfl,hb4⟩;have HB4:=Zh (Qk hb4 HB3.out);have HS4:=Zh (HS3.out.grow hb4);clear hb4 HB3 HS3 s0 s1 s2 s3 s4 s5 s6 s7 hzs;obtain ⟨s0,s1,s2,s3,s4,s5,s6,s7⟩:=v8 (HS4.out);have hzs:=HS4.out.lt;cases mg with
    | false=>
     have HN:Hid (VV=false):=Zh (by rw [HV1.out];rfl);go_wp2_with fail;go_ret;exact ⟨Qq HN.out.symm,HB4.out⟩
    | true=>
     have HV2:Hid (VV=(R1&&(R2&&(R3&&R4)))):=Zh (by rw [HV1.out];rfl);go_wp2_with fail;clear HV1 CT CL CU CG y1 y2 y3 y4 y5 s0 s1 s2 s3 s4 s5 s6 s7 hzs;go_loopw [3] (fun i wr=>OkR (jQr r) w4 r.sl R1 i wr) (fun i _=>r.sl.length - (intOf i).toNat)
     case atStart=>exact ⟨0,by omega,rfl,HR1,Zh (.refl _ _)⟩
     case round=>
      clear HR1;obtain ⟨k,hk,rfl,HP,HW⟩:=hrel;obtain ⟨wo,rfl⟩:∃ wo,wo=wr:=⟨_,rfl⟩;have HWW:=Zh (Qk HW.out HB4.out);have HSo:=Zh (HS4.out.grow HW.out)
      by_cases hlt:k < r.sl.length
      ·
       obtain ⟨b,o,ha,hb⟩:=(FS.out wo HWW.out).head hlt;have hrow:=FS.out wo HWW.out;obtain ⟨s0,s1,s2,s3,s4,s5,s6,s7⟩:=v8 (HSo.out);have hzs:=HSo.out.lt;rw [ha] at hrow s3;obtain ⟨_,f0,f1,f2,f3,f4,f5,f6,f7,f8,f9,f10,f11,f12,f13,f14⟩:=hrow.at hlt;have DS:=Zh (CS.out trivial k hlt);rw [ha] at DS;have x1:(k:Int) < r.sl.length:=by omega
       have x2:(0:Int)<=k:=by omega
       have HST:Hid (R1=((kQJ r r.sl[k]&&(match Xq r.sl k with | none=>true | some p=>Kf p.d.name r.sl[k].d.name))&&okK (jQr r) (Xq r.sl (k+1)) (r.sl.drop (k+1)))):=Zh (HP.out.trans (vQU hlt));obtain ⟨R5,hR5⟩:∃ R5,okK (jQr r) (Xq r.sl (k+1)) (r.sl.drop (k+1))=R5:=⟨_,rfl⟩;have HR5:=Zh hR5;rw [hR5] at HST;generalize kQJ r r.sl[k]=ms at HST DS;clear HP hR5 CS HSo;go_upto_region 6 with fail
       cases ms
       case' false=>
        have HN:Hid (VV=false):=Zh (by rw [HV2.out,HST.out];rfl)
       case' true=>
        by_cases hk0:k=0
        case' pos=>
         have HG:Hid (R1=R5):=Zh (by rw [HST.out,show Xq r.sl k=none from by rw [hk0];rfl];rfl);have y5:¬ (0:Int) < k:=by omega
         have y6:¬ 0 < k:=by omega
         clear hk0
        case' neg=>
         have y5:(0:Int) < k:=by omega
         have y6:0 < k:=by omega
         obtain ⟨m,hm⟩:∃ m,k=m+1:=⟨k - 1,by omega⟩;have hlm:m < r.sl.length:=by omega
         obtain ⟨_,g0,_,_,_,_,_,_,_,_,_,_,_,_,_,_⟩:=hrow.at hlm;have y7:IntKind.i64.wrap ((k:Int) - 1)=(m:Int):=by rw [IntWalk.i64_in _ (by omega)];omega
         have y8:(m:Int) < r.sl.length:=by omega
         have y9:(0:Int)<=m:=by omega
         have HS2:Hid (R1=(Kf r.sl[m].d.name r.sl[k].d.name&&R5)):=Zh (by
          rw [HST.out,show Xq r.sl k=some r.sl[m] by rw [hm];exact List.getElem?_eq_getElem hlm];rfl)
         have HGE:=geB r.sl[m].d.name r.sl[k].d.name;clear hm hk0;generalize Kf r.sl[m].d.name r.sl[k].d.name=lb at HS2 HGE;cases lb
         case' false=>
          have hge:(!Op.bytesLess r.sl[m].d.name.toList r.sl[k].d.name.toList)=true:=HGE;have HN:Hid (VV=false):=Zh (by rw [HV2.out,HS2.out];rfl)
         case' true=>
          have hge:(!Op.bytesLess r.sl[m].d.name.toList r.sl[k].d.name.toList)=false:=HGE;have HG:Hid (R1=R5):=Zh (by rw [HS2.out];rfl)
       all_goals
        try clear HGE HS2
        clear HST hrow;refine Tryst2.wp_region_text 30 (by kernel_rfl) (by kernel_rfl) ?_
        iterate 30 ((first | refine Tryst2.TW.skip (by rfl) ?_ | (refine' Tryst2.TW.op _ ?_ (by rfl) ?_;rotate_left;focus (intro w' hg;obtain ⟨hcg,hfg,hsg⟩:=YG hg;first | (go_simp;done) | (go_simp;with_reducible rfl) | (go_simp;go_at_call 37;refine (DS.out _ (Tryst2.Grow.below hg HWW.out)).mono ?_;rintro e w5 ⟨rfl,hb5⟩;refine ⟨hb5,?_⟩;with_reducible rfl))));simp only [Act.put,List.setIfInBounds_toArray,List.set_cons_zero,List.set_cons_succ])
        intro w' hg;obtain ⟨hcg,hfg,hsg⟩:=YG hg
        try change wpList _ _ _ [] _ _
        have HB9:=Zh (Qk (Tryst2.Grow.below hg (.refl _ _)) HW.out);have HWW9:=Zh (Qk (Tryst2.Grow.below hg (.refl _ _)) HWW.out);clear hg hcg hfg hsg s0 s1 s2 s3 s4 s5 s6 s7 hzs HW HWW DS;go_wp2_with fail
        first
         | (go_ret;exact ⟨Qq HN.out.symm,HWW9.out⟩)
         | (go_roundw;(case rel=>exact ⟨k+1,by omega,by go_num,Zh (by rw [HG.out,HR5.out]),HB9⟩);(case measure=>simp [intOf]<;>omega))
      ·
       have HN1:Hid (R1=true):=Zh (HP.out.trans (xQJ (by omega)));have HV3:Hid (VV=(R2&&(R3&&R4))):=Zh (by rw [HV2.out,HN1.out];rfl);obtain ⟨s0,s1,s2,s3,s4,s5,s6,s7⟩:=v8 (HSo.out);have hzs:=HSo.out.lt;clear HP HN1 HV2 CS FS;go_wp2_with fail;clear s0 s1 s2 s3 s4 s5 s6 s7 hzs HW;go_loopw [4] (fun i wr=>AlH (outU r.total r.gl) wo r.ul R2 i wr) (fun i _=>r.ul.length - (intOf i).toNat)
       case atStart=>exact ⟨0,by omega,rfl,HR2,Zh (.refl _ _)⟩
       case round=>
        clear HR2;obtain ⟨q,hq,rfl,HP,HW⟩:=hrel;obtain ⟨wq,rfl⟩:∃ wq,wq=wr:=⟨_,rfl⟩;have HWQ:=Zh (Qk HW.out HWW.out);have HSq:=Zh (HSo.out.grow HW.out);obtain ⟨s0,s1,s2,s3,s4,s5,s6,s7⟩:=v8 (HSq.out);have hzs:=HSq.out.lt;have y1:IntKind.u64.wrap r.total=r.total:=IntWalk.u64_in _ (by omega)
        by_cases hql:q < r.ul.length
        ·
         obtain ⟨b,o,ha,hb⟩:=Zj.hd (FU.out wq HWQ.out) hql;have hrow:=FU.out wq HWQ.out;rw [ha] at hrow s5;obtain ⟨_,f0,_,_,_,_⟩:=Zj.at hrow hql;have DF:=Zh (CF.out q hql);have x1:(q:Int) < r.ul.length:=by omega
         have x2:(0:Int)<=q:=by omega
         have HST:Hid (R2=((decide ((r.ul[q].id:Int)<=r.total)&&!(r.gl.any (fun y=>decide (y.id=r.ul[q].id))))&&(r.ul.drop (q+1)).all (outU r.total r.gl))):=Zh (HP.out.trans (kQy hql));rw [<- zJo] at HST;generalize idxG (fun y:UB=>decide (y.id=r.ul[q].id)) r.gl=ix at HST DF;clear HP hrow;go_upto_region 11 with fail
         by_cases g1:(r.ul[q].id:Int)<=r.total
         case' neg=>
          have HN:Hid (VV=false):=Zh (by rw [HV3.out,HST.out,decide_eq_false g1];rfl);have z1:r.total < (r.ul[q].id:Int):=by omega
         case' pos=>
          have z1:¬ r.total < (r.ul[q].id:Int):=by omega
          by_cases g2:0<=ix
          case' pos=>
           have HN:Hid (VV=false):=Zh (by rw [HV3.out,HST.out,decide_eq_true g2];simp)
          case' neg=>
           have HG:Hid (R2=(r.ul.drop (q+1)).all (outU r.total r.gl)):=Zh (by rw [HST.out,decide_eq_true g1,decide_eq_false g2];rfl)
         all_goals
          clear HST;refine Tryst2.wp_region_text 22 (by kernel_rfl) (by kernel_rfl) ?_
          iterate 22 ((first | refine Tryst2.TW.skip (by rfl) ?_ | (refine' Tryst2.TW.op _ ?_ (by rfl) ?_;rotate_left;focus (intro w' hg;obtain ⟨hcg,hfg,hsg⟩:=YG hg;first | (go_simp;done) | (go_simp;with_reducible rfl) | (go_simp;go_at_call 38;refine (DF.out _ (Tryst2.Grow.below hg HWQ.out)).mono ?_;rintro e w5 ⟨rfl,hb5⟩;refine ⟨hb5,?_⟩;with_reducible rfl))));simp only [Act.put,List.setIfInBounds_toArray,List.set_cons_zero,List.set_cons_succ])
          intro w' hg;obtain ⟨hcg,hfg,hsg⟩:=YG hg
          try change wpList _ _ _ [] _ _
          have HB9:=Zh (Qk (Tryst2.Grow.below hg (.refl _ _)) HW.out);have HWW9:=Zh (Qk (Tryst2.Grow.below hg (.refl _ _)) HWQ.out);clear hg hcg hfg hsg s0 s1 s2 s3 s4 s5 s6 s7 hzs HW HWQ DF;go_wp2_with fail
          first
           | (go_ret;exact ⟨Qq HN.out.symm,HWW9.out⟩)
           | (go_roundw;(case rel=>exact ⟨q+1,by omega,by go_num,HG,HB9⟩);(case measure=>simp [intOf]<;>omega))
        ·
         have HN2:Hid (R2=true):=Zh (HP.out.trans (zQp (by omega)));have HV4:Hid (VV=(R3&&R4)):=Zh (by rw [HV3.out,HN2.out];rfl);clear HP HN2 HV3 CF FU;go_wp2_with fail;clear s0 s1 s2 s3 s4 s5 s6 s7 hzs HW HWW HSo y1;go_loopw [5] (fun i wr=>AlH (fun x:UB=>decide ((x.id:Int)<=r.total)) wq r.gl R3 i wr) (fun i _=>r.gl.length - (intOf i).toNat)
         case atStart=>exact ⟨0,by omega,rfl,HR3,Zh (.refl _ _)⟩
         case round=>
          clear HR3;obtain ⟨p,hp,rfl,HP,HW⟩:=hrel;obtain ⟨wp,rfl⟩:∃ wp,wp=wr:=⟨_,rfl⟩;have HWP:=Zh (Qk HW.out HWQ.out);have HSp:=Zh (HSq.out.grow HW.out);obtain ⟨s0,s1,s2,s3,s4,s5,s6,s7⟩:=v8 (HSp.out);have hzs:=HSp.out.lt;have y1:IntKind.u64.wrap r.total=r.total:=IntWalk.u64_in _ (by omega)
          by_cases hpl:p < r.gl.length
          ·
           obtain ⟨b,o,ha,hb⟩:=Zj.hd (FG.out wp HWP.out) hpl;have hrow:=FG.out wp HWP.out;rw [ha] at hrow s6;obtain ⟨_,f0,_,_,_,_⟩:=Zj.at hrow hpl;have x1:(p:Int) < r.gl.length:=by omega
           have x2:(0:Int)<=p:=by omega
           have HST:Hid (R3=(decide ((r.gl[p].id:Int)<=r.total)&&(r.gl.drop (p+1)).all (fun x:UB=>decide ((x.id:Int)<=r.total)))):=Zh (HP.out.trans (kQy hpl));clear HP hrow;go_upto_region 16 with fail
           by_cases g1:(r.gl[p].id:Int)<=r.total
           case' neg=>
            have HN:Hid (VV=false):=Zh (by rw [HV4.out,HST.out,decide_eq_false g1];rfl);have z1:r.total < (r.gl[p].id:Int):=by omega
           case' pos=>
            have z1:¬ r.total < (r.gl[p].id:Int):=by omega
            have HG:Hid (R3=(r.gl.drop (p+1)).all (fun x:UB=>decide ((x.id:Int)<=r.total))):=Zh (by rw [HST.out,decide_eq_true g1];rfl)
           all_goals
            clear HST;refine Tryst2.wp_region_text 10 (by kernel_rfl) (by kernel_rfl) ?_
            iterate 10 ((first | refine Tryst2.TW.skip (by rfl) ?_ | (refine' Tryst2.TW.op _ ?_ (by rfl) ?_;rotate_left;focus (intro w' hg;obtain ⟨hcg,hfg,hsg⟩:=YG hg;first | (go_simp;done) | (go_simp;with_reducible rfl) )));simp only [Act.put,List.setIfInBounds_toArray,List.set_cons_zero,List.set_cons_succ])
            intro w' hg;obtain ⟨hcg,hfg,hsg⟩:=YG hg
            try change wpList _ _ _ [] _ _
            have HB9:=Zh (Qk (Tryst2.Grow.below hg (.refl _ _)) HW.out);have HWW9:=Zh (Qk (Tryst2.Grow.below hg (.refl _ _)) HWP.out);clear hg hcg hfg hsg s0 s1 s2 s3 s4 s5 s6 s7 hzs HW HWP;go_wp2_with fail
            first
             | (go_ret;exact ⟨Qq HN.out.symm,HWW9.out⟩)
             | (go_roundw;(case rel=>exact ⟨p+1,by omega,by go_num,HG,HB9⟩);(case measure=>simp [intOf]<;>omega))
          ·
           have HN3:Hid (R3=true):=Zh (HP.out.trans (zQp (by omega)));have HV5:Hid (VV=R4):=Zh (by rw [HV4.out,HN3.out];rfl);clear HP HN3 HV4 FG;go_wp2_with fail;clear s0 s1 s2 s3 s4 s5 s6 s7 hzs HW HWQ HSq y1;go_loopw [6] (fun i wr=>AlH (qQl r.sl) wp r.dl R4 i wr) (fun i _=>r.dl.length - (intOf i).toNat)
           case atStart=>exact ⟨0,by omega,rfl,HR4,Zh (.refl _ _)⟩
           case round=>
            clear HR4;obtain ⟨u,hu,rfl,HP,HW⟩:=hrel;obtain ⟨wu,rfl⟩:∃ wu,wu=wr:=⟨_,rfl⟩;have HWU:=Zh (Qk HW.out HWP.out);have HSu:=Zh (HSp.out.grow HW.out);obtain ⟨s0,s1,s2,s3,s4,s5,s6,s7⟩:=v8 (HSu.out);have hzs:=HSu.out.lt
            by_cases hul:u < r.dl.length
            ·
             obtain ⟨b,o,ha,hb⟩:=(FD.out wu HWU.out).head hul;have hrow:=FD.out wu HWU.out;rw [ha] at hrow s7;obtain ⟨_,f0,f1⟩:=hrow.at hul;have DE:=Zh (CE.out u hul);have DP:=Zh (CP.out u hul);have x1:(u:Int) < r.dl.length:=by omega
             have x2:(0:Int)<=u:=by omega
             have HST:Hid (R4=((octB r.dl[u].e&&decide (0<=idxG (fun y:SubB=>y.d.name.toList==r.dl[u].sub.toList) r.sl))&&(r.dl.drop (u+1)).all (qQl r.sl))):=Zh (HP.out.trans (kQy hul));generalize idxG (fun y:SubB=>y.d.name.toList==r.dl[u].sub.toList) r.sl=ix at HST DP;generalize octB r.dl[u].e=ob at HST DE;clear HP hrow CE CP;go_wp2_with fail;refine (DE.out _).mono ?_;rintro e w5 ⟨ea,eb,eq,ead,en,ec,ek,rfl,hek,hb5⟩;have HWV:=Zh (Qk hb5 HW.out);have HW5:=Zh (Qk hb5 HWU.out);have HS5:=Zh (HSu.out.grow hb5);clear hb5 s0 s1 s2 s3 s4 s5 s6 s7 hzs HW HSu HWU DE f0 f1;go_upto_region 22 with fail
             refine Qg (fun v=>Hid (Below wp.heap.size wp v)/\Hid (Below w.heap.size w v)/\Hid (Var v w.heap.size 28 [.int .i64 r.now,.slice r.ta r.tl.length r.tc,.slice r.la r.ll.length r.lc,.slice r.sa r.sl.length r.sc,.int .i64 r.total,.slice r.ua r.ul.length r.uc,.slice r.ga r.gl.length r.gc,.slice r.da r.dl.length r.dc])) ⟨Zh (Qj _ HWV.out),Zh (Qj _ HW5.out),Zh (HS5.out.grow (Qj _ (.refl _ _)))⟩ ?_;rintro Z ⟨HZ1,HZ2,HS6⟩;clear HWV HW5 HS5;have hrow:=FD.out Z HZ2.out;obtain ⟨s0,s1,s2,s3,s4,s5,s6,s7⟩:=v8 (HS6.out);have hzs:=HS6.out.lt;rw [ha] at hrow s7 DP;obtain ⟨_,f0,f1⟩:=hrow.at hul;cases ob
             case' false=>
              have HN:Hid (VV=false):=Zh (by rw [HV5.out,HST.out];rfl);have z1:¬ ek=0:=of_decide_eq_false hek;have z2:(ek != 0)=true:=by rw [bne_iff_ne];exact z1
             case' true=>
              obtain rfl:ek=0:=of_decide_eq_true hek
              by_cases g2:0<=ix
              case' neg=>
               have HN:Hid (VV=false):=Zh (by rw [HV5.out,HST.out,decide_eq_false g2];rfl);have z1:ix < 0:=by omega
              case' pos=>
               have HG:Hid (R4=(r.dl.drop (u+1)).all (qQl r.sl)):=Zh (by rw [HST.out,decide_eq_true g2];rfl);have z1:¬ ix < 0:=by omega
             all_goals
              clear HST hrow hek;refine Tryst2.wp_region_text 13 (by kernel_rfl) (by kernel_rfl) ?_
              iterate 13 ((first | refine Tryst2.TW.skip (by rfl) ?_ | (refine' Tryst2.TW.op _ ?_ (by rfl) ?_;rotate_left;focus (intro w' hg;obtain ⟨hcg,hfg,hsg⟩:=YG hg;first | (go_simp;done) | (go_simp;with_reducible rfl) | (go_simp;go_at_call 40;refine (DP.out _ (Tryst2.Grow.below hg HZ2.out)).mono ?_;rintro e w6 ⟨rfl,hb6⟩;refine ⟨hb6,?_⟩;with_reducible rfl))));simp only [Act.put,List.setIfInBounds_toArray,List.set_cons_zero,List.set_cons_succ])
              intro w' hg;obtain ⟨hcg,hfg,hsg⟩:=YG hg
              try change wpList _ _ _ [] _ _
              have HB9:=Zh (Qk (Tryst2.Grow.below hg (.refl _ _)) HZ1.out);have HWW9:=Zh (Qk (Tryst2.Grow.below hg (.refl _ _)) HZ2.out);clear hg hcg hfg hsg s0 s1 s2 s3 s4 s5 s6 s7 hzs HZ1 HZ2 DP HS6;go_wp2_with fail
              first
               | (go_ret;exact ⟨Qq HN.out.symm,HWW9.out⟩)
               | (go_roundw;(case rel=>exact ⟨u+1,by omega,by go_num,HG,HB9⟩);(case measure=>simp [intOf]<;>omega))
            · have HN4:Hid (R4=true):=Zh (HP.out.trans (zQp (by omega)));go_wp2_with fail;go_ret;exact ⟨Qq (by rw [HV5.out,HN4.out]),HWU.out⟩
