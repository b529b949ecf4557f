import Derived.Test.YtcbicdencgjfiaaGreatDoorREvt16
set_option linter.all false
set_option maxHeartbeats 16000000
set_option maxRecDepth 20000
namespace Go.Proofs.YtcbicdencgjfiaaGreatDoor
open Go Go.RowKit Tryst
theorem zY5 (r:RtB) (x:SubB) (htn:r.tl.length<=1500000) (hTI:vJy r.tl) (w:World) (hT:qQu w r.ta r.tl) (hO:SubO w x) :
  Calls Tryz.prog 37 #[r.agg,x.agg] w fun e w'=>e=.returned (.bool (kQJ r x))/\Below w.heap.size w w':=by
 have HFO:=Zh (fun W (hb:Below w.heap.size w W)=>OfR.mk (hO.grow hb).o);have CD:=Zh (fun W (hb:Below w.heap.size w W)=>vYH x.d W (hO.d.grow hb));have CO:=Zh (fun W (hb:Below w.heap.size w W)=>zYm x.oa x.oc x.ol hO.ol hO.os W (hO.grow hb).o);have CI:=Zh (fun W (hb:Below w.heap.size w W)=>kYv x.d.j x.ia x.ic x.il hO.il hO.iL hO.iS (by rw [<- kYN];exact hO.ct) W (hO.i.grow hb));have CA:=Zh (fun W (hb:Below w.heap.size w W)=>zYC x.ia x.ic x.il hO.il (by rw [<- kYN];exact hO.ct) W (hO.i.grow hb));have CE:=Zh (fun (n:ByteArray) W (hb:Below w.heap.size w W)=>vYS n r.ta r.tc r.tl htn hTI W (hT.grow hb));obtain ⟨VV,hVV⟩:∃ VV,kQJ r x=VV:=⟨_,rfl⟩;rw [hVV];rw [zYD] at hVV;unfold qQ2 at hVV;rw [kYN] at hVV;have hct:=hO.ct;rw [kYN] at hct;have hol:=hO.ol;obtain ⟨r20,r21⟩:=hO.r2;obtain ⟨r40,r41⟩:=hO.r4;have HVV:=Zh hVV;clear hO hT hVV hTI htn;obtain ⟨now,ta,tl,tc,la,ll,lc,sa,sl,sc,total,ua,ul,uc,ga,gl,gc,da,dl,dc⟩:=r;unfold RtB.agg SubB.agg;simp only at CD CO CI CA CE HVV ⊢;obtain ⟨d,oa,ol,oc,ia,il,ic,fails,taken,passes,fires,over⟩:=x;simp only at HFO CD CO CI CA CE HVV hct hol r20 r21 r40 r41 ⊢;unfold DB.agg at CD;generalize mayD d=md at CD HVV;generalize vQ9 ol=mo at CO HVV;generalize qQM d.j il=mi at CI HVV;obtain ⟨L,hL⟩:∃ L,allI il=L:=⟨_,rfl⟩;rw [hL] at CA HVV hct;obtain ⟨R1,hR1⟩:∃ R1,ol.all (leT tl)=R1:=⟨_,rfl⟩;obtain ⟨R2,hR2⟩:∃ R2,L.all (okW taken now)=R2:=⟨_,rfl⟩;rw [hR1,hR2] at HVV;have HR1:Hid (R1=(ol.drop 0).all (leT tl)):=Zh (by rw [<- hR1];rfl);have HR2:Hid (R2=(L.drop 0).all (okW taken now)):=Zh (by rw [<- hR2];rfl);clear hL hR1 hR2;generalize hq1:tl.length=tn at CE ⊢;generalize ll.length=ln;generalize sl.length=sn;generalize ul.length=un;generalize gl.length=gn;generalize dl.length=dn;generalize hq2:il.length=iln at CI CA ⊢;clear hq1 hq2;obtain ⟨nm,dga,dgl,dgc,wa,wl,wc,ky,⟨kd,ps,nd,wd⟩⟩:=d;simp only at CD CI ⊢;have HQz:=Zh (Var.new w 28 [.int .i64 now,.slice ta tn tc,.slice la ln lc,.slice sa sn sc,.int .i64 total,.slice ua un uc,.slice ga gn gc,.slice da dn dc]);have HA0:=Zh (Qj (.cells #[.int .i64 now,.slice ta tn tc,.slice la ln lc,.slice sa sn sc,.int .i64 total,.slice ua un uc,.slice ga gn gc,.slice da dn dc] 28) (.refl w.heap.size w));have hz0:(w.alloc (.cells #[.int .i64 now,.slice ta tn tc,.slice la ln lc,.slice sa sn sc,.int .i64 total,.slice ua un uc,.slice ga gn gc,.slice da dn dc] 28)).heap.size=w.heap.size+1:=by simp
 have HS0:=Zh (Var.new (w.alloc (.cells #[.int .i64 now,.slice ta tn tc,.slice la ln lc,.slice sa sn sc,.int .i64 total,.slice ua un uc,.slice ga gn gc,.slice da dn dc] 28)) 68 [.string nm,.slice dga dgl.length dgc,.slice wa wl.length wc,.string ky,.string kd,.int .i64 ps,.int .i64 nd,.int .i64 wd,.slice oa ol.length oc,.slice ia iln ic,.int .i64 fails,.int .i64 taken,.int .i64 passes,.int .i64 fires,.int .i64 over]);have HB0:=Zh (Qj (.cells #[.string nm,.slice dga dgl.length dgc,.slice wa wl.length wc,.string ky,.string kd,.int .i64 ps,.int .i64 nd,.int .i64 wd,.slice oa ol.length oc,.slice ia iln ic,.int .i64 fails,.int .i64 taken,.int .i64 passes,.int .i64 fires,.int .i64 over] 68) HA0.out);have HQ0:=Zh (HQz.out.grow (Qj (.cells #[.string nm,.slice dga dgl.length dgc,.slice wa wl.length wc,.string ky,.string kd,.int .i64 ps,.int .i64 nd,.int .i64 wd,.slice oa ol.length oc,.slice ia iln ic,.int .i64 fails,.int .i64 taken,.int .i64 passes,.int .i64 fires,.int .i64 over] 68) (.refl _ _)));rw [hz0] at HS0;clear HQz HA0 hz0;go_enter Tryz.func37,Tryz.ntmps37;go_upto_region 1 with fail
 revert HS0 HB0 HQ0;simp only [List.toArray];generalize World.alloc _ (.cells _ 68)=X;intro HS0 HB0 HQ0;obtain ⟨s0,s1,s2,s3,s4,s5,s6,s7,s8,s9,s10,s11,s12,s13,s14⟩:=v15 (HS0.out);have hzs:=HS0.out.lt;go_wp2_with fail;refine (CD.out _ HB0.out).mono ?_;rintro e w1 ⟨rfl,hb1⟩;have HB1:=Zh (Qk hb1 HB0.out);have HS1:=Zh (HS0.out.grow hb1);have HQ1:=Zh (HQ0.out.grow hb1);clear hb1 HB0 HS0 HQ0 s0 s1 s2 s3 s4 s5 s6 s7 s8 s9 s10 s11 s12 s13 s14 hzs;obtain ⟨s0,s1,s2,s3,s4,s5,s6,s7,s8,s9,s10,s11,s12,s13,s14⟩:=v15 (HS1.out);have hzs:=HS1.out.lt;cases md with
 | false=>
  have HN:Hid (VV=false):=Zh (by rw [<- HVV.out];rfl);go_wp2_with fail;go_ret;exact ⟨Qq HN.out.symm,HB1.out⟩
 | true=>
  go_wp2_with fail;refine (CO.out _ HB1.out).mono ?_;rintro e w2 ⟨rfl,hb2⟩;have HB2:=Zh (Qk hb2 HB1.out);have HS2:=Zh (HS1.out.grow hb2);have HQ2:=Zh (HQ1.out.grow hb2);clear hb2 HB1 HS1 HQ1 s0 s1 s2 s3 s4 s5 s6 s7 s8 s9 s10 s11 s12 s13 s14 hzs;obtain ⟨s0,s1,s2,s3,s4,s5,s6,s7,s8,s9,s10,s11,s12,s13,s14⟩:=v15 (HS2.out);have hzs:=HS2.out.lt;cases mo with
  | false=>
   have HN:Hid (VV=false):=Zh (by rw [<- HVV.out];rfl);go_wp2_with fail;go_ret;exact ⟨Qq HN.out.symm,HB2.out⟩
  | true=>
   go_wp2_with fail;refine (CI.out _ HB2.out).mono ?_;rintro e w3 ⟨rfl,hb3⟩;have HB3:=Zh (Qk hb3 HB2.out);have HS3:=Zh (HS2.out.grow hb3);have HQ3:=Zh (HQ2.out.grow hb3);clear hb3 HB2 HS2 HQ2 s0 s1 s2 s3 s4 s5 s6 s7 s8 s9 s10 s11 s12 s13 s14 hzs;obtain ⟨s0,s1,s2,s3,s4,s5,s6,s7,s8,s9,s10,s11,s12,s13,s14⟩:=v15 (HS3.out);have hzs:=HS3.out.lt;cases mi with
   | false=>
    have HN:Hid (VV=false):=Zh (by rw [<- HVV.out];rfl);go_wp2_with fail;go_ret;exact ⟨Qq HN.out.symm,HB3.out⟩
   | true=>
    by_cases f1:0<=fails
    case neg=>
     have HN:Hid (VV=false):=Zh (by rw [<- HVV.out,decide_eq_false f1];rfl);have z1:fails < 0:=by omega
     go_wp2_with fail;go_ret;exact ⟨Qq HN.out.symm,HB3.out⟩
    have z1:¬ fails < 0:=by omega
    by_cases f2:fails<=2
    case neg=>
     have HN:Hid (VV=false):=Zh (by rw [<- HVV.out,decide_eq_false f2,Bool.and_false];rfl);have z2:2 < fails:=by omega
     go_wp2_with fail;go_ret;exact ⟨Qq HN.out.symm,HB3.out⟩
    have z2:¬ 2 < fails:=by omega
    have HV1:Hid (VV=(R1&&((decide (0<=taken)&&(decide (0<=passes)&&(decide (0<=fires)&&(decide (0<=over)&&(decide (fires<=taken)&&(decide (over<=taken - fires)&&decide (taken - fires - over=(L.length:Nat))))))))&&R2))):=Zh (by rw [<- HVV.out,decide_eq_true f1,decide_eq_true f2];rfl);clear HVV CD CO CI;go_wp2_with fail;clear s0 s1 s2 s3 s4 s5 s6 s7 s8 s9 s10 s11 s12 s13 s14 hzs z1 z2;go_loopw [5] (fun i wr=>AlH (leT tl) w3 ol R1 i wr) (fun i _=>ol.length - (intOf i).toNat)
    case atStart=>exact ⟨0,by omega,rfl,HR1,Zh (.refl _ _)⟩
    case round=>
     clear HR1;obtain ⟨k,hk,rfl,HP,HW⟩:=hrel;obtain ⟨wo,rfl⟩:∃ wo,wo=wr:=⟨_,rfl⟩;have HWW:=Zh (Qk HW.out HB3.out);have HSo:=Zh (HS3.out.grow HW.out);have HQo:=Zh (HQ3.out.grow HW.out);obtain ⟨s0,s1,s2,s3,s4,s5,s6,s7,s8,s9,s10,s11,s12,s13,s14⟩:=v15 (HSo.out);obtain ⟨q0,q1,q2,q3,q4,q5,q6,q7⟩:=v8 (HQo.out);have hzs:=HSo.out.lt;have hzq:=HQo.out.lt
     by_cases hlt:k < ol.length
     ·
      have hrow:=HFO.out wo HWW.out;obtain ⟨b,o,ha,hb⟩:=hrow.head hlt;rw [ha] at s8 hrow;obtain ⟨_,g0,g1⟩:=hrow.r.at hlt;have x1:(k:Int) < ol.length:=by omega
      have x2:(0:Int)<=k:=by omega
      have HST:Hid (R1=(leT tl ol[k]&&(ol.drop (k+1)).all (leT tl))):=Zh (HP.out.trans (kQy hlt));have DE:=Zh (CE.out ol[k].topic);unfold leT at HST;generalize endT tl ol[k].topic=en at HST DE;clear HP hrow;go_upto_region 6 with fail
      by_cases hle:ol[k].next<=en
      case' neg=>
       have HN:Hid (VV=false):=Zh (by rw [HV1.out,HST.out,decide_eq_false hle];rfl);have z1:en < ol[k].next:=by omega
      case' pos=>
       have HG:Hid (R1=(ol.drop (k+1)).all (leT tl)):=Zh (by rw [HST.out,decide_eq_true hle];rfl);have z1:¬ en < ol[k].next:=by omega
      all_goals
       clear HST hle s0 s1 s2 s3 s4 s5 s6 s7 s9 s10 s11 s12 s13 s14 q0 q2 q3 q4 q5 q6 q7;refine Tryst2.wp_region_text 16 (by kernel_rfl) (by kernel_rfl) ?_
       iterate 16 ((first | refine Tryst2.TW.skip (by rfl) ?_ | (refine' Tryst2.TW.op _ ?_ (by rfl) ?_;rotate_left;focus (intro w' hg;obtain ⟨hcg,hfg,hsg⟩:=YG hg;first | (go_simp;done) | (go_simp;with_reducible rfl) | (go_simp;go_at_call 90;refine (DE.out _ (Tryst2.Grow.below hg HWW.out)).mono ?_;rintro e w5 ⟨rfl,hb5⟩;refine ⟨hb5,?_⟩;with_reducible rfl))));simp only [Act.put,List.setIfInBounds_toArray,List.set_cons_zero,List.set_cons_succ])
       intro w' hg;obtain ⟨hcg,hfg,hsg⟩:=YG hg
       try change wpList _ _ _ [] _ _
       have HB9:=Zh (Qk (Tryst2.Grow.below hg (.refl _ _)) HW.out);have HWW9:=Zh (Qk (Tryst2.Grow.below hg (.refl _ _)) HWW.out);clear hg hcg hfg hsg s8 q1 hzs hzq HSo HQo HW HWW;go_wp2_with fail
       first
        | (go_ret;exact ⟨Qq HN.out.symm,HWW9.out⟩)
        | (go_roundw;(case rel=>exact ⟨k+1,by omega,by go_num,HG,HB9⟩);(case measure=>simp [intOf]<;>omega))
     ·
      have HN1:Hid (R1=true):=Zh (HP.out.trans (zQp (by omega)));clear HP;go_wp2_with fail;refine (CA.out _ HWW.out).mono ?_;rintro e w5 ⟨a5,c5,rfl,hk5,hb5⟩;have HK5:=Zh (fun W (hb:Below w5.heap.size w5 W)=>KpR.mk (Row.grow hk5 hb));have HB5:=Zh (Qk hb5 HWW.out);have HS5:=Zh (HSo.out.grow hb5);have HQ5:=Zh (HQo.out.grow hb5);have HV2:Hid (VV=((decide (0<=taken)&&(decide (0<=passes)&&(decide (0<=fires)&&(decide (0<=over)&&(decide (fires<=taken)&&(decide (over<=taken - fires)&&decide (taken - fires - over=(L.length:Nat))))))))&&R2)):=Zh (by rw [HV1.out,HN1.out];rfl);clear hb5 hk5 HWW HSo HQo HW HN1 HV1 s0 s1 s2 s3 s4 s5 s6 s7 s8 s9 s10 s11 s12 s13 s14 q0 q1 q2 q3 q4 q5 q6 q7 hzs hzq CA CE HFO;obtain ⟨s0,s1,s2,s3,s4,s5,s6,s7,s8,s9,s10,s11,s12,s13,s14⟩:=v15 (HS5.out);have hzs:=HS5.out.lt;clear s0 s1 s2 s3 s4 s5 s6 s7 s8 s9 s10
      by_cases c1:0<=taken
      case' neg=>
       have HN:Hid (VV=false):=Zh (by rw [HV2.out,decide_eq_false c1];rfl);have y1:taken < 0:=by omega
      case' pos=>
       have y1:¬ taken < 0:=by omega
       by_cases c2:0<=passes
       case' neg=>
        have HN:Hid (VV=false):=Zh (by rw [HV2.out,decide_eq_false c2];simp);have y2:passes < 0:=by omega
       case' pos=>
        have y2:¬ passes < 0:=by omega
        by_cases c3:0<=fires
        case' neg=>
         have HN:Hid (VV=false):=Zh (by rw [HV2.out,decide_eq_false c3];simp);have y3:fires < 0:=by omega
        case' pos=>
         have y3:¬ fires < 0:=by omega
         by_cases c4:0<=over
         case' neg=>
          have HN:Hid (VV=false):=Zh (by rw [HV2.out,decide_eq_false c4];simp);have y4:over < 0:=by omega
         case' pos=>
          have y4:¬ over < 0:=by omega
          by_cases c5:fires<=taken
          case' neg=>
           have HN:Hid (VV=false):=Zh (by rw [HV2.out,decide_eq_false c5];simp);have y5:taken < fires:=by omega
          case' pos=>
           have y5:¬ taken < fires:=by omega
           have y6:IntKind.i64.wrap (taken - fires)=taken - fires:=IntWalk.i64_in _ (by omega)
           by_cases c6:over<=taken - fires
           case' neg=>
            have HN:Hid (VV=false):=Zh (by rw [HV2.out,decide_eq_false c6];simp);have y7:taken - fires < over:=by omega
           case' pos=>
            have y7:¬ taken - fires < over:=by omega
            have y8:IntKind.i64.wrap (taken - fires - over)=taken - fires - over:=IntWalk.i64_in _ (by omega)
            by_cases c7:taken - fires - over=(L.length:Nat)
            case' neg=>
             have HN:Hid (VV=false):=Zh (by rw [HV2.out,decide_eq_false c7];simp);have y9:(taken - fires - over != (L.length:Int))=true:=by rw [bne_iff_ne];exact c7
            case' pos=>
             have HG:Hid (VV=R2):=Zh (by rw [HV2.out,decide_eq_true c1,decide_eq_true c2,decide_eq_true c3,decide_eq_true c4,decide_eq_true c5,decide_eq_true c6,decide_eq_true c7];rfl);have y9:(taken - fires - over != (L.length:Int))=false:=by rw [c7];exact bne_self_eq_false _
      all_goals
       clear HV2;go_wp2_with fail
       first
        | (go_ret;exact ⟨Qq HN.out.symm,HB5.out⟩)
        | skip
      clear y1 y2 y3 y4 y5 y6 y7 y8 y9 s11 s12 s13 s14 hzs;have y1:IntKind.u64.wrap taken=taken:=IntWalk.u64_in _ (by omega);go_loopw [7] (fun i wr=>AlH (okW taken now) w5 L R2 i wr) (fun i _=>L.length - (intOf i).toNat)
      case atStart=>exact ⟨0,by omega,rfl,HR2,Zh (.refl _ _)⟩
      case round=>
       clear HR2;obtain ⟨q,hq,rfl,HP2,HW2⟩:=hrel;obtain ⟨wq,rfl⟩:∃ wq,wq=wr:=⟨_,rfl⟩;have HWW2:=Zh (Qk HW2.out HB5.out);have HS6:=Zh (HS5.out.grow HW2.out);have HQ6:=Zh (HQ5.out.grow HW2.out);obtain ⟨s0,s1,s2,s3,s4,s5,s6,s7,s8,s9,s10,s11,s12,s13,s14⟩:=v15 (HS6.out);obtain ⟨q0,q1,q2,q3,q4,q5,q6,q7⟩:=v8 (HQ6.out);have hzs:=HS6.out.lt;have hzq:=HQ6.out.lt;clear s0 s1 s2 s3 s4 s5 s6 s7 s8 s9 s10 s12 s13 s14 q1 q2 q3 q4 q5 q6 q7 HS6 HQ6
       by_cases hql:q < L.length
       ·
        obtain ⟨b2,o2,ha2,hb2⟩:=(HK5.out wq HW2.out).head hql;subst ha2;obtain ⟨_,k0,k1,k2⟩:=Xg.at (HK5.out wq HW2.out).r hql;have x1:(q:Int) < L.length:=by omega
        have x2:(0:Int)<=q:=by omega
        have HST:Hid (R2=((decide (1<=L[q].id)&&(decide ((L[q].id:Int)<=taken)&&decide (L[q].time<=now)))&&(L.drop (q+1)).all (okW taken now))):=Zh (HP2.out.trans (kQy hql));clear HP2;go_upto_region 14 with fail
        by_cases g1:1<=L[q].id
        case' neg=>
         have HN:Hid (VV=false):=Zh (by rw [HG.out,HST.out,decide_eq_false g1];rfl);have z0:L[q].id=0:=by omega
         have z1:((L[q].id:Int)==0)=true:=by rw [z0];rfl
        case' pos=>
         have z0:¬ L[q].id=0:=by omega
         have z1:((L[q].id:Int)==0)=false:=by rw [beq_eq_false_iff_ne];omega
         by_cases g2:(L[q].id:Int)<=taken
         case' neg=>
          have HN:Hid (VV=false):=Zh (by rw [HG.out,HST.out,decide_eq_false g2];simp);have z2:taken < (L[q].id:Int):=by omega
         case' pos=>
          have z2:¬ taken < (L[q].id:Int):=by omega
          by_cases g3:L[q].time<=now
          case' neg=>
           have HN:Hid (VV=false):=Zh (by rw [HG.out,HST.out,decide_eq_false g3];simp);have z3:now < L[q].time:=by omega
          case' pos=>
           have HG2:Hid (R2=(L.drop (q+1)).all (okW taken now)):=Zh (by rw [HST.out,decide_eq_true g1,decide_eq_true g2,decide_eq_true g3];rfl);have z3:¬ now < L[q].time:=by omega
        all_goals
         clear HST;refine Tryst2.wp_region_text 27 (by kernel_rfl) (by kernel_rfl) ?_
         iterate 27 ((first | refine Tryst2.TW.skip (by rfl) ?_ | (refine' Tryst2.TW.op _ ?_ (by rfl) ?_;rotate_left;focus (intro w' hg;obtain ⟨hcg,hfg,hsg⟩:=YG hg;first | (go_simp;done) | (go_simp;with_reducible rfl) )));simp only [Act.put,List.setIfInBounds_toArray,List.set_cons_zero,List.set_cons_succ])
         intro w' hg;obtain ⟨hcg,hfg,hsg⟩:=YG hg
         try change wpList _ _ _ [] _ _
         have HB9:=Zh (Qk (Tryst2.Grow.below hg (.refl _ _)) HW2.out);have HWW9:=Zh (Qk (Tryst2.Grow.below hg (.refl _ _)) HWW2.out);clear hg hcg hfg hsg s11 q0 hzs hzq HW2 HWW2;go_wp2_with fail
         first
          | (go_ret;exact ⟨Qq HN.out.symm,HWW9.out⟩)
          | (go_roundw;(case rel=>exact ⟨q+1,by omega,by go_num,HG2,HB9⟩);(case measure=>simp [intOf]<;>omega))
       · have HN2:Hid (R2=true):=Zh (HP2.out.trans (zQp (by omega)));go_wp2_with fail;go_ret;exact ⟨Qq (by rw [HG.out,HN2.out]),HWW2.out⟩
