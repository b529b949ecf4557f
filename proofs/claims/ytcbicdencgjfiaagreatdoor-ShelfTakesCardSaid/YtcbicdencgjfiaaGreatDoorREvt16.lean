import Derived.Test.YtcbicdencgjfiaaGreatDoorMayP16
import Derived.Test.YtcbicdencgjfiaaGreatDoorR12
import Derived.Test.YtcbicdencgjfiaaGreatDoorRAll10
set_option linter.all false
set_option maxHeartbeats 16000000
set_option maxRecDepth 20000
namespace Go.Proofs.YtcbicdencgjfiaaGreatDoor
open Go Go.RowKit Tryst
theorem zYl (a b:V):decide (V.order a b < 0)=(V.order a b==-1):=by
 have h:V.order a b=-1∨V.order a b=0∨V.order a b=1:=by
  unfold V.order
  split
  ·
   split
   ·
    split
    · exact .inl rfl
    ·
     split
     · exact .inr (.inr rfl)
     · exact .inr (.inl rfl)
   · exact .inl rfl
  ·
   split
   · exact .inr (.inr rfl)
   · exact kYy _ _
 rw [Bool.eq_iff_iff,decide_eq_true_eq,beq_iff_eq];omega
theorem kYv (j:JB) (a:Option Addr) (c:Nat) (l:List InB) (hl:l.length<=1500000) (hL:∀ x∈l,x.l.length<=1500000) (hS:∀ x∈l,x.s.size<=1500000) (hn:(allI l).length<=1000000000) (w:World) (hI:Insts w a l) :
  Calls Tryz.prog 89 #[.agg #[.string j.kind,.int .i64 j.parts,.int .i64 j.need,.int .i64 j.window],.slice a l.length c] w fun e w'=>e=.returned (.bool (qQM j l))/\Below w.heap.size w w':=by
 have HF:=Zh (fun W (hb:Below w.heap.size w W)=>hI.grow hb);have CJ:=Zh (fun W=>zY1 j W);have CA:=Zh (fun W (hb:Below w.heap.size w W)=>zYC a c l hl (by omega) W (hI.grow hb));have CV:=Zh (fun (k:Nat) (hk:k < l.length) W=>kYW l[k].num l[k].n l[k].s (by have:=hS _ (List.getElem_mem hk);omega) W);have CO:=Zh (fun (k m:Nat) (hk:k < l.length) (hm:m < l.length) W=>vY3 l[m].num l[k].num l[m].n l[k].n l[m].s l[k].s W);have CC:=Zh (fun (k:Nat) (hk:k < l.length) W (hb:Below w.heap.size w W)=>kYx j l[k].la l[k].lc l[k].l (hL _ (List.getElem_mem hk)) W ((hI.grow hb).mem _ (List.getElem_mem hk)));obtain ⟨VV,hVV⟩:∃ VV,qQM j l=VV:=⟨_,rfl⟩;rw [hVV];rw [zYX] at hVV;obtain ⟨R,hRR⟩:∃ R,okK (mayI j) none l=R:=⟨_,rfl⟩;obtain ⟨R2,hRR2⟩:∃ R2,okH kYR [] (allI l)=R2:=⟨_,rfl⟩;rw [hRR,hRR2] at hVV;have HR:Hid (R=okK (mayI j) (Xq l 0) (l.drop 0)):=Zh (by rw [<- hRR];rfl);have HR2:Hid (R2=okH kYR ((allI l).take 0) ((allI l).drop 0)):=Zh (by rw [<- hRR2];rfl);have HVV:=Zh hVV;clear hI hVV hRR hRR2 hL hS;generalize mayJ j=mj at CJ HVV;have HS0:=Zh (Var.new w 43 [.string j.kind,.int .i64 j.parts,.int .i64 j.need,.int .i64 j.window]);have HB0:=Zh (Qj (.cells #[.string j.kind,.int .i64 j.parts,.int .i64 j.need,.int .i64 j.window] 43) (.refl w.heap.size w));go_enter Tryz.func89,Tryz.ntmps89;go_upto_region 1 with fail
 revert HS0 HB0;simp only [List.toArray];generalize w.alloc (.cells _ 43)=X;intro HS0 HB0;go_wp2_with fail;go_loopw [5] (fun i wr=>OkR (mayI j) X l R i wr) (fun i _=>l.length - (intOf i).toNat)
 case atStart=>exact ⟨0,by omega,rfl,HR,Zh (.refl _ _)⟩
 case round=>
  clear HR;obtain ⟨k,hk,rfl,HP,HW⟩:=hrel;obtain ⟨wo,rfl⟩:∃ wo,wo=wr:=⟨_,rfl⟩;have HWW:=Zh (Qk HW.out HB0.out);have HSo:=Zh (HS0.out.grow HW.out)
  by_cases hlt:k < l.length
  ·
   obtain ⟨b,o,ha,hb⟩:=(HF.out wo HWW.out).head hlt;subst ha;obtain ⟨_,f0,f1,f2,f3⟩:=(HF.out wo HWW.out).at hlt;have x1:(k:Int) < l.length:=by omega
   have x2:(0:Int)<=k:=by omega
   obtain ⟨j0,j1,j2,j3⟩:=v4 (HSo.out);have hzj:=HSo.out.lt;have HST:Hid (R=((V.mayB l[k].key&&(decide (l[k].l.length≠0)&&(qQg j l[k].l&&(match Xq l k with | none=>true | some q=>decide (V.order q.key l[k].key < 0)))))&&okK (mayI j) (Xq l (k+1)) (l.drop (k+1)))):=Zh (HP.out.trans (vQU hlt));have D1:=Zh (CV.out k hlt);have D3:=Zh (CC.out k hlt);have D4:=Zh (fun m (hm:m < l.length)=>CO.out k m hlt hm);obtain ⟨R3,hR3⟩:∃ R3,okK (mayI j) (Xq l (k+1)) (l.drop (k+1))=R3:=⟨_,rfl⟩;have HR3:=Zh hR3;rw [hR3] at HST;unfold InB.key at HST;generalize V.mayB ⟨l[k].num,l[k].n,l[k].s.data.toList⟩=my at HST D1;generalize qQg j l[k].l=cj at HST D3;clear HP hR3;go_upto_region 4 with fail
   cases my
   case' false=>
    have HN:Hid (VV=false):=Zh (by rw [<- HVV.out,HST.out];rfl)
   case' true=>
    by_cases h0:l[k].l.length=0
    case' pos=>
     have HN:Hid (VV=false):=Zh (by rw [<- HVV.out,HST.out];simp [h0]);have y0:((l[k].l.length:Int)==0)=true:=by simp [h0]
     have y1:l[k].l=[]:=List.eq_nil_of_length_eq_zero h0
    case' neg=>
     have y0:((l[k].l.length:Int)==0)=false:=by simpa using h0
     have y1:¬ l[k].l=[]:=fun e=>h0 (by rw [e];rfl)
     have HS1:Hid (R=((cj&&(match Xq l k with | none=>true | some q=>decide (V.order ⟨q.num,q.n,q.s.data.toList⟩ ⟨l[k].num,l[k].n,l[k].s.data.toList⟩ < 0)))&&R3)):=Zh (by rw [HST.out,decide_eq_true h0];rfl);cases cj
     case' false=>
      have HN:Hid (VV=false):=Zh (by rw [<- HVV.out,HS1.out];rfl)
     case' true=>
      by_cases hk0:k=0
      case' pos=>
       have HG:Hid (R=R3):=Zh (by rw [HS1.out,show Xq l k=none from by rw [hk0];rfl];rfl);have y5:¬ (0:Int) < k:=by omega
       have y6:¬ 0 < k:=by omega
       clear hk0
      case' neg=>
       have y5:(0:Int) < k:=by omega
       have y6:0 < k:=by omega
       obtain ⟨m,hm⟩:∃ m,k=m+1:=⟨k - 1,by omega⟩;have hlm:m < l.length:=by omega
       obtain ⟨_,g0,g1,g2,_⟩:=(HF.out wo HWW.out).at hlm;have D5:=Zh (D4.out m hlm);have y7:IntKind.i64.wrap ((k:Int) - 1)=(m:Int):=by rw [IntWalk.i64_in _ (by omega)];omega
       have y8:(m:Int) < l.length:=by omega
       have y9:(0:Int)<=m:=by omega
       have HS2:Hid (R=((V.order ⟨l[m].num,l[m].n,l[m].s.data.toList⟩ ⟨l[k].num,l[k].n,l[k].s.data.toList⟩==-1)&&R3)):=Zh (by
        rw [HS1.out,show Xq l k=some l[m] by rw [hm];exact List.getElem?_eq_getElem hlm,<- zYl];rfl)
       clear hm hk0;generalize V.order ⟨l[m].num,l[m].n,l[m].s.data.toList⟩ ⟨l[k].num,l[k].n,l[k].s.data.toList⟩=od at D5 HS2
       by_cases c5:od=-1
       case' pos=>
        have HG:Hid (R=R3):=Zh (by rw [HS2.out,c5];rfl);subst c5
       case' neg=>
        have y10:(od==-1)=false:=by rw [beq_eq_false_iff_ne];exact c5
        have HN:Hid (VV=false):=Zh (by rw [<- HVV.out,HS2.out,y10];rfl)
   all_goals
    try clear HS2
    try clear HS1
    clear HST;refine Tryst2.wp_region_text 45 (by kernel_rfl) (by kernel_rfl) ?_
    iterate 45 ((first | refine Tryst2.TW.skip (by rfl) ?_ | (refine' Tryst2.TW.op _ ?_ (by rfl) ?_;rotate_left;focus (intro w' hg;obtain ⟨hcg,hfg,hsg⟩:=YG hg;first | (go_simp;done) | (go_simp;with_reducible rfl) | (go_simp;first | (go_at_call 150;refine (D1.out _).mono ?_;rintro e w5 ⟨rfl,hb5⟩;refine ⟨hb5,?_⟩;with_reducible rfl) | (go_at_call 151;refine (D3.out _ (Tryst2.Grow.below hg HWW.out)).mono ?_;rintro e w5 ⟨rfl,hb5⟩;refine ⟨hb5,?_⟩;with_reducible rfl) | (go_at_call 152;refine (D5.out _).mono ?_;rintro e w5 ⟨rfl,hb5⟩;refine ⟨hb5,?_⟩;with_reducible rfl)))));simp only [Act.put,List.setIfInBounds_toArray,List.set_cons_zero,List.set_cons_succ])
    intro w' hg;obtain ⟨hcg,hfg,hsg⟩:=YG hg
    try change wpList _ _ _ [] _ _
    have HB9:=Zh (Qk (Tryst2.Grow.below hg (.refl _ _)) HW.out);have HWW9:=Zh (Qk (Tryst2.Grow.below hg (.refl _ _)) HWW.out);clear hg hcg hfg hsg j0 j1 j2 j3 hzj HSo HW HWW;go_wp2_with fail
    first
     | (go_ret;exact ⟨Qq HN.out.symm,HWW9.out⟩)
     | skip
   all_goals
    have HN:Hid (R=okK (mayI j) (Xq l (k+1)) (l.drop (k+1))):=Zh (by rw [HG.out,HR3.out]);go_roundw
    case rel=>exact ⟨k+1,by omega,by go_num,HN,HB9⟩
    case measure=>simp [intOf]<;>omega
  ·
   have HN:Hid (R=true):=Zh (HP.out.trans (xQJ (by omega)));go_wp2_with fail;refine (CA.out _ HWW.out).mono ?_;rintro e w5 ⟨a5,c5,rfl,hk5,hb5⟩;have HK5:=Zh (fun W (hb:Below w5.heap.size w5 W)=>KpR.mk (Row.grow hk5 hb));have HB5:=Zh (Qk hb5 HWW.out);have HSO:=Zh (HSo.out.grow hb5);have HVN:Hid (VV=(R2&&(mj&&decide (l.length<=40)))):=Zh (by rw [<- HVV.out,HN.out];rfl);clear hb5 hk5 HWW HSo HW HP HN HVV CA CC CV CO HF HS0 HB0;obtain ⟨L,hL⟩:∃ L,allI l=L:=⟨_,rfl⟩;rw [hL] at HK5 HR2 hn ⊢;clear hL;go_wp2_with fail;go_loopw [7] (fun i wr=>OkH kYR w5 L R2 i wr) (fun i _=>L.length - (intOf i).toNat)
   case atStart=>exact ⟨0,by omega,rfl,HR2,Zh (.refl _ _)⟩
   case round=>
    clear HR2;obtain ⟨k,hk,rfl,HP,HW⟩:=hrel;obtain ⟨wo,rfl⟩:∃ wo,wo=wr:=⟨_,rfl⟩
    by_cases hlt:k < L.length
    ·
     obtain ⟨b,o,ha,hb⟩:=(HK5.out wo HW.out).head hlt;subst ha;have x1:(k:Int) < L.length:=by omega
     have x2:(0:Int)<=k:=by omega
     have HST:Hid (R2=(!((L.take k).any (fun y=>(y.id:Int)==(L[k].id:Int)))&&okH kYR (L.take (k+1)) (L.drop (k+1)))):=Zh (HP.out.trans (kQl hlt));clear HP;go_wp2_with fail;go_loopw [8] (fun i wr=>IdR wo L k i wr) (fun i _=>k - (intOf i).toNat)
     case atStart=>exact ⟨0,by omega,rfl,Zh (fun p hp hk hq=>by omega),Zh (.refl _ _)⟩
     case round=>
      obtain ⟨q,hq,rfl,HI,HP⟩:=hrel;obtain ⟨wq,rfl⟩:∃ wq,wq=wr:=⟨_,rfl⟩;have HQ:=Zh (Qk HP.out HW.out)
      by_cases hql:q < k
      ·
       have hq2:q < L.length:=by omega
       obtain ⟨hbq,_,f1,_⟩:=Xg.at (HK5.out wq HQ.out).r hlt;obtain ⟨_,_,g1,_⟩:=Xg.at (HK5.out wq HQ.out).r hq2;have y1:(q:Int) < L.length:=by omega
       have y2:(q:Int) < k:=by omega
       have y3:(0:Int)<=q:=by omega
       go_upto_region 13 with fail
       by_cases hpp:L[q].id=L[k].id
       ·
        have HN:Hid (VV=false):=Zh (by rw [HVN.out,HST.out,kYi hlt hql hpp];simp);have z1:((L[k].id:Int)==(L[q].id:Int))=true:=by rw [hpp,beq_iff_eq]
        clear hpp;refine Tryst2.wp_region_text 11 (by kernel_rfl) (by kernel_rfl) ?_
        iterate 11 ((first | refine Tryst2.TW.skip (by rfl) ?_ | (refine' Tryst2.TW.op _ ?_ (by rfl) ?_;rotate_left;focus (intro w' hg;obtain ⟨hcg,hfg,hsg⟩:=YG hg;first | (go_simp;done) | (go_simp;with_reducible rfl) )));simp only [Act.put,List.setIfInBounds_toArray,List.set_cons_zero,List.set_cons_succ])
        intro w' hg;obtain ⟨hcg,hfg,hsg⟩:=YG hg
        try change wpList _ _ _ [] _ _
        have HQ9:=Zh (Qk (Qk (Tryst2.Grow.below hg (.refl _ _)) HQ.out) HB5.out);clear hg hcg hfg hsg;go_wp2_with fail;go_ret;exact ⟨Qq HN.out.symm,HQ9.out⟩
       ·
        have HI2:Hid (∀ (p:Nat) (hp:p < L.length) (hk:k < L.length),p < q+1->L[p].id≠L[k].id):=Zh (fun p hp hk h=>by
         by_cases e:p=q
         · subst e;exact hpp
         · exact HI.out p hp hk (by omega))
        have z1:((L[k].id:Int)==(L[q].id:Int))=false:=by rw [beq_eq_false_iff_ne];omega
        clear hpp HI;refine Tryst2.wp_region_text 11 (by kernel_rfl) (by kernel_rfl) ?_
        iterate 11 ((first | refine Tryst2.TW.skip (by rfl) ?_ | (refine' Tryst2.TW.op _ ?_ (by rfl) ?_;rotate_left;focus (intro w' hg;obtain ⟨hcg,hfg,hsg⟩:=YG hg;first | (go_simp;done) | (go_simp;with_reducible rfl) )));simp only [Act.put,List.setIfInBounds_toArray,List.set_cons_zero,List.set_cons_succ])
        intro w' hg;obtain ⟨hcg,hfg,hsg⟩:=YG hg
        try change wpList _ _ _ [] _ _
        have HP9:=Zh (Qk (Tryst2.Grow.below hg (.refl _ _)) HP.out);clear hg hcg hfg hsg;go_wp2_with fail;go_roundw
        case rel=>exact ⟨q+1,by omega,by go_num,HI2,HP9⟩
        case measure=>simp [intOf]<;>omega
      ·
       obtain rfl:q=k:=by omega
       have HN:Hid (R2=okH kYR (L.take (q+1)) (L.drop (q+1))):=Zh (by rw [HST.out,zY8 hlt (fun p hp h=>HI.out p hp hlt h)];rfl);go_wp2_with fail;go_roundw
       case rel=>exact ⟨q+1,by omega,by go_num,HN,HQ⟩
       case measure=>simp [intOf]<;>omega
    ·
     have HN:Hid (R2=true):=Zh (HP.out.trans (zQj (by omega)));have HSP:=Zh (HSO.out.grow HW.out);have HBP:=Zh (Qk HW.out HB5.out);obtain ⟨j0,j1,j2,j3⟩:=v4 (HSP.out);have hzj:=HSP.out.lt;clear HP HW HSO HB5 HK5;go_wp2_with fail;refine (CJ.out _).mono ?_;rintro e w6 ⟨rfl,hb6⟩;have HB6:=Zh (Qk hb6 HBP.out);clear hb6 j0 j1 j2 j3 hzj
     by_cases h40:l.length<=40
     case' pos=>have z40:(l.length:Int)<=40:=by omega
     case' neg=>have z40:¬ (l.length:Int)<=40:=by omega
     all_goals
      cases mj
      all_goals
       go_wp2_with fail;go_ret;exact ⟨Qq (by rw [HVN.out,HN.out];simp [h40,z40]),HB6.out⟩
end Go.Proofs.YtcbicdencgjfiaaGreatDoor
namespace Go.Proofs.YtcbicdencgjfiaaGreatDoor
open Go Go.RowKit Tryst
def IxR {α:Type} (w:World) (p:α->Bool) (l:List α) (i:Value) (wr:World):Prop:=∃ k:Nat,k<=l.length/\i=.int .i64 k/\Hid (∀ (j:Nat) (h:j < l.length),j < k->p l[j]=false)/\Hid (Below w.heap.size w wr)
theorem zYz (a:Option Addr) (c:Nat) (l:List UB) (id:Nat) (hl:l.length<=1500000) (w:World) (hR:Zj w a l) :
  Calls Tryz.prog 38 #[.slice a l.length c,.int .u64 id] w fun e w'=>e=.returned (.int .i64 (idxG (fun y:UB=>decide (y.id=id)) l))/\Below w.heap.size w w':=by
 have HF:=Zh (fun W (hb:Below w.heap.size w W)=>hR.grow hb);clear hR;go_enter Tryz.func38,Tryz.ntmps38;go_wp2_with fail;go_loopw [5] (fun i wr=>IxR w (fun y:UB=>decide (y.id=id)) l i wr) (fun i _=>l.length - (intOf i).toNat)
 case atStart=>exact ⟨0,by omega,rfl,Zh (fun _ _ h=>by omega),Zh (.refl _ _)⟩
 case round=>
  obtain ⟨k,hk,rfl,HA,HW⟩:=hrel;obtain ⟨wo,rfl⟩:∃ wo,wo=wr:=⟨_,rfl⟩
  by_cases hlt:k < l.length
  ·
   have hrow:=HF.out wo HW.out;obtain ⟨b,o,ha,hb⟩:=Zj.hd hrow hlt;subst ha;obtain ⟨_,f0,f1,f2,f3,f4⟩:=Zj.at hrow hlt;have x1:(k:Int) < l.length:=by omega
   have x2:(0:Int)<=k:=by omega
   by_cases hn:l[k].id=id
   ·
    have HQ:=Zh (jJO (p:=fun y:UB=>decide (y.id=id)) hlt HA.out (decide_eq_true hn));have z1:((l[k].id:Int)==(id:Int))=true:=by rw [hn,beq_iff_eq]
    clear hn HA hrow;go_wp2_with fail;go_ret;exact ⟨by rw [HQ.out];rfl,HW.out⟩
   ·
    have HQ:=Zh (xQ6 (p:=fun y:UB=>decide (y.id=id)) hlt HA.out (decide_eq_false hn));have z1:((l[k].id:Int)==(id:Int))=false:=by rw [beq_eq_false_iff_ne];omega
    clear hn HA hrow;go_wp2_with fail;go_roundw
    case rel=>exact ⟨k+1,by omega,by go_num,HQ,HW⟩
    case measure=>simp [intOf]<;>omega
  · have HQ:=Zh (kJ7 (p:=fun y:UB=>decide (y.id=id)) (by omega:l.length<=k) HA.out);go_wp2_with fail;go_ret;exact ⟨by rw [HQ.out];rfl,HW.out⟩
theorem zYy (r:RtB) (n:ByteArray) (hl:r.sl.length<=1500000) (w:World) (hS:Subs w r.sa r.sl) :
  Calls Tryz.prog 40 #[r.agg,.string n] w fun e w'=>e=.returned (.int .i64 (idxG (fun y:SubB=>y.d.name.toList==n.toList) r.sl))/\Below w.heap.size w w':=by
 have HF:=Zh (fun W (hb:Below w.heap.size w W)=>hS.grow hb);clear hS;obtain ⟨l,hl2⟩:∃ l,r.sl=l:=⟨_,rfl⟩;have hra:r.agg=.agg #[.int .i64 r.now,.slice r.ta r.tl.length r.tc,.slice r.la r.ll.length r.lc,.slice r.sa l.length r.sc,.int .i64 r.total,.slice r.ua r.ul.length r.uc,.slice r.ga r.gl.length r.gc,.slice r.da r.dl.length r.dc]:=by rw [<- hl2];rfl
 rw [hra];rw [hl2] at HF hl ⊢;generalize r.tl.length=tn;generalize r.ll.length=ln;generalize r.ul.length=un;generalize r.gl.length=gn;generalize r.dl.length=dn;clear hra hl2;have HS0:=Zh (Var.new w 28 [.int .i64 r.now,.slice r.ta tn r.tc,.slice r.la ln r.lc,.slice r.sa l.length r.sc,.int .i64 r.total,.slice r.ua un r.uc,.slice r.ga gn r.gc,.slice r.da dn r.dc]);have HB0:=Zh (Qj (.cells #[.int .i64 r.now,.slice r.ta tn r.tc,.slice r.la ln r.lc,.slice r.sa l.length r.sc,.int .i64 r.total,.slice r.ua un r.uc,.slice r.ga gn r.gc,.slice r.da dn r.dc] 28) (.refl w.heap.size w));go_enter Tryz.func40,Tryz.ntmps40;go_upto_region 1 with fail
 revert HS0 HB0;simp only [List.toArray];generalize w.alloc (.cells _ 28)=X;intro HS0 HB0;go_wp2_with fail;go_loopw [5] (fun i wr=>IxR X (fun y:SubB=>y.d.name.toList==n.toList) l i wr) (fun i _=>l.length - (intOf i).toNat)
 case atStart=>exact ⟨0,by omega,rfl,Zh (fun _ _ h=>by omega),Zh (.refl _ _)⟩
 case round=>
  obtain ⟨k,hk,rfl,HA,HW⟩:=hrel;obtain ⟨wo,rfl⟩:∃ wo,wo=wr:=⟨_,rfl⟩;have HWW:=Zh (Qk HW.out HB0.out);have HSo:=Zh (HS0.out.grow HW.out);obtain ⟨s0,s1,s2,s3,s4,s5,s6,s7⟩:=v8 (HSo.out);have hzs:=HSo.out.lt
  by_cases hlt:k < l.length
  ·
   have hrow:=HF.out wo HWW.out;obtain ⟨b,o,ha,hb⟩:=hrow.head hlt;rw [ha] at s3 hrow;obtain ⟨_,f0,f1,f2,f3,f4,f5,f6,f7,f8,f9,f10,f11,f12,f13,f14⟩:=hrow.at hlt;have x1:(k:Int) < l.length:=by omega
   have x2:(0:Int)<=k:=by omega
   clear hrow ha f1 f2 f3 f4 f5 f6 f7 f8 f9 f10 f11 f12 f13 f14 HSo s0 s1 s2 s4 s5 s6 s7;cases z1:(l[k].d.name.toList==n.toList) with
   | true=>
    have HQ:=Zh (jJO (p:=fun y:SubB=>y.d.name.toList==n.toList) hlt HA.out z1);clear HA;go_wp2_with fail;go_ret;exact ⟨by rw [HQ.out];rfl,HWW.out⟩
   | false=>
    have HQ:=Zh (xQ6 (p:=fun y:SubB=>y.d.name.toList==n.toList) hlt HA.out z1);clear HA;go_wp2_with fail;go_roundw
    case rel=>exact ⟨k+1,by omega,by go_num,HQ,HW⟩
    case measure=>simp [intOf]<;>omega
  · have HQ:=Zh (kJ7 (p:=fun y:SubB=>y.d.name.toList==n.toList) (by omega:l.length<=k) HA.out);go_wp2_with fail;go_ret;exact ⟨by rw [HQ.out];rfl,HWW.out⟩
theorem vYS (n:ByteArray) (a:Option Addr) (c:Nat) (l:List TB) (hl:l.length<=1500000) (hT:vJy l) (w:World) (hF:qQu w a l) :
  Calls Tryz.prog 90 #[.slice a l.length c,.string n] w fun e w'=>e=.returned (.int .i64 (endT l n))/\Below w.heap.size w w':=by
 have HC:=Zh (zYg n a c l (by omega) w hF);have HF:=Zh (fun W (hb:Below w.heap.size w W)=>hF.grow hb);clear hF;unfold endT;cases hr:zQZ (l.map TB.tp) n with
 | none=>
  rw [hr] at HC;unfold kJB at HC;simp only [Option.getD_none,Option.isSome_none] at HC;go_enter Tryz.func90,Tryz.ntmps90;go_wp2_with fail;refine HC.out.mono ?_;rintro e w1 ⟨rfl,hb1⟩;go_wp2_with fail;go_ret;exact ⟨rfl,hb1⟩
 | some i=>
  obtain ⟨hi,_⟩:=zYI hr;rw [hr] at HC;unfold kJB at HC;simp only [Option.getD_some,Option.isSome_some] at HC;have hi2:i < l.length:=by simpa using hi
  have he:(match l[i]? with | some t=>t.first+t.log.length | none=>-1)=l[i].first+l[i].log.length:=by rw [List.getElem?_eq_getElem hi2]
  show Calls _ _ _ _ fun e w'=>e=.returned (.int .i64 (match l[i]? with | some t=>t.first+t.log.length | none=>-1))/\_
  rw [he];obtain ⟨q1,q2,q3⟩:=hT _ (List.getElem_mem hi2);have x1:(i:Int) < l.length:=by omega
  have x2:(0:Int)<=i:=by omega
  have x3:IntKind.i64.wrap (l[i].first+(l[i].log.length:Int))=l[i].first+l[i].log.length:=IntWalk.i64_in _ (by omega);clear hr he;go_enter Tryz.func90,Tryz.ntmps90;go_wp2_with fail;refine HC.out.mono ?_;rintro e w1 ⟨rfl,hb1⟩;have HF1:=HF.out w1 hb1;have HB1:=Zh hb1;obtain ⟨b,o,ha,hb⟩:=HF1.head hi2;subst ha;obtain ⟨_,⟨f0,f1,f2⟩,_⟩:=HF1.at hi2;clear HF1 HF HC hb1;go_upto_region 4 with fail
  refine Tryst2.wp_region_text 12 (by kernel_rfl) (by kernel_rfl) ?_
  iterate 12 ((first | refine Tryst2.TW.skip (by rfl) ?_ | (refine' Tryst2.TW.op _ ?_ (by rfl) ?_;rotate_left;focus (intro w' hg;obtain ⟨hcg,hfg,hsg⟩:=YG hg;first | (go_simp;done) | (go_simp;with_reducible rfl) )));simp only [Act.put,List.setIfInBounds_toArray,List.set_cons_zero,List.set_cons_succ])
  intro w' hg;obtain ⟨hcg,hfg,hsg⟩:=YG hg
  try change wpList _ _ _ [] _ _
  have HB2:=Zh (Qk (Tryst2.Grow.below hg (.refl _ _)) HB1.out);clear hg hcg hfg hsg;go_wp2_with fail;go_ret;exact ⟨rfl,HB2.out⟩
end Go.Proofs.YtcbicdencgjfiaaGreatDoor
namespace Go.Proofs.YtcbicdencgjfiaaGreatDoor
open Go Go.RowKit Tryst
theorem zYq (s:ByteArray) (hs:s.size<=1500000) (w:World) :
  Calls Tryz.prog 39 #[.string s] w fun e w'=>∃ (a b:ByteArray) (q:Nat) (ad:Option Addr) (n c:Nat) (k:Int),e=.returned (.tuple #[.agg #[.string a,.string b,.int .u64 q,.slice ad n c],.int .i64 k])/\decide (k=0)=octB s/\Below w.heap.size w w':=by
 have C:=Zh (fun W=>kYt s (by omega) W);have HO:Hid (octB s=(decide ((qQB s.data.toList).2.2=0)&&decide ((qQB s.data.toList).2.1=s.size))):=Zh rfl;generalize octB s=ob at HO;generalize (qQB s.data.toList).1=E at C;generalize (qQB s.data.toList).2.1=n at C HO;generalize (qQB s.data.toList).2.2=f at C HO;have HX:=Zh (Var.new w 94 [.string ⟨#[]⟩,.string ⟨#[]⟩,.int .u64 0,.slice none 0 0]);have HB0:=Zh (Qj (.cells #[.string ⟨#[]⟩,.string ⟨#[]⟩,.int .u64 0,.slice none 0 0] 94) (.refl w.heap.size w));go_enter Tryz.func39,Tryz.ntmps39;go_upto_region 1 with fail
 revert HX HB0;simp only [List.toArray];generalize w.alloc (.cells _ 94)=X;intro HX HB0;go_wp2_with fail;refine (C.out _).mono ?_;rintro x w1 ⟨a5,c5,rfl,f5,s5,hb5⟩;have HX1:=Zh (HX.out.grow hb5);have HB1:=Zh (Qk hb5 HB0.out);obtain ⟨x0,x1,x2,x3⟩:=v4 (HX1.out);have hz:=HX1.out.lt;clear hb5 HX HB0 C;go_upto_region 2 with fail
 refine Qg (fun v=>Hid (Var v w1.heap.size 94 [.string ⟨E.topic.toArray⟩,.string ⟨E.prod.toArray⟩,.int .u64 E.seq,.slice a5 E.l.length c5])/\Hid (Var v w.heap.size 94 [.string ⟨#[]⟩,.string ⟨#[]⟩,.int .u64 0,.slice none 0 0])/\Hid (Below w.heap.size w v)) ⟨Zh (Var.new w1 _ [_,_,_,_]),Zh (HX1.out.grow (Qj _ (.refl _ _))),Zh (Qj _ HB1.out)⟩ ?_;rintro X2 ⟨HE,HZ,HB2⟩;have hg:w.heap.size < w1.heap.size:=hz;generalize w1.heap.size=G at HE hg ⊢;clear x0 x1 x2 x3 hz HX1 HB1;obtain ⟨e0,e1,e2,e3⟩:=v4 (HE.out);obtain ⟨z0,z1,z2,z3⟩:=v4 (HZ.out);have he:=HE.out.lt;have q0:=HZ.out.fz 0;have q1:=HZ.out.fz 1;have q2:=HZ.out.fz 2;have q3:=HZ.out.fz 3;have hz:=HZ.out.lt
 by_cases h1:f=0
 case' neg=>
  have HN:Hid (ob=false):=Zh (by rw [HO.out,decide_eq_false h1];rfl);have y1:((f:Int)==0)=false:=by rw [beq_eq_false_iff_ne];omega
  have y2:decide ((f:Int)=0)=false:=decide_eq_false (by omega)
 case' pos=>
  subst h1
  by_cases h2:n=s.size
  case' pos=>
   have HN:Hid (ob=true):=Zh (by rw [HO.out,decide_eq_true h2];rfl);subst h2
  case' neg=>
   have HN:Hid (ob=false):=Zh (by rw [HO.out,decide_eq_false h2];rfl);have y1:((n:Int)==(s.size:Int))=false:=by rw [beq_eq_false_iff_ne];omega
 all_goals
  clear f5 s5 HE HZ HO;go_wp2_with fail
 · refine bodyPost_ret (v:=.tuple #[.agg #[.string ⟨#[]⟩,.string ⟨#[]⟩,.int .u64 0,.slice none 0 0],.int .i64 2]) (by simp [results,Tryz.results39,go_sem, *]) rfl ?_;exact ⟨⟨#[]⟩,⟨#[]⟩,0,none,0,0,2,rfl,by rw [HN.out];rfl,bset _ (Nat.le_refl _) (bset _ (Nat.le_refl _) (bset _ (Nat.le_refl _) (bset _ (Nat.le_refl _) HB2.out)))⟩
 · refine bodyPost_ret (v:=.tuple #[.agg #[.string ⟨E.topic.toArray⟩,.string ⟨E.prod.toArray⟩,.int .u64 E.seq,.slice a5 E.l.length c5],.int .i64 0]) (by simp [results,Tryz.results39,go_sem, *]) rfl ?_;exact ⟨_,_,_,_,_,_,0,rfl,by rw [HN.out];rfl,bset _ (Nat.le_refl _) (bset _ (Nat.le_refl _) (bset _ (Nat.le_refl _) (bset _ (Nat.le_refl _) HB2.out)))⟩
 · refine bodyPost_ret (v:=.tuple #[.agg #[.string ⟨E.topic.toArray⟩,.string ⟨E.prod.toArray⟩,.int .u64 E.seq,.slice a5 E.l.length c5],.int .i64 f]) (by simp [results,Tryz.results39,go_sem, *]) rfl ?_;exact ⟨_,_,_,_,_,_,f,rfl,by rw [HN.out];exact y2,bset _ (Nat.le_refl _) (bset _ (Nat.le_refl _) (bset _ (Nat.le_refl _) (bset _ (Nat.le_refl _) HB2.out)))⟩
