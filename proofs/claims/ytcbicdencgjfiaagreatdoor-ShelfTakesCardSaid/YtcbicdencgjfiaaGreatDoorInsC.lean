import Derived.Test.YtcbicdencgjfiaaGreatDoorInsA
set_option linter.all false
set_option maxHeartbeats 4000000
set_option maxRecDepth 20000
namespace Go.Proofs.YtcbicdencgjfiaaGreatDoor
open Go Go.RowKit Tryst
def encU (n:Nat):Value:=.int .u64 (n:Int)
def okU (n:Nat):Prop:=n < 2 ^ 64
theorem qQQ (a b:Nat) (h:encU a=encU b):a=b:=by
 unfold encU at h;simp only [Value.int.injEq,true_and] at h;omega
theorem keyU:RawKey Tryz.prog 46 (fun v=>∃ n,okU n/\v=encU n):=
 (RawKey.of_keyed (Maps.int_keyed Tryz.underlying46)).sub (fun v ⟨n,hn,e⟩=>⟨.int .u64 n,by
  subst e;unfold okU at hn;refine Maps.keyOf_int_mk Tryz.underlying46 ?_;unfold Lit.wf;rw [Bool.and_eq_true];exact ⟨decide_eq_true (by show (0:Int)<=n;omega),decide_eq_true (by show (n:Int)<=18446744073709551615;omega)⟩⟩)
theorem kJV {α:Type} {l:List α} {m:Nat} (h:m < l.length):(l.take (m+1)).getLast?=some l[m]:=by
 rw [List.take_succ_eq_append_getElem h,List.getLast?_concat]
def InC (j:JB) (w1:World) (l:List InB) (R:Bool) (mb:Nat) (i:Value) (wr:World):Prop:=∃ (k n:Nat) (f:Nat->Option Value),k<=l.length/\i=.int .i64 k/\Hid (R=okH (kQ6 j) (l.take k) (l.drop k))/\Hid (MapK encU okU wr mb n f)/\Hid (∀ m,(f m).isSome=idsK (l.take k) [] m)/\Hid (Below w1.heap.size w1 wr)
def InQ (w1:World) (p:List InB) (xl:List KpB) (R:Bool) (mb:Nat) (i:Value) (wr:World):Prop:=∃ (k n:Nat) (f:Nat->Option Value),k<=xl.length/\i=.int .i64 k/\Hid (R=okH (kQG p) (xl.take k) (xl.drop k))/\Hid (MapK encU okU wr mb n f)/\Hid (∀ m,(f m).isSome=idsK p (xl.take k) m)/\Hid (Below w1.heap.size w1 wr)
theorem xQu (j:JB) (a:Option Addr) (c:Nat) (l:List InB) (hl:l.length<=1500000) (hL:∀ x∈l,x.l.length<=1500000) (hS:∀ x∈l,x.s.size<=1500000) (w:World) (hR:Insts w a l) :
  Calls Tryz.prog 214 #[.agg #[.string j.kind,.int .i64 j.parts,.int .i64 j.need,.int .i64 j.window],.slice a l.length c] w fun e w'=>e=.returned (.int .i64 (errO (qQM j l)))/\Below w.heap.size w w':=by
 have HF:=Zh (fun W (hb:Below w.heap.size w W)=>hR.grow hb);have CM:=Zh (fun W=>jJj j W);have CV:=Zh (fun (k:Nat) (hk:k < l.length) W=>qQS l[k].num l[k].n l[k].s (by have:=hS _ (List.getElem_mem hk);omega) W);have CO:=Zh (fun (k m:Nat) (hk:k < l.length) (hm:m < l.length) W=>xJv l[m].num l[k].num l[m].n l[k].n l[m].s l[k].s W);have CJ:=Zh (fun (k:Nat) (hk:k < l.length) W (hb:Below w.heap.size w W)=>jJJ j l[k].la l[k].lc l[k].l (hL _ (List.getElem_mem hk)) (hR.cap _ (List.getElem_mem hk)) W ((hR.grow hb).mem _ (List.getElem_mem hk)));have HID:=Zh hR.ids;have HLL:=Zh hL;clear hR hL hS;have hmm:=@run_makeMap Tryz.prog;obtain ⟨VV,hV⟩:∃ VV,errO (qQM j l)=VV:=⟨_,rfl⟩;rw [hV];obtain ⟨R,hRR⟩:∃ R,okH (kQ6 j) [] l=R:=⟨_,rfl⟩;have HR:Hid (R=okH (kQ6 j) (l.take 0) (l.drop 0)):=Zh (by rw [<- hRR];rfl);obtain ⟨mj,hmj⟩:∃ mj,mayJ j=mj:=⟨_,rfl⟩;have HE0:Hid (mj=false->(1:Int)=VV):=Zh (fun h=>by rw [<- hV];unfold qQM;rw [hmj,h];rfl);have HE1:Hid (R=false->(1:Int)=VV):=Zh (fun h=>by rw [<- hV];unfold qQM;rw [hRR,h];simp [errO]);have HE2:Hid (mj=true->R=true->l.length<=40->(0:Int)=VV):=Zh (fun h1 h2 h3=>by rw [<- hV];unfold qQM;rw [hmj,hRR,h1,h2,decide_eq_true h3];rfl);have HE3:Hid (¬ l.length<=40->(1:Int)=VV):=Zh (fun h=>by rw [<- hV];unfold qQM;rw [decide_eq_false h];simp [errO]);rw [hmj] at CM;clear hV hRR hmj;have HX:=Zh (Var.new w 43 [.string j.kind,.int .i64 j.parts,.int .i64 j.need,.int .i64 j.window]);have HB0:=Zh (Qj (.cells #[.string j.kind,.int .i64 j.parts,.int .i64 j.need,.int .i64 j.window] 43) (.refl w.heap.size w));go_enter Tryz.func214,Tryz.ntmps214;go_upto_region 1 with fail
 revert HX HB0;simp only [List.toArray];generalize w.alloc (.cells #[.string j.kind,.int .i64 j.parts,.int .i64 j.need,.int .i64 j.window] 43)=X;intro HX HB0;obtain ⟨x0,x1,x2,x3⟩:=v4 (HX.out);cases mj with
 | false=>
  go_wp2_with fail;refine (CM.out _).mono ?_;rintro e w1 ⟨rfl,hb1⟩;have HB1:=Zh (Qk hb1 HB0.out);clear hb1 x0 x1 x2 x3 HX HB0 CM;go_wp2_with fail;go_ret;exact ⟨Qy (HE0.out trivial),HB1.out⟩
 | true=>
  by_cases h40:l.length<=40
  ·
   have y0:¬ ((40:Int) < l.length):=by omega
   go_wp2_with fail;refine (CM.out _).mono ?_;rintro e w1 ⟨rfl,hb1⟩;have HX1:=Zh (HX.out.grow hb1);have HB1:=Zh (Qk hb1 HB0.out);have HM1:=Zh (MapK.made encU okU w1);have HA1:=Zh (Qj (.map #[] 0) (.refl w1.heap.size w1));clear hb1 x0 x1 x2 x3 HX HB0 CM;go_wp2_with fail;go_loopw [23] (fun i wr=>InC j w1 l R w1.heap.size i wr) (fun i _=>l.length - (intOf i).toNat)
   case atStart=>exact ⟨0,0,fun _=>none,by omega,rfl,HR,HM1,Zh (fun m=>rfl),HA1⟩
   case round=>
    clear HR HM1 HA1 hmm;obtain ⟨k,n,f,hk,rfl,HP,HM,HI,HW⟩:=hrel;obtain ⟨wo,rfl⟩:∃ wo,wo=wr:=⟨_,rfl⟩
    by_cases hlt:k < l.length
    ·
     have HWW:=Zh (Qk HW.out HB1.out);obtain ⟨b,o,ha,hb⟩:=(HF.out wo HWW.out).head hlt;subst ha;obtain ⟨_,f0,f1,f2,f3⟩:=(HF.out wo HWW.out).at hlt;have HST:Hid (R=(kQ6 j (l.take k) l[k]&&okH (kQ6 j) (l.take (k+1)) (l.drop (k+1)))):=Zh (HP.out.trans (kQl hlt));have x8:(k:Int) < l.length:=by omega
     have x9:(0:Int)<=k:=by omega
     have D1:=Zh (CV.out k hlt);have D3:=Zh (CJ.out k hlt);have HME:=Zh (fun W (hb:Below w.heap.size w W)=>KpR.mk ((HF.out W hb).mem _ (List.getElem_mem hlt)));have HIK:=Zh (HID.out _ (List.getElem_mem hlt));have hxl:=HLL.out _ (List.getElem_mem hlt)
     have HTK:=Zh (fun m=>by
      have h:=zJ3 (l.take k) l[k] m
      rwa [<- List.take_succ_eq_append_getElem hlt] at h)
     have D2:=Zh (fun m (hm:m < l.length)=>CO.out k m hlt hm);obtain ⟨x,hx⟩:∃ x,l[k]=x:=⟨_,rfl⟩;rw [hx] at f0 f1 f2 f3 HST D1 D2 D3 HME HIK hxl HTK;clear hx;obtain ⟨xb,xn,xs,xa,xl,xc⟩:=x;obtain ⟨R3,hR3⟩:∃ R3,okH (kQ6 j) (l.take (k+1)) (l.drop (k+1))=R3:=⟨_,rfl⟩;rw [hR3] at HST;have HR3:=Zh hR3;clear hR3;unfold kQ6 at HST;simp only [InB.key] at f0 f1 f2 f3 HST D1 D2 D3 HME HIK hxl HTK;generalize V.mayB ⟨xb,xn,xs.data.toList⟩=my at HST D1;generalize qQg j xl=cj at HST D3;obtain ⟨R2,hR2⟩:∃ R2,okH (kQG (l.take k)) [] xl=R2:=⟨_,rfl⟩;rw [hR2] at HST;have HR2:Hid (R2=okH (kQG (l.take k)) (xl.take 0) (xl.drop 0)):=Zh (by rw [<- hR2];rfl);clear hR2 HP;have VX:=Zh (Var.new wo 130 [.bool xb,.int .i64 xn,.string xs,.slice xa xl.length xc]);have HZ0:=Zh (Qj (.cells #[.bool xb,.int .i64 xn,.string xs,.slice xa xl.length xc] 130) (.refl wo.heap.size wo));have HKM:=Zh (HM.out.grow HZ0.out);go_upto_region 7 with fail
     revert VX HZ0 HKM;simp only [List.toArray];generalize wo.alloc (.cells _ 130)=Z;intro VX HZ0 HKM;have HZW:=Zh (Qk HZ0.out HW.out);have HKZ:=Zh (Qk HZ0.out HWW.out);have HXZ:=Zh (HX1.out.grow HZW.out);clear HZ0 HM f0 f1 f2 f3 HW HWW;generalize wo.heap.size=E at VX ⊢;have hzx:w.heap.size < Z.heap.size:=HXZ.out.lt;have hzg:E < Z.heap.size:=VX.out.lt;obtain ⟨x0,x1,x2,x3⟩:=v4 (HXZ.out);obtain ⟨e0,e1,e2,e3⟩:=v4 (VX.out);cases my with
     | false=>
      have HN:Hid (R=false):=Zh (by rw [HST.out];rfl);clear HST;refine Tryst2.wp_region_text 20 (by kernel_rfl) (by kernel_rfl) ?_
      iterate 20 ((first | refine Tryst2.TW.skip (by rfl) ?_ | (refine' Tryst2.TW.op _ ?_ (by rfl) ?_;rotate_left;focus (intro w' hg;obtain ⟨hcg,hfg,hsg⟩:=YG hg;first | (go_simp;done) | (go_simp;with_reducible rfl) | (go_simp;first | (go_at_call 217;refine (D1.out _).mono ?_;rintro e w5 ⟨rfl,hb5⟩;refine ⟨hb5,?_⟩;with_reducible rfl) | (go_at_call 228;refine (D4.out _).mono ?_;rintro e w5 ⟨rfl,hb5⟩;refine ⟨hb5,?_⟩;with_reducible rfl)))));simp only [Act.put,List.setIfInBounds_toArray,List.set_cons_zero,List.set_cons_succ])
      intro w' hg;obtain ⟨hcg,hfg,hsg⟩:=YG hg
      try change wpList _ _ _ [] _ _
      have HB9:=Zh (Qk (Tryst2.Grow.below hg (.refl _ _)) HKZ.out);clear hg hcg hfg hsg;go_wp2_with fail;go_ret;exact ⟨Qy (HE1.out HN.out),HB9.out⟩
     | true=>
      by_cases hk0:k=0
      ·
       have HLT:Hid ((l.take k).getLast?=none):=Zh (by rw [hk0];rfl);rw [HLT.out] at HST;have HS2:Hid (R=(decide (xl.length≠0)&&(cj&&R2)&&R3)):=Zh (HST.out.trans (by simp));have y1:¬ (0:Int) < (k:Int):=by omega
       have y7:¬ 0 < k:=by omega
       clear HST hk0;refine Tryst2.wp_region_text 20 (by kernel_rfl) (by kernel_rfl) ?_
       iterate 20 ((first | refine Tryst2.TW.skip (by rfl) ?_ | (refine' Tryst2.TW.op _ ?_ (by rfl) ?_;rotate_left;focus (intro w' hg;obtain ⟨hcg,hfg,hsg⟩:=YG hg;first | (go_simp;done) | (go_simp;with_reducible rfl) | (go_simp;first | (go_at_call 217;refine (D1.out _).mono ?_;rintro e w5 ⟨rfl,hb5⟩;refine ⟨hb5,?_⟩;with_reducible rfl) | (go_at_call 228;refine (D4.out _).mono ?_;rintro e w5 ⟨rfl,hb5⟩;refine ⟨hb5,?_⟩;with_reducible rfl)))));simp only [Act.put,List.setIfInBounds_toArray,List.set_cons_zero,List.set_cons_succ])
       intro w' hg;obtain ⟨hcg,hfg,hsg⟩:=YG hg
       try change wpList _ _ _ [] _ _
       have HG:=Zh (Tryst2.Grow.below hg (.refl _ _));have HW9:=Zh (Qk HG.out HZW.out);have HWW9:=Zh (Qk HG.out HKZ.out);have HM9:=Zh (HKM.out.grow HG.out);have HX9:=Zh (HXZ.out.grow HG.out);have VX9:=Zh (VX.out.grow HG.out);clear hg hcg hfg hsg x0 x1 x2 x3 e0 e1 e2 e3 HG HZW HKZ HKM HXZ VX D1;have hzx:w.heap.size < w'.heap.size:=HX9.out.lt;have hzg:E < w'.heap.size:=VX9.out.lt;obtain ⟨x0,x1,x2,x3⟩:=v4 (HX9.out);obtain ⟨e0,e1,e2,e3⟩:=v4 (VX9.out)
       by_cases h0:xl.length=0
       ·
        have HN:Hid (R=false):=Zh (HS2.out.trans (by simp [h0]));have z0:((xl.length:Int)==0)=true:=by simp [h0]
        go_wp2_with fail;go_ret;exact ⟨Qy (HE1.out HN.out),HWW9.out⟩
       ·
        have HS3:Hid (R=((cj&&R2)&&R3)):=Zh (HS2.out.trans (by simp [h0]));have z0:((xl.length:Int)==0)=false:=by simpa using h0
        clear HS2;go_wp2_with fail;refine (D3.out _ HWW9.out).mono ?_;rintro e w5 ⟨rfl,hb5⟩;have HW5:=Zh (Qk hb5 HW9.out);have HWW5:=Zh (Qk hb5 HWW9.out);have HM5:=Zh (HM9.out.grow hb5);have VX5:=Zh (VX9.out.grow hb5);clear hb5 x0 x1 x2 x3 e0 e1 e2 e3 HW9 HWW9 HM9 HX9 VX9 D3;obtain ⟨e0,e1,e2,e3⟩:=v4 (VX5.out);cases cj with
        | false=>
         have HN:Hid (R=false):=Zh (HS3.out.trans rfl);rw [show errO false=1 from rfl];go_wp2_with fail;go_ret;exact ⟨Qy (HE1.out HN.out),HWW5.out⟩
        | true=>
         have HS4:Hid (R=(R2&&R3)):=Zh (HS3.out.trans rfl);rw [show errO true=0 from rfl];have HI0:Hid (∀ m,(f m).isSome=idsK (l.take k) (xl.take 0) m):=HI;clear HS3 HI;go_wp2_with fail;clear e0 e1 e2 e3;go_loopw [62] (fun i wr=>InQ w1 (l.take k) xl R2 w1.heap.size i wr) (fun i _=>xl.length - (intOf i).toNat)
         case atStart=>exact ⟨0,n,f,by omega,rfl,HR2,HM5,HI0,HW5⟩
         case round=>
          clear HM5 HI0 HW5 HWW5 VX5 HR2;obtain ⟨q,n2,f2,hq,rfl,HP2,HM2,HI2,HW2⟩:=hrel;obtain ⟨wq,rfl⟩:∃ wq,wq=wr:=⟨_,rfl⟩;have HWW2:=Zh (Qk HW2.out HB1.out)
          by_cases hql:q < xl.length
          ·
           obtain ⟨b2,o2,ha2,hb2⟩:=(HME.out wq HWW2.out).head hql;subst ha2;obtain ⟨_,k0,k1,k2⟩:=Xg.at (HME.out wq HWW2.out).r hql;have hid:=HIK.out _ (List.getElem_mem hql);have HS5:Hid (R2=(!(f2 xl[q].id).isSome&&okH (kQG (l.take k)) (xl.take (q+1)) (xl.drop (q+1)))):=Zh (HP2.out.trans (by rw [kQl hql,HI2.out];rfl));have q1:(q:Int) < xl.length:=by omega
           have q2:(0:Int)<=q:=by omega
           have HA2:=Zh (Qj (.cells #[.int .i64 xl[q].part,.int .u64 xl[q].id,.int .i64 xl[q].time] 155) (.refl wq.heap.size wq));have HM3:=Zh (HM2.out.grow HA2.out);have HW3:=Zh (Qk HA2.out HW2.out);have HWW3:=Zh (Qk HA2.out HWW2.out)
           have HI3:Hid (∀ m,(if m=xl[q].id then some (Value.int .i64 k) else f2 m).isSome=idsK (l.take k) (xl.take (q+1)) m):=Zh (fun m=>by
            rw [List.take_succ_eq_append_getElem hql,vQh,<- HI2.out]
            by_cases e:m=xl[q].id
            · rw [if_pos e,decide_eq_true e.symm];rfl
            · rw [if_neg e,decide_eq_false (fun h=>e h.symm)];rfl)
           cases hf2:f2 xl[q].id with
           | some v=>
            have HN:Hid (R=false):=Zh (HS4.out.trans (by rw [HS5.out,hf2];rfl));go_wp2_with (at_lookup;refine jQq keyU qQQ rfl _ _ true rfl HM3.out Tryz.underlying298 (z:=.int .i64 0) (by kernel_rfl) rfl (y:=xl[q].id) hid rfl ?_;simp only [hf2,Option.getD_some,Option.getD_none,Option.isSome_some,Option.isSome_none,if_true]);go_ret;exact ⟨Qy (HE1.out HN.out),HWW3.out⟩
           | none=>
            have HN:Hid (R2=okH (kQG (l.take k)) (xl.take (q+1)) (xl.drop (q+1))):=Zh (by rw [HS5.out,hf2];rfl);clear HS5 HP2;go_wp2_with (first | (at_lookup;refine jQq keyU qQQ rfl _ _ true rfl HM3.out Tryz.underlying298 (z:=.int .i64 0) (by kernel_rfl) rfl (y:=xl[q].id) hid rfl ?_;simp only [hf2,Option.getD_some,Option.getD_none,Option.isSome_some,Option.isSome_none,if_true]) | (refine zQe keyU qQQ rfl _ _ _ (.inl rfl) HM3.out Tryz.underlying298 rfl (u:=xl[q].id) hid rfl (v:=.int .i64 k) rfl ?_;intro w8 hm8 hg8 hz8));have HM8:=Zh hm8;have HW8:=Zh (HW3.out.grown hg8 (by have:=HW3.out.size;omega) (fun j hj=>by cases hj;exact Nat.le_refl _));clear hm8 hg8 HM3 HW3 HWW3 HM2 HI2 HW2 HWW2;go_roundw
            case rel=>exact ⟨q+1,n2+1,_,by omega,by go_num,HN,HM8,HI3,HW8⟩
            case measure=>simp [intOf]<;>omega
          ·
           have hqe:xl.length<=q:=by omega
           have HN:Hid (R=okH (kQ6 j) (l.take (k+1)) (l.drop (k+1))):=Zh (by rw [HR3.out,HS4.out,HP2.out,zQj hqe];rfl);have HI3:Hid (∀ m,(f2 m).isSome=idsK (l.take (k+1)) [] m):=Zh (fun m=>by rw [HTK.out,HI2.out,List.take_of_length_le hqe]);go_wp2_with fail;refine ⟨?_,?measure⟩
           iterate 150 (first | apply Exists.intro | skip)
           refine ⟨?rel,rfl⟩
           case rel=>exact ⟨k+1,n2,f2,by omega,by go_num,HN,HM2,HI3,HW2⟩
           case measure=>simp [intOf]<;>omega
      ·
       obtain ⟨m,hm⟩:∃ m,k=m+1:=⟨k - 1,by omega⟩;have hlm:m < l.length:=by omega
       have HLT:Hid ((l.take k).getLast?=some l[m]):=Zh (by rw [hm];exact kJV hlm);rw [HLT.out] at HST;simp only at HST;have D4:=Zh (D2.out m hlm);obtain ⟨_,g0,g1,g2,g3⟩:=(HF.out Z HKZ.out).at hlm;obtain ⟨od,hod⟩:∃ od,V.order ⟨l[m].num,l[m].n,l[m].s.data.toList⟩ ⟨xb,xn,xs.data.toList⟩=od:=⟨_,rfl⟩;have HSX:Hid (R=(decide (od < 0)&&(decide (xl.length≠0)&&(cj&&R2))&&R3)):=Zh (by rw [<- hod];exact HST.out.trans (by rw [Bool.true_and];rfl));rw [hod] at D4;clear hod HST;have y1:(0:Int) < (k:Int):=by omega
       have y6:0 < k:=by omega
       have y2:IntKind.i64.wrap ((k:Int) - 1)=(m:Int):=by rw [IntWalk.i64_in _ (by omega)];omega
       have y4:(m:Int) < (l.length:Int):=by omega
       have y5:(0:Int)<=(m:Int):=by omega
       clear hm hk0 D2
       by_cases hod:od < 0
       ·
        have HS2:Hid (R=(decide (xl.length≠0)&&(cj&&R2)&&R3)):=Zh (HSX.out.trans (by rw [decide_eq_true hod];simp));clear HSX;refine Tryst2.wp_region_text 20 (by kernel_rfl) (by kernel_rfl) ?_
        iterate 20 ((first | refine Tryst2.TW.skip (by rfl) ?_ | (refine' Tryst2.TW.op _ ?_ (by rfl) ?_;rotate_left;focus (intro w' hg;obtain ⟨hcg,hfg,hsg⟩:=YG hg;first | (go_simp;done) | (go_simp;with_reducible rfl) | (go_simp;first | (go_at_call 217;refine (D1.out _).mono ?_;rintro e w5 ⟨rfl,hb5⟩;refine ⟨hb5,?_⟩;with_reducible rfl) | (go_at_call 228;refine (D4.out _).mono ?_;rintro e w5 ⟨rfl,hb5⟩;refine ⟨hb5,?_⟩;with_reducible rfl)))));simp only [Act.put,List.setIfInBounds_toArray,List.set_cons_zero,List.set_cons_succ])
        intro w' hg;obtain ⟨hcg,hfg,hsg⟩:=YG hg
        try change wpList _ _ _ [] _ _
        have HG:=Zh (Tryst2.Grow.below hg (.refl _ _));have HW9:=Zh (Qk HG.out HZW.out);have HWW9:=Zh (Qk HG.out HKZ.out);have HM9:=Zh (HKM.out.grow HG.out);have HX9:=Zh (HXZ.out.grow HG.out);have VX9:=Zh (VX.out.grow HG.out);clear hg hcg hfg hsg x0 x1 x2 x3 e0 e1 e2 e3 HG HZW HKZ HKM HXZ VX D1;have hzx:w.heap.size < w'.heap.size:=HX9.out.lt;have hzg:E < w'.heap.size:=VX9.out.lt;obtain ⟨x0,x1,x2,x3⟩:=v4 (HX9.out);obtain ⟨e0,e1,e2,e3⟩:=v4 (VX9.out)
        by_cases h0:xl.length=0
        ·
         have HN:Hid (R=false):=Zh (HS2.out.trans (by simp [h0]));have z0:((xl.length:Int)==0)=true:=by simp [h0]
         go_wp2_with fail;go_ret;exact ⟨Qy (HE1.out HN.out),HWW9.out⟩
        ·
         have HS3:Hid (R=((cj&&R2)&&R3)):=Zh (HS2.out.trans (by simp [h0]));have z0:((xl.length:Int)==0)=false:=by simpa using h0
         clear HS2;go_wp2_with fail;refine (D3.out _ HWW9.out).mono ?_;rintro e w5 ⟨rfl,hb5⟩;have HW5:=Zh (Qk hb5 HW9.out);have HWW5:=Zh (Qk hb5 HWW9.out);have HM5:=Zh (HM9.out.grow hb5);have VX5:=Zh (VX9.out.grow hb5);clear hb5 x0 x1 x2 x3 e0 e1 e2 e3 HW9 HWW9 HM9 HX9 VX9 D3;obtain ⟨e0,e1,e2,e3⟩:=v4 (VX5.out);cases cj with
         | false=>
          have HN:Hid (R=false):=Zh (HS3.out.trans rfl);rw [show errO false=1 from rfl];go_wp2_with fail;go_ret;exact ⟨Qy (HE1.out HN.out),HWW5.out⟩
         | true=>
          have HS4:Hid (R=(R2&&R3)):=Zh (HS3.out.trans rfl);rw [show errO true=0 from rfl];have HI0:Hid (∀ m,(f m).isSome=idsK (l.take k) (xl.take 0) m):=HI;clear HS3 HI;go_wp2_with fail;clear e0 e1 e2 e3;go_loopw [62] (fun i wr=>InQ w1 (l.take k) xl R2 w1.heap.size i wr) (fun i _=>xl.length - (intOf i).toNat)
          case atStart=>exact ⟨0,n,f,by omega,rfl,HR2,HM5,HI0,HW5⟩
          case round=>
           clear HM5 HI0 HW5 HWW5 VX5 HR2;obtain ⟨q,n2,f2,hq,rfl,HP2,HM2,HI2,HW2⟩:=hrel;obtain ⟨wq,rfl⟩:∃ wq,wq=wr:=⟨_,rfl⟩;have HWW2:=Zh (Qk HW2.out HB1.out)
           by_cases hql:q < xl.length
           ·
            obtain ⟨b2,o2,ha2,hb2⟩:=(HME.out wq HWW2.out).head hql;subst ha2;obtain ⟨_,k0,k1,k2⟩:=Xg.at (HME.out wq HWW2.out).r hql;have hid:=HIK.out _ (List.getElem_mem hql);have HS5:Hid (R2=(!(f2 xl[q].id).isSome&&okH (kQG (l.take k)) (xl.take (q+1)) (xl.drop (q+1)))):=Zh (HP2.out.trans (by rw [kQl hql,HI2.out];rfl));have q1:(q:Int) < xl.length:=by omega
            have q2:(0:Int)<=q:=by omega
            have HA2:=Zh (Qj (.cells #[.int .i64 xl[q].part,.int .u64 xl[q].id,.int .i64 xl[q].time] 155) (.refl wq.heap.size wq));have HM3:=Zh (HM2.out.grow HA2.out);have HW3:=Zh (Qk HA2.out HW2.out);have HWW3:=Zh (Qk HA2.out HWW2.out)
            have HI3:Hid (∀ m,(if m=xl[q].id then some (Value.int .i64 k) else f2 m).isSome=idsK (l.take k) (xl.take (q+1)) m):=Zh (fun m=>by
             rw [List.take_succ_eq_append_getElem hql,vQh,<- HI2.out]
             by_cases e:m=xl[q].id
             · rw [if_pos e,decide_eq_true e.symm];rfl
             · rw [if_neg e,decide_eq_false (fun h=>e h.symm)];rfl)
            cases hf2:f2 xl[q].id with
            | some v=>
             have HN:Hid (R=false):=Zh (HS4.out.trans (by rw [HS5.out,hf2];rfl));go_wp2_with (at_lookup;refine jQq keyU qQQ rfl _ _ true rfl HM3.out Tryz.underlying298 (z:=.int .i64 0) (by kernel_rfl) rfl (y:=xl[q].id) hid rfl ?_;simp only [hf2,Option.getD_some,Option.getD_none,Option.isSome_some,Option.isSome_none,if_true]);go_ret;exact ⟨Qy (HE1.out HN.out),HWW3.out⟩
            | none=>
             have HN:Hid (R2=okH (kQG (l.take k)) (xl.take (q+1)) (xl.drop (q+1))):=Zh (by rw [HS5.out,hf2];rfl);clear HS5 HP2;go_wp2_with (first | (at_lookup;refine jQq keyU qQQ rfl _ _ true rfl HM3.out Tryz.underlying298 (z:=.int .i64 0) (by kernel_rfl) rfl (y:=xl[q].id) hid rfl ?_;simp only [hf2,Option.getD_some,Option.getD_none,Option.isSome_some,Option.isSome_none,if_true]) | (refine zQe keyU qQQ rfl _ _ _ (.inl rfl) HM3.out Tryz.underlying298 rfl (u:=xl[q].id) hid rfl (v:=.int .i64 k) rfl ?_;intro w8 hm8 hg8 hz8));have HM8:=Zh hm8;have HW8:=Zh (HW3.out.grown hg8 (by have:=HW3.out.size;omega) (fun j hj=>by cases hj;exact Nat.le_refl _));clear hm8 hg8 HM3 HW3 HWW3 HM2 HI2 HW2 HWW2;go_roundw
             case rel=>exact ⟨q+1,n2+1,_,by omega,by go_num,HN,HM8,HI3,HW8⟩
             case measure=>simp [intOf]<;>omega
           ·
            have hqe:xl.length<=q:=by omega
            have HN:Hid (R=okH (kQ6 j) (l.take (k+1)) (l.drop (k+1))):=Zh (by rw [HR3.out,HS4.out,HP2.out,zQj hqe];rfl);have HI3:Hid (∀ m,(f2 m).isSome=idsK (l.take (k+1)) [] m):=Zh (fun m=>by rw [HTK.out,HI2.out,List.take_of_length_le hqe]);go_wp2_with fail;refine ⟨?_,?measure⟩
            iterate 150 (first | apply Exists.intro | skip)
            refine ⟨?rel,rfl⟩
            case rel=>exact ⟨k+1,n2,f2,by omega,by go_num,HN,HM2,HI3,HW2⟩
            case measure=>simp [intOf]<;>omega
       ·
        have HN:Hid (R=false):=Zh (HSX.out.trans (by rw [decide_eq_false hod];simp));clear HSX;refine Tryst2.wp_region_text 20 (by kernel_rfl) (by kernel_rfl) ?_
        iterate 20 ((first | refine Tryst2.TW.skip (by rfl) ?_ | (refine' Tryst2.TW.op _ ?_ (by rfl) ?_;rotate_left;focus (intro w' hg;obtain ⟨hcg,hfg,hsg⟩:=YG hg;first | (go_simp;done) | (go_simp;with_reducible rfl) | (go_simp;first | (go_at_call 217;refine (D1.out _).mono ?_;rintro e w5 ⟨rfl,hb5⟩;refine ⟨hb5,?_⟩;with_reducible rfl) | (go_at_call 228;refine (D4.out _).mono ?_;rintro e w5 ⟨rfl,hb5⟩;refine ⟨hb5,?_⟩;with_reducible rfl)))));simp only [Act.put,List.setIfInBounds_toArray,List.set_cons_zero,List.set_cons_succ])
        intro w' hg;obtain ⟨hcg,hfg,hsg⟩:=YG hg
        try change wpList _ _ _ [] _ _
        have HB9:=Zh (Qk (Tryst2.Grow.below hg (.refl _ _)) HKZ.out);clear hg hcg hfg hsg;go_wp2_with fail;go_ret;exact ⟨Qy (HE1.out HN.out),HB9.out⟩
    · have HN:Hid (R=true):=Zh (HP.out.trans (zQj (by omega:l.length<=k)));have HWW:=Zh (Qk HW.out HB1.out);go_wp2_with fail;go_ret;exact ⟨Qy (HE2.out trivial HN.out h40),HWW.out⟩
  ·
   have y0:(40:Int) < l.length:=by omega
   go_wp2_with fail;refine (CM.out _).mono ?_;rintro e w1 ⟨rfl,hb1⟩;have HB1:=Zh (Qk hb1 HB0.out);clear hb1 x0 x1 x2 x3 HX HB0 CM;go_wp2_with fail;go_ret;exact ⟨Qy (HE3.out h40),HB1.out⟩
