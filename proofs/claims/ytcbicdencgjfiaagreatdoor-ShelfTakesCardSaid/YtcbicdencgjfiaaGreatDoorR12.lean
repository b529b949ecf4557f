import Derived.Deep.Upon
import Derived.Test.YtcbicdencgjfiaaGreatDoorOffU
import Derived.Test.YtcbicdencgjfiaaGreatDoorRTE
set_option linter.all false
set_option maxHeartbeats 400000
set_option maxRecDepth 20000
namespace Go.Proofs.YtcbicdencgjfiaaGreatDoor
open Go.RowKit Tryst
def vYR (w:World) (L:List Tp) (n:ByteArray) (i:Value) (wr:World):Prop:=∃ k:Nat,k<=L.length/\i=.int .i64 k/\Hid (∀ (j:Nat) (h:j < L.length),j < k->isT n L[j]=false)/\Hid (Below w.heap.size w wr)
theorem zYg (n:ByteArray) (a:Option Addr) (c:Nat) (l:List TB) (hl:l.length<=1000000000) (w:World) (hF:qQu w a l) :
  Calls Tryz.prog 153 #[.slice a l.length c,.string n] w fun e w'=>e=.returned (kJB (zQZ (l.map TB.tp) n))/\Below w.heap.size w w':=by
 have HF:=Zh hF;clear hF;obtain ⟨R,hR⟩:∃ R,zQZ (l.map TB.tp) n=R:=⟨_,rfl⟩;have HR:=Zh hR;rw [hR];clear hR;go_enter Tryz.func153,Tryz.ntmps153;go_wp2_with fail;go_loopw [6] (fun i wr=>vYR w (l.map TB.tp) n i wr) (fun i _=>l.length - (intOf i).toNat)
 case atStart=>exact ⟨0,by omega,rfl,fun _ _ h=>by omega,.refl _ _⟩
 case round=>
  obtain ⟨k,hk,rfl,HA,HW⟩:=hrel;rw [List.length_map] at hk;obtain ⟨wo,rfl⟩:∃ wo,wo=wr:=⟨_,rfl⟩
  by_cases hlt:k < l.length
  ·
   have HF2:=Zh (HF.out.grow HW.out);obtain ⟨b,o,ha,hb⟩:=HF2.out.head hlt;obtain rfl:a=some ⟨b,o,none⟩:=ha;obtain ⟨_,⟨f0,f1,f2⟩,_⟩:=HF2.out.at hlt;have hlt2:k < (l.map TB.tp).length:=by simpa using hlt
   by_cases hn:l[k].name.data.toList=n.data.toList
   ·
    have h1:(l[k].name.toList==n.toList)=true:=jYL hn
    have HQ:Hid (R=some k):=Zh (by
     rw [<- HR.out];unfold zQZ;rw [List.findIdx?_eq_some_iff_getElem];refine ⟨hlt2,by rw [List.getElem_map];unfold isT;exact decide_eq_true hn,fun j hj=>?_⟩;rw [HA.out j (by omega) hj];simp)
    clear hn HA;go_wp2_with fail;go_ret2;rw [HQ.out];exact ⟨rfl,HW.out⟩
   ·
    have h1:(l[k].name.toList==n.toList)=false:=jY9 hn
    have HA2:Hid (∀ (j:Nat) (h:j < (l.map TB.tp).length),j < k+1->isT n (l.map TB.tp)[j]=false):=Zh (fun j h hj=>by
     by_cases e:j=k
     · subst e;rw [List.getElem_map];unfold isT;exact decide_eq_false hn
     · exact HA.out j h (by omega))
    clear hn HA;go_wp2_with fail;go_roundw
    case rel=>exact ⟨k+1,by rw [List.length_map];omega,by go_num,HA2,HW⟩
    case measure=>simp [intOf]<;>omega
  ·
   have HQ:Hid (R=none):=Zh (by
    rw [<- HR.out];unfold zQZ;rw [List.findIdx?_eq_none_iff];intro x hx;obtain ⟨j,hj,rfl⟩:=List.getElem_of_mem hx;exact HA.out j hj (by rw [List.length_map] at hj;omega))
   go_wp2_with fail;go_ret2;rw [HQ.out];exact ⟨rfl,HW.out⟩
def vY0 (w X:World) (g:Nat) (nm:ByteArray) (fst:Int) (la:Option Addr) (lg:List ByteArray) (lc:Nat) (i:Value) (wr:World):Prop:=∃ k:Nat,k<=lg.length/\i=.int .i64 k/\Hid (∀ (j:Nat) (h:j < lg.length),j < k->ofB lg[j] nm=true)/\Hid (TBox wr g nm fst (.slice la lg.length lc))/\Hid (Below X.heap.size X wr)/\Hid (Below w.heap.size w wr)
set_option maxHeartbeats 8000000 in
theorem zYw (a:Option Addr) (c:Nat) (l:List TB) (hl:l.length<=1000000000) (hI:TIn l) (hN:∀ t∈l,t.name.size<=1500000) (w:World) (hF:qQu w a l) :
  Calls Tryz.prog 34 #[.slice a l.length c] w fun e w'=>e=.returned (.bool (jQo (l.map TB.tp)))/\Below w.heap.size w w':=by
 obtain ⟨R,hR⟩:∃ R,okT none (l.map TB.tp)=R:=⟨_,rfl⟩;have hT:jQo (l.map TB.tp)=(decide (l.length<=20)&&R):=by unfold jQo;rw [hR,List.length_map]
 rw [hT];have HR:=Zh hR;have HF:=Zh hF;have HI:=Zh hI;have HN:=Zh hN;clear hF hR hT hI hN;go_enter Tryz.func34,Tryz.ntmps34;go_wp2_with fail;go_loopw [3] (fun i wr=>xJu w l R i wr) (fun i _=>l.length - (intOf i).toNat)
 case atStart=>exact ⟨0,by omega,rfl,HR.out.symm,.refl _ _,by omega⟩
 case round=>
  obtain ⟨k,hk,rfl,HP,HW,hz⟩:=hrel;obtain ⟨wo,rfl⟩:∃ wo,wo=wr:=⟨_,rfl⟩
  by_cases hlt:k < l.length
  ·
   have HF2:=Zh (HF.out.grow HW.out);obtain ⟨b,o,ha,hb⟩:=HF2.out.head hlt;obtain rfl:a=some ⟨b,o,none⟩:=ha;obtain ⟨_,⟨f0,f1,f2⟩,hS⟩:=HF2.out.at hlt;have HS:=Zh hS;have hin:=HI.out l[k] (List.getElem_mem hlt);have hnm:=HN.out l[k] (List.getElem_mem hlt);have hst:=vJ0 (L:=l.map TB.tp) (k:=k) (by simpa using hlt);rw [<- HP.out] at hst;simp only [List.getElem_map] at hst;have HST:=Zh hst;obtain ⟨nm,fs,la,lg,lc,hlk⟩:∃ nm fs la lg lc,l[k]=(⟨nm,fs,la,lg,lc⟩:TB):=⟨_,_,_,_,_,rfl⟩;rw [hlk] at f0 f1 f2 HS HST hnm hin;dsimp only at f0 f1 f2 HS hnm hin;have HST2:Hid (R=(tMay ⟨nm,fs,lg⟩&&((match qQr (l.map TB.tp) k with | none=>true | some q=>Kf q nm)&&okT (qQr (l.map TB.tp) (k+1)) ((l.map TB.tp).drop (k+1))))):=HST;rw [qJo] at HST2;obtain ⟨i1,i2,i3,i4,i5⟩:=hin;have HI2:=Zh i2;have hto:=Y2 nm hnm;clear hst hS i2 HST hlk;go_upto_region 5 with fail
   refine Qg (fun v=>Hid (TBox v wo.heap.size nm fs (.slice la lg.length lc))/\Hid (Strs v la lg)/\Hid (qQu v (some ⟨b,o,none⟩) l)/\Hid (Below w.heap.size w v)) ⟨TBox.new wo nm fs (.slice la lg.length lc) 64,HS.out.grow (Qj _ (.refl _ _)),HF2.out.grow (Qj _ (.refl _ _)),Qj _ HW.out⟩ ?_;rintro X ⟨HX,HSX,HFX,HKX⟩;generalize wo.heap.size=G at HX ⊢;clear f0 f1 f2 HF2 HS HW;obtain ⟨x0,x1,x2,x3,x4,x5,x6⟩:=HX.out;obtain ⟨f00,⟨f0,f1,f2⟩,_⟩:=HFX.out.at hlt;cases htb:Yx nm.data.toList with
   | false=>
    rw [htb] at hto HST2;have HTO:=Zh hto;have HQ:Hid (R=false):=Zh (by rw [HST2.out];rfl);clear hto htb HST2;refine Tryst2.wp_region_grows [.is (.pointer (some ⟨G,0,none⟩)),.is (.string nm),.is (.bool false),.is (.bool true),.is (.bool true),.is undef,.is undef,.is undef,.is undef,.is undef,.is undef,.is undef,.is undef,.is undef,.is undef,.is undef,.is undef,.is undef,.is (.bool true),.is (.bool true),.is undef,.is undef,.is undef,.is (.bool true),.is (.bool true),.is undef,.is undef,.is undef,.is undef,.is undef,.is undef,.is undef,.is (.bool true),.is (.bool true),.is undef,.is undef,.is undef,.is undef,.is (.bool true)] (by kernel_rfl) (by kernel_rfl) ?obl ?fin
    case obl=>
     simp only [YA,YL,YO,YR,Op.operands,Call.operands]
     repeat' apply And.intro
     any_goals trivial
     all_goals (intro tv w' hg hold hd;(try simp at hold);obtain ⟨hcg,hfg,hsg⟩:=YG hg)
     all_goals first | (go_simp;done) | (go_simp;rw [if_neg (by omega)];exact ⟨.refl _,rfl⟩) | (obtain ⟨⟨g,hvg,hgg,hcell⟩,_⟩:=hd;have hcell0:=hcell 0 (by decide);simp at hcell0;go_simp;done) | (go_simp;go_at_call 84;(with_reducible refine (HTO.out _).mono ?_);rintro e w5 ⟨rfl,hb5⟩;exact ⟨hb5,rfl⟩) | (go_simp;exact IntWalk.i64_in _ (by omega))
    case fin=>
     intro tv w' hg hR;simp only [YF,YL,YR] at hR;obtain ⟨hcg,hfg,hsg⟩:=YG hg;simp only [YP,YL,Act.put,hR];have HK9:=Zh (Tryst2.Grow.below hg HKX.out);clear hg hR hcg hfg hsg;go_wp2_with fail;go_ret;exact ⟨Qq (by rw [HQ.out,Bool.and_false]),HK9.out⟩
   | true=>
    rw [htb] at hto HST2;have HTO:=Zh hto;clear hto htb;cases k with
    | zero=>
     have HM:Hid (R=((decide (0<=fs)&&(decide (lg.length<=100)&&(decide (fs<=1099511627775 - lg.length)&&lg.all (fun s=>ofB s nm))))&&okT (qQr (l.map TB.tp) (0+1)) ((l.map TB.tp).drop (0+1)))):=HST2;clear HST2
     by_cases g1:0<=fs
     ·
      have z1:¬ fs < 0:=by omega
      by_cases g3:fs<=1099511627775 - (lg.length:Int)
      ·
       have z3:¬ 1099511627775 - (lg.length:Int) < fs:=by omega
       by_cases g2:lg.length<=100
       ·
        have z2:¬ (100:Int) < lg.length:=by omega
        have HM2:Hid (R=(lg.all (fun s=>ofB s nm)&&okT (qQr (l.map TB.tp) (0+1)) ((l.map TB.tp).drop (0+1)))):=Zh (by rw [HM.out,decide_eq_true g1,decide_eq_true g2,decide_eq_true g3];rfl);clear HM;refine Tryst2.wp_region_grows [.is (.pointer (some ⟨G,0,none⟩)),.is (.string nm),.is (.bool true),.is (.bool false),.is (.bool false),.is (.int .i64 0),.is (.bool false),.is (.bool false),.is undef,.is undef,.is undef,.is undef,.is undef,.is undef,.is undef,.is undef,.is undef,.is (.bool false),.is (.bool false),.is (.bool false),.is (.pointer (some ⟨G,1,none⟩)),.is (.int .i64 fs),.is (.bool false),.is (.bool false),.is (.bool false),.is (.pointer (some ⟨G,1,none⟩)),.is (.int .i64 fs),.is (.pointer (some ⟨G,2,none⟩)),.is (.slice la lg.length lc),.is (.int .i64 (lg.length:Int)),.is (.int .i64 (1099511627775 - (lg.length:Int))),.is (.bool false),.is (.bool false),.is (.bool false),.is (.pointer (some ⟨G,2,none⟩)),.is (.slice la lg.length lc),.is (.int .i64 (lg.length:Int)),.is (.bool false),.is (.bool false)] (by kernel_rfl) (by kernel_rfl) ?obl ?fin
        case obl=>
         simp only [YA,YL,YO,YR,Op.operands,Call.operands]
         repeat' apply And.intro
         any_goals trivial
         all_goals (intro tv w' hg hold hd;(try simp at hold);obtain ⟨hcg,hfg,hsg⟩:=YG hg)
         all_goals first | (go_simp;done) | (go_simp;rw [if_neg (by omega)];exact ⟨.refl _,rfl⟩) | (obtain ⟨⟨g,hvg,hgg,hcell⟩,_⟩:=hd;have hcell0:=hcell 0 (by decide);simp at hcell0;go_simp;done) | (go_simp;go_at_call 84;(with_reducible refine (HTO.out _).mono ?_);rintro e w5 ⟨rfl,hb5⟩;exact ⟨hb5,rfl⟩) | (go_simp;exact IntWalk.i64_in _ (by omega))
        case fin=>
         intro tv w' hg hR;simp only [YF,YL,YR] at hR;obtain ⟨hcg,hfg,hsg⟩:=YG hg;simp only [YP,YL,Act.put,hR];have HKY:=Zh (Tryst2.Grow.below hg HKX.out);have HXY:=Zh (HX.out.grow (Tryst2.Grow.below hg (.refl X.heap.size X)));have HSY:=Zh (HSX.out.grow (Tryst2.Grow.below hg (.refl X.heap.size X)));obtain ⟨Y,rfl⟩:∃ v,v=w':=⟨_,rfl⟩;clear hg hR hcg hfg hsg x0 x1 x2 x3 x4 x5 x6 f0 f1 f2;obtain ⟨x0,x1,x2,x3,x4,x5,x6⟩:=HXY.out;go_wp2_with fail;go_loopw [5] (fun i wr=>vY0 w Y G nm fs la lg lc i wr) (fun i _=>lg.length - (intOf i).toNat)
         case atStart=>exact ⟨0,by omega,rfl,fun _ _ h=>by omega,HXY,.refl _ _,HKY⟩
         case round=>
          obtain ⟨j,hj,rfl,HA,HXI,HWI,HKI⟩:=hrel;obtain ⟨wi,rfl⟩:∃ v,v=wr:=⟨_,rfl⟩;clear x0 x1 x2 x3 x4 x5 x6 HXY;obtain ⟨x0,x1,x2,x3,x4,x5,x6⟩:=HXI.out
          by_cases hjl:j < lg.length
          ·
           have HLi:=Zh (HSY.out.grow HWI.out);obtain ⟨b2,o2,ha2,hb2⟩:=HLi.out.head hjl;obtain rfl:la=some ⟨b2,o2,none⟩:=ha2;obtain ⟨_,s1⟩:=HLi.out.at hjl;have hsz:=HI2.out lg[j] (List.getElem_mem hjl);go_wp2_with fail;refine (kYt lg[j] hsz wi).mono ?_;have hob:ofB lg[j] nm=(decide ((qQB lg[j].data.toList).2.2=0)&&(decide ((qQB lg[j].data.toList).2.1=lg[j].size)&&decide ((qQB lg[j].data.toList).1.topic=nm.data.toList))):=rfl;have HOB:=Zh hob;clear hob;generalize qQB lg[j].data.toList=q at HOB ⊢;obtain ⟨E,kk,ee⟩:=q;rintro e w9 ⟨a9,c9,rfl,_,_,hb9⟩;dsimp only at HOB ⊢;have HXJ:=Zh (HXI.out.grow hb9);have HLJ:=Zh (HLi.out.grow hb9);have HWJ:=Zh (Qk hb9 HWI.out);have HKJ:=Zh (Qk hb9 HKI.out);clear hb9 x0 x1 x2 x3 x4 x5 x6 s1;obtain ⟨T,hT⟩:∃ T:ByteArray,(⟨E.topic.toArray⟩:ByteArray)=T:=⟨_,rfl⟩;have hTd:E.topic=T.data.toList:=by rw [<- hT]
           rw [hT];generalize (⟨E.prod.toArray⟩:ByteArray)=P9;generalize E.l.length=n9;go_upto_region 11 with fail
           refine Qg (fun v=>Hid (TBox v G nm fs (.slice (some ⟨b2,o2,none⟩) lg.length lc))/\Hid (EAt v w9.heap.size T P9 E.seq (.slice a9 n9 c9))/\Hid (Strs v (some ⟨b2,o2,none⟩) lg)/\Hid (Below Y.heap.size Y v)/\Hid (Below w.heap.size w v)/\w9.heap.size < v.heap.size) ⟨HXJ.out.grow (Qj _ (.refl _ _)),EAt.of (xJc w9 #[.string T,.string P9,.int .u64 E.seq,.slice a9 n9 c9] 94),HLJ.out.grow (Qj _ (.refl _ _)),Qj _ HWJ.out,Qj _ HKJ.out,by simp⟩ ?_;clear HXJ HLJ HWJ HKJ HLi HXI HWI HKI hT;rintro v ⟨HXJ,HEJ,HLJ,HWJ,HKJ,hzv⟩;generalize w9.heap.size=B9 at HEJ hzv ⊢;obtain ⟨x0,x1,x2,x3,x4,x5,x6⟩:=HXJ.out;obtain ⟨e0,e1,e2,e3,e4,e5,e6,e7⟩:=HEJ.out;obtain ⟨_,s1⟩:=HLJ.out.at hjl
           by_cases he:ee=0
           ·
            subst he
            by_cases hkk:kk=lg[j].size
            ·
             subst hkk
             by_cases hn:T.data.toList=nm.data.toList
             ·
              have h1:(T.toList==nm.toList)=true:=jYL hn;have h2:(T.toList != nm.toList)=false:=by unfold bne;rw [h1];rfl
              have HA2:Hid (∀ (i:Nat) (h:i < lg.length),i < j+1->ofB lg[i] nm=true):=Zh (fun i h hi=>by
               by_cases e:i=j
               · subst e;rw [HOB.out,hTd];simp [hn]
               · exact HA.out i h (by omega))
              clear hTd hn HOB HA;go_wp2_with fail;go_roundw
              case rel=>exact ⟨j+1,by omega,by go_num,HA2,HXJ,HWJ,HKJ⟩
              case measure=>simp [intOf]<;>omega
             ·
              have h1:(T.toList==nm.toList)=false:=jY9 hn;have h2:(T.toList != nm.toList)=true:=by unfold bne;rw [h1];rfl
              have HQ:Hid (R=false):=Zh (by rw [HM2.out,qJQ hjl (by rw [HOB.out,hTd];simp [hn])];rfl);clear hTd hn HOB HA;go_wp2_with fail;go_ret;exact ⟨Qq (by rw [HQ.out,Bool.and_false]),HKJ.out⟩
            ·
             have h1:((kk:Int)==(lg[j].size:Int))=false:=beq_false_of_ne (by omega);have h2:((kk:Int) != (lg[j].size:Int))=true:=by unfold bne;rw [h1];rfl
             have HQ:Hid (R=false):=Zh (by rw [HM2.out,qJQ hjl (by rw [HOB.out];simp [hkk])];rfl);clear hTd HOB HA hkk;go_wp2_with fail;go_ret;exact ⟨Qq (by rw [HQ.out,Bool.and_false]),HKJ.out⟩
           ·
            have h1:((ee:Int)==0)=false:=beq_false_of_ne (by omega);have h2:((ee:Int) != 0)=true:=by unfold bne;rw [h1];rfl
            have HQ:Hid (R=false):=Zh (by rw [HM2.out,qJQ hjl (by rw [HOB.out];simp [he])];rfl);clear hTd HOB HA he;go_wp2_with fail;go_ret;exact ⟨Qq (by rw [HQ.out,Bool.and_false]),HKJ.out⟩
          ·
           have HM3:Hid (R=okT (qQr (l.map TB.tp) (0+1)) ((l.map TB.tp).drop (0+1))):=Zh (by rw [HM2.out,jYc (fun i h=>HA.out i h (by omega))];rfl);go_wp2_with fail;go_roundw
           case rel=>exact ⟨0+1,by omega,by go_num,HM3,HKI,HKI.out.size⟩
           case measure=>simp [intOf]<;>omega
       ·
        have z2:(100:Int) < lg.length:=by omega
        have HQ:Hid (R=false):=Zh (by rw [HM.out,decide_eq_true g1,decide_eq_false g2];rfl);refine Tryst2.wp_region_grows [.is (.pointer (some ⟨G,0,none⟩)),.is (.string nm),.is (.bool true),.is (.bool false),.is (.bool false),.is (.int .i64 0),.is (.bool false),.is (.bool false),.is undef,.is undef,.is undef,.is undef,.is undef,.is undef,.is undef,.is undef,.is undef,.is (.bool false),.is (.bool false),.is (.bool false),.is (.pointer (some ⟨G,1,none⟩)),.is (.int .i64 fs),.is (.bool false),.is (.bool false),.is (.bool false),.is (.pointer (some ⟨G,1,none⟩)),.is (.int .i64 fs),.is (.pointer (some ⟨G,2,none⟩)),.is (.slice la lg.length lc),.is (.int .i64 (lg.length:Int)),.is (.int .i64 (1099511627775 - (lg.length:Int))),.is (.bool false),.is (.bool false),.is (.bool false),.is (.pointer (some ⟨G,2,none⟩)),.is (.slice la lg.length lc),.is (.int .i64 (lg.length:Int)),.is (.bool true),.is (.bool true)] (by kernel_rfl) (by kernel_rfl) ?obl ?fin
        case obl=>
         simp only [YA,YL,YO,YR,Op.operands,Call.operands]
         repeat' apply And.intro
         any_goals trivial
         all_goals (intro tv w' hg hold hd;(try simp at hold);obtain ⟨hcg,hfg,hsg⟩:=YG hg)
         all_goals first | (go_simp;done) | (go_simp;rw [if_neg (by omega)];exact ⟨.refl _,rfl⟩) | (obtain ⟨⟨g,hvg,hgg,hcell⟩,_⟩:=hd;have hcell0:=hcell 0 (by decide);simp at hcell0;go_simp;done) | (go_simp;go_at_call 84;(with_reducible refine (HTO.out _).mono ?_);rintro e w5 ⟨rfl,hb5⟩;exact ⟨hb5,rfl⟩) | (go_simp;exact IntWalk.i64_in _ (by omega))
        case fin=>
         intro tv w' hg hR;simp only [YF,YL,YR] at hR;obtain ⟨hcg,hfg,hsg⟩:=YG hg;simp only [YP,YL,Act.put,hR];have HK9:=Zh (Tryst2.Grow.below hg HKX.out);clear hg hR hcg hfg hsg;go_wp2_with fail;go_ret;exact ⟨Qq (by rw [HQ.out,Bool.and_false]),HK9.out⟩
      ·
       have z3:1099511627775 - (lg.length:Int) < fs:=by omega
       have HQ:Hid (R=false):=Zh (by rw [HM.out,decide_eq_true g1,decide_eq_false g3];simp);refine Tryst2.wp_region_grows [.is (.pointer (some ⟨G,0,none⟩)),.is (.string nm),.is (.bool true),.is (.bool false),.is (.bool false),.is (.int .i64 0),.is (.bool false),.is (.bool false),.is undef,.is undef,.is undef,.is undef,.is undef,.is undef,.is undef,.is undef,.is undef,.is (.bool false),.is (.bool false),.is (.bool false),.is (.pointer (some ⟨G,1,none⟩)),.is (.int .i64 fs),.is (.bool false),.is (.bool false),.is (.bool false),.is (.pointer (some ⟨G,1,none⟩)),.is (.int .i64 fs),.is (.pointer (some ⟨G,2,none⟩)),.is (.slice la lg.length lc),.is (.int .i64 (lg.length:Int)),.is (.int .i64 (1099511627775 - (lg.length:Int))),.is (.bool true),.is (.bool true),.is (.bool true),.is undef,.is undef,.is undef,.is undef,.is (.bool true)] (by kernel_rfl) (by kernel_rfl) ?obl ?fin
       case obl=>
        simp only [YA,YL,YO,YR,Op.operands,Call.operands]
        repeat' apply And.intro
        any_goals trivial
        all_goals (intro tv w' hg hold hd;(try simp at hold);obtain ⟨hcg,hfg,hsg⟩:=YG hg)
        all_goals first | (go_simp;done) | (go_simp;rw [if_neg (by omega)];exact ⟨.refl _,rfl⟩) | (obtain ⟨⟨g,hvg,hgg,hcell⟩,_⟩:=hd;have hcell0:=hcell 0 (by decide);simp at hcell0;go_simp;done) | (go_simp;go_at_call 84;(with_reducible refine (HTO.out _).mono ?_);rintro e w5 ⟨rfl,hb5⟩;exact ⟨hb5,rfl⟩) | (go_simp;exact IntWalk.i64_in _ (by omega))
       case fin=>
        intro tv w' hg hR;simp only [YF,YL,YR] at hR;obtain ⟨hcg,hfg,hsg⟩:=YG hg;simp only [YP,YL,Act.put,hR];have HK9:=Zh (Tryst2.Grow.below hg HKX.out);clear hg hR hcg hfg hsg;go_wp2_with fail;go_ret;exact ⟨Qq (by rw [HQ.out,Bool.and_false]),HK9.out⟩
     ·
      have z1:fs < 0:=by omega
      have HQ:Hid (R=false):=Zh (by rw [HM.out,decide_eq_false g1];rfl);refine Tryst2.wp_region_grows [.is (.pointer (some ⟨G,0,none⟩)),.is (.string nm),.is (.bool true),.is (.bool false),.is (.bool false),.is (.int .i64 0),.is (.bool false),.is (.bool false),.is undef,.is undef,.is undef,.is undef,.is undef,.is undef,.is undef,.is undef,.is undef,.is (.bool false),.is (.bool false),.is (.bool false),.is (.pointer (some ⟨G,1,none⟩)),.is (.int .i64 fs),.is (.bool true),.is (.bool true),.is (.bool true),.is undef,.is undef,.is undef,.is undef,.is undef,.is undef,.is undef,.is (.bool true),.is (.bool true),.is undef,.is undef,.is undef,.is undef,.is (.bool true)] (by kernel_rfl) (by kernel_rfl) ?obl ?fin
      case obl=>
       simp only [YA,YL,YO,YR,Op.operands,Call.operands]
       repeat' apply And.intro
       any_goals trivial
       all_goals (intro tv w' hg hold hd;(try simp at hold);obtain ⟨hcg,hfg,hsg⟩:=YG hg)
       all_goals first | (go_simp;done) | (go_simp;rw [if_neg (by omega)];exact ⟨.refl _,rfl⟩) | (obtain ⟨⟨g,hvg,hgg,hcell⟩,_⟩:=hd;have hcell0:=hcell 0 (by decide);simp at hcell0;go_simp;done) | (go_simp;go_at_call 84;(with_reducible refine (HTO.out _).mono ?_);rintro e w5 ⟨rfl,hb5⟩;exact ⟨hb5,rfl⟩) | (go_simp;exact IntWalk.i64_in _ (by omega))
      case fin=>
       intro tv w' hg hR;simp only [YF,YL,YR] at hR;obtain ⟨hcg,hfg,hsg⟩:=YG hg;simp only [YP,YL,Act.put,hR];have HK9:=Zh (Tryst2.Grow.below hg HKX.out);clear hg hR hcg hfg hsg;go_wp2_with fail;go_ret;exact ⟨Qq (by rw [HQ.out,Bool.and_false]),HK9.out⟩
    | succ m=>
     have hlm:m < l.length:=by omega
     obtain ⟨_,⟨g0,g1',g2'⟩,_⟩:=HFX.out.at hlm;have hpv:=qJA (L:=l.map TB.tp) (k:=m) (by simpa using hlm);rw [List.getElem_map] at hpv;rw [hpv] at HST2;clear hpv;have HGE:=geB l[m].name nm;have HLS:Hid (R=((decide (0<=fs)&&(decide (lg.length<=100)&&(decide (fs<=1099511627775 - lg.length)&&lg.all (fun s=>ofB s nm))))&&(Kf l[m].name nm&&okT (qQr (l.map TB.tp) (m+1+1)) ((l.map TB.tp).drop (m+1+1))))):=HST2;clear HST2;generalize Kf l[m].name nm=lb at HLS HGE;cases lb with
     | false=>
      have HQ:Hid (R=false):=Zh (by rw [HLS.out];simp);have hge:(!Op.bytesLess l[m].name.toList nm.toList)=true:=HGE;clear HGE HLS;refine Tryst2.wp_region_grows [.is (.pointer (some ⟨G,0,none⟩)),.is (.string nm),.is (.bool true),.is (.bool false),.is (.bool false),.is (.int .i64 ((m+1:Nat):Int)),.is (.bool true),.is (.bool true),.is (.slice (some ⟨b,o,none⟩) l.length c),.is (.int .i64 ((m+1:Nat):Int)),.is (.int .i64 (m:Int)),.is (.pointer (some ⟨b,o+m*3,none⟩)),.is (.pointer (some ⟨b,o+m*3,none⟩)),.is (.string l[m].name),.is (.pointer (some ⟨G,0,none⟩)),.is (.string nm),.is (.bool true),.is (.bool true),.is (.bool true),.is (.bool true),.is undef,.is undef,.is undef,.is (.bool true),.is (.bool true),.is undef,.is undef,.is undef,.is undef,.is undef,.is undef,.is undef,.is (.bool true),.is (.bool true),.is undef,.is undef,.is undef,.is undef,.is (.bool true)] (by kernel_rfl) (by kernel_rfl) ?obl ?fin
      case obl=>
       simp only [YA,YL,YO,YR,Op.operands,Call.operands]
       repeat' apply And.intro
       any_goals trivial
       all_goals (intro tv w' hg hold hd;(try simp at hold);obtain ⟨hcg,hfg,hsg⟩:=YG hg)
       all_goals first | (go_simp;done) | (go_simp;rw [if_neg (by omega)];exact ⟨.refl _,rfl⟩) | (obtain ⟨⟨g,hvg,hgg,hcell⟩,_⟩:=hd;have hcell0:=hcell 0 (by decide);simp at hcell0;go_simp;done) | (go_simp;go_at_call 84;(with_reducible refine (HTO.out _).mono ?_);rintro e w5 ⟨rfl,hb5⟩;exact ⟨hb5,rfl⟩) | (go_simp;exact IntWalk.i64_in _ (by omega))
      case fin=>
       intro tv w' hg hR;simp only [YF,YL,YR] at hR;obtain ⟨hcg,hfg,hsg⟩:=YG hg;simp only [YP,YL,Act.put,hR];have HK9:=Zh (Tryst2.Grow.below hg HKX.out);clear hg hR hcg hfg hsg;go_wp2_with fail;go_ret;exact ⟨Qq (by rw [HQ.out,Bool.and_false]),HK9.out⟩
     | true=>
      have HM:Hid (R=((decide (0<=fs)&&(decide (lg.length<=100)&&(decide (fs<=1099511627775 - lg.length)&&lg.all (fun s=>ofB s nm))))&&okT (qQr (l.map TB.tp) (m+1+1)) ((l.map TB.tp).drop (m+1+1)))):=HLS;have hge:(!Op.bytesLess l[m].name.toList nm.toList)=false:=HGE;clear HGE HLS
      by_cases g1:0<=fs
      ·
       have z1:¬ fs < 0:=by omega
       by_cases g3:fs<=1099511627775 - (lg.length:Int)
       ·
        have z3:¬ 1099511627775 - (lg.length:Int) < fs:=by omega
        by_cases g2:lg.length<=100
        ·
         have z2:¬ (100:Int) < lg.length:=by omega
         have HM2:Hid (R=(lg.all (fun s=>ofB s nm)&&okT (qQr (l.map TB.tp) ((m+1)+1)) ((l.map TB.tp).drop ((m+1)+1)))):=Zh (by rw [HM.out,decide_eq_true g1,decide_eq_true g2,decide_eq_true g3];rfl);clear HM;refine Tryst2.wp_region_grows [.is (.pointer (some ⟨G,0,none⟩)),.is (.string nm),.is (.bool true),.is (.bool false),.is (.bool false),.is (.int .i64 ((m+1:Nat):Int)),.is (.bool true),.is (.bool true),.is (.slice (some ⟨b,o,none⟩) l.length c),.is (.int .i64 ((m+1:Nat):Int)),.is (.int .i64 (m:Int)),.is (.pointer (some ⟨b,o+m*3,none⟩)),.is (.pointer (some ⟨b,o+m*3,none⟩)),.is (.string l[m].name),.is (.pointer (some ⟨G,0,none⟩)),.is (.string nm),.is (.bool false),.is (.bool false),.is (.bool false),.is (.bool false),.is (.pointer (some ⟨G,1,none⟩)),.is (.int .i64 fs),.is (.bool false),.is (.bool false),.is (.bool false),.is (.pointer (some ⟨G,1,none⟩)),.is (.int .i64 fs),.is (.pointer (some ⟨G,2,none⟩)),.is (.slice la lg.length lc),.is (.int .i64 (lg.length:Int)),.is (.int .i64 (1099511627775 - (lg.length:Int))),.is (.bool false),.is (.bool false),.is (.bool false),.is (.pointer (some ⟨G,2,none⟩)),.is (.slice la lg.length lc),.is (.int .i64 (lg.length:Int)),.is (.bool false),.is (.bool false)] (by kernel_rfl) (by kernel_rfl) ?obl ?fin
         case obl=>
          simp only [YA,YL,YO,YR,Op.operands,Call.operands]
          repeat' apply And.intro
          any_goals trivial
          all_goals (intro tv w' hg hold hd;(try simp at hold);obtain ⟨hcg,hfg,hsg⟩:=YG hg)
          all_goals first | (go_simp;done) | (go_simp;rw [if_neg (by omega)];exact ⟨.refl _,rfl⟩) | (obtain ⟨⟨g,hvg,hgg,hcell⟩,_⟩:=hd;have hcell0:=hcell 0 (by decide);simp at hcell0;go_simp;done) | (go_simp;go_at_call 84;(with_reducible refine (HTO.out _).mono ?_);rintro e w5 ⟨rfl,hb5⟩;exact ⟨hb5,rfl⟩) | (go_simp;exact IntWalk.i64_in _ (by omega))
         case fin=>
          intro tv w' hg hR;simp only [YF,YL,YR] at hR;obtain ⟨hcg,hfg,hsg⟩:=YG hg;simp only [YP,YL,Act.put,hR];have HKY:=Zh (Tryst2.Grow.below hg HKX.out);have HXY:=Zh (HX.out.grow (Tryst2.Grow.below hg (.refl X.heap.size X)));have HSY:=Zh (HSX.out.grow (Tryst2.Grow.below hg (.refl X.heap.size X)));obtain ⟨Y,rfl⟩:∃ v,v=w':=⟨_,rfl⟩;clear hg hR hcg hfg hsg x0 x1 x2 x3 x4 x5 x6 f0 f1 f2;obtain ⟨x0,x1,x2,x3,x4,x5,x6⟩:=HXY.out;go_wp2_with fail;go_loopw [5] (fun i wr=>vY0 w Y G nm fs la lg lc i wr) (fun i _=>lg.length - (intOf i).toNat)
          case atStart=>exact ⟨0,by omega,rfl,fun _ _ h=>by omega,HXY,.refl _ _,HKY⟩
          case round=>
           obtain ⟨j,hj,rfl,HA,HXI,HWI,HKI⟩:=hrel;obtain ⟨wi,rfl⟩:∃ v,v=wr:=⟨_,rfl⟩;clear x0 x1 x2 x3 x4 x5 x6 HXY;obtain ⟨x0,x1,x2,x3,x4,x5,x6⟩:=HXI.out
           by_cases hjl:j < lg.length
           ·
            have HLi:=Zh (HSY.out.grow HWI.out);obtain ⟨b2,o2,ha2,hb2⟩:=HLi.out.head hjl;obtain rfl:la=some ⟨b2,o2,none⟩:=ha2;obtain ⟨_,s1⟩:=HLi.out.at hjl;have hsz:=HI2.out lg[j] (List.getElem_mem hjl);go_wp2_with fail;refine (kYt lg[j] hsz wi).mono ?_;have hob:ofB lg[j] nm=(decide ((qQB lg[j].data.toList).2.2=0)&&(decide ((qQB lg[j].data.toList).2.1=lg[j].size)&&decide ((qQB lg[j].data.toList).1.topic=nm.data.toList))):=rfl;have HOB:=Zh hob;clear hob;generalize qQB lg[j].data.toList=q at HOB ⊢;obtain ⟨E,kk,ee⟩:=q;rintro e w9 ⟨a9,c9,rfl,_,_,hb9⟩;dsimp only at HOB ⊢;have HXJ:=Zh (HXI.out.grow hb9);have HLJ:=Zh (HLi.out.grow hb9);have HWJ:=Zh (Qk hb9 HWI.out);have HKJ:=Zh (Qk hb9 HKI.out);clear hb9 x0 x1 x2 x3 x4 x5 x6 s1;obtain ⟨T,hT⟩:∃ T:ByteArray,(⟨E.topic.toArray⟩:ByteArray)=T:=⟨_,rfl⟩;have hTd:E.topic=T.data.toList:=by rw [<- hT]
            rw [hT];generalize (⟨E.prod.toArray⟩:ByteArray)=P9;generalize E.l.length=n9;go_upto_region 11 with fail
            refine Qg (fun v=>Hid (TBox v G nm fs (.slice (some ⟨b2,o2,none⟩) lg.length lc))/\Hid (EAt v w9.heap.size T P9 E.seq (.slice a9 n9 c9))/\Hid (Strs v (some ⟨b2,o2,none⟩) lg)/\Hid (Below Y.heap.size Y v)/\Hid (Below w.heap.size w v)/\w9.heap.size < v.heap.size) ⟨HXJ.out.grow (Qj _ (.refl _ _)),EAt.of (xJc w9 #[.string T,.string P9,.int .u64 E.seq,.slice a9 n9 c9] 94),HLJ.out.grow (Qj _ (.refl _ _)),Qj _ HWJ.out,Qj _ HKJ.out,by simp⟩ ?_;clear HXJ HLJ HWJ HKJ HLi HXI HWI HKI hT;rintro v ⟨HXJ,HEJ,HLJ,HWJ,HKJ,hzv⟩;generalize w9.heap.size=B9 at HEJ hzv ⊢;obtain ⟨x0,x1,x2,x3,x4,x5,x6⟩:=HXJ.out;obtain ⟨e0,e1,e2,e3,e4,e5,e6,e7⟩:=HEJ.out;obtain ⟨_,s1⟩:=HLJ.out.at hjl
            by_cases he:ee=0
            ·
             subst he
             by_cases hkk:kk=lg[j].size
             ·
              subst hkk
              by_cases hn:T.data.toList=nm.data.toList
              ·
               have h1:(T.toList==nm.toList)=true:=jYL hn;have h2:(T.toList != nm.toList)=false:=by unfold bne;rw [h1];rfl
               have HA2:Hid (∀ (i:Nat) (h:i < lg.length),i < j+1->ofB lg[i] nm=true):=Zh (fun i h hi=>by
                by_cases e:i=j
                · subst e;rw [HOB.out,hTd];simp [hn]
                · exact HA.out i h (by omega))
               clear hTd hn HOB HA;go_wp2_with fail;go_roundw
               case rel=>exact ⟨j+1,by omega,by go_num,HA2,HXJ,HWJ,HKJ⟩
               case measure=>simp [intOf]<;>omega
              ·
               have h1:(T.toList==nm.toList)=false:=jY9 hn;have h2:(T.toList != nm.toList)=true:=by unfold bne;rw [h1];rfl
               have HQ:Hid (R=false):=Zh (by rw [HM2.out,qJQ hjl (by rw [HOB.out,hTd];simp [hn])];rfl);clear hTd hn HOB HA;go_wp2_with fail;go_ret;exact ⟨Qq (by rw [HQ.out,Bool.and_false]),HKJ.out⟩
             ·
              have h1:((kk:Int)==(lg[j].size:Int))=false:=beq_false_of_ne (by omega);have h2:((kk:Int) != (lg[j].size:Int))=true:=by unfold bne;rw [h1];rfl
              have HQ:Hid (R=false):=Zh (by rw [HM2.out,qJQ hjl (by rw [HOB.out];simp [hkk])];rfl);clear hTd HOB HA hkk;go_wp2_with fail;go_ret;exact ⟨Qq (by rw [HQ.out,Bool.and_false]),HKJ.out⟩
            ·
             have h1:((ee:Int)==0)=false:=beq_false_of_ne (by omega);have h2:((ee:Int) != 0)=true:=by unfold bne;rw [h1];rfl
             have HQ:Hid (R=false):=Zh (by rw [HM2.out,qJQ hjl (by rw [HOB.out];simp [he])];rfl);clear hTd HOB HA he;go_wp2_with fail;go_ret;exact ⟨Qq (by rw [HQ.out,Bool.and_false]),HKJ.out⟩
           ·
            have HM3:Hid (R=okT (qQr (l.map TB.tp) ((m+1)+1)) ((l.map TB.tp).drop ((m+1)+1))):=Zh (by rw [HM2.out,jYc (fun i h=>HA.out i h (by omega))];rfl);go_wp2_with fail;go_roundw
            case rel=>exact ⟨(m+1)+1,by omega,by go_num,HM3,HKI,HKI.out.size⟩
            case measure=>simp [intOf]<;>omega
        ·
         have z2:(100:Int) < lg.length:=by omega
         have HQ:Hid (R=false):=Zh (by rw [HM.out,decide_eq_true g1,decide_eq_false g2];rfl);refine Tryst2.wp_region_grows [.is (.pointer (some ⟨G,0,none⟩)),.is (.string nm),.is (.bool true),.is (.bool false),.is (.bool false),.is (.int .i64 ((m+1:Nat):Int)),.is (.bool true),.is (.bool true),.is (.slice (some ⟨b,o,none⟩) l.length c),.is (.int .i64 ((m+1:Nat):Int)),.is (.int .i64 (m:Int)),.is (.pointer (some ⟨b,o+m*3,none⟩)),.is (.pointer (some ⟨b,o+m*3,none⟩)),.is (.string l[m].name),.is (.pointer (some ⟨G,0,none⟩)),.is (.string nm),.is (.bool false),.is (.bool false),.is (.bool false),.is (.bool false),.is (.pointer (some ⟨G,1,none⟩)),.is (.int .i64 fs),.is (.bool false),.is (.bool false),.is (.bool false),.is (.pointer (some ⟨G,1,none⟩)),.is (.int .i64 fs),.is (.pointer (some ⟨G,2,none⟩)),.is (.slice la lg.length lc),.is (.int .i64 (lg.length:Int)),.is (.int .i64 (1099511627775 - (lg.length:Int))),.is (.bool false),.is (.bool false),.is (.bool false),.is (.pointer (some ⟨G,2,none⟩)),.is (.slice la lg.length lc),.is (.int .i64 (lg.length:Int)),.is (.bool true),.is (.bool true)] (by kernel_rfl) (by kernel_rfl) ?obl ?fin
         case obl=>
          simp only [YA,YL,YO,YR,Op.operands,Call.operands]
          repeat' apply And.intro
          any_goals trivial
          all_goals (intro tv w' hg hold hd;(try simp at hold);obtain ⟨hcg,hfg,hsg⟩:=YG hg)
          all_goals first | (go_simp;done) | (go_simp;rw [if_neg (by omega)];exact ⟨.refl _,rfl⟩) | (obtain ⟨⟨g,hvg,hgg,hcell⟩,_⟩:=hd;have hcell0:=hcell 0 (by decide);simp at hcell0;go_simp;done) | (go_simp;go_at_call 84;(with_reducible refine (HTO.out _).mono ?_);rintro e w5 ⟨rfl,hb5⟩;exact ⟨hb5,rfl⟩) | (go_simp;exact IntWalk.i64_in _ (by omega))
         case fin=>
          intro tv w' hg hR;simp only [YF,YL,YR] at hR;obtain ⟨hcg,hfg,hsg⟩:=YG hg;simp only [YP,YL,Act.put,hR];have HK9:=Zh (Tryst2.Grow.below hg HKX.out);clear hg hR hcg hfg hsg;go_wp2_with fail;go_ret;exact ⟨Qq (by rw [HQ.out,Bool.and_false]),HK9.out⟩
       ·
        have z3:1099511627775 - (lg.length:Int) < fs:=by omega
        have HQ:Hid (R=false):=Zh (by rw [HM.out,decide_eq_true g1,decide_eq_false g3];simp);refine Tryst2.wp_region_grows [.is (.pointer (some ⟨G,0,none⟩)),.is (.string nm),.is (.bool true),.is (.bool false),.is (.bool false),.is (.int .i64 ((m+1:Nat):Int)),.is (.bool true),.is (.bool true),.is (.slice (some ⟨b,o,none⟩) l.length c),.is (.int .i64 ((m+1:Nat):Int)),.is (.int .i64 (m:Int)),.is (.pointer (some ⟨b,o+m*3,none⟩)),.is (.pointer (some ⟨b,o+m*3,none⟩)),.is (.string l[m].name),.is (.pointer (some ⟨G,0,none⟩)),.is (.string nm),.is (.bool false),.is (.bool false),.is (.bool false),.is (.bool false),.is (.pointer (some ⟨G,1,none⟩)),.is (.int .i64 fs),.is (.bool false),.is (.bool false),.is (.bool false),.is (.pointer (some ⟨G,1,none⟩)),.is (.int .i64 fs),.is (.pointer (some ⟨G,2,none⟩)),.is (.slice la lg.length lc),.is (.int .i64 (lg.length:Int)),.is (.int .i64 (1099511627775 - (lg.length:Int))),.is (.bool true),.is (.bool true),.is (.bool true),.is undef,.is undef,.is undef,.is undef,.is (.bool true)] (by kernel_rfl) (by kernel_rfl) ?obl ?fin
        case obl=>
         simp only [YA,YL,YO,YR,Op.operands,Call.operands]
         repeat' apply And.intro
         any_goals trivial
         all_goals (intro tv w' hg hold hd;(try simp at hold);obtain ⟨hcg,hfg,hsg⟩:=YG hg)
         all_goals first | (go_simp;done) | (go_simp;rw [if_neg (by omega)];exact ⟨.refl _,rfl⟩) | (obtain ⟨⟨g,hvg,hgg,hcell⟩,_⟩:=hd;have hcell0:=hcell 0 (by decide);simp at hcell0;go_simp;done) | (go_simp;go_at_call 84;(with_reducible refine (HTO.out _).mono ?_);rintro e w5 ⟨rfl,hb5⟩;exact ⟨hb5,rfl⟩) | (go_simp;exact IntWalk.i64_in _ (by omega))
        case fin=>
         intro tv w' hg hR;simp only [YF,YL,YR] at hR;obtain ⟨hcg,hfg,hsg⟩:=YG hg;simp only [YP,YL,Act.put,hR];have HK9:=Zh (Tryst2.Grow.below hg HKX.out);clear hg hR hcg hfg hsg;go_wp2_with fail;go_ret;exact ⟨Qq (by rw [HQ.out,Bool.and_false]),HK9.out⟩
      ·
       have z1:fs < 0:=by omega
       have HQ:Hid (R=false):=Zh (by rw [HM.out,decide_eq_false g1];rfl);refine Tryst2.wp_region_grows [.is (.pointer (some ⟨G,0,none⟩)),.is (.string nm),.is (.bool true),.is (.bool false),.is (.bool false),.is (.int .i64 ((m+1:Nat):Int)),.is (.bool true),.is (.bool true),.is (.slice (some ⟨b,o,none⟩) l.length c),.is (.int .i64 ((m+1:Nat):Int)),.is (.int .i64 (m:Int)),.is (.pointer (some ⟨b,o+m*3,none⟩)),.is (.pointer (some ⟨b,o+m*3,none⟩)),.is (.string l[m].name),.is (.pointer (some ⟨G,0,none⟩)),.is (.string nm),.is (.bool false),.is (.bool false),.is (.bool false),.is (.bool false),.is (.pointer (some ⟨G,1,none⟩)),.is (.int .i64 fs),.is (.bool true),.is (.bool true),.is (.bool true),.is undef,.is undef,.is undef,.is undef,.is undef,.is undef,.is undef,.is (.bool true),.is (.bool true),.is undef,.is undef,.is undef,.is undef,.is (.bool true)] (by kernel_rfl) (by kernel_rfl) ?obl ?fin
       case obl=>
        simp only [YA,YL,YO,YR,Op.operands,Call.operands]
        repeat' apply And.intro
        any_goals trivial
        all_goals (intro tv w' hg hold hd;(try simp at hold);obtain ⟨hcg,hfg,hsg⟩:=YG hg)
        all_goals first | (go_simp;done) | (go_simp;rw [if_neg (by omega)];exact ⟨.refl _,rfl⟩) | (obtain ⟨⟨g,hvg,hgg,hcell⟩,_⟩:=hd;have hcell0:=hcell 0 (by decide);simp at hcell0;go_simp;done) | (go_simp;go_at_call 84;(with_reducible refine (HTO.out _).mono ?_);rintro e w5 ⟨rfl,hb5⟩;exact ⟨hb5,rfl⟩) | (go_simp;exact IntWalk.i64_in _ (by omega))
       case fin=>
        intro tv w' hg hR;simp only [YF,YL,YR] at hR;obtain ⟨hcg,hfg,hsg⟩:=YG hg;simp only [YP,YL,Act.put,hR];have HK9:=Zh (Tryst2.Grow.below hg HKX.out);clear hg hR hcg hfg hsg;go_wp2_with fail;go_ret;exact ⟨Qq (by rw [HQ.out,Bool.and_false]),HK9.out⟩
  ·
   have HQ2:Hid (R=true):=Zh (HP.out.trans (xJr (by simpa using hlt)))
   by_cases h20:l.length<=20
   ·
    have y1:(l.length:Int)<=20:=by omega
    go_wp2_with fail;go_ret;exact ⟨Qq (by first | rfl | (rw [HQ2.out,Bool.and_true];simp [h20,y1])),HW.out⟩
   ·
    have y1:¬ (l.length:Int)<=20:=by omega
    go_wp2_with fail;go_ret;exact ⟨Qq (by first | rfl | (rw [HQ2.out,Bool.and_true];simp [h20,y1])),HW.out⟩
end Go.Proofs.YtcbicdencgjfiaaGreatDoor
namespace Tryst2
open Go Go.RowKit
end Tryst2
namespace Go.Proofs.YtcbicdencgjfiaaGreatDoor
open Go.RowKit Tryst
