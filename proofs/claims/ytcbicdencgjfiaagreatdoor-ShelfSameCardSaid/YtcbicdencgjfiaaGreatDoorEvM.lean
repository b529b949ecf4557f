import Derived.Test.YtcbicdencgjfiaaGreatDoorGlob5
import Derived.Test.YtcbicdencgjfiaaGreatDoorNmA
import Derived.Test.YtcbicdencgjfiaaGreatDoorNumV
set_option linter.all false
set_option maxHeartbeats 400000
set_option maxRecDepth 20000
namespace Tryst2
open Go Go.RowKit
@[go_sem] theorem boolOf_undef:zQI undef=none:=rfl
end Tryst2
namespace Go.Proofs.YtcbicdencgjfiaaGreatDoor
open Go.RowKit Tryst
def qQs (l:List FB) (k:Nat):Option (List UInt8):=if k=0 then none else (l[k - 1]?).map (fun f=>f.name.data.toList)
theorem zJv {l:List FB} {k:Nat} (hk:k < l.length):okF (qQs l k) ((l.drop k).map FB.fld)=(Q5 l[k].name.data.toList&&V.mayB ⟨l[k].num,l[k].n,l[k].s.data.toList⟩&&(match qQs l k with | none=>true | some q=>Op.bytesLess q l[k].name.data.toList)&&okF (qQs l (k+1)) ((l.drop (k+1)).map FB.fld)):=by
 rw [List.drop_eq_getElem_cons hk,List.map_cons]
 have e:qQs l (k+1)=some l[k].name.data.toList:=by
  unfold qQs;rw [if_neg (by omega),Nat.add_sub_cancel,List.getElem?_eq_getElem hk];rfl
 rw [e];cases qQs l k<;>rfl
def jQA (t p:ByteArray) (q:Int) (l:List FB):Bool:=Yx t.data.toList&&Q5 p.data.toList&&decide (1<=q)&&decide (l.length<=8)&&okF none (l.map FB.fld)
def qY5 (w W:World) (l:List FB) (i:Value) (wr:World):Prop:=∃ k:Nat,k<=l.length/\i=.int .i64 k/\Hid (okF none (l.map FB.fld)=okF (qQs l k) ((l.drop k).map FB.fld))/\Hid (Below W.heap.size W wr)/\W.heap.size<=wr.heap.size
set_option maxHeartbeats 2000000 in
theorem qJI (t p:ByteArray) (q:Int) (a:Option Addr) (c:Nat) (l:List FB) (hl:l.length<=8) (ht:t.size<=1000000000) (hp:p.size<=1000000000) (hs:∀ f∈l,f.name.size<=1000000000/\f.s.size<=1000000000) (w:World) (hM:MaxW w) (hF:Flds w a l)
  (h1:Yx t.data.toList=true) (h2:Q5 p.data.toList=true) (h3:1<=q) (h4:q<=18446744073709551615) :
  Calls Tryz.prog 188 #[.agg #[.string t,.string p,.int .u64 q,.slice a l.length c]] w fun e w'=>e=.returned (.bool (okF none (l.map FB.fld)))/\Below w.heap.size w w':=by
 have HF:=Zh hF;have HM:=Zh hM;have HS:=Zh hs;have G1:=Zh h1;have G2:=Zh h2;clear hF hM hs h1 h2;go_enter Tryz.func188,Tryz.ntmps188;go_wp2_with fail;refine (qQD t ht _ (HM.out.grow (Qj _ (.refl _ _)))).mono ?_;rintro e w1 ⟨rfl,hb1⟩;rw [G1.out];obtain ⟨hc1,hf1⟩:=Z8 hb1;have hz1:w.heap.size < w1.heap.size:=(by have:=hb1.size;simp at this;omega);have KB1:=Qk hb1 (Qj (.cells #[.string t,.string p,.int .u64 q,.slice a l.length c] 94) (.refl w.heap.size w));have HB1:=Zh KB1;clear hb1 KB1;go_wp2_with fail;refine (Xp p hp _ (HM.out.grow HB1.out)).mono ?_;rintro e w2 ⟨rfl,hb2⟩;rw [G2.out];obtain ⟨hc2,hf2⟩:=Z8 hb2;have hz2:w1.heap.size<=w2.heap.size:=hb2.size
 have e3:w2.cell? ⟨w.heap.size,3,none⟩=some (.slice a l.length c):=by
  rw [hc2 _ _ hz1,hc1 _ _ (by simp)];simp [go_sem]
 have e2:w2.cell? ⟨w.heap.size,2,none⟩=some (.int .u64 q):=by
  rw [hc2 _ _ hz1,hc1 _ _ (by simp)];simp [go_sem]
 have HB2:=Zh (Qk hb2 HB1.out);have hwz:w.heap.size < w2.heap.size:=by omega
 clear hb2 hc1 hf1 hc2 hf2 HB1;go_wp2_with fail;go_loopw [29] (fun i wr=>qY5 w w2 l i wr) (fun i _=>l.length - (intOf i).toNat)
 case atStart=>exact ⟨0,by omega,rfl,rfl,.refl _ _,Nat.le_refl _⟩
 case round=>
  obtain ⟨k,hk,rfl,HO,HB,hz⟩:=hrel;obtain ⟨wo,rfl⟩:∃ wo,wo=wr:=⟨_,rfl⟩;have E3:=Zh e3;have e3':wo.cell? ⟨w.heap.size,3,none⟩=some (.slice a l.length c):=by rw [HB.out.cell (p:=⟨w.heap.size,3,none⟩) hwz];exact e3
  have KB:=Zh (HB2.out.trans (HB.out.mono HB2.out.size));have hwo:w.heap.size < wo.heap.size:=by omega
  clear e3 e2
  by_cases hlt:k < l.length
  ·
   have HF2:=Zh (HF.out.grow KB.out);obtain ⟨b,o,ha,hb⟩:=HF2.out.head hlt;subst ha;obtain ⟨_,f0,f1,f2,f3⟩:=HF2.out.at hlt;obtain ⟨s1,s2⟩:=HS.out l[k] (List.getElem_mem hlt);have hst:=zJv hlt;have KBX:=Zh (Qj (.cells #[.string l[k].name,.bool l[k].num,.int .i64 l[k].n,.string l[k].s] 209) KB.out);cases hfb:Q5 l[k].name.data.toList with
   | false=>
    have FB0:=Zh hfb
    have HR:Hid (okF none (l.map FB.fld)=false):=by
     show okF none _=false;rw [HO.out,hst,hfb];rfl
    clear hfb hst;go_wp2_with fail;refine Tryst2.wp_region_grows [.is (.pointer (some ⟨wo.heap.size,0,none⟩)),.is (.string l[k].name),.is (.bool false),.is (.bool true),.is (.bool true),.is undef,.is undef,.is undef,.is undef,.is (.bool true),.is (.bool true),.is undef,.is undef,.is undef,.is undef,.is undef,.is undef,.is undef,.is undef,.is undef,.is undef,.is undef,.is undef,.is undef,.is undef,.is (.bool true)] (by kernel_rfl) (by kernel_rfl) ?obl ?fin
    case obl=>
     simp only [YA,YL,YO,YR,Op.operands,Call.operands]
     repeat' apply And.intro
     any_goals trivial
     all_goals (intro tv w' hg hold hd;(try simp at hold);obtain ⟨hcg,hfg,hsg⟩:=YG hg)
     all_goals first | (go_simp;done) | (go_simp;rw [if_neg (by omega)];exact ⟨.refl _,rfl⟩) | (obtain ⟨⟨g,hvg,hgg,hcell⟩,_⟩:=hd;have hcell0:=hcell 0 (by decide);simp at hcell0;go_simp;done) | (go_simp;refine (Xp _ (by assumption) _ (HM.out.grow (Tryst2.Grow.below hg KBX.out))).mono ?_;rintro e w3 ⟨rfl,hb3⟩;exact ⟨hb3,by rw [FB0.out]⟩) | (go_simp;refine (qQS _ _ _ (by assumption) _).mono ?_;rintro e w3 ⟨rfl,hb3⟩;exact ⟨hb3,by rw [VB.out]⟩) | (go_simp;omega)
    case fin=>
     intro tv w' hg hR;simp only [YF,YL,YR] at hR;obtain ⟨hcg,hfg,hsg⟩:=YG hg;simp only [YP,YL,Act.put,hR];have KB3:=Zh (Tryst2.Grow.below hg KBX.out);clear hg hR hcg hfg hsg;go_wp2_with fail;go_ret;exact ⟨Qq HR.out.symm,KB3.out⟩
   | true=>
    have FB0:=Zh hfb;cases hvb:V.mayB ⟨l[k].num,l[k].n,l[k].s.data.toList⟩ with
    | false=>
     have VB:=Zh hvb
     have HR:Hid (okF none (l.map FB.fld)=false):=by
      show okF none _=false;rw [HO.out,hst,hfb,hvb];rfl
     clear hfb hst hvb;go_wp2_with fail;refine Tryst2.wp_region_grows [.is (.pointer (some ⟨wo.heap.size,0,none⟩)),.is (.string l[k].name),.is (.bool true),.is (.bool false),.is (.bool false),.is (.pointer (some ⟨wo.heap.size,1,none⟩)),.is (.agg #[.bool l[k].num,.int .i64 l[k].n,.string l[k].s]),.is (.bool false),.is (.bool true),.is (.bool true),.is (.bool true),.is undef,.is undef,.is undef,.is undef,.is undef,.is undef,.is undef,.is undef,.is undef,.is undef,.is undef,.is undef,.is undef,.is undef,.is (.bool true)] (by kernel_rfl) (by kernel_rfl) ?obl ?fin
     case obl=>
      simp only [YA,YL,YO,YR,Op.operands,Call.operands]
      repeat' apply And.intro
      any_goals trivial
      all_goals (intro tv w' hg hold hd;(try simp at hold);obtain ⟨hcg,hfg,hsg⟩:=YG hg)
      all_goals first | (go_simp;done) | (go_simp;rw [if_neg (by omega)];exact ⟨.refl _,rfl⟩) | (obtain ⟨⟨g,hvg,hgg,hcell⟩,_⟩:=hd;have hcell0:=hcell 0 (by decide);simp at hcell0;go_simp;done) | (go_simp;refine (Xp _ (by assumption) _ (HM.out.grow (Tryst2.Grow.below hg KBX.out))).mono ?_;rintro e w3 ⟨rfl,hb3⟩;exact ⟨hb3,by rw [FB0.out]⟩) | (go_simp;refine (qQS _ _ _ (by assumption) _).mono ?_;rintro e w3 ⟨rfl,hb3⟩;exact ⟨hb3,by rw [VB.out]⟩) | (go_simp;omega)
     case fin=>
      intro tv w' hg hR;simp only [YF,YL,YR] at hR;obtain ⟨hcg,hfg,hsg⟩:=YG hg;simp only [YP,YL,Act.put,hR];have KB3:=Zh (Tryst2.Grow.below hg KBX.out);clear hg hR hcg hfg hsg;go_wp2_with fail;go_ret;exact ⟨Qq HR.out.symm,KB3.out⟩
    | true=>
     have VB:=Zh hvb;rw [hfb,hvb] at hst
     by_cases hk0:k=0
     ·
      have HR:Hid (okF none (l.map FB.fld)=okF (qQs l (k+1)) ((l.drop (k+1)).map FB.fld)):=by
       show okF none _=_;rw [HO.out,hst];subst hk0;rfl
      have z0:(k:Int)<=0:=by omega
      clear hfb hst hvb HO hk0;go_wp2_with fail;refine Tryst2.wp_region_grows [.is (.pointer (some ⟨wo.heap.size,0,none⟩)),.is (.string l[k].name),.is (.bool true),.is (.bool false),.is (.bool false),.is (.pointer (some ⟨wo.heap.size,1,none⟩)),.is (.agg #[.bool l[k].num,.int .i64 l[k].n,.string l[k].s]),.is (.bool true),.is (.bool false),.is (.bool false),.is (.bool false),.is (.int .i64 k),.is (.bool false),.is (.bool false),.is undef,.is undef,.is undef,.is undef,.is undef,.is undef,.is undef,.is undef,.is undef,.is undef,.is (.bool false),.is (.bool false)] (by kernel_rfl) (by kernel_rfl) ?obl ?fin
      case obl=>
       simp only [YA,YL,YO,YR,Op.operands,Call.operands]
       repeat' apply And.intro
       any_goals trivial
       all_goals (intro tv w' hg hold hd;(try simp at hold);obtain ⟨hcg,hfg,hsg⟩:=YG hg)
       all_goals first | (go_simp;done) | (go_simp;rw [if_neg (by omega)];exact ⟨.refl _,rfl⟩) | (obtain ⟨⟨g,hvg,hgg,hcell⟩,_⟩:=hd;have hcell0:=hcell 0 (by decide);simp at hcell0;go_simp;done) | (go_simp;refine (Xp _ (by assumption) _ (HM.out.grow (Tryst2.Grow.below hg KBX.out))).mono ?_;rintro e w3 ⟨rfl,hb3⟩;exact ⟨hb3,by rw [FB0.out]⟩) | (go_simp;refine (qQS _ _ _ (by assumption) _).mono ?_;rintro e w3 ⟨rfl,hb3⟩;exact ⟨hb3,by rw [VB.out]⟩) | (go_simp;omega)
      case fin=>
       intro tv w' hg hR;simp only [YF,YL,YR] at hR;obtain ⟨hcg,hfg,hsg⟩:=YG hg;simp only [YP,YL,Act.put,hR];have HBR:=Zh (Tryst2.Grow.below hg (Qj (.cells #[.string l[k].name,.bool l[k].num,.int .i64 l[k].n,.string l[k].s] 209) HB.out));have hzr:w2.heap.size<=w'.heap.size:=(by (try simp at hsg);omega);clear hg hR hcg hfg hsg;go_wp2_with fail;go_roundw
       case rel=>exact ⟨k+1,by omega,by go_num,HR,HBR,hzr⟩
       case measure=>simp [intOf]<;>omega
     ·
      have hkp:k - 1 < l.length:=by omega
      obtain ⟨_,g0,g1,g2,g3⟩:=HF2.out.at hkp
      have hpv:qQs l k=some l[k - 1].name.data.toList:=by
       unfold qQs;rw [if_neg hk0,List.getElem?_eq_getElem hkp];rfl
      have z0:(0:Int) < k:=by omega
      have z5:(1:Int)<=k:=by omega
      have z1:((k:Int) - 1).toNat=k - 1:=by omega
      have z2:IntKind.i64.wrap ((k:Int) - 1)=(k:Int) - 1:=IntWalk.i64_in _ (by omega);have z3:(0:Int)<=(k:Int) - 1:=by omega
      have z4:(k:Int) - 1 < l.length:=by omega
      rw [hpv] at hst;cases hlb:Op.bytesLess l[k - 1].name.data.toList l[k].name.data.toList with
      | true=>
       have HR:Hid (okF none (l.map FB.fld)=okF (qQs l (k+1)) ((l.drop (k+1)).map FB.fld)):=by
        show okF none _=_;rw [HO.out,hpv,hst];simp [hlb]
       have d1:Op.bytesLess l[k - 1].name.toList l[k].name.toList=true:=by rw [Qp,Qp];exact hlb
       clear hfb hst hvb HO hlb hpv;go_wp2_with fail;refine Tryst2.wp_region_grows [.is (.pointer (some ⟨wo.heap.size,0,none⟩)),.is (.string l[k].name),.is (.bool true),.is (.bool false),.is (.bool false),.is (.pointer (some ⟨wo.heap.size,1,none⟩)),.is (.agg #[.bool l[k].num,.int .i64 l[k].n,.string l[k].s]),.is (.bool true),.is (.bool false),.is (.bool false),.is (.bool false),.is (.int .i64 k),.is (.bool true),.is (.bool true),.is (.pointer (some ⟨w.heap.size,3,none⟩)),.is (.slice (some ⟨b,o,none⟩) l.length c),.is (.int .i64 k),.is (.int .i64 ((k:Int) - 1)),.is (.pointer (some ⟨b,o+(k - 1)*4,none⟩)),.is (.pointer (some ⟨b,o+(k - 1)*4,none⟩)),.is (.string l[k - 1].name),.is (.pointer (some ⟨wo.heap.size,0,none⟩)),.is (.string l[k].name),.is (.bool false),.is (.bool false),.is (.bool false)] (by kernel_rfl) (by kernel_rfl) ?obl ?fin
       case obl=>
        simp only [YA,YL,YO,YR,Op.operands,Call.operands]
        repeat' apply And.intro
        any_goals trivial
        all_goals (intro tv w' hg hold hd;(try simp at hold);obtain ⟨hcg,hfg,hsg⟩:=YG hg)
        all_goals first | (go_simp;done) | (go_simp;rw [if_neg (by omega)];exact ⟨.refl _,rfl⟩) | (obtain ⟨⟨g,hvg,hgg,hcell⟩,_⟩:=hd;have hcell0:=hcell 0 (by decide);simp at hcell0;go_simp;done) | (go_simp;refine (Xp _ (by assumption) _ (HM.out.grow (Tryst2.Grow.below hg KBX.out))).mono ?_;rintro e w3 ⟨rfl,hb3⟩;exact ⟨hb3,by rw [FB0.out]⟩) | (go_simp;refine (qQS _ _ _ (by assumption) _).mono ?_;rintro e w3 ⟨rfl,hb3⟩;exact ⟨hb3,by rw [VB.out]⟩) | (go_simp;omega)
       case fin=>
        intro tv w' hg hR;simp only [YF,YL,YR] at hR;obtain ⟨hcg,hfg,hsg⟩:=YG hg;simp only [YP,YL,Act.put,hR];have HBR:=Zh (Tryst2.Grow.below hg (Qj (.cells #[.string l[k].name,.bool l[k].num,.int .i64 l[k].n,.string l[k].s] 209) HB.out));have hzr:w2.heap.size<=w'.heap.size:=(by (try simp at hsg);omega);clear hg hR hcg hfg hsg z1 z2;go_wp2_with fail;go_roundw
        case rel=>exact ⟨k+1,by omega,by go_num,HR,HBR,hzr⟩
        case measure=>simp [intOf]<;>omega
      | false=>
       have HR:Hid (okF none (l.map FB.fld)=false):=by
        show okF none _=false;rw [HO.out,hpv,hst];simp [hlb]
       have d1:Op.bytesLess l[k - 1].name.toList l[k].name.toList=false:=by rw [Qp,Qp];exact hlb
       clear hfb hst hvb HO hlb hpv;go_wp2_with fail;refine Tryst2.wp_region_grows [.is (.pointer (some ⟨wo.heap.size,0,none⟩)),.is (.string l[k].name),.is (.bool true),.is (.bool false),.is (.bool false),.is (.pointer (some ⟨wo.heap.size,1,none⟩)),.is (.agg #[.bool l[k].num,.int .i64 l[k].n,.string l[k].s]),.is (.bool true),.is (.bool false),.is (.bool false),.is (.bool false),.is (.int .i64 k),.is (.bool true),.is (.bool true),.is (.pointer (some ⟨w.heap.size,3,none⟩)),.is (.slice (some ⟨b,o,none⟩) l.length c),.is (.int .i64 k),.is (.int .i64 ((k:Int) - 1)),.is (.pointer (some ⟨b,o+(k - 1)*4,none⟩)),.is (.pointer (some ⟨b,o+(k - 1)*4,none⟩)),.is (.string l[k - 1].name),.is (.pointer (some ⟨wo.heap.size,0,none⟩)),.is (.string l[k].name),.is (.bool true),.is (.bool true),.is (.bool true)] (by kernel_rfl) (by kernel_rfl) ?obl ?fin
       case obl=>
        simp only [YA,YL,YO,YR,Op.operands,Call.operands]
        repeat' apply And.intro
        any_goals trivial
        all_goals (intro tv w' hg hold hd;(try simp at hold);obtain ⟨hcg,hfg,hsg⟩:=YG hg)
        all_goals first | (go_simp;done) | (go_simp;rw [if_neg (by omega)];exact ⟨.refl _,rfl⟩) | (obtain ⟨⟨g,hvg,hgg,hcell⟩,_⟩:=hd;have hcell0:=hcell 0 (by decide);simp at hcell0;go_simp;done) | (go_simp;refine (Xp _ (by assumption) _ (HM.out.grow (Tryst2.Grow.below hg KBX.out))).mono ?_;rintro e w3 ⟨rfl,hb3⟩;exact ⟨hb3,by rw [FB0.out]⟩) | (go_simp;refine (qQS _ _ _ (by assumption) _).mono ?_;rintro e w3 ⟨rfl,hb3⟩;exact ⟨hb3,by rw [VB.out]⟩) | (go_simp;omega)
       case fin=>
        intro tv w' hg hR;simp only [YF,YL,YR] at hR;obtain ⟨hcg,hfg,hsg⟩:=YG hg;simp only [YP,YL,Act.put,hR];have KB3:=Zh (Tryst2.Grow.below hg KBX.out);clear hg hR hcg hfg hsg z1 z2;go_wp2_with fail;go_ret;exact ⟨Qq HR.out.symm,KB3.out⟩
  ·
   have HR:Hid (okF none (l.map FB.fld)=true):=by
    show okF none _=true;rw [HO.out,List.drop_eq_nil_of_le (by omega)];cases qQs l k<;>rfl
   clear HO;go_wp2_with fail;go_ret;exact ⟨Qq HR.out.symm,KB.out⟩
theorem kJ1 (t p:ByteArray) (q:Int) (a:Option Addr) (c:Nat) (l:List FB) (hl:l.length<=1000000000) (ht:t.size<=1000000000) (hp:p.size<=1000000000) (hs:∀ f∈l,f.name.size<=1000000000/\f.s.size<=1000000000) (w:World) (hM:MaxW w) (hF:Flds w a l)
  (h0:0<=q) (h4:q<=18446744073709551615) :
  Calls Tryz.prog 188 #[.agg #[.string t,.string p,.int .u64 q,.slice a l.length c]] w fun e w'=>e=.returned (.bool (jQA t p q l))/\Below w.heap.size w w':=by
 cases h1:Yx t.data.toList with
 | false=>
  have HR:Hid (jQA t p q l=false):=by show jQA t p q l=false;unfold jQA;rw [h1];rfl
  have HM:=Zh hM;have G1:=Zh h1;clear hF hM hs h1;go_enter Tryz.func188,Tryz.ntmps188;go_wp2_with fail;refine (qQD t ht _ (HM.out.grow (Qj _ (.refl _ _)))).mono ?_;rintro e w1 ⟨rfl,hb1⟩;rw [G1.out];have HB1:=Zh (Qk hb1 (Qj (.cells #[.string t,.string p,.int .u64 q,.slice a l.length c] 94) (.refl w.heap.size w)));clear hb1;go_wp2_with fail;go_ret;exact ⟨Qq HR.out.symm,HB1.out⟩
 | true=>
  cases h2:Q5 p.data.toList with
  | false=>
   have HR:Hid (jQA t p q l=false):=by show jQA t p q l=false;unfold jQA;rw [h1,h2];rfl
   have HM:=Zh hM;have G1:=Zh h1;have G2:=Zh h2;clear hF hM hs h1 h2;go_enter Tryz.func188,Tryz.ntmps188;go_wp2_with fail;refine (qQD t ht _ (HM.out.grow (Qj _ (.refl _ _)))).mono ?_;rintro e w1 ⟨rfl,hb1⟩;rw [G1.out];obtain ⟨hc1,hf1⟩:=Z8 hb1;have hz1:w.heap.size < w1.heap.size:=(by have:=hb1.size;simp at this;omega);have KB1:=Qk hb1 (Qj (.cells #[.string t,.string p,.int .u64 q,.slice a l.length c] 94) (.refl w.heap.size w));have HB1:=Zh KB1;clear hb1 KB1;go_wp2_with fail;refine (Xp p hp _ (HM.out.grow HB1.out)).mono ?_;rintro e w2 ⟨rfl,hb2⟩;rw [G2.out];obtain ⟨hc2,hf2⟩:=Z8 hb2;have hz2:w1.heap.size<=w2.heap.size:=hb2.size
   have e3:w2.cell? ⟨w.heap.size,3,none⟩=some (.slice a l.length c):=by
    rw [hc2 _ _ hz1,hc1 _ _ (by simp)];simp [go_sem]
   have e2:w2.cell? ⟨w.heap.size,2,none⟩=some (.int .u64 q):=by
    rw [hc2 _ _ hz1,hc1 _ _ (by simp)];simp [go_sem]
   have HB2:=Zh (Qk hb2 HB1.out);have hwz:w.heap.size < w2.heap.size:=by omega
   clear hb2 hc1 hf1 hc2 hf2 HB1;go_wp2_with fail;go_ret;exact ⟨Qq HR.out.symm,HB2.out⟩
  | true=>
   by_cases hq:1<=q
   ·
    by_cases hl8:l.length<=8
    ·
     have HR:Hid (jQA t p q l=okF none (l.map FB.fld)):=by
      show jQA t p q l=_;unfold jQA;rw [h1,h2,decide_eq_true hq,decide_eq_true hl8];rfl
     rw [HR.out];exact qJI t p q a c l hl8 ht hp hs w hM hF h1 h2 hq h4
    ·
     have HR:Hid (jQA t p q l=false):=by show jQA t p q l=false;unfold jQA;rw [decide_eq_false hl8];simp
     have HM:=Zh hM;have G1:=Zh h1;have G2:=Zh h2;clear hF hM hs h1 h2;go_enter Tryz.func188,Tryz.ntmps188;go_wp2_with fail;refine (qQD t ht _ (HM.out.grow (Qj _ (.refl _ _)))).mono ?_;rintro e w1 ⟨rfl,hb1⟩;rw [G1.out];obtain ⟨hc1,hf1⟩:=Z8 hb1;have hz1:w.heap.size < w1.heap.size:=(by have:=hb1.size;simp at this;omega);have KB1:=Qk hb1 (Qj (.cells #[.string t,.string p,.int .u64 q,.slice a l.length c] 94) (.refl w.heap.size w));have HB1:=Zh KB1;clear hb1 KB1;go_wp2_with fail;refine (Xp p hp _ (HM.out.grow HB1.out)).mono ?_;rintro e w2 ⟨rfl,hb2⟩;rw [G2.out];obtain ⟨hc2,hf2⟩:=Z8 hb2;have hz2:w1.heap.size<=w2.heap.size:=hb2.size
     have e3:w2.cell? ⟨w.heap.size,3,none⟩=some (.slice a l.length c):=by
      rw [hc2 _ _ hz1,hc1 _ _ (by simp)];simp [go_sem]
     have e2:w2.cell? ⟨w.heap.size,2,none⟩=some (.int .u64 q):=by
      rw [hc2 _ _ hz1,hc1 _ _ (by simp)];simp [go_sem]
     have HB2:=Zh (Qk hb2 HB1.out);have hwz:w.heap.size < w2.heap.size:=by omega
     clear hb2 hc1 hf1 hc2 hf2 HB1;go_wp2_with fail;go_ret;exact ⟨Qq HR.out.symm,HB2.out⟩
   ·
    have HR:Hid (jQA t p q l=false):=by show jQA t p q l=false;unfold jQA;rw [decide_eq_false hq];simp
    have HM:=Zh hM;have G1:=Zh h1;have G2:=Zh h2;clear hF hM hs h1 h2;go_enter Tryz.func188,Tryz.ntmps188;go_wp2_with fail;refine (qQD t ht _ (HM.out.grow (Qj _ (.refl _ _)))).mono ?_;rintro e w1 ⟨rfl,hb1⟩;rw [G1.out];obtain ⟨hc1,hf1⟩:=Z8 hb1;have hz1:w.heap.size < w1.heap.size:=(by have:=hb1.size;simp at this;omega);have KB1:=Qk hb1 (Qj (.cells #[.string t,.string p,.int .u64 q,.slice a l.length c] 94) (.refl w.heap.size w));have HB1:=Zh KB1;clear hb1 KB1;go_wp2_with fail;refine (Xp p hp _ (HM.out.grow HB1.out)).mono ?_;rintro e w2 ⟨rfl,hb2⟩;rw [G2.out];obtain ⟨hc2,hf2⟩:=Z8 hb2;have hz2:w1.heap.size<=w2.heap.size:=hb2.size
    have e3:w2.cell? ⟨w.heap.size,3,none⟩=some (.slice a l.length c):=by
     rw [hc2 _ _ hz1,hc1 _ _ (by simp)];simp [go_sem]
    have e2:w2.cell? ⟨w.heap.size,2,none⟩=some (.int .u64 q):=by
     rw [hc2 _ _ hz1,hc1 _ _ (by simp)];simp [go_sem]
    have HB2:=Zh (Qk hb2 HB1.out);have hwz:w.heap.size < w2.heap.size:=by omega
    clear hb2 hc1 hf1 hc2 hf2 HB1;go_wp2_with fail;go_ret;exact ⟨Qq HR.out.symm,HB2.out⟩
