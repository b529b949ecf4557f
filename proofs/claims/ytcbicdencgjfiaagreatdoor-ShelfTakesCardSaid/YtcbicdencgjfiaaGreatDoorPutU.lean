import Derived.Test.YtcbicdencgjfiaaGreatDoorProg
import Derived.Lib.Builder
import Derived.Lib.OthersKept
import Derived.Lib.OwnKind
import Derived.Lib.AppendStr
import Derived.Lib.BufferKept
import Derived.Laws.Externs
import Derived.Deep.Cut
import Derived.Test.YtcbicdencgjfiaaGreatDoorGlob5
import Derived.Test.YtcbicdencgjfiaaGreatDoorNumV
import Derived.Test.YtcbicdencgjfiaaGreatDoorRowK
import Derived.Test.YtcbicdencgjfiaaGreatDoorVal47
set_option linter.all false
set_option maxHeartbeats 400000
set_option maxRecDepth 20000
namespace Tryst2
open Go Go.RowKit
@[go_sem] theorem boolOf_undef:zQI undef=none:=rfl
end Tryst2
namespace Go.Proofs.YtcbicdencgjfiaaGreatDoor
open Go.RowKit Tryst
def qQs (l:List FB) (k:Nat):Option (List UInt8):=if k=0 then none else (l[k - 1]?).map (fun f=>f.name.data.toList)
theorem zJv {l:List FB} {k:Nat} (hk:k < l.length):okF (qQs l k) ((l.drop k).map FB.fld)=(Q5 l[k].name.data.toList&&V.mayB ⟨l[k].num,l[k].n,l[k].s.data.toList⟩&&(match qQs l k with | none=>true | some q=>Op.bytesLess q l[k].name.data.toList)&&okF (qQs l (k+1)) ((l.drop (k+1)).map FB.fld)):=by
 rw [List.drop_eq_getElem_cons hk,List.map_cons]
 have e:qQs l (k+1)=some l[k].name.data.toList:=by
  unfold qQs;rw [if_neg (by omega),Nat.add_sub_cancel,List.getElem?_eq_getElem hk];rfl
 rw [e];cases qQs l k<;>rfl
def jQA (t p:ByteArray) (q:Int) (l:List FB):Bool:=Yx t.data.toList&&Q5 p.data.toList&&decide (1<=q)&&decide (l.length<=8)&&okF none (l.map FB.fld)
def qY5 (w W:World) (l:List FB) (i:Value) (wr:World):Prop:=∃ k:Nat,k<=l.length/\i=.int .i64 k/\Hid (okF none (l.map FB.fld)=okF (qQs l k) ((l.drop k).map FB.fld))/\Hid (Below W.heap.size W wr)/\W.heap.size<=wr.heap.size
set_option maxHeartbeats 2000000 in
theorem qJI (t p:ByteArray) (q:Int) (a:Option Addr) (c:Nat) (l:List FB) (hl:l.length<=8) (ht:t.size<=1000000000) (hp:p.size<=1000000000) (hs:∀ f∈l,f.name.size<=1000000000/\f.s.size<=1000000000) (w:World) (hM:MaxW w) (hF:Flds w a l)
  (h1:Yx t.data.toList=true) (h2:Q5 p.data.toList=true) (h3:1<=q) (h4:q<=18446744073709551615) :
  Calls Tryz.prog 188 #[.agg #[.string t,.string p,.int .u64 q,.slice a l.length c]] w fun e w'=>e=.returned (.bool (okF none (l.map FB.fld)))/\Below w.heap.size w w':=by
 have HF:=Zh hF;have HM:=Zh hM;have HS:=Zh hs;have G1:=Zh h1;have G2:=Zh h2;clear hF hM hs h1 h2;go_enter Tryz.func188,Tryz.ntmps188;go_wp2_with fail;refine (qQD t ht _ (HM.out.grow (Qj _ (.refl _ _)))).mono ?_;rintro e w1 ⟨rfl,hb1⟩;rw [G1.out];obtain ⟨hc1,hf1⟩:=Z8 hb1;have hz1:w.heap.size < w1.heap.size:=(by have:=hb1.size;simp at this;omega);have KB1:=Qk hb1 (Qj (.cells #[.string t,.string p,.int .u64 q,.slice a l.length c] 94) (.refl w.heap.size w));have HB1:=Zh KB1;clear hb1 KB1;go_wp2_with fail;refine (Xp p hp _ (HM.out.grow HB1.out)).mono ?_;rintro e w2 ⟨rfl,hb2⟩;rw [G2.out];obtain ⟨hc2,hf2⟩:=Z8 hb2;have hz2:w1.heap.size<=w2.heap.size:=hb2.size
 have e3:w2.cell? ⟨w.heap.size,3,none⟩=some (.slice a l.length c):=by
  rw [hc2 _ _ hz1,hc1 _ _ (by simp)];simp [go_sem]
 have e2:w2.cell? ⟨w.heap.size,2,none⟩=some (.int .u64 q):=by
  rw [hc2 _ _ hz1,hc1 _ _ (by simp)];simp [go_sem]
 have HB2:=Zh (Qk hb2 HB1.out);have hwz:w.heap.size < w2.heap.size:=by omega
 clear hb2 hc1 hf1 hc2 hf2 HB1;go_wp2_with fail;go_loopw [29] (fun i wr=>qY5 w w2 l i wr) (fun i _=>l.length - (intOf i).toNat)
 case atStart=>exact ⟨0,by omega,rfl,rfl,.refl _ _,Nat.le_refl _⟩
 case round=>
  obtain ⟨k,hk,rfl,HO,HB,hz⟩:=hrel;obtain ⟨wo,rfl⟩:∃ wo,wo=wr:=⟨_,rfl⟩;have E3:=Zh e3;have e3':wo.cell? ⟨w.heap.size,3,none⟩=some (.slice a l.length c):=by rw [HB.out.cell (p:=⟨w.heap.size,3,none⟩) hwz];exact e3
  have KB:=Zh (HB2.out.trans (HB.out.mono HB2.out.size));have hwo:w.heap.size < wo.heap.size:=by omega
  clear e3 e2
  by_cases hlt:k < l.length
  ·
   have HF2:=Zh (HF.out.grow KB.out);obtain ⟨b,o,ha,hb⟩:=HF2.out.head hlt;subst ha;obtain ⟨_,f0,f1,f2,f3⟩:=HF2.out.at hlt;obtain ⟨s1,s2⟩:=HS.out l[k] (List.getElem_mem hlt);have hst:=zJv hlt;have KBX:=Zh (Qj (.cells #[.string l[k].name,.bool l[k].num,.int .i64 l[k].n,.string l[k].s] 209) KB.out);cases hfb:Q5 l[k].name.data.toList with
   | false=>
    have FB0:=Zh hfb
    have HR:Hid (okF none (l.map FB.fld)=false):=by
     show okF none _=false;rw [HO.out,hst,hfb];rfl
    clear hfb hst;go_wp2_with fail;refine Tryst2.wp_region_grows [.is (.pointer (some ⟨wo.heap.size,0,none⟩)),.is (.string l[k].name),.is (.bool false),.is (.bool true),.is (.bool true),.is undef,.is undef,.is undef,.is undef,.is (.bool true),.is (.bool true),.is undef,.is undef,.is undef,.is undef,.is undef,.is undef,.is undef,.is undef,.is undef,.is undef,.is undef,.is undef,.is undef,.is undef,.is (.bool true)] (by kernel_rfl) (by kernel_rfl) ?obl ?fin
    case obl=>
     simp only [YA,YL,YO,YR,Op.operands,Call.operands]
     repeat' apply And.intro
     any_goals trivial
     all_goals (intro tv w' hg hold hd;(try simp at hold);obtain ⟨hcg,hfg,hsg⟩:=YG hg)
     all_goals first | (go_simp;done) | (go_simp;rw [if_neg (by omega)];exact ⟨.refl _,rfl⟩) | (obtain ⟨⟨g,hvg,hgg,hcell⟩,_⟩:=hd;have hcell0:=hcell 0 (by decide);simp at hcell0;go_simp;done) | (go_simp;refine (Xp _ (by assumption) _ (HM.out.grow (Tryst2.Grow.below hg KBX.out))).mono ?_;rintro e w3 ⟨rfl,hb3⟩;exact ⟨hb3,by rw [FB0.out]⟩) | (go_simp;refine (qQS _ _ _ (by assumption) _).mono ?_;rintro e w3 ⟨rfl,hb3⟩;exact ⟨hb3,by rw [VB.out]⟩) | (go_simp;omega)
    case fin=>
     intro tv w' hg hR;simp only [YF,YL,YR] at hR;obtain ⟨hcg,hfg,hsg⟩:=YG hg;simp only [YP,YL,Act.put,hR];have KB3:=Zh (Tryst2.Grow.below hg KBX.out);clear hg hR hcg hfg hsg;go_wp2_with fail;go_ret;exact ⟨Qq HR.out.symm,KB3.out⟩
   | true=>
    have FB0:=Zh hfb;cases hvb:V.mayB ⟨l[k].num,l[k].n,l[k].s.data.toList⟩ with
    | false=>
     have VB:=Zh hvb
     have HR:Hid (okF none (l.map FB.fld)=false):=by
      show okF none _=false;rw [HO.out,hst,hfb,hvb];rfl
     clear hfb hst hvb;go_wp2_with fail;refine Tryst2.wp_region_grows [.is (.pointer (some ⟨wo.heap.size,0,none⟩)),.is (.string l[k].name),.is (.bool true),.is (.bool false),.is (.bool false),.is (.pointer (some ⟨wo.heap.size,1,none⟩)),.is (.agg #[.bool l[k].num,.int .i64 l[k].n,.string l[k].s]),.is (.bool false),.is (.bool true),.is (.bool true),.is (.bool true),.is undef,.is undef,.is undef,.is undef,.is undef,.is undef,.is undef,.is undef,.is undef,.is undef,.is undef,.is undef,.is undef,.is undef,.is (.bool true)] (by kernel_rfl) (by kernel_rfl) ?obl ?fin
     case obl=>
      simp only [YA,YL,YO,YR,Op.operands,Call.operands]
      repeat' apply And.intro
      any_goals trivial
      all_goals (intro tv w' hg hold hd;(try simp at hold);obtain ⟨hcg,hfg,hsg⟩:=YG hg)
      all_goals first | (go_simp;done) | (go_simp;rw [if_neg (by omega)];exact ⟨.refl _,rfl⟩) | (obtain ⟨⟨g,hvg,hgg,hcell⟩,_⟩:=hd;have hcell0:=hcell 0 (by decide);simp at hcell0;go_simp;done) | (go_simp;refine (Xp _ (by assumption) _ (HM.out.grow (Tryst2.Grow.below hg KBX.out))).mono ?_;rintro e w3 ⟨rfl,hb3⟩;exact ⟨hb3,by rw [FB0.out]⟩) | (go_simp;refine (qQS _ _ _ (by assumption) _).mono ?_;rintro e w3 ⟨rfl,hb3⟩;exact ⟨hb3,by rw [VB.out]⟩) | (go_simp;omega)
     case fin=>
      intro tv w' hg hR;simp only [YF,YL,YR] at hR;obtain ⟨hcg,hfg,hsg⟩:=YG hg;simp only [YP,YL,Act.put,hR];have KB3:=Zh (Tryst2.Grow.below hg KBX.out);clear hg hR hcg hfg hsg;go_wp2_with fail;go_ret;exact ⟨Qq HR.out.symm,KB3.out⟩
    | true=>
     have VB:=Zh hvb;rw [hfb,hvb] at hst
     by_cases hk0:k=0
     ·
      have HR:Hid (okF none (l.map FB.fld)=okF (qQs l (k+1)) ((l.drop (k+1)).map FB.fld)):=by
       show okF none _=_;rw [HO.out,hst];subst hk0;rfl
      have z0:(k:Int)<=0:=by omega
      clear hfb hst hvb HO hk0;go_wp2_with fail;refine Tryst2.wp_region_grows [.is (.pointer (some ⟨wo.heap.size,0,none⟩)),.is (.string l[k].name),.is (.bool true),.is (.bool false),.is (.bool false),.is (.pointer (some ⟨wo.heap.size,1,none⟩)),.is (.agg #[.bool l[k].num,.int .i64 l[k].n,.string l[k].s]),.is (.bool true),.is (.bool false),.is (.bool false),.is (.bool false),.is (.int .i64 k),.is (.bool false),.is (.bool false),.is undef,.is undef,.is undef,.is undef,.is undef,.is undef,.is undef,.is undef,.is undef,.is undef,.is (.bool false),.is (.bool false)] (by kernel_rfl) (by kernel_rfl) ?obl ?fin
      case obl=>
       simp only [YA,YL,YO,YR,Op.operands,Call.operands]
       repeat' apply And.intro
       any_goals trivial
       all_goals (intro tv w' hg hold hd;(try simp at hold);obtain ⟨hcg,hfg,hsg⟩:=YG hg)
       all_goals first | (go_simp;done) | (go_simp;rw [if_neg (by omega)];exact ⟨.refl _,rfl⟩) | (obtain ⟨⟨g,hvg,hgg,hcell⟩,_⟩:=hd;have hcell0:=hcell 0 (by decide);simp at hcell0;go_simp;done) | (go_simp;refine (Xp _ (by assumption) _ (HM.out.grow (Tryst2.Grow.below hg KBX.out))).mono ?_;rintro e w3 ⟨rfl,hb3⟩;exact ⟨hb3,by rw [FB0.out]⟩) | (go_simp;refine (qQS _ _ _ (by assumption) _).mono ?_;rintro e w3 ⟨rfl,hb3⟩;exact ⟨hb3,by rw [VB.out]⟩) | (go_simp;omega)
      case fin=>
       intro tv w' hg hR;simp only [YF,YL,YR] at hR;obtain ⟨hcg,hfg,hsg⟩:=YG hg;simp only [YP,YL,Act.put,hR];have HBR:=Zh (Tryst2.Grow.below hg (Qj (.cells #[.string l[k].name,.bool l[k].num,.int .i64 l[k].n,.string l[k].s] 209) HB.out));have hzr:w2.heap.size<=w'.heap.size:=(by (try simp at hsg);omega);clear hg hR hcg hfg hsg;go_wp2_with fail;go_roundw
       case rel=>exact ⟨k+1,by omega,by go_num,HR,HBR,hzr⟩
       case measure=>simp [intOf]<;>omega
     ·
      have hkp:k - 1 < l.length:=by omega
      obtain ⟨_,g0,g1,g2,g3⟩:=HF2.out.at hkp
      have hpv:qQs l k=some l[k - 1].name.data.toList:=by
       unfold qQs;rw [if_neg hk0,List.getElem?_eq_getElem hkp];rfl
      have z0:(0:Int) < k:=by omega
      have z5:(1:Int)<=k:=by omega
      have z1:((k:Int) - 1).toNat=k - 1:=by omega
      have z2:IntKind.i64.wrap ((k:Int) - 1)=(k:Int) - 1:=IntWalk.i64_in _ (by omega);have z3:(0:Int)<=(k:Int) - 1:=by omega
      have z4:(k:Int) - 1 < l.length:=by omega
      rw [hpv] at hst;cases hlb:Op.bytesLess l[k - 1].name.data.toList l[k].name.data.toList with
      | true=>
       have HR:Hid (okF none (l.map FB.fld)=okF (qQs l (k+1)) ((l.drop (k+1)).map FB.fld)):=by
        show okF none _=_;rw [HO.out,hpv,hst];simp [hlb]
       have d1:Op.bytesLess l[k - 1].name.toList l[k].name.toList=true:=by rw [Qp,Qp];exact hlb
       clear hfb hst hvb HO hlb hpv;go_wp2_with fail;refine Tryst2.wp_region_grows [.is (.pointer (some ⟨wo.heap.size,0,none⟩)),.is (.string l[k].name),.is (.bool true),.is (.bool false),.is (.bool false),.is (.pointer (some ⟨wo.heap.size,1,none⟩)),.is (.agg #[.bool l[k].num,.int .i64 l[k].n,.string l[k].s]),.is (.bool true),.is (.bool false),.is (.bool false),.is (.bool false),.is (.int .i64 k),.is (.bool true),.is (.bool true),.is (.pointer (some ⟨w.heap.size,3,none⟩)),.is (.slice (some ⟨b,o,none⟩) l.length c),.is (.int .i64 k),.is (.int .i64 ((k:Int) - 1)),.is (.pointer (some ⟨b,o+(k - 1)*4,none⟩)),.is (.pointer (some ⟨b,o+(k - 1)*4,none⟩)),.is (.string l[k - 1].name),.is (.pointer (some ⟨wo.heap.size,0,none⟩)),.is (.string l[k].name),.is (.bool false),.is (.bool false),.is (.bool false)] (by kernel_rfl) (by kernel_rfl) ?obl ?fin
       case obl=>
        simp only [YA,YL,YO,YR,Op.operands,Call.operands]
        repeat' apply And.intro
        any_goals trivial
        all_goals (intro tv w' hg hold hd;(try simp at hold);obtain ⟨hcg,hfg,hsg⟩:=YG hg)
        all_goals first | (go_simp;done) | (go_simp;rw [if_neg (by omega)];exact ⟨.refl _,rfl⟩) | (obtain ⟨⟨g,hvg,hgg,hcell⟩,_⟩:=hd;have hcell0:=hcell 0 (by decide);simp at hcell0;go_simp;done) | (go_simp;refine (Xp _ (by assumption) _ (HM.out.grow (Tryst2.Grow.below hg KBX.out))).mono ?_;rintro e w3 ⟨rfl,hb3⟩;exact ⟨hb3,by rw [FB0.out]⟩) | (go_simp;refine (qQS _ _ _ (by assumption) _).mono ?_;rintro e w3 ⟨rfl,hb3⟩;exact ⟨hb3,by rw [VB.out]⟩) | (go_simp;omega)
       case fin=>
        intro tv w' hg hR;simp only [YF,YL,YR] at hR;obtain ⟨hcg,hfg,hsg⟩:=YG hg;simp only [YP,YL,Act.put,hR];have HBR:=Zh (Tryst2.Grow.below hg (Qj (.cells #[.string l[k].name,.bool l[k].num,.int .i64 l[k].n,.string l[k].s] 209) HB.out));have hzr:w2.heap.size<=w'.heap.size:=(by (try simp at hsg);omega);clear hg hR hcg hfg hsg z1 z2;go_wp2_with fail;go_roundw
        case rel=>exact ⟨k+1,by omega,by go_num,HR,HBR,hzr⟩
        case measure=>simp [intOf]<;>omega
      | false=>
       have HR:Hid (okF none (l.map FB.fld)=false):=by
        show okF none _=false;rw [HO.out,hpv,hst];simp [hlb]
       have d1:Op.bytesLess l[k - 1].name.toList l[k].name.toList=false:=by rw [Qp,Qp];exact hlb
       clear hfb hst hvb HO hlb hpv;go_wp2_with fail;refine Tryst2.wp_region_grows [.is (.pointer (some ⟨wo.heap.size,0,none⟩)),.is (.string l[k].name),.is (.bool true),.is (.bool false),.is (.bool false),.is (.pointer (some ⟨wo.heap.size,1,none⟩)),.is (.agg #[.bool l[k].num,.int .i64 l[k].n,.string l[k].s]),.is (.bool true),.is (.bool false),.is (.bool false),.is (.bool false),.is (.int .i64 k),.is (.bool true),.is (.bool true),.is (.pointer (some ⟨w.heap.size,3,none⟩)),.is (.slice (some ⟨b,o,none⟩) l.length c),.is (.int .i64 k),.is (.int .i64 ((k:Int) - 1)),.is (.pointer (some ⟨b,o+(k - 1)*4,none⟩)),.is (.pointer (some ⟨b,o+(k - 1)*4,none⟩)),.is (.string l[k - 1].name),.is (.pointer (some ⟨wo.heap.size,0,none⟩)),.is (.string l[k].name),.is (.bool true),.is (.bool true),.is (.bool true)] (by kernel_rfl) (by kernel_rfl) ?obl ?fin
       case obl=>
        simp only [YA,YL,YO,YR,Op.operands,Call.operands]
        repeat' apply And.intro
        any_goals trivial
        all_goals (intro tv w' hg hold hd;(try simp at hold);obtain ⟨hcg,hfg,hsg⟩:=YG hg)
        all_goals first | (go_simp;done) | (go_simp;rw [if_neg (by omega)];exact ⟨.refl _,rfl⟩) | (obtain ⟨⟨g,hvg,hgg,hcell⟩,_⟩:=hd;have hcell0:=hcell 0 (by decide);simp at hcell0;go_simp;done) | (go_simp;refine (Xp _ (by assumption) _ (HM.out.grow (Tryst2.Grow.below hg KBX.out))).mono ?_;rintro e w3 ⟨rfl,hb3⟩;exact ⟨hb3,by rw [FB0.out]⟩) | (go_simp;refine (qQS _ _ _ (by assumption) _).mono ?_;rintro e w3 ⟨rfl,hb3⟩;exact ⟨hb3,by rw [VB.out]⟩) | (go_simp;omega)
       case fin=>
        intro tv w' hg hR;simp only [YF,YL,YR] at hR;obtain ⟨hcg,hfg,hsg⟩:=YG hg;simp only [YP,YL,Act.put,hR];have KB3:=Zh (Tryst2.Grow.below hg KBX.out);clear hg hR hcg hfg hsg z1 z2;go_wp2_with fail;go_ret;exact ⟨Qq HR.out.symm,KB3.out⟩
  ·
   have HR:Hid (okF none (l.map FB.fld)=true):=by
    show okF none _=true;rw [HO.out,List.drop_eq_nil_of_le (by omega)];cases qQs l k<;>rfl
   clear HO;go_wp2_with fail;go_ret;exact ⟨Qq HR.out.symm,KB.out⟩
theorem kJ1 (t p:ByteArray) (q:Int) (a:Option Addr) (c:Nat) (l:List FB) (hl:l.length<=1000000000) (ht:t.size<=1000000000) (hp:p.size<=1000000000) (hs:∀ f∈l,f.name.size<=1000000000/\f.s.size<=1000000000) (w:World) (hM:MaxW w) (hF:Flds w a l)
  (h0:0<=q) (h4:q<=18446744073709551615) :
  Calls Tryz.prog 188 #[.agg #[.string t,.string p,.int .u64 q,.slice a l.length c]] w fun e w'=>e=.returned (.bool (jQA t p q l))/\Below w.heap.size w w':=by
 cases h1:Yx t.data.toList with
 | false=>
  have HR:Hid (jQA t p q l=false):=by show jQA t p q l=false;unfold jQA;rw [h1];rfl
  have HM:=Zh hM;have G1:=Zh h1;clear hF hM hs h1;go_enter Tryz.func188,Tryz.ntmps188;go_wp2_with fail;refine (qQD t ht _ (HM.out.grow (Qj _ (.refl _ _)))).mono ?_;rintro e w1 ⟨rfl,hb1⟩;rw [G1.out];have HB1:=Zh (Qk hb1 (Qj (.cells #[.string t,.string p,.int .u64 q,.slice a l.length c] 94) (.refl w.heap.size w)));clear hb1;go_wp2_with fail;go_ret;exact ⟨Qq HR.out.symm,HB1.out⟩
 | true=>
  cases h2:Q5 p.data.toList with
  | false=>
   have HR:Hid (jQA t p q l=false):=by show jQA t p q l=false;unfold jQA;rw [h1,h2];rfl
   have HM:=Zh hM;have G1:=Zh h1;have G2:=Zh h2;clear hF hM hs h1 h2;go_enter Tryz.func188,Tryz.ntmps188;go_wp2_with fail;refine (qQD t ht _ (HM.out.grow (Qj _ (.refl _ _)))).mono ?_;rintro e w1 ⟨rfl,hb1⟩;rw [G1.out];obtain ⟨hc1,hf1⟩:=Z8 hb1;have hz1:w.heap.size < w1.heap.size:=(by have:=hb1.size;simp at this;omega);have KB1:=Qk hb1 (Qj (.cells #[.string t,.string p,.int .u64 q,.slice a l.length c] 94) (.refl w.heap.size w));have HB1:=Zh KB1;clear hb1 KB1;go_wp2_with fail;refine (Xp p hp _ (HM.out.grow HB1.out)).mono ?_;rintro e w2 ⟨rfl,hb2⟩;rw [G2.out];obtain ⟨hc2,hf2⟩:=Z8 hb2;have hz2:w1.heap.size<=w2.heap.size:=hb2.size
   have e3:w2.cell? ⟨w.heap.size,3,none⟩=some (.slice a l.length c):=by
    rw [hc2 _ _ hz1,hc1 _ _ (by simp)];simp [go_sem]
   have e2:w2.cell? ⟨w.heap.size,2,none⟩=some (.int .u64 q):=by
    rw [hc2 _ _ hz1,hc1 _ _ (by simp)];simp [go_sem]
   have HB2:=Zh (Qk hb2 HB1.out);have hwz:w.heap.size < w2.heap.size:=by omega
   clear hb2 hc1 hf1 hc2 hf2 HB1;go_wp2_with fail;go_ret;exact ⟨Qq HR.out.symm,HB2.out⟩
  | true=>
   by_cases hq:1<=q
   ·
    by_cases hl8:l.length<=8
    ·
     have HR:Hid (jQA t p q l=okF none (l.map FB.fld)):=by
      show jQA t p q l=_;unfold jQA;rw [h1,h2,decide_eq_true hq,decide_eq_true hl8];rfl
     rw [HR.out];exact qJI t p q a c l hl8 ht hp hs w hM hF h1 h2 hq h4
    ·
     have HR:Hid (jQA t p q l=false):=by show jQA t p q l=false;unfold jQA;rw [decide_eq_false hl8];simp
     have HM:=Zh hM;have G1:=Zh h1;have G2:=Zh h2;clear hF hM hs h1 h2;go_enter Tryz.func188,Tryz.ntmps188;go_wp2_with fail;refine (qQD t ht _ (HM.out.grow (Qj _ (.refl _ _)))).mono ?_;rintro e w1 ⟨rfl,hb1⟩;rw [G1.out];obtain ⟨hc1,hf1⟩:=Z8 hb1;have hz1:w.heap.size < w1.heap.size:=(by have:=hb1.size;simp at this;omega);have KB1:=Qk hb1 (Qj (.cells #[.string t,.string p,.int .u64 q,.slice a l.length c] 94) (.refl w.heap.size w));have HB1:=Zh KB1;clear hb1 KB1;go_wp2_with fail;refine (Xp p hp _ (HM.out.grow HB1.out)).mono ?_;rintro e w2 ⟨rfl,hb2⟩;rw [G2.out];obtain ⟨hc2,hf2⟩:=Z8 hb2;have hz2:w1.heap.size<=w2.heap.size:=hb2.size
     have e3:w2.cell? ⟨w.heap.size,3,none⟩=some (.slice a l.length c):=by
      rw [hc2 _ _ hz1,hc1 _ _ (by simp)];simp [go_sem]
     have e2:w2.cell? ⟨w.heap.size,2,none⟩=some (.int .u64 q):=by
      rw [hc2 _ _ hz1,hc1 _ _ (by simp)];simp [go_sem]
     have HB2:=Zh (Qk hb2 HB1.out);have hwz:w.heap.size < w2.heap.size:=by omega
     clear hb2 hc1 hf1 hc2 hf2 HB1;go_wp2_with fail;go_ret;exact ⟨Qq HR.out.symm,HB2.out⟩
   ·
    have HR:Hid (jQA t p q l=false):=by show jQA t p q l=false;unfold jQA;rw [decide_eq_false hq];simp
    have HM:=Zh hM;have G1:=Zh h1;have G2:=Zh h2;clear hF hM hs h1 h2;go_enter Tryz.func188,Tryz.ntmps188;go_wp2_with fail;refine (qQD t ht _ (HM.out.grow (Qj _ (.refl _ _)))).mono ?_;rintro e w1 ⟨rfl,hb1⟩;rw [G1.out];obtain ⟨hc1,hf1⟩:=Z8 hb1;have hz1:w.heap.size < w1.heap.size:=(by have:=hb1.size;simp at this;omega);have KB1:=Qk hb1 (Qj (.cells #[.string t,.string p,.int .u64 q,.slice a l.length c] 94) (.refl w.heap.size w));have HB1:=Zh KB1;clear hb1 KB1;go_wp2_with fail;refine (Xp p hp _ (HM.out.grow HB1.out)).mono ?_;rintro e w2 ⟨rfl,hb2⟩;rw [G2.out];obtain ⟨hc2,hf2⟩:=Z8 hb2;have hz2:w1.heap.size<=w2.heap.size:=hb2.size
    have e3:w2.cell? ⟨w.heap.size,3,none⟩=some (.slice a l.length c):=by
     rw [hc2 _ _ hz1,hc1 _ _ (by simp)];simp [go_sem]
    have e2:w2.cell? ⟨w.heap.size,2,none⟩=some (.int .u64 q):=by
     rw [hc2 _ _ hz1,hc1 _ _ (by simp)];simp [go_sem]
    have HB2:=Zh (Qk hb2 HB1.out);have hwz:w.heap.size < w2.heap.size:=by omega
    clear hb2 hc1 hf1 hc2 hf2 HB1;go_wp2_with fail;go_ret;exact ⟨Qq HR.out.symm,HB2.out⟩
end Go.Proofs.YtcbicdencgjfiaaGreatDoor
namespace Go.Proofs.YtcbicdencgjfiaaGreatDoor
open Go.RowKit Tryst
theorem _root_.Tryst.mk_size (l:List UInt8):(ByteArray.mk l.toArray).size=l.length:=rfl
theorem infoByte:(Tryz.prog.info? 5).map (fun i=>(i.zero,i.size,i.bytes))=some (some (.int .u8 0),1,1):=by kernel_rfl
theorem qJz:(Tryz.prog.info? 79).map (·.size)=some 2:=by kernel_rfl
structure BT (T:TypeId):Prop where
 lies:liesAt Tryz.prog Tryz.prog.depth T (2 / Tryz.prog.cellsOf T) 0 79 1=true
 ne:T≠5
theorem btB:BT 79:=⟨by kernel_rfl,by decide⟩
def BldT (T:TypeId) (w:World) (B b:Nat) (l:List UInt8):Prop:=Lib.IsBuilder T 5 B b (Lib.byteCells l) w
def Kept (b:Nat) (w w':World):Prop:=Lib.OthersKept 5 (some b) w w'
theorem qJX (b:Nat) (w:World) (h0:w.cell? ⟨b,0,none⟩=some (.pointer (some ⟨b,0,none⟩))) :
  Calls Tryz.prog 201 #[.pointer (some ⟨b,0,none⟩)] w fun e w'=>e=.returned (.tuple #[])/\w'=w:=by
 obtain ⟨j,hj,_⟩:=Option.map_eq_some_iff.1 qJz;go_enter Tryz.func201,Tryz.ntmps201;go_wp2;rw [Lib.run_neq_ptr_same w _ Tryz.underlying76 hj];go_wp2;go_end0;exact ⟨rfl,rfl⟩
theorem jJ0 (b:Nat) (w:World) (h0:w.cell? ⟨b,0,none⟩=some (.pointer none)) {T:TypeId} (H:BT T) (hsh:w.shape? b=some (T,2)) (hfz:w.frozen? ⟨b,0,none⟩=false) :
  Calls Tryz.prog 201 #[.pointer (some ⟨b,0,none⟩)] w fun e w'=>e=.returned (.tuple #[])/\w'=w.setCell ⟨b,0,none⟩ (.pointer (some ⟨b,0,none⟩)):=by
 obtain ⟨j,hj,hjs⟩:=Option.map_eq_some_iff.1 qJz;go_enter Tryz.func201,Tryz.ntmps201;go_wp2;rw [Lib.run_to_unsafe w ⟨b,0,none⟩ Tryz.underlying76 Tryz.underlying288 hj (by rw [hjs];decide) hsh (Nat.zero_lt_succ 1)];simp only [Result.andThen];rw [Oper.upon_value];go_wp2;rw [run_callFunc_extern Tryz.func218 (by kernel_rfl) (by kernel_rfl) (by kernel_rfl) (e:=Extern.AbiNoEscape.same) (by kernel_rfl)];rw [Lib.run_noEscape];simp only [Result.andThen];rw [Oper.upon_value];go_wp2;rw [Lib.run_from_unsafe w ⟨b,0,none⟩ Tryz.underlying288 Tryz.underlying76 hj hsh H.lies];simp only [Result.andThen];rw [Oper.upon_value];go_wp2;go_end0;exact ⟨rfl,rfl⟩
theorem qJg {T:TypeId} (H:BT T) (B b:Nat) (bs:List Value) (w:World) (h:Lib.IsBuilder T 5 B b bs w) :
  Calls Tryz.prog 201 #[.pointer (some ⟨b,0,none⟩)] w fun e w'=>e=.returned (.tuple #[])/\Lib.BuilderAt T 5 B b (.pointer (some ⟨b,0,none⟩)) bs w'/\Below B w w'/\Kept b w w':=by
 rcases h with h | h
 · refine (jJ0 b w h.cell0 H h.shape h.frozen0).mono ?_;rintro e w' ⟨rfl,rfl⟩;exact ⟨rfl,h.used _,(Below.refl B w).setCell (p:=⟨b,0,none⟩) h.1 _,by unfold Kept;exact (Lib.OthersKept.refl 5 (some b) w).setCell ⟨b,0,none⟩ rfl _⟩
 · refine (qJX b w h.cell0).mono ?_;rintro e w' ⟨rfl,rfl⟩;exact ⟨rfl,h,Below.refl B _,Lib.OthersKept.refl _ _ _⟩
theorem kJg (s:ByteArray):Lib.strCells s=Lib.byteCells s.data.toList:=by
 simp [Lib.strCells,Lib.byteCells]
set_option maxHeartbeats 2000000 in
theorem zQ3 {T:TypeId} (H:BT T) (B b:Nat) (l:List UInt8) (s:ByteArray) (w:World) (h:BldT T w B b l) (hl:l.length<=1000000000) (hs:s.size<=1000000000) (hBw:B<=w.heap.size) :
  Calls Tryz.prog 162 #[.pointer (some ⟨b,0,none⟩),.string s] w fun e w'=>e=.returned (.tuple #[.int .i64 s.size,.nilIface])/\BldT T w' B b (l++s.data.toList)/\Below B w w'/\Kept b w w':=by
 obtain ⟨i0,hi,hz0,hz1,hz2⟩:=info_parts infoByte;have HB0:=Zh h;clear h;go_enter Tryz.func162,Tryz.ntmps162;go_wp2_with fail;refine (qJg H B b _ _ HB0.out).mono ?_;rintro e w1 ⟨rfl,h1,hb1,hk1⟩;obtain ⟨hB,v,hbk,hown,hne⟩:=h1;have c0:w1.cell? ⟨b,0,none⟩=some (.pointer (some ⟨b,0,none⟩)):=by rw [Lib.cell_of_heap hbk];rfl
 have c1:w1.cell? ⟨b,1,none⟩=some v:=by rw [Lib.cell_of_heap hbk];rfl
 have hle:(Lib.byteCells l).length<=1000000000:=by simp [Lib.byteCells];omega
 go_wp2_with (at_builtin;refine Lib.wpList_append_own_string _ rfl _ _ 77 9 rfl B 5 i0 Tryz.underlying77 Tryz.underlying9 hi hz0 hz1 hz2 _ _ _ rfl hown s rfl ?c3 ?c4 ?c5 ?_)
 case c3=>unfold maxLen;omega
 case c4=>omega
 case c5=>have:=hb1.size;omega
 intro v' w2 hown' hgrow _
 have hlt:b < w1.heap.size:=by
  rcases Nat.lt_or_ge b w1.heap.size with h' | h'
  · exact h'
  · simp [Array.getElem?_eq_none h'] at hbk
 have hb2:w2.heap[b]?=some (.cells #[.pointer (some ⟨b,0,none⟩),v] T (0,0)):=by
  rw [hgrow.block b hlt (fun e=>hne e.symm)];exact hbk
 have d0:w2.cell? ⟨b,0,none⟩=some (.pointer (some ⟨b,0,none⟩)):=by rw [Lib.cell_of_heap hb2];rfl
 have d1:w2.cell? ⟨b,1,none⟩=some v:=by rw [Lib.cell_of_heap hb2];rfl
 have f1:w2.frozen? ⟨b,1,none⟩=false:=Lib.frozen_of_heap hb2 1
 obtain ⟨ao,n',cap,rfl⟩:∃ ao n' cap,v'=.slice ao n' cap:=by
  rcases hown'.2 with ⟨hv,_⟩ | ⟨g,cap,cur,hv,_⟩
  · exact ⟨_,_,_,hv⟩
  · exact ⟨_,_,_,hv⟩
 go_wp2;go_ret2;refine ⟨rfl,.inr ?_,?_,by unfold Kept at hk1 ⊢;exact (hk1.grown hgrow (Lib.ownsRow_kind hown)).setCell ⟨b,1,none⟩ rfl _⟩
 ·
  refine Lib.BuilderAt.put (T:=T) (e:=5) hB hb2 (bs':=Lib.byteCells (l++s.data.toList)) ?_ H.ne;rw [kJg] at hown'
  simpa [Lib.byteCells] using hown'
 · exact (hb1.grown hgrow (by have:=hb1.size;omega) (fun k hk=>(hown.lt k hk).1)).setCell (p:=⟨b,1,none⟩) hB _
theorem BldT.grow {T:TypeId} {w w':World} {B b:Nat} {l:List UInt8} (h:BldT T w B b l) (hb:Below w.heap.size w w'):BldT T w' B b l:=by
 have key:∀ {p:Value} {bs:List Value},Lib.BuilderAt T 5 B b p bs w->Lib.BuilderAt T 5 B b p bs w':=by
  intro p bs h;have hlt:=h.lt;obtain ⟨hB,v,hv,hown,hne⟩:=h;exact ⟨hB,v,(hb.block b hlt).trans hv,kQr hown hb,hne⟩
 rcases h with h | h
 · exact .inl (key h)
 · exact .inr (key h)
theorem BldT.lt {T:TypeId} {w:World} {B b:Nat} {l:List UInt8} (h:BldT T w B b l):B<=b/\b < w.heap.size:=by
 rcases h with h | h
 · exact ⟨h.1,h.lt⟩
 · exact ⟨h.1,h.lt⟩
theorem Kept.refl (b:Nat) (w:World):Kept b w w:=Lib.OthersKept.refl _ _ _
theorem Kept.trans {b:Nat} {u v w:World} (h:Kept b u v) (k:Kept b v w):Kept b u w:=Lib.OthersKept.trans h k
theorem Kept.below {b:Nat} {v w:World} (h:Below v.heap.size v w):Kept b v w:=Lib.OthersKept.below (Lib.OthersKept.refl _ _ _) h
theorem Kept.box {b g:Nat} {v w:World} {cs:Array Value} {T:TypeId} (h:Kept b v w) (hg:v.heap[g]?=some (.cells cs T (0,0))) (hgb:g≠b) (hT:T≠5):w.heap[g]?=some (.cells cs T (0,0)):=
 h g _ hg (by simpa using hgb) (fun c fz e=>hT (by injection e))
end Go.Proofs.YtcbicdencgjfiaaGreatDoor
namespace Go.Proofs.YtcbicdencgjfiaaGreatDoor
open Go.RowKit Tryst
theorem fldT:SliceOf Tryz.prog 92 209 4 48:=.mk' Tryz.underlying92 (z:=.agg #[.string ⟨#[]⟩,.bool false,.int .i64 0,.string ⟨#[]⟩]) (by kernel_rfl) rfl (by decide) (by decide)
end Go.Proofs.YtcbicdencgjfiaaGreatDoor
namespace Go.Proofs.YtcbicdencgjfiaaGreatDoor
open Go.RowKit Tryst
theorem cells_one (l:List FB):∀ u∈l.flatMap FB.cells,u.oneCell'=true:=by
 intro u hu;obtain ⟨f,_,hf⟩:=List.mem_flatMap.1 hu;simp [FB.cells] at hf
 rcases hf with rfl | rfl | rfl | rfl<;>rfl
end Go.Proofs.YtcbicdencgjfiaaGreatDoor
namespace Go.Proofs.YtcbicdencgjfiaaGreatDoor
open Go.RowKit Tryst
abbrev Bld (w:World) (B b:Nat) (l:List UInt8):Prop:=BldT 79 w B b l
theorem Zf (B b:Nat) (l:List UInt8) (s:ByteArray) (w:World) (h:Bld w B b l) (hl:l.length<=1000000000) (hs:s.size<=1000000000) (hBw:B<=w.heap.size) :
  Calls Tryz.prog 162 #[.pointer (some ⟨b,0,none⟩),.string s] w fun e w'=>e=.returned (.tuple #[.int .i64 s.size,.nilIface])/\Bld w' B b (l++s.data.toList)/\Below B w w'/\Kept b w w':=zQ3 btB B b l s w h hl hs hBw
theorem Bld.grow {w w':World} {B b:Nat} {l:List UInt8} (h:Bld w B b l) (hb:Below w.heap.size w w'):Bld w' B b l:=BldT.grow h hb
theorem Bld.lt {w:World} {B b:Nat} {l:List UInt8} (h:Bld w B b l):B<=b/\b < w.heap.size:=BldT.lt h
def evE (t p:ByteArray) (q:Int) (l:List FB):Ev:=⟨t.data.toList,p.data.toList,q.toNat,l.map FB.fld⟩
theorem xQl (t p:ByteArray) (q:Int) (l:List FB) (h0:0<=q):jQA t p q l=(evE t p q l).may:=by
 unfold jQA evE Ev.may;simp only [List.length_map]
 congr 3
 by_cases h:1<=q
 · rw [decide_eq_true h,decide_eq_true (by omega)]
 · rw [decide_eq_false h,decide_eq_false (by omega)]
def headL (t p:ByteArray) (q:Int) (n:Nat):List UInt8:=jQM t.data.toList++jQM p.data.toList++pack q.toNat++pack n
