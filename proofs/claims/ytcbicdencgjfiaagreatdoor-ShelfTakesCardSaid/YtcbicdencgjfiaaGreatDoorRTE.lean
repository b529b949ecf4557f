import Derived.IntWalk
import Derived.Test.YtcbicdencgjfiaaGreatDoorRMeet5
import Derived.Test.YtcbicdencgjfiaaGreatDoorRdAB
set_option linter.all false
set_option maxHeartbeats 400000
set_option maxRecDepth 20000
namespace Go.Proofs.YtcbicdencgjfiaaGreatDoor
open Go.RowKit Tryst
def vYP (w W:World) (l:List FB) (i:Value) (wr:World):Prop:=∃ k:Nat,k<=l.length/\i=.int .i64 k/\Hid (okF none (l.map FB.fld)=okF (qQs l k) ((l.drop k).map FB.fld))/\Hid (Below W.heap.size W wr)/\W.heap.size<=wr.heap.size
set_option maxHeartbeats 4000000 in
theorem vYO (t p:ByteArray) (q:Int) (a:Option Addr) (c:Nat) (l:List FB) (hl:l.length<=1000000000) (ht:t.size<=1500000) (hp:p.size<=1500000) (hs:∀ f∈l,f.name.size<=1500000/\f.s.size<=1000000000) (w:World) (hF:Flds w a l)
  (h0:0<=q) (h4:q<=18446744073709551615) :
  Calls Tryz.prog 149 #[.agg #[.string t,.string p,.int .u64 q,.slice a l.length c]] w fun e w'=>e=.returned (.bool (jQA t p q l))/\Below w.heap.size w w':=by
 have HF:=Zh hF;have HS:=Zh hs;clear hF hs;go_enter Tryz.func149,Tryz.ntmps149;go_wp2_with fail;obtain ⟨W,hW⟩:∃ W,W=w.alloc (.cells #[.string t,.string p,.int .u64 q,.slice a l.length c] 94):=⟨_,rfl⟩;have hE:EAt W w.heap.size t p q (.slice a l.length c):=by rw [hW];constructor<;>simp [go_sem]
 have hKB:Below w.heap.size w W:=by rw [hW];exact Qj _ (.refl _ _)
 have hwz:w.heap.size < W.heap.size:=by rw [hW];simp
 have HB2:=Zh hKB;have EE:=Zh hE;rw [<- hW];clear hKB hE hW;go_loopw [3] (fun i wr=>vYP w W l i wr) (fun i _=>l.length - (intOf i).toNat)
 case atStart=>exact ⟨0,by omega,rfl,rfl,.refl _ _,Nat.le_refl _⟩
 case round=>
  obtain ⟨k,hk,rfl,HO,HB,hz⟩:=hrel;obtain ⟨wo,rfl⟩:∃ wo,wo=wr:=⟨_,rfl⟩;have KB:=Zh (HB2.out.trans (HB.out.mono HB2.out.size));obtain ⟨c0,c1,c2,c3,c4,c5,c6,c7⟩:=EE.out.growB hwz HB.out;have hwo:w.heap.size < wo.heap.size:=by omega
  by_cases hlt:k < l.length
  ·
   clear c0 c1 c2 c4 c5 c6 c7;have HF2:=Zh (HF.out.grow KB.out);obtain ⟨b,o,ha,hb⟩:=HF2.out.head hlt;subst ha;obtain ⟨_,f0,f1,f2,f3⟩:=HF2.out.at hlt;obtain ⟨s1,s2⟩:=HS.out l[k] (List.getElem_mem hlt);have hst:=zJv hlt;have x1:(k:Int) < l.length:=by omega
   have x2:(0:Int)<=k:=by omega
   cases hfb:Q5 l[k].name.data.toList with
   | false=>
    have FB0:=Zh hfb
    have HR:Hid (jQA t p q l=false):=by
     show _=false;unfold jQA;rw [HO.out,hst,hfb];simp
    clear hfb hst;go_wp2_with fail;refine Tryst2.wp_region_grows [.is (.pointer (some ⟨w.heap.size,3,none⟩)),.is (.slice (some ⟨b,o,none⟩) l.length c),.is (.int .i64 k),.is (.pointer (some ⟨b,o+k*4,none⟩)),.is (.pointer (some ⟨b,o+k*4,none⟩)),.is (.string l[k].name),.is (.bool false),.is (.bool true),.is (.bool true),.is undef,.is undef,.is undef,.is undef,.is undef,.is undef,.is undef,.is undef,.is (.bool true),.is (.bool true),.is undef,.is undef,.is undef,.is undef,.is undef,.is undef,.is undef,.is undef,.is undef,.is undef,.is undef,.is undef,.is undef,.is undef,.is undef,.is undef,.is undef,.is undef,.is (.bool true)] (by kernel_rfl) (by kernel_rfl) ?obl ?fin
    case obl=>
     simp only [YA,YL,YO,YR,Op.operands,Call.operands]
     repeat' apply And.intro
     any_goals trivial
     all_goals (intro tv w' hg hold hd;(try simp at hold);obtain ⟨hcg,hfg,hsg⟩:=YG hg)
     all_goals first | (go_simp;done) | (go_simp;rw [if_neg (by omega)];exact ⟨.refl _,rfl⟩) | (obtain ⟨⟨g,hvg,hgg,hcell⟩,_⟩:=hd;have hcell0:=hcell 0 (by decide);simp at hcell0;go_simp;done) | (go_simp;refine (J1 _ (by assumption) _).mono ?_;rintro e w3 ⟨rfl,hb3⟩;exact ⟨hb3,by rw [FB0.out]⟩) | (go_simp;refine (kYW _ _ _ (by assumption) _).mono ?_;rintro e w3 ⟨rfl,hb3⟩;exact ⟨hb3,by rw [VB.out]⟩) | (go_simp;omega)
    case fin=>
     intro tv w' hg hR;simp only [YF,YL,YR] at hR;obtain ⟨hcg,hfg,hsg⟩:=YG hg;simp only [YP,YL,Act.put,hR];have KB3:=Zh (Tryst2.Grow.below hg KB.out);clear hg hR hcg hfg hsg;go_wp2_with fail;go_ret;exact ⟨Qq HR.out.symm,KB3.out⟩
   | true=>
    have FB0:=Zh hfb;cases hvb:V.mayB ⟨l[k].num,l[k].n,l[k].s.data.toList⟩ with
    | false=>
     have VB:=Zh hvb
     have HR:Hid (jQA t p q l=false):=by
      show _=false;unfold jQA;rw [HO.out,hst,hfb,hvb];simp
     clear hfb hst hvb;go_wp2_with fail;refine Tryst2.wp_region_grows [.is (.pointer (some ⟨w.heap.size,3,none⟩)),.is (.slice (some ⟨b,o,none⟩) l.length c),.is (.int .i64 k),.is (.pointer (some ⟨b,o+k*4,none⟩)),.is (.pointer (some ⟨b,o+k*4,none⟩)),.is (.string l[k].name),.is (.bool true),.is (.bool false),.is (.bool false),.is (.pointer (some ⟨w.heap.size,3,none⟩)),.is (.slice (some ⟨b,o,none⟩) l.length c),.is (.int .i64 k),.is (.pointer (some ⟨b,o+k*4,none⟩)),.is (.pointer (some ⟨b,o+k*4+1,none⟩)),.is (.agg #[.bool l[k].num,.int .i64 l[k].n,.string l[k].s]),.is (.bool false),.is (.bool true),.is (.bool true),.is (.bool true),.is undef,.is undef,.is undef,.is undef,.is undef,.is undef,.is undef,.is undef,.is undef,.is undef,.is undef,.is undef,.is undef,.is undef,.is undef,.is undef,.is undef,.is undef,.is (.bool true)] (by kernel_rfl) (by kernel_rfl) ?obl ?fin
     case obl=>
      simp only [YA,YL,YO,YR,Op.operands,Call.operands]
      repeat' apply And.intro
      any_goals trivial
      all_goals (intro tv w' hg hold hd;(try simp at hold);obtain ⟨hcg,hfg,hsg⟩:=YG hg)
      all_goals first | (go_simp;done) | (go_simp;rw [if_neg (by omega)];exact ⟨.refl _,rfl⟩) | (obtain ⟨⟨g,hvg,hgg,hcell⟩,_⟩:=hd;have hcell0:=hcell 0 (by decide);simp at hcell0;go_simp;done) | (go_simp;refine (J1 _ (by assumption) _).mono ?_;rintro e w3 ⟨rfl,hb3⟩;exact ⟨hb3,by rw [FB0.out]⟩) | (go_simp;refine (kYW _ _ _ (by assumption) _).mono ?_;rintro e w3 ⟨rfl,hb3⟩;exact ⟨hb3,by rw [VB.out]⟩) | (go_simp;omega)
     case fin=>
      intro tv w' hg hR;simp only [YF,YL,YR] at hR;obtain ⟨hcg,hfg,hsg⟩:=YG hg;simp only [YP,YL,Act.put,hR];have KB3:=Zh (Tryst2.Grow.below hg KB.out);clear hg hR hcg hfg hsg;go_wp2_with fail;go_ret;exact ⟨Qq HR.out.symm,KB3.out⟩
    | true=>
     have VB:=Zh hvb;rw [hfb,hvb] at hst
     by_cases hk0:k=0
     ·
      have HR:Hid (okF none (l.map FB.fld)=okF (qQs l (k+1)) ((l.drop (k+1)).map FB.fld)):=by
       show okF none _=_;rw [HO.out,hst];subst hk0;rfl
      have z0:(k:Int)<=0:=by omega
      clear hfb hst hvb HO hk0;go_wp2_with fail;refine Tryst2.wp_region_grows [.is (.pointer (some ⟨w.heap.size,3,none⟩)),.is (.slice (some ⟨b,o,none⟩) l.length c),.is (.int .i64 k),.is (.pointer (some ⟨b,o+k*4,none⟩)),.is (.pointer (some ⟨b,o+k*4,none⟩)),.is (.string l[k].name),.is (.bool true),.is (.bool false),.is (.bool false),.is (.pointer (some ⟨w.heap.size,3,none⟩)),.is (.slice (some ⟨b,o,none⟩) l.length c),.is (.int .i64 k),.is (.pointer (some ⟨b,o+k*4,none⟩)),.is (.pointer (some ⟨b,o+k*4+1,none⟩)),.is (.agg #[.bool l[k].num,.int .i64 l[k].n,.string l[k].s]),.is (.bool true),.is (.bool false),.is (.bool false),.is (.bool false),.is (.int .i64 k),.is (.bool false),.is (.bool false),.is undef,.is undef,.is undef,.is undef,.is undef,.is undef,.is undef,.is undef,.is undef,.is undef,.is undef,.is undef,.is undef,.is undef,.is (.bool false),.is (.bool false)] (by kernel_rfl) (by kernel_rfl) ?obl ?fin
      case obl=>
       simp only [YA,YL,YO,YR,Op.operands,Call.operands]
       repeat' apply And.intro
       any_goals trivial
       all_goals (intro tv w' hg hold hd;(try simp at hold);obtain ⟨hcg,hfg,hsg⟩:=YG hg)
       all_goals first | (go_simp;done) | (go_simp;rw [if_neg (by omega)];exact ⟨.refl _,rfl⟩) | (obtain ⟨⟨g,hvg,hgg,hcell⟩,_⟩:=hd;have hcell0:=hcell 0 (by decide);simp at hcell0;go_simp;done) | (go_simp;refine (J1 _ (by assumption) _).mono ?_;rintro e w3 ⟨rfl,hb3⟩;exact ⟨hb3,by rw [FB0.out]⟩) | (go_simp;refine (kYW _ _ _ (by assumption) _).mono ?_;rintro e w3 ⟨rfl,hb3⟩;exact ⟨hb3,by rw [VB.out]⟩) | (go_simp;omega)
      case fin=>
       intro tv w' hg hR;simp only [YF,YL,YR] at hR;obtain ⟨hcg,hfg,hsg⟩:=YG hg;simp only [YP,YL,Act.put,hR];have HBR:=Zh (Tryst2.Grow.below hg HB.out);have hzr:W.heap.size<=w'.heap.size:=(by (try simp at hsg);omega);clear hg hR hcg hfg hsg;go_wp2_with fail;go_roundw
       case rel=>exact ⟨k+1,by omega,by go_num,HR,HBR,hzr⟩
       case measure=>simp [intOf]<;>omega
     ·
      have hkp:k - 1 < l.length:=by omega
      obtain ⟨_,g0,g1,g2,g3⟩:=HF2.out.at hkp
      have hpv:qQs l k=some l[k - 1].name.data.toList:=by
       unfold qQs;rw [if_neg hk0,List.getElem?_eq_getElem hkp];rfl
      have z0:(0:Int) < k:=by omega
      have z5:(1:Int)<=k:=by omega
      have z1:((k:Int) - 1).toNat=k - 1:=by omega
      have z2:IntKind.i64.wrap ((k:Int) - 1)=(k:Int) - 1:=IntWalk.i64_in _ (by omega);have z3:(0:Int)<=(k:Int) - 1:=by omega
      have z4:(k:Int) - 1 < l.length:=by omega
      rw [hpv] at hst;cases hlb:Op.bytesLess l[k - 1].name.data.toList l[k].name.data.toList with
      | true=>
       have HR:Hid (okF none (l.map FB.fld)=okF (qQs l (k+1)) ((l.drop (k+1)).map FB.fld)):=by
        show okF none _=_;rw [HO.out,hpv,hst];simp [hlb]
       have d1:Op.bytesLess l[k - 1].name.toList l[k].name.toList=true:=by rw [Qp,Qp];exact hlb
       clear hfb hst hvb HO hlb hpv;go_wp2_with fail;refine Tryst2.wp_region_grows [.is (.pointer (some ⟨w.heap.size,3,none⟩)),.is (.slice (some ⟨b,o,none⟩) l.length c),.is (.int .i64 k),.is (.pointer (some ⟨b,o+k*4,none⟩)),.is (.pointer (some ⟨b,o+k*4,none⟩)),.is (.string l[k].name),.is (.bool true),.is (.bool false),.is (.bool false),.is (.pointer (some ⟨w.heap.size,3,none⟩)),.is (.slice (some ⟨b,o,none⟩) l.length c),.is (.int .i64 k),.is (.pointer (some ⟨b,o+k*4,none⟩)),.is (.pointer (some ⟨b,o+k*4+1,none⟩)),.is (.agg #[.bool l[k].num,.int .i64 l[k].n,.string l[k].s]),.is (.bool true),.is (.bool false),.is (.bool false),.is (.bool false),.is (.int .i64 k),.is (.bool true),.is (.bool true),.is (.pointer (some ⟨w.heap.size,3,none⟩)),.is (.slice (some ⟨b,o,none⟩) l.length c),.is (.int .i64 k),.is (.int .i64 ((k:Int) - 1)),.is (.pointer (some ⟨b,o+(k - 1)*4,none⟩)),.is (.pointer (some ⟨b,o+(k - 1)*4,none⟩)),.is (.string l[k - 1].name),.is (.pointer (some ⟨w.heap.size,3,none⟩)),.is (.slice (some ⟨b,o,none⟩) l.length c),.is (.int .i64 k),.is (.pointer (some ⟨b,o+k*4,none⟩)),.is (.pointer (some ⟨b,o+k*4,none⟩)),.is (.string l[k].name),.is (.bool false),.is (.bool false),.is (.bool false)] (by kernel_rfl) (by kernel_rfl) ?obl ?fin
       case obl=>
        simp only [YA,YL,YO,YR,Op.operands,Call.operands]
        repeat' apply And.intro
        any_goals trivial
        all_goals (intro tv w' hg hold hd;(try simp at hold);obtain ⟨hcg,hfg,hsg⟩:=YG hg)
        all_goals first | (go_simp;done) | (go_simp;rw [if_neg (by omega)];exact ⟨.refl _,rfl⟩) | (obtain ⟨⟨g,hvg,hgg,hcell⟩,_⟩:=hd;have hcell0:=hcell 0 (by decide);simp at hcell0;go_simp;done) | (go_simp;refine (J1 _ (by assumption) _).mono ?_;rintro e w3 ⟨rfl,hb3⟩;exact ⟨hb3,by rw [FB0.out]⟩) | (go_simp;refine (kYW _ _ _ (by assumption) _).mono ?_;rintro e w3 ⟨rfl,hb3⟩;exact ⟨hb3,by rw [VB.out]⟩) | (go_simp;omega)
       case fin=>
        intro tv w' hg hR;simp only [YF,YL,YR] at hR;obtain ⟨hcg,hfg,hsg⟩:=YG hg;simp only [YP,YL,Act.put,hR];have HBR:=Zh (Tryst2.Grow.below hg HB.out);have hzr:W.heap.size<=w'.heap.size:=(by (try simp at hsg);omega);clear hg hR hcg hfg hsg z1 z2;go_wp2_with fail;go_roundw
        case rel=>exact ⟨k+1,by omega,by go_num,HR,HBR,hzr⟩
        case measure=>simp [intOf]<;>omega
      | false=>
       have HR:Hid (jQA t p q l=false):=by
        show _=false;unfold jQA;rw [HO.out,hpv,hst];simp [hlb]
       have d1:Op.bytesLess l[k - 1].name.toList l[k].name.toList=false:=by rw [Qp,Qp];exact hlb
       clear hfb hst hvb HO hlb hpv;go_wp2_with fail;refine Tryst2.wp_region_grows [.is (.pointer (some ⟨w.heap.size,3,none⟩)),.is (.slice (some ⟨b,o,none⟩) l.length c),.is (.int .i64 k),.is (.pointer (some ⟨b,o+k*4,none⟩)),.is (.pointer (some ⟨b,o+k*4,none⟩)),.is (.string l[k].name),.is (.bool true),.is (.bool false),.is (.bool false),.is (.pointer (some ⟨w.heap.size,3,none⟩)),.is (.slice (some ⟨b,o,none⟩) l.length c),.is (.int .i64 k),.is (.pointer (some ⟨b,o+k*4,none⟩)),.is (.pointer (some ⟨b,o+k*4+1,none⟩)),.is (.agg #[.bool l[k].num,.int .i64 l[k].n,.string l[k].s]),.is (.bool true),.is (.bool false),.is (.bool false),.is (.bool false),.is (.int .i64 k),.is (.bool true),.is (.bool true),.is (.pointer (some ⟨w.heap.size,3,none⟩)),.is (.slice (some ⟨b,o,none⟩) l.length c),.is (.int .i64 k),.is (.int .i64 ((k:Int) - 1)),.is (.pointer (some ⟨b,o+(k - 1)*4,none⟩)),.is (.pointer (some ⟨b,o+(k - 1)*4,none⟩)),.is (.string l[k - 1].name),.is (.pointer (some ⟨w.heap.size,3,none⟩)),.is (.slice (some ⟨b,o,none⟩) l.length c),.is (.int .i64 k),.is (.pointer (some ⟨b,o+k*4,none⟩)),.is (.pointer (some ⟨b,o+k*4,none⟩)),.is (.string l[k].name),.is (.bool true),.is (.bool true),.is (.bool true)] (by kernel_rfl) (by kernel_rfl) ?obl ?fin
       case obl=>
        simp only [YA,YL,YO,YR,Op.operands,Call.operands]
        repeat' apply And.intro
        any_goals trivial
        all_goals (intro tv w' hg hold hd;(try simp at hold);obtain ⟨hcg,hfg,hsg⟩:=YG hg)
        all_goals first | (go_simp;done) | (go_simp;rw [if_neg (by omega)];exact ⟨.refl _,rfl⟩) | (obtain ⟨⟨g,hvg,hgg,hcell⟩,_⟩:=hd;have hcell0:=hcell 0 (by decide);simp at hcell0;go_simp;done) | (go_simp;refine (J1 _ (by assumption) _).mono ?_;rintro e w3 ⟨rfl,hb3⟩;exact ⟨hb3,by rw [FB0.out]⟩) | (go_simp;refine (kYW _ _ _ (by assumption) _).mono ?_;rintro e w3 ⟨rfl,hb3⟩;exact ⟨hb3,by rw [VB.out]⟩) | (go_simp;omega)
       case fin=>
        intro tv w' hg hR;simp only [YF,YL,YR] at hR;obtain ⟨hcg,hfg,hsg⟩:=YG hg;simp only [YP,YL,Act.put,hR];have KB3:=Zh (Tryst2.Grow.below hg KB.out);clear hg hR hcg hfg hsg z1 z2;go_wp2_with fail;go_ret;exact ⟨Qq HR.out.symm,KB3.out⟩
  ·
   have hok:okF none (l.map FB.fld)=true:=by
    rw [HO.out,List.drop_eq_nil_of_le (by omega)];cases qQs l k<;>rfl
   have HG:Hid (jQA t p q l=(Yx t.data.toList&&Q5 p.data.toList&&decide (1<=q)&&decide (l.length<=8))):=by
    show _=_;unfold jQA;rw [hok,Bool.and_true]
   clear HO hok;cases h1:Yx t.data.toList with
   | false=>
    have HR:Hid (jQA t p q l=false):=by show _=_;rw [HG.out,h1];rfl
    have G1:=Zh h1;clear h1;go_wp2_with fail;refine (Y2 t ht wo).mono ?_;rintro e w3 ⟨rfl,hb3⟩;rw [G1.out];obtain ⟨d0,d1,d2,d3,d4,d5,d6,d7⟩:=(EAt.mk c0 c1 c2 c3 c4 c5 c6 c7).grow hwo hb3;have hw3:w.heap.size < w3.heap.size:=Nat.lt_of_lt_of_le hwo hb3.size;have KB1:=Zh (Qk hb3 KB.out);clear hb3 c0 c1 c2 c3 c4 c5 c6 c7;go_wp2_with fail;go_ret;exact ⟨Qq HR.out.symm,KB1.out⟩
   | true=>
    have G1:=Zh h1;cases h2:Q5 p.data.toList with
    | false=>
     have HR:Hid (jQA t p q l=false):=by show _=_;rw [HG.out,h1,h2];rfl
     have G2:=Zh h2;clear h1 h2;go_wp2_with fail;refine (Y2 t ht wo).mono ?_;rintro e w3 ⟨rfl,hb3⟩;rw [G1.out];obtain ⟨d0,d1,d2,d3,d4,d5,d6,d7⟩:=(EAt.mk c0 c1 c2 c3 c4 c5 c6 c7).grow hwo hb3;have hw3:w.heap.size < w3.heap.size:=Nat.lt_of_lt_of_le hwo hb3.size;have KB1:=Zh (Qk hb3 KB.out);clear hb3 c0 c1 c2 c3 c4 c5 c6 c7;go_wp2_with fail;refine (J1 p hp w3).mono ?_;rintro e w4 ⟨rfl,hb4⟩;rw [G2.out];obtain ⟨e0,e1,e2,e3,e4,e5,e6,e7⟩:=(EAt.mk d0 d1 d2 d3 d4 d5 d6 d7).grow hw3 hb4;have hw4:w.heap.size < w4.heap.size:=Nat.lt_of_lt_of_le hw3 hb4.size;have KB2:=Zh (Qk hb4 KB1.out);clear hb4 d0 d1 d2 d3 d4 d5 d6 d7;go_wp2_with fail;go_ret;exact ⟨Qq HR.out.symm,KB2.out⟩
    | true=>
     have G2:=Zh h2
     by_cases hq:1<=q
     ·
      by_cases hl8:l.length<=8
      ·
       have HR:Hid (jQA t p q l=true):=by show _=_;rw [HG.out,h1,h2,decide_eq_true hq,decide_eq_true hl8];rfl
       have y1:decide (0 < q)=true:=by simp;omega
       have y2:decide ((l.length:Int)<=8)=true:=by simp;omega
       clear h1 h2;go_wp2_with fail;refine (Y2 t ht wo).mono ?_;rintro e w3 ⟨rfl,hb3⟩;rw [G1.out];obtain ⟨d0,d1,d2,d3,d4,d5,d6,d7⟩:=(EAt.mk c0 c1 c2 c3 c4 c5 c6 c7).grow hwo hb3;have hw3:w.heap.size < w3.heap.size:=Nat.lt_of_lt_of_le hwo hb3.size;have KB1:=Zh (Qk hb3 KB.out);clear hb3 c0 c1 c2 c3 c4 c5 c6 c7;go_wp2_with fail;refine (J1 p hp w3).mono ?_;rintro e w4 ⟨rfl,hb4⟩;rw [G2.out];obtain ⟨e0,e1,e2,e3,e4,e5,e6,e7⟩:=(EAt.mk d0 d1 d2 d3 d4 d5 d6 d7).grow hw3 hb4;have hw4:w.heap.size < w4.heap.size:=Nat.lt_of_lt_of_le hw3 hb4.size;have KB2:=Zh (Qk hb4 KB1.out);clear hb4 d0 d1 d2 d3 d4 d5 d6 d7;go_wp2_with fail;go_ret;exact ⟨Qq (by rw [HR.out]),KB2.out⟩
      ·
       have HR:Hid (jQA t p q l=false):=by show _=_;rw [HG.out,decide_eq_false hl8,Bool.and_false]
       have y1:decide (0 < q)=true:=by simp;omega
       have y2:decide ((l.length:Int)<=8)=false:=by simp;omega
       clear h1 h2;go_wp2_with fail;refine (Y2 t ht wo).mono ?_;rintro e w3 ⟨rfl,hb3⟩;rw [G1.out];obtain ⟨d0,d1,d2,d3,d4,d5,d6,d7⟩:=(EAt.mk c0 c1 c2 c3 c4 c5 c6 c7).grow hwo hb3;have hw3:w.heap.size < w3.heap.size:=Nat.lt_of_lt_of_le hwo hb3.size;have KB1:=Zh (Qk hb3 KB.out);clear hb3 c0 c1 c2 c3 c4 c5 c6 c7;go_wp2_with fail;refine (J1 p hp w3).mono ?_;rintro e w4 ⟨rfl,hb4⟩;rw [G2.out];obtain ⟨e0,e1,e2,e3,e4,e5,e6,e7⟩:=(EAt.mk d0 d1 d2 d3 d4 d5 d6 d7).grow hw3 hb4;have hw4:w.heap.size < w4.heap.size:=Nat.lt_of_lt_of_le hw3 hb4.size;have KB2:=Zh (Qk hb4 KB1.out);clear hb4 d0 d1 d2 d3 d4 d5 d6 d7;go_wp2_with fail;go_ret;exact ⟨Qq HR.out.symm,KB2.out⟩
     ·
      have HR:Hid (jQA t p q l=false):=by show _=_;rw [HG.out,decide_eq_false hq];simp
      have y1:decide (0 < q)=false:=by simp;omega
      clear h1 h2;go_wp2_with fail;refine (Y2 t ht wo).mono ?_;rintro e w3 ⟨rfl,hb3⟩;rw [G1.out];obtain ⟨d0,d1,d2,d3,d4,d5,d6,d7⟩:=(EAt.mk c0 c1 c2 c3 c4 c5 c6 c7).grow hwo hb3;have hw3:w.heap.size < w3.heap.size:=Nat.lt_of_lt_of_le hwo hb3.size;have KB1:=Zh (Qk hb3 KB.out);clear hb3 c0 c1 c2 c3 c4 c5 c6 c7;go_wp2_with fail;refine (J1 p hp w3).mono ?_;rintro e w4 ⟨rfl,hb4⟩;rw [G2.out];obtain ⟨e0,e1,e2,e3,e4,e5,e6,e7⟩:=(EAt.mk d0 d1 d2 d3 d4 d5 d6 d7).grow hw3 hb4;have hw4:w.heap.size < w4.heap.size:=Nat.lt_of_lt_of_le hw3 hb4.size;have KB2:=Zh (Qk hb4 KB1.out);clear hb4 d0 d1 d2 d3 d4 d5 d6 d7;go_wp2_with fail;go_ret;exact ⟨Qq HR.out.symm,KB2.out⟩
end Go.Proofs.YtcbicdencgjfiaaGreatDoor
namespace Tryst
open Go Go.Lib
theorem kYk (l:List UInt8) (most a e:Nat) (h:e≠0):jQJ l most (a,e)=([],(a,e)):=by
 unfold jQJ;rw [kJd l most a e h];rw [if_pos h]
theorem kYw (l:List UInt8) (a e:Nat) (h:e≠0):rval l (a,e)=(V.zero,(a,e)):=by unfold rval;rw [if_pos h]
theorem zYk (l:List UInt8) (a e:Nat) (h:e≠0):(rfld l (a,e)).2=(a,e):=by
 unfold rfld;rw [kYk l 16 a e h];show (rval l (a,e)).2=_;rw [kYw l a e h]
theorem kYT (l:List UInt8):∀ (n a e:Nat),e≠0->(jQy l n (a,e)).2=(a,e)
 | 0,a,e,_=>rfl
 | n+1,a,e,h=>by
  show (jQy l n (rfld l (a,e)).2).2=_;rw [zYk l a e h];exact kYT l n a e h
def kYX (l:List UInt8) (most a:Nat):List UInt8 × Nat × Nat:=if (jQJ l most (a,0)).2.2≠0 then ([],0,(jQJ l most (a,0)).2.2) else ((jQJ l most (a,0)).1,(jQJ l most (a,0)).2.1,0)
end Tryst
namespace Go.Proofs.YtcbicdencgjfiaaGreatDoor
open Go.RowKit Tryst
def WordR (w:World) (p:List UInt8 × Nat × Nat) (e:Ending) (w':World):Prop:=e=.returned (.tuple #[.string ⟨p.1.toArray⟩,.int .i64 p.2.1,.int .i64 p.2.2])/\Below w.heap.size w w'
theorem vYQ (s:ByteArray) (hs:s.size<=1000000000) (a most:Nat) (ha:a<=s.size) (hm:most<=1500000) (w:World) :
  Calls Tryz.prog 146 #[.string s,.int .i64 a,.int .i64 most] w fun e w'=>WordR w (kYX s.data.toList most a) e w':=by
 have hxz:(s.extract a s.size).size<=1000000000:=by rw [ByteArray.size_extract];omega
 have x1:(a:Int)<=s.size:=by omega
 have x2:(0:Int)<=a:=by omega
 obtain ⟨p,hp⟩:∃ p,kYX s.data.toList most a=p:=⟨_,rfl⟩;rw [hp];have HP:=Zh hp;have hu:=Z4 (s.extract a s.size) hxz;clear hp
 rcases jJs s most a ha with ⟨n,k,hn,hnm,hak,hr⟩ | ⟨n,k,hn,hnm,hn64,hr⟩ | ⟨hn,hr⟩ | ⟨hn,hr⟩
 ·
  rw [hn] at hu;have HU:=Zh hu
  by_cases hlen:s.size - (a+k) < n
  ·
   obtain rfl:p=([],0,3):=HP.out.symm.trans (by
    have e:jQJ s.data.toList most (a,0)=([],(a+k,3)):=by
     unfold jQJ;rw [hr];dsimp only;rw [if_neg (by simp),if_pos (by rw [Qx];exact hlen)]
    unfold kYX;rw [e];rfl)
   clear hu hn hr HP;have y1:¬ (most:Int) < n:=by omega
   have y2:(s.size:Int) < (a:Int)+k+n:=by omega
   go_enter Tryz.func146,Tryz.ntmps146;go_wp2_with fail;refine (HU.out _).mono ?_;rintro e w1 ⟨rfl,hb1⟩;go_wp2_with fail
   go_ret3
   exact ⟨rfl,hb1⟩
  ·
   obtain rfl:p=((s.data.toList.drop (a+k)).take n,a+k+n,0):=HP.out.symm.trans (by
    have e:jQJ s.data.toList most (a,0)=((s.data.toList.drop (a+k)).take n,(a+k+n,0)):=by
     unfold jQJ;rw [hr];dsimp only;rw [if_neg (by simp),if_neg (by rw [Qx];exact hlen)]
    unfold kYX;rw [e];rfl)
   clear hu hn hr HP;have y1:¬ (most:Int) < n:=by omega
   have y2:¬ (s.size:Int) < (a:Int)+k+n:=by omega
   have y3:(s.extract (a+k) (a+k+n))=(⟨((s.data.toList.drop (a+k)).take n).toArray⟩:ByteArray):=Xk (by rw [zQ7,Jb,List.drop_take];congr 1;omega);have H3:=Zh y3;clear y3;go_enter Tryz.func146,Tryz.ntmps146;go_wp2_with fail;refine (HU.out _).mono ?_;rintro e w1 ⟨rfl,hb1⟩;go_wp2_with fail
   go_ret3
   refine ⟨?_,hb1⟩;show _=Ending.returned (.tuple #[.string ⟨((s.data.toList.drop (a+k)).take n).toArray⟩,.int .i64 ((a+k+n:Nat):Int),.int .i64 0]);rw [<- H3.out];rfl
 ·
  obtain rfl:p=([],0,2):=HP.out.symm.trans (by
   have e:jQJ s.data.toList most (a,0)=([],(a,2)):=by unfold jQJ;rw [hr];rfl
   unfold kYX;rw [e];rfl)
  rw [hn] at hu;have HU:=Zh hu;clear hu hn hr HP;have y1:(most:Int) < n:=by omega
  go_enter Tryz.func146,Tryz.ntmps146;go_wp2_with fail;refine (HU.out _).mono ?_;rintro e w1 ⟨rfl,hb1⟩;go_wp2_with fail
  go_ret3
  exact ⟨rfl,hb1⟩
 ·
  obtain rfl:p=([],0,2):=HP.out.symm.trans (by
   have e:jQJ s.data.toList most (a,0)=([],(a,2)):=by unfold jQJ;rw [hr];rfl
   unfold kYX;rw [e];rfl)
  rw [hn] at hu;have HU:=Zh hu;clear hu hn hr HP;go_enter Tryz.func146,Tryz.ntmps146;go_wp2_with fail;refine (HU.out _).mono ?_;rintro e w1 ⟨rfl,hb1⟩;go_wp2_with fail
  go_ret3
  exact ⟨rfl,hb1⟩
 ·
  obtain rfl:p=([],0,3):=HP.out.symm.trans (by
   have e:jQJ s.data.toList most (a,0)=([],(a,3)):=by unfold jQJ;rw [hr];rfl
   unfold kYX;rw [e];rfl)
  rw [hn] at hu;have HU:=Zh hu;clear hu hn hr HP;go_enter Tryz.func146,Tryz.ntmps146;go_wp2_with fail;refine (HU.out _).mono ?_;rintro e w1 ⟨rfl,hb1⟩;go_wp2_with fail
  go_ret3
  exact ⟨rfl,hb1⟩
end Go.Proofs.YtcbicdencgjfiaaGreatDoor
namespace Tryst
open Go Go.Lib
theorem kYz {l:List UInt8} {a e:Nat} (h:(rE5 l).2=(a,e)) (he:e≠0):qQB l=(Ev.zero,0,e):=by
 unfold qQB;rw [if_pos (by rw [h];exact he),h]
theorem zY0 {l:List UInt8} {a e:Nat} (h:(rE4 l).2=(a,e)) (he:e≠0):qQB l=(Ev.zero,0,e):=
 kYz (a:=a) (by unfold rE5;rw [h];exact kYT l _ a e he) he
theorem zYL {l:List UInt8} {a e:Nat} (h:(rE3 l).2=(a,e)) (he:e≠0):qQB l=(Ev.zero,0,e):=
 zY0 (a:=a) (by unfold rE4;rw [h,kJd l 8 a e he]) he
theorem zYS {l:List UInt8} {a e:Nat} (h:(rE2 l).2=(a,e)) (he:e≠0):qQB l=(Ev.zero,0,e):=
 zYL (a:=a) (by unfold rE3;rw [h,kJd l _ a e he]) he
theorem vYU {l:List UInt8} {a e:Nat} (h:(rE1 l).2=(a,e)) (he:e≠0):qQB l=(Ev.zero,0,e):=
 zYS (a:=a) (by unfold rE2;rw [h,kYk l 16 a e he]) he
end Tryst
namespace Go.Proofs.YtcbicdencgjfiaaGreatDoor
open Go.RowKit Tryst
theorem kYa (l:List UInt8) (most a:Nat):(∃ b e,e≠0/\e<=3/\(jQJ l most (a,0)).2=(b,e)/\kYX l most a=([],0,e))∨∃ t b,jQJ l most (a,0)=(t,(b,0))/\kYX l most a=(t,b,0):=by
 have h3:=kQV l most a 0 (by omega)
 rcases hr:jQJ l most (a,0) with ⟨t,b,e⟩
 rw [hr] at h3
 by_cases he:e=0
 · subst he;refine .inr ⟨t,b,rfl,?_⟩;unfold kYX;rw [hr];rfl
 · refine .inl ⟨b,e,he,h3,rfl,?_⟩;unfold kYX;rw [hr];exact if_pos he
structure TK (w W:World) (T P:ByteArray) (q:Int) (v:Value):Prop where
 z:EAt W w.heap.size ⟨#[]⟩ ⟨#[]⟩ 0 (.slice none 0 0)
 x:EAt W (w.heap.size+1) T P q v
 k:Below w.heap.size w W
 s:w.heap.size+1 < W.heap.size
theorem TK.grow {w W W':World} {T P:ByteArray} {q:Int} {v:Value} (h:TK w W T P q v) (hb:Below W.heap.size W W'):TK w W' T P q v:=
 ⟨h.z.grow (by have:=h.s;omega) hb,h.x.grow h.s hb,Qk hb h.k,Nat.lt_of_lt_of_le h.s hb.size⟩
theorem TK.growB {w W W':World} {T P:ByteArray} {q:Int} {v:Value} (h:TK w W T P q v) {B:Nat} (hB:w.heap.size+1 < B) (hb:Below B W W') (hz:W.heap.size<=W'.heap.size):TK w W' T P q v:=
 ⟨h.z.growB (by omega) hb,h.x.growB hB hb,h.k.trans (hb.mono (by omega)),Nat.lt_of_lt_of_le h.s hz⟩
theorem TK.put3 {w W:World} {T P:ByteArray} {q:Int} {v:Value} (h:TK w W T P q v) (u:Value):TK w (W.setCell ⟨w.heap.size+1,3,none⟩ u) T P q u:=
 ⟨h.z.away (by omega),h.x.set3,bset _ (by simp) h.k,by have:=h.s;simpa using this⟩
def RkRel (w:World) (l:List UInt8) (N:Nat) (T1 T2:ByteArray) (q:Int) (at_ i:Value) (wr:World):Prop:=
 ∃ (k a:Nat) (got:List Fld) (ad:Option Addr) (c:Nat),k<=N/\at_=.int .i64 a/\i=.int .i64 k/\Hid (got.length=k)/\a<=l.length/\Hid (rE5 l=(got++(jQy l (N - k) (a,0)).1,(jQy l (N - k) (a,0)).2))/\Hid (∀ f∈got,f.name.length<=16/\f.v.s.length<=60/\f.v.Fits)/\
  Hid (TK w wr T1 T2 q (.slice ad got.length c))/\Hid (FOwn 209 wr (w.heap.size+2) (.slice ad got.length c) (got.map fbOf))
def kYQ (w:World) (E:Ev) (k e:Nat) (x:Ending) (w':World):Prop:=
 ∃ a c,x=.returned (.tuple #[.agg #[.string ⟨E.topic.toArray⟩,.string ⟨E.prod.toArray⟩,.int .u64 E.seq,.slice a E.l.length c],.int .i64 k,.int .i64 e])/\Flds w' a (E.l.map fbOf)/\Sl a c E.l.length/\(∀ b o,a=some ⟨b,o,none⟩->w.heap.size<=b/\b < w'.heap.size)/\Below w.heap.size w w'
theorem kYQ.r {w w':World} {E:Ev} {k e:Nat} {x:Ending} (h:kYQ w E k e x w'):vY4 w E k e x w':=by
 obtain ⟨a,c,h1,h2,h3,_,h4⟩:=h;exact ⟨a,c,h1,h2,h3,h4⟩
theorem kYQ.zero {w w':World} {e:Nat} {x:Ending} (hx:x=.returned (.tuple #[.agg #[.string ⟨#[]⟩,.string ⟨#[]⟩,.int .u64 0,.slice none 0 0],.int .i64 0,.int .i64 e])) (hb:Below w.heap.size w w'):kYQ w Ev.zero 0 e x w':=
 ⟨none,0,hx,Flds.nil _ _,⟨Nat.le_refl _,fun A h=>(by cases h),fun _=>rfl⟩,(fun b o h=>by cases h),hb⟩
theorem _root_.Tryst.Flds.away {w:World} {a:Option Addr} {l:List FB} (h:Flds w a l) {c j:Nat} (hc:∀ b o,a=some ⟨b,o,none⟩->c≠b) (u:Value):Flds (w.setCell ⟨c,j,none⟩ u) a l:=by
 intro i hi;obtain ⟨b,o,h1,_⟩:=h i hi;subst h1;exact (h.set (hc b o rfl) u) i hi
set_option maxHeartbeats 4000000 in
theorem zYu (s:ByteArray) (hs:s.size<=1000000000) (w:World) :
  Calls Tryz.prog 85 #[.string s] w fun x w'=>kYQ w (qQB s.data.toList).1 (qQB s.data.toList).2.1 (qQB s.data.toList).2.2 x w':=by
 obtain ⟨l,hl⟩:∃ l,s.data.toList=l:=⟨_,rfl⟩;have hll:l.length=s.size:=by rw [<- hl,Qx]
 have HW:=Zh (fun a most ha hm W=>vYQ s hs a most ha hm W);have HNC:=Zh (fun most a ha=>jJs s most a ha);rw [hl] at HW HNC ⊢;obtain ⟨R,hR⟩:∃ R,qQB l=R:=⟨_,rfl⟩;rw [hR];have HR:=Zh hR;have HL:=Zh hl;clear hR hl;have W1:=Zh (HW.out 0 40 (by omega) (by omega));go_enter Tryz.func85,Tryz.ntmps85;go_upto_region 2 with fail
 refine Qg (fun v=>Hid (TK w v ⟨#[]⟩ ⟨#[]⟩ 0 (.slice none 0 0))) ⟨?_,?_,Qj _ (Qj _ (.refl _ _)),by simp⟩ ?_
 · constructor<;>simp [go_sem]
 · constructor<;>simp [go_sem]
 rintro w0 HK0;have hs0:=HK0.out.s;obtain ⟨z0,z1,z2,z3,z4,z5,z6,z7⟩:=HK0.out.z;go_wp2_with fail;refine (W1.out w0).mono ?_
 rcases kYa l 40 0 with ⟨a1,e1,he,he3,hr1,hw1⟩ | ⟨t1,a1,hr1,hw1⟩
 ·
  obtain rfl:R=(Ev.zero,0,e1):=HR.out.symm.trans (vYU (a:=a1) hr1 he);rw [hw1];rintro e w1 ⟨rfl,hb1⟩;have HK1:=Zh (HK0.out.grow hb1);have HB1:=Zh HK1.out.k;clear hb1 z0 z1 z2 z3 z4 z5 z6 z7;have hs1:=HK1.out.s;obtain ⟨z0,z1,z2,z3,z4,z5,z6,z7⟩:=HK1.out.z;have y1:((e1:Int) != 0)=true:=by first | decide | (simp;omega)
  have y2:((e1:Int)==0)=false:=by first | decide | (simp;omega)
  go_wp2_with fail;refine bodyPost_ret (v:=.tuple #[.agg #[.string ⟨#[]⟩,.string ⟨#[]⟩,.int .u64 0,.slice none 0 0],.int .i64 0,.int .i64 e1]) (by simp [results,Tryz.results85,go_sem, *]) rfl (kYQ.zero rfl ?_)
  (repeat (first | with_reducible exact HB1.out | with_reducible refine Qj _ ?_ | with_reducible refine bset _ (by simp<;>omega) ?_))
 ·
  rw [hw1];rintro e w1 ⟨rfl,hb1⟩;dsimp only;simp only [Int.cast_ofNat_Int];have ha1:a1<=s.size:=by have:=(vQL l 40 0 0 (by omega)).2;rw [hr1,hll] at this;exact this
  have ht1:t1.length<=40:=by have:=(vQL l 40 0 0 (by omega)).1;rw [hr1] at this;exact this
  have HK1:=Zh (HK0.out.grow hb1);have hs1:=HK1.out.s;clear hb1 z0 z1 z2 z3 z4 z5 z6 z7 hs0 HK0 hw1 W1;obtain ⟨z0,z1,z2,z3,z4,z5,z6,z7⟩:=HK1.out.z;have W2:=Zh (HW.out a1 16 ha1 (by omega));go_wp2_with fail;refine (W2.out w1).mono ?_
  rcases kYa l 16 a1 with ⟨a2,e2,he,he3,hr2,hw2⟩ | ⟨t2,a2,hr2,hw2⟩
  ·
   obtain rfl:R=(Ev.zero,0,e2):=HR.out.symm.trans (zYS (a:=a2) (by unfold rE2 rE1;rw [hr1];exact hr2) he);rw [hw2];rintro e w2 ⟨rfl,hb2⟩;have HK2:=Zh (HK1.out.grow hb2);have HB2:=Zh HK2.out.k;clear hb2 z0 z1 z2 z3 z4 z5 z6 z7;have hs2:=HK2.out.s;obtain ⟨z0,z1,z2,z3,z4,z5,z6,z7⟩:=HK2.out.z;have y1:((e2:Int) != 0)=true:=by first | decide | (simp;omega)
   have y2:((e2:Int)==0)=false:=by first | decide | (simp;omega)
   go_wp2_with fail;refine bodyPost_ret (v:=.tuple #[.agg #[.string ⟨#[]⟩,.string ⟨#[]⟩,.int .u64 0,.slice none 0 0],.int .i64 0,.int .i64 e2]) (by simp [results,Tryz.results85,go_sem, *]) rfl (kYQ.zero rfl ?_)
   (repeat (first | with_reducible exact HB2.out | with_reducible refine Qj _ ?_ | with_reducible refine bset _ (by simp<;>omega) ?_))
  ·
   rw [hw2];rintro e w2 ⟨rfl,hb2⟩;dsimp only;simp only [Int.cast_ofNat_Int];have ha2:a2<=s.size:=by have:=(vQL l 16 a1 0 (by omega)).2;rw [hr2,hll] at this;exact this
   have ht2:t2.length<=16:=by have:=(vQL l 16 a1 0 (by omega)).1;rw [hr2] at this;exact this
   have hE2:(rE2 l)=(t2,(a2,0)):=by unfold rE2 rE1;rw [hr1];exact hr2
   have hE1:(rE1 l).1=t1:=by unfold rE1;rw [hr1]
   have HE1:=Zh hE1;have HE2:=Zh hE2;have HK2:=Zh (HK1.out.grow hb2);have hs2:=HK2.out.s;clear hb2 z0 z1 z2 z3 z4 z5 z6 z7 hs1 HK1 hw2 W2 hr1 hr2 hE1 hE2;obtain ⟨z0,z1,z2,z3,z4,z5,z6,z7⟩:=HK2.out.z;generalize hT1:(⟨t1.toArray⟩:ByteArray)=T1;generalize hT2:(⟨t2.toArray⟩:ByteArray)=T2;have HT1:=Zh hT1;have HT2:=Zh hT2;clear hT1 hT2;have hxz:(s.extract a2 s.size).size<=1000000000:=by rw [ByteArray.size_extract];omega
   have x1:(a2:Int)<=s.size:=by omega
   have U3:=Zh (Z4 (s.extract a2 s.size) hxz);go_wp2_with fail;refine (U3.out w2).mono ?_
   have h3:(∃ n3 k3,unp (s.extract a2 s.size).data.toList=(n3,k3,0)/\n3<=18446744073709551615/\a2+k3<=s.size/\rE3 l=(n3,(a2+k3,0)))∨∃ e3,e3≠0/\e3<=3/\unp (s.extract a2 s.size).data.toList=(0,0,e3)/\(rE3 l).2=(a2,e3):=by
    unfold rE3;rw [HE2.out]
    rcases HNC.out 18446744073709551615 a2 ha2 with ⟨n,k,hn,hnm,hak,hr⟩ | ⟨n,k,hn,hnm,hn64,hr⟩ | ⟨hn,hr⟩ | ⟨hn,hr⟩
    · exact .inl ⟨n,k,hn,hnm,hak,hr⟩
    · omega
    · exact .inr ⟨2,by omega,by omega,hn,by rw [hr]⟩
    · exact .inr ⟨3,by omega,by omega,hn,by rw [hr]⟩
   rcases h3 with ⟨n3,k3,hu3,hn3,ha3,hE3⟩ | ⟨e3,he,he3,hu3,hE3⟩
   ·
    rw [hu3];rintro e w3 ⟨rfl,hb3⟩;dsimp only;simp only [Int.cast_ofNat_Int];have HE3:=Zh hE3;have HK3:=Zh (HK2.out.grow hb3);have hs3:=HK3.out.s;clear hb3 z0 z1 z2 z3 z4 z5 z6 z7 hs2 HK2 U3 hu3 hE3;obtain ⟨z0,z1,z2,z3,z4,z5,z6,z7⟩:=HK3.out.z;have hxz3:(s.extract (a2+k3) s.size).size<=1000000000:=by rw [ByteArray.size_extract];omega
    have x3:(a2:Int)+k3<=s.size:=by omega
    have U4:=Zh (Z4 (s.extract (a2+k3) s.size) hxz3);go_wp2_with fail;refine (U4.out w3).mono ?_
    have h4:(∃ n4 k4,unp (s.extract (a2+k3) s.size).data.toList=(n4,k4,0)/\n4<=8/\a2+k3+k4<=s.size/\rE4 l=(n4,(a2+k3+k4,0)))∨(∃ n4 k4,unp (s.extract (a2+k3) s.size).data.toList=(n4,k4,0)/\8 < n4/\n4 < 2 ^ 64/\(rE4 l).2=(a2+k3,2))∨∃ e4,e4≠0/\e4<=3/\unp (s.extract (a2+k3) s.size).data.toList=(0,0,e4)/\(rE4 l).2=(a2+k3,e4):=by
     unfold rE4;rw [HE3.out]
     rcases HNC.out 8 (a2+k3) ha3 with ⟨n,k,hn,hnm,hak,hr⟩ | ⟨n,k,hn,hnm,hn64,hr⟩ | ⟨hn,hr⟩ | ⟨hn,hr⟩
     · exact .inl ⟨n,k,hn,hnm,hak,hr⟩
     · exact .inr (.inl ⟨n,k,hn,hnm,hn64,by rw [hr]⟩)
     · exact .inr (.inr ⟨2,by omega,by omega,hn,by rw [hr]⟩)
     · exact .inr (.inr ⟨3,by omega,by omega,hn,by rw [hr]⟩)
    rcases h4 with ⟨n4,k4,hu4,hn4,ha4,hE4⟩ | ⟨n4,k4,hu4,hn4,hn64,hE4⟩ | ⟨e4,he,he3,hu4,hE4⟩
    ·
     rw [hu4];rintro e w4 ⟨rfl,hb4⟩;dsimp only;simp only [Int.cast_ofNat_Int];have HE4:=Zh hE4;have HK4:=Zh (HK3.out.grow hb4);have hs4:=HK4.out.s;clear hb4 z0 z1 z2 z3 z4 z5 z6 z7 hs3 HK3 U4 hu4 hE4;obtain ⟨x0,x1',x2,x3',x4,x5,x6,x7⟩:=HK4.out.x;have HK5:Hid (TK w (((w4.setCell ⟨w.heap.size+1,0,none⟩ (.string T1)).setCell ⟨w.heap.size+1,1,none⟩ (.string T2)).setCell ⟨w.heap.size+1,2,none⟩ (.int .u64 n3)) T1 T2 n3 (.slice none 0 0)):=Zh ⟨((HK4.out.z.away (c:=w.heap.size+1) (o:=0) (x:=.string T1) (by omega)).away (c:=w.heap.size+1) (o:=1) (x:=.string T2) (by omega)).away (c:=w.heap.size+1) (o:=2) (x:=.int .u64 n3) (by omega),HK4.out.x.put0.put1.put2,bset _ (by simp) (bset _ (by simp) (bset _ (by simp) HK4.out.k)),by simp;omega⟩;have y8:¬ ((8:Int) < n4):=by omega
     go_upto_region 18 with fail
     refine Qg (fun v=>Hid (TK w v T1 T2 n3 (.slice none 0 0))) HK5 ?_;clear x0 x1' x2 x3' x4 x5 x6 x7 HK5 HK4 hs4 y8;rintro w5 HK5;go_wp2_with fail;go_loopw [7,15] (fun p i wr=>RkRel w l n4 T1 T2 n3 p i wr) (fun _ i _=>n4 - (intOf i).toNat)
     case atStart=>exact ⟨0,a2+k3+k4,[],none,0,by omega,by simp<;>omega,rfl,rfl,by omega,Zh (by unfold rE5;rw [HE4.out];simp),(fun f hf=>by cases hf),HK5,FOwn.nil _ _ _⟩
     case round=>
      clear HK5;obtain ⟨k,a,got,ad,c,hk,rfl,rfl,HGL,ha,HE5,HGB,HKR,HOR⟩:=hrel;obtain ⟨wo,rfl⟩:∃ wo,wo=wr:=⟨_,rfl⟩;have hsR:=HKR.out.s;obtain ⟨z0,z1,z2,z3,z4,z5,z6,z7⟩:=HKR.out.z
      by_cases hlt:k < n4
      ·
       have W5:=Zh (HW.out a 16 (by omega) (by omega));go_wp2_with fail;refine (W5.out wo).mono ?_;obtain ⟨d,hd⟩:∃ d,n4 - k=d+1:=⟨n4 - k - 1,by omega⟩;have hd2:n4 - (k+1)=d:=by omega
       have hE5:=HE5.out;rw [hd] at hE5;have hE5':rE5 l=(got++(rfld l (a,0)).1 :: (jQy l d (rfld l (a,0)).2).1,(jQy l d (rfld l (a,0)).2).2):=hE5;have hfl:=vYJ l a 0 ha;clear hE5 hd
       rcases kYa l 16 a with ⟨a6,e6,he,he3,hr6,hw6⟩ | ⟨t6,a6,hr6,hw6⟩
       ·
        obtain rfl:R=(Ev.zero,0,e6):=HR.out.symm.trans (kYz (a:=a6) (by
         have hf:(rfld l (a,0)).2=(a6,e6):=by
          unfold rfld;rw [hr6];show (rval l (a6,e6)).2=_;rw [kYw l a6 e6 he]
         rw [hE5',hf];exact kYT l d a6 e6 he) he)
        clear hE5' hfl;rw [hw6];rintro e w6 ⟨rfl,hb6⟩;have HK6:=Zh (HKR.out.grow hb6);have HB6:=Zh HK6.out.k;clear hb6 z0 z1 z2 z3 z4 z5 z6 z7;have hs6:=HK6.out.s;obtain ⟨z0,z1,z2,z3,z4,z5,z6,z7⟩:=HK6.out.z;have y1:((e6:Int) != 0)=true:=by first | decide | (simp;omega)
        have y2:((e6:Int)==0)=false:=by first | decide | (simp;omega)
        go_wp2_with fail;refine bodyPost_ret (v:=.tuple #[.agg #[.string ⟨#[]⟩,.string ⟨#[]⟩,.int .u64 0,.slice none 0 0],.int .i64 0,.int .i64 e6]) (by simp [results,Tryz.results85,go_sem, *]) rfl (kYQ.zero rfl ?_)
        (repeat (first | with_reducible exact HB6.out | with_reducible refine Qj _ ?_ | with_reducible refine bset _ (by simp<;>omega) ?_))
       ·
        rw [hw6];rintro e w6 ⟨rfl,hb6⟩;dsimp only;have ha6:a6<=s.size:=by have:=(vQL l 16 a 0 ha).2;rw [hr6,hll] at this;exact this
        have HK6:=Zh (HKR.out.grow hb6);have HO6:=Zh (HOR.out.grow hb6);have hs6:=HK6.out.s;clear hb6 z0 z1 z2 z3 z4 z5 z6 z7 hsR HKR HOR hw6 W5;obtain ⟨z0,z1,z2,z3,z4,z5,z6,z7⟩:=HK6.out.z;have hxz6:(s.extract a6 s.size).size<=1000000000:=by rw [ByteArray.size_extract];omega
        have x6:(a6:Int)<=s.size:=by omega
        have V6:=vYM (s.extract a6 s.size) hxz6;rw [jJf,HL.out] at V6
        have hrf:rfld l (a,0)=(⟨t6,(Jp (l.drop a6)).1⟩,(a6+(Jp (l.drop a6)).2.1,(Jp (l.drop a6)).2.2)):=by
         unfold rfld;rw [hr6];rfl
        have hv3:(rval l (a6,0)).2.2<=3:=kJb l a6 0 (by omega);have hv3':(Jp (l.drop a6)).2.2<=3:=hv3;rw [hrf] at hE5' hfl;clear hrf hv3 hr6;generalize Jp (l.drop a6)=q at V6 hE5' hfl hv3';obtain ⟨v,j,f⟩:=q;dsimp only at V6 hE5' hfl hv3';have HV6:=Zh V6;have HE6:=Zh hE5';obtain ⟨hf1,hf2,hf3,hf4⟩:=hfl;have HF4:=Zh hf4;clear V6 hE5' hf4;go_wp2_with fail;refine (HV6.out w6).mono ?_;rintro e w7 ⟨rfl,hb7⟩
        by_cases hf0:f=0
        ·
         subst hf0;have HK7:=Zh (HK6.out.grow hb7);have HO7:=Zh (HO6.out.grow hb7);clear hb7 z0 z1 z2 z3 z4 z5 z6 z7 HK6 HO6 hs6 HV6;go_upto_region 25 with fail
         refine Qg (fun X=>Hid (TK w X T1 T2 n3 (.slice ad got.length c))/\Hid (FOwn 209 X (w.heap.size+2) (.slice ad got.length c) (got.map fbOf))/\Hid (VBox X w7.heap.size v)) ⟨HK7.out.grow (Qj _ (.refl _ _)),HO7.out.grow (Qj _ (.refl _ _)),VBox.new w7 v 121⟩ ?_;clear HK7 HO7;rintro w8 ⟨HK8,HO8,HV8⟩;generalize w7.heap.size=B7 at HV8 ⊢;have hs8:=HK8.out.s;obtain ⟨x0,x1',x2,x3',x4,x5,x6',x7⟩:=HK8.out.x;obtain ⟨v0,v1,v2,v3,v4,v5,v6⟩:=HV8.out;have HKA:=Zh (HK8.out.grow (Qj (.cells #[.string ⟨t6.toArray⟩,.bool v.num,.int .i64 v.n,.string ⟨v.s.toArray⟩] 209) (.refl _ w8)));go_upto_region 27 with fail
         refine wp_region_lit ?_
         iterate 18 go_step
         refine zY4 fldT rfl (.tmp 114) (.tmp 118) rfl (w.heap.size+2) (.slice ad got.length c) (got.map fbOf) rfl (FOwn.alloc HO8.out _) (fbOf ⟨t6,v⟩) w8.heap.size rfl (by constructor<;>simp [go_sem,fbOf]) (by rw [List.length_map,HGL.out];omega) (by simp;omega) ?_;intro a9 c9 w9 O9 hb9;have hz9:(w8.alloc (.cells #[.string ⟨t6.toArray⟩,.bool v.num,.int .i64 v.n,.string ⟨v.s.toArray⟩] 209)).heap.size<=w9.heap.size:=hb9.size;have hK9:=HKA.out.growB (by omega) hb9 hz9;have hgl:(got++[(⟨t6,v⟩:Fld)]).length=got.length+1:=by rw [List.length_append];rfl
         rw [List.length_map] at O9;have O10:=O9.set (b:=w.heap.size+1) (o:=3) (by omega) (.slice a9 (got.length+1) c9);have hK10:=hK9.put3 (.slice a9 (got.length+1) c9);rw [<- hgl] at O10 hK10;have e10:got.map fbOf++[fbOf ⟨t6,v⟩]=(got++[(⟨t6,v⟩:Fld)]).map fbOf:=by rw [List.map_append];rfl
         rw [e10] at O10;have HO10:=Zh O10;have HK10:=Zh hK10;have HGL2:Hid ((got++[(⟨t6,v⟩:Fld)]).length=k+1):=Zh (by rw [hgl,HGL.out])
         have HGB2:Hid (∀ f∈got++[(⟨t6,v⟩:Fld)],f.name.length<=16/\f.v.s.length<=60/\f.v.Fits):=Zh (fun f hf=>by
          rcases List.mem_append.1 hf with h | h
          · exact HGB.out f h
          · obtain rfl:=List.mem_singleton.1 h;exact ⟨hf2,hf3,HF4.out⟩)
         have HE2':Hid (rE5 l=((got++[(⟨t6,v⟩:Fld)])++(jQy l (n4 - (k+1)) (a6+j,0)).1,(jQy l (n4 - (k+1)) (a6+j,0)).2)):=Zh (by rw [hd2,HE6.out,List.append_assoc];rfl);rw [hgl] at HO10 HK10;have hsz9:=hK9.s;have e11:(.slice a9 ((got.map fbOf).length+1) c9:Value)=.slice a9 (got.length+1) c9:=by rw [List.length_map]
         rw [e11];clear x0 x1' x2 x3' x4 x5 x6' x7 v0 v1 v2 v3 v4 v5 v6 HKA HK8 HO8 HV8 O9 O10 hK10 hb9 hz9 e10 e11 HE6;obtain ⟨x0,x1',x2,x3',x4,x5,x6',x7⟩:=hK9.x;clear hK9;go_wp2_with fail;go_roundw
         case rel=>exact ⟨k+1,a6+j,got++[⟨t6,v⟩],a9,c9,by omega,by go_num,by go_num,HGL2,by omega,HE2',HGB2,Zh (by rw [hgl];exact HK10.out),Zh (by rw [hgl];exact HO10.out)⟩
         case measure=>simp [intOf]<;>omega
        ·
         obtain rfl:R=(Ev.zero,0,f):=HR.out.symm.trans (kYz (a:=a6+j) (by rw [HE6.out];exact kYT l d _ f hf0) hf0);have HK7:=Zh (HK6.out.grow hb7);clear hb7 z0 z1 z2 z3 z4 z5 z6 z7 HK6 HO6 hs6 HV6 HE6 hd2;have hs7:=HK7.out.s;obtain ⟨z0,z1,z2,z3,z4,z5,z6,z7⟩:=HK7.out.z;go_upto_region 25 with fail
         refine Qg (fun v=>Hid (TK w v T1 T2 n3 (.slice ad got.length c))) (HK7.out.grow (Qj _ (.refl _ _))) ?_;clear HK7 hs7 z0 z1 z2 z3 z4 z5 z6 z7;rintro w8 HK8;have HB8:=Zh HK8.out.k;have hs8:=HK8.out.s;obtain ⟨z0,z1,z2,z3,z4,z5,z6,z7⟩:=HK8.out.z;have y1:((f:Int) != 0)=true:=by simp;omega
         have y2:((f:Int)==0)=false:=by simp;omega
         go_wp2_with fail;refine bodyPost_ret (v:=.tuple #[.agg #[.string ⟨#[]⟩,.string ⟨#[]⟩,.int .u64 0,.slice none 0 0],.int .i64 0,.int .i64 f]) (by simp [results,Tryz.results85,go_sem, *]) rfl (kYQ.zero rfl ?_)
         (repeat (first | with_reducible exact HB8.out | with_reducible refine Qj _ ?_ | with_reducible refine bset _ (by simp<;>omega) ?_))
      ·
       have hkn:n4 - k=0:=by omega
       have hE5:=HE5.out;rw [hkn] at hE5
       have hE5':rE5 l=(got,(a,0)):=by
        rw [hE5];show (got++[],(a,0))=_;rw [List.append_nil]
       have hE:rE l=⟨t1,t2,n3,got⟩:=by
        unfold rE;rw [HE1.out,HE2.out,HE3.out,hE5']
       have HRR:Hid ((if 800 < a∨(⟨t1,t2,n3,got⟩:Ev).may=false then (Ev.zero,0,2) else ((⟨t1,t2,n3,got⟩:Ev),a,0))=R):=Zh (by
        rw [<- HR.out];unfold qQB;rw [hE5',hE];rfl)
       clear hE5 hE5' hE HE5 hkn;have hgl:(got.map fbOf).length=got.length:=List.length_map ..;obtain ⟨ad',c',hv',hfl,_,_,hsl⟩:=HOR.out.flds;rw [hgl] at hv' hsl;simp only [Value.slice.injEq,true_and] at hv';obtain ⟨rfl,rfl⟩:=hv';have hT1:T1.size<=1500000:=by rw [<- HT1.out,mk_size];omega
       have hT2:T2.size<=1500000:=by rw [<- HT2.out,mk_size];omega
       have cm:=vYO T1 T2 n3 ad c (got.map fbOf) (by rw [hgl,HGL.out];omega) hT1 hT2 (fun f hf=>by
        obtain ⟨f',hf',rfl⟩:=List.mem_map.1 hf;obtain ⟨k1,k2,_⟩:=HGB.out f' hf';exact ⟨by show (ByteArray.mk _).size<=_;rw [mk_size];omega,by show (ByteArray.mk _).size<=_;rw [mk_size];omega⟩) wo hfl (by omega) (by omega)
       rw [hgl,show jQA T1 T2 n3 (got.map fbOf)=(⟨t1,t2,n3,got⟩:Ev).may by rw [xQl _ _ _ _ (by omega)];unfold evE;rw [vQB,<- HT1.out,<- HT2.out];simp] at cm;have CM:=Zh cm;have HSL:=Zh hsl;obtain ⟨x0,x1',x2,x3',x4,x5,x6',x7⟩:=HKR.out.x;clear cm hfl hgl hT1 hT2 HGB HGL hsl;go_wp2_with fail;refine CM.out.mono ?_;rintro e w9 ⟨rfl,hb9⟩;have HO9:=Zh (HOR.out.grow hb9);cases hmay:(⟨t1,t2,n3,got⟩:Ev).may with
       | false=>
        obtain rfl:R=(Ev.zero,0,2):=HRR.out.symm.trans (by rw [if_pos (.inr hmay)]);clear hmay HRR CM HO9 HOR;have HK9:=Zh (HKR.out.grow hb9);have HB9:=Zh HK9.out.k;clear hb9 z0 z1 z2 z3 z4 z5 z6 z7 x0 x1' x2 x3' x4 x5 x6' x7;have hs9:=HK9.out.s;obtain ⟨z0,z1,z2,z3,z4,z5,z6,z7⟩:=HK9.out.z;go_wp2_with fail;refine bodyPost_ret (v:=.tuple #[.agg #[.string ⟨#[]⟩,.string ⟨#[]⟩,.int .u64 0,.slice none 0 0],.int .i64 0,.int .i64 2]) (by simp [results,Tryz.results85,go_sem, *]) rfl (kYQ.zero rfl ?_)
        (repeat (first | with_reducible exact HB9.out | with_reducible refine Qj _ ?_ | with_reducible refine bset _ (by simp<;>omega) ?_))
       | true=>
        by_cases h8:800 < a
        ·
         obtain rfl:R=(Ev.zero,0,2):=HRR.out.symm.trans (by rw [if_pos (.inl h8)]);have y8:(800:Int) < a:=by omega
         clear hmay HRR CM HO9 HOR;have HK9:=Zh (HKR.out.grow hb9);have HB9:=Zh HK9.out.k;clear hb9 z0 z1 z2 z3 z4 z5 z6 z7 x0 x1' x2 x3' x4 x5 x6' x7;have hs9:=HK9.out.s;obtain ⟨z0,z1,z2,z3,z4,z5,z6,z7⟩:=HK9.out.z;go_wp2_with fail;refine bodyPost_ret (v:=.tuple #[.agg #[.string ⟨#[]⟩,.string ⟨#[]⟩,.int .u64 0,.slice none 0 0],.int .i64 0,.int .i64 2]) (by simp [results,Tryz.results85,go_sem, *]) rfl (kYQ.zero rfl ?_)
         (repeat (first | with_reducible exact HB9.out | with_reducible refine Qj _ ?_ | with_reducible refine bset _ (by simp<;>omega) ?_))
        ·
         obtain rfl:R=(⟨t1,t2,n3,got⟩,a,0):=HRR.out.symm.trans (by rw [if_neg (by rw [hmay];simp;omega)]);have y8:¬ (800:Int) < a:=by omega
         have HK9:=Zh (HKR.out.grow hb9);have HB9:=Zh HK9.out.k;have HO10:=Zh ((((HO9.out.set (b:=w.heap.size) (o:=0) (by omega) (.string T1)).set (b:=w.heap.size) (o:=1) (by omega) (.string T2)).set (b:=w.heap.size) (o:=2) (by omega) (.int .u64 n3)).set (b:=w.heap.size) (o:=3) (by omega) (.slice ad got.length c));clear hb9 hmay HRR CM HO9 HOR z0 z1 z2 z3 z4 z5 z6 z7 x0 x1' x2 x3' x4 x5 x6' x7;have hs9:=HK9.out.s;obtain ⟨z0,z1,z2,z3,z4,z5,z6,z7⟩:=HK9.out.z;obtain ⟨x0,x1',x2,x3',x4,x5,x6',x7⟩:=HK9.out.x;go_wp2_with fail;refine bodyPost_ret (v:=.tuple #[.agg #[.string T1,.string T2,.int .u64 n3,.slice ad got.length c],.int .i64 a,.int .i64 0]) (by simp [results,Tryz.results85,go_sem, *]) rfl ?_;obtain ⟨ad',c',hv',hfl,hown,_,hsl⟩:=HO10.out.flds;rw [List.length_map] at hv' hsl;simp only [Value.slice.injEq,true_and] at hv';obtain ⟨rfl,rfl⟩:=hv';refine ⟨ad,c,by rw [<- HT1.out,<- HT2.out];rfl,hfl,hsl,fun b o h=>⟨by have:=(hown b o h).1;omega,(hown b o h).2⟩,?_⟩
         (repeat (first | with_reducible exact HB9.out | with_reducible refine Qj _ ?_ | with_reducible refine bset _ (by simp<;>omega) ?_))
    ·
     obtain rfl:R=(Ev.zero,0,2):=HR.out.symm.trans (zY0 hE4 (by omega));rw [hu4];rintro e w4 ⟨rfl,hb4⟩;have y8:(8:Int) < n4:=by omega
     have HK4:=Zh (HK3.out.grow hb4);have HB4:=Zh HK4.out.k;clear hb4 z0 z1 z2 z3 z4 z5 z6 z7;have hs4:=HK4.out.s;obtain ⟨z0,z1,z2,z3,z4,z5,z6,z7⟩:=HK4.out.z;have y1:((2:Int) != 0)=true:=by first | decide | (simp;omega)
     have y2:((2:Int)==0)=false:=by first | decide | (simp;omega)
     go_wp2_with fail;refine bodyPost_ret (v:=.tuple #[.agg #[.string ⟨#[]⟩,.string ⟨#[]⟩,.int .u64 0,.slice none 0 0],.int .i64 0,.int .i64 2]) (by simp [results,Tryz.results85,go_sem, *]) rfl (kYQ.zero rfl ?_)
     (repeat (first | with_reducible exact HB4.out | with_reducible refine Qj _ ?_ | with_reducible refine bset _ (by simp<;>omega) ?_))
    ·
     obtain rfl:R=(Ev.zero,0,e4):=HR.out.symm.trans (zY0 hE4 he);rw [hu4];rintro e w4 ⟨rfl,hb4⟩;have HK4:=Zh (HK3.out.grow hb4);have HB4:=Zh HK4.out.k;clear hb4 z0 z1 z2 z3 z4 z5 z6 z7;have hs4:=HK4.out.s;obtain ⟨z0,z1,z2,z3,z4,z5,z6,z7⟩:=HK4.out.z;have y1:((e4:Int) != 0)=true:=by first | decide | (simp;omega)
     have y2:((e4:Int)==0)=false:=by first | decide | (simp;omega)
     go_wp2_with fail;refine bodyPost_ret (v:=.tuple #[.agg #[.string ⟨#[]⟩,.string ⟨#[]⟩,.int .u64 0,.slice none 0 0],.int .i64 0,.int .i64 e4]) (by simp [results,Tryz.results85,go_sem, *]) rfl (kYQ.zero rfl ?_)
     (repeat (first | with_reducible exact HB4.out | with_reducible refine Qj _ ?_ | with_reducible refine bset _ (by simp<;>omega) ?_))
   ·
    obtain rfl:R=(Ev.zero,0,e3):=HR.out.symm.trans (zYL hE3 he);rw [hu3];rintro e w3 ⟨rfl,hb3⟩;have HK3:=Zh (HK2.out.grow hb3);have HB3:=Zh HK3.out.k;clear hb3 z0 z1 z2 z3 z4 z5 z6 z7;have hs3:=HK3.out.s;obtain ⟨z0,z1,z2,z3,z4,z5,z6,z7⟩:=HK3.out.z;have y1:((e3:Int) != 0)=true:=by first | decide | (simp;omega)
    have y2:((e3:Int)==0)=false:=by first | decide | (simp;omega)
    go_wp2_with fail;refine bodyPost_ret (v:=.tuple #[.agg #[.string ⟨#[]⟩,.string ⟨#[]⟩,.int .u64 0,.slice none 0 0],.int .i64 0,.int .i64 e3]) (by simp [results,Tryz.results85,go_sem, *]) rfl (kYQ.zero rfl ?_)
    (repeat (first | with_reducible exact HB3.out | with_reducible refine Qj _ ?_ | with_reducible refine bset _ (by simp<;>omega) ?_))
theorem kYt (s:ByteArray) (hs:s.size<=1000000000) (w:World) :
  Calls Tryz.prog 85 #[.string s] w fun x w'=>vY4 w (qQB s.data.toList).1 (qQB s.data.toList).2.1 (qQB s.data.toList).2.2 x w':=
 (zYu s hs w).mono fun _ _ h=>h.r
