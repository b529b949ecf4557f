import Derived.Test.YtcbicdencgjfiaaGreatDoorGlob5
set_option linter.all false
set_option maxHeartbeats 400000
set_option maxRecDepth 20000
namespace Go.Proofs.YtcbicdencgjfiaaGreatDoor
open Go.RowKit Tryst
set_option maxHeartbeats 8000000 in
theorem qJS (s:ByteArray) (num:Bool) (n:Int) (vs:ByteArray) (a:Option Addr) (len c:Nat) (hs:s.size<=1000000000) (hv:vs.size<=1000000000) (hl:len<=1000000000) (w:World) (hM:MaxW w) :
  Calls Tryz.prog 209 #[.agg #[.string (Opk.text Opk.eq),.string s,.bool num,.int .i64 n,.string vs,.slice a len c]] w fun e w'=>e=.returned (.bool (Z6 (Opk.text Opk.eq) s num n vs len))/\Below w.heap.size w w':=by
 have HM:=Zh hM;clear hM;have hsz:True:=trivial;have HV:True:=trivial;clear hsz;have HC:=Zh (fun (W:World) (hM:MaxW W)=>Xp s hs W hM);obtain ⟨fb,hfb⟩:∃ fb,Q5 s.data.toList=fb:=⟨_,rfl⟩;rw [hfb] at HC;have HG:=Zh hfb;clear hfb;cases num with
 | true=>
  have HMV:=Zh (fun (W:World)=>qQS true n vs hv W);obtain ⟨mv,hmv⟩:∃ mv,V.mayB ⟨true,n,vs.data.toList⟩=mv:=⟨_,rfl⟩;rw [hmv] at HMV;have HGM:=Zh hmv;clear hmv HV;go_enter Tryz.func209,Tryz.ntmps209;unfold Opk.text;go_upto_region 13 with fail
  refine Qg (fun v=>Hid (PBox v w.heap.size (Opk.eq).text s (true) (n) vs (.slice a len c))/\Hid (Below w.heap.size w v)) ⟨PBox.new w (Opk.eq).text s (true) (n) vs (.slice a len c) 123,Qj _ (.refl _ _)⟩ ?_;rintro X ⟨HX,HBX⟩;generalize w.heap.size=B at HX ⊢;obtain ⟨x0,x1,x2,x3,x4,x5,x6⟩:=HX.out;rename_i a1;have HA1:=Zh a1;clear a1;refine Tryst2.wp_region_grows [.is (.pointer (some ⟨B,1,none⟩)),.is (.string s),.is (.bool fb),.is (.pointer (some ⟨B,2,none⟩)),.is (.agg #[.bool (true),.int .i64 (n),.string vs]),.is (.bool mv)] (by kernel_rfl) (by kernel_rfl) ?obl ?fin
  case obl=>
   simp only [YA,YL,YO,YR,Op.operands,Call.operands]
   repeat' apply And.intro
   any_goals trivial
   all_goals (intro tv w' hg hold hd;(try simp at hold);obtain ⟨hcg,hfg,hsg⟩:=YG hg)
   all_goals first | (go_simp;done) | (go_simp;rw [if_neg (by omega)];exact ⟨.refl _,rfl⟩) | (obtain ⟨⟨g,hvg,hgg,hcell⟩,_⟩:=hd;have hcell0:=hcell 0 (by decide);simp at hcell0;go_simp;done) | (go_simp;go_at_call 121;(with_reducible refine (HC.out _ ?_).mono ?_);(exact HM.out.grow (Qk (Tryst2.Grow.below hg (.refl X.heap.size X)) HBX.out));rintro e w2 ⟨rfl,hb2⟩;exact ⟨hb2,rfl⟩) | (go_simp;go_at_call 217;(with_reducible refine (HMV.out _).mono ?_);rintro e w2 ⟨rfl,hb2⟩;exact ⟨hb2,rfl⟩)
  case fin=>
   intro tv w' hg hR;simp only [YF,YL,YR] at hR;obtain ⟨hcg,hfg,hsg⟩:=YG hg;simp only [YP,YL,Act.put,hR];have HB1:=Zh (Qk (Tryst2.Grow.below hg (.refl X.heap.size X)) HBX.out);have HX1:=Zh (HX.out.grow (Tryst2.Grow.below hg (.refl X.heap.size X)));have a1:=HA1.out;clear hg hR hcg hfg hsg HA1 x0 x1 x2 x3 x4 x5 x6;obtain ⟨x0,x1,x2,x3,x4,x5,x6⟩:=HX1.out;cases fb
   all_goals
    cases mv
    all_goals
     by_cases hl0:len=0
     all_goals
      have y1:=hl0;have HL0:=Zh hl0;clear hl0
      first | (have y2:((len:Int)==0)=true:=by simp<;>omega) | (have y2:((len:Int)==0)=false:=by simp<;>omega)
      clear y1
     all_goals
      go_wp2_with fail;have hg:=HG.out;have hm:=HGM.out;go_ret;refine ⟨Qq (Eq.trans ?_ (Yf (Opk.eq) s _ _ vs len).symm),HB1.out⟩;have hl0:=HL0.out;dsimp only [Jj];simp only [hg,hm,hl0,decide_true,decide_false,Bool.true_and,Bool.and_true,Bool.and_false,Bool.false_and]
 | false=>
  by_cases hn:n=0
  ·
   subst hn;have HMV:=Zh (fun (W:World)=>qQS false 0 vs hv W);obtain ⟨mv,hmv⟩:∃ mv,V.mayB ⟨false,0,vs.data.toList⟩=mv:=⟨_,rfl⟩;rw [hmv] at HMV;have HGM:=Zh hmv;clear hmv HV
   by_cases hvz:vs.toList=[]
   ·
    go_enter Tryz.func209,Tryz.ntmps209;unfold Opk.text;go_upto_region 13 with fail
    refine Qg (fun v=>Hid (PBox v w.heap.size (Opk.eq).text s (false) (0) vs (.slice a len c))/\Hid (Below w.heap.size w v)) ⟨PBox.new w (Opk.eq).text s (false) (0) vs (.slice a len c) 123,Qj _ (.refl _ _)⟩ ?_;rintro X ⟨HX,HBX⟩;generalize w.heap.size=B at HX ⊢;obtain ⟨x0,x1,x2,x3,x4,x5,x6⟩:=HX.out;rename_i a1;have HA1:=Zh a1;clear a1;refine Tryst2.wp_region_grows [.is (.pointer (some ⟨B,1,none⟩)),.is (.string s),.is (.bool fb),.is (.pointer (some ⟨B,2,none⟩)),.is (.agg #[.bool (false),.int .i64 (0),.string vs]),.is (.bool mv)] (by kernel_rfl) (by kernel_rfl) ?obl ?fin
    case obl=>
     simp only [YA,YL,YO,YR,Op.operands,Call.operands]
     repeat' apply And.intro
     any_goals trivial
     all_goals (intro tv w' hg hold hd;(try simp at hold);obtain ⟨hcg,hfg,hsg⟩:=YG hg)
     all_goals first | (go_simp;done) | (go_simp;rw [if_neg (by omega)];exact ⟨.refl _,rfl⟩) | (obtain ⟨⟨g,hvg,hgg,hcell⟩,_⟩:=hd;have hcell0:=hcell 0 (by decide);simp at hcell0;go_simp;done) | (go_simp;go_at_call 121;(with_reducible refine (HC.out _ ?_).mono ?_);(exact HM.out.grow (Qk (Tryst2.Grow.below hg (.refl X.heap.size X)) HBX.out));rintro e w2 ⟨rfl,hb2⟩;exact ⟨hb2,rfl⟩) | (go_simp;go_at_call 217;(with_reducible refine (HMV.out _).mono ?_);rintro e w2 ⟨rfl,hb2⟩;exact ⟨hb2,rfl⟩)
    case fin=>
     intro tv w' hg hR;simp only [YF,YL,YR] at hR;obtain ⟨hcg,hfg,hsg⟩:=YG hg;simp only [YP,YL,Act.put,hR];have HB1:=Zh (Qk (Tryst2.Grow.below hg (.refl X.heap.size X)) HBX.out);have HX1:=Zh (HX.out.grow (Tryst2.Grow.below hg (.refl X.heap.size X)));have a1:=HA1.out;clear hg hR hcg hfg hsg HA1 x0 x1 x2 x3 x4 x5 x6;obtain ⟨x0,x1,x2,x3,x4,x5,x6⟩:=HX1.out;cases fb
     all_goals
      cases mv
      all_goals
       by_cases hl0:len=0
       all_goals
        have y1:=hl0;have HL0:=Zh hl0;clear hl0
        first | (have y2:((len:Int)==0)=true:=by simp<;>omega) | (have y2:((len:Int)==0)=false:=by simp<;>omega)
        clear y1
       all_goals
        go_wp2_with fail;have hg:=HG.out;have hm:=HGM.out;go_ret;refine ⟨Qq (Eq.trans ?_ (Yf (Opk.eq) s _ _ vs len).symm),HB1.out⟩;have hl0:=HL0.out;dsimp only [Jj];simp only [hg,hm,hl0,decide_true,decide_false,Bool.true_and,Bool.and_true,Bool.and_false,Bool.false_and]
   ·
    go_enter Tryz.func209,Tryz.ntmps209;unfold Opk.text;go_upto_region 13 with fail
    refine Qg (fun v=>Hid (PBox v w.heap.size (Opk.eq).text s (false) (0) vs (.slice a len c))/\Hid (Below w.heap.size w v)) ⟨PBox.new w (Opk.eq).text s (false) (0) vs (.slice a len c) 123,Qj _ (.refl _ _)⟩ ?_;rintro X ⟨HX,HBX⟩;generalize w.heap.size=B at HX ⊢;obtain ⟨x0,x1,x2,x3,x4,x5,x6⟩:=HX.out;rename_i a1;have HA1:=Zh a1;clear a1;refine Tryst2.wp_region_grows [.is (.pointer (some ⟨B,1,none⟩)),.is (.string s),.is (.bool fb),.is (.pointer (some ⟨B,2,none⟩)),.is (.agg #[.bool (false),.int .i64 (0),.string vs]),.is (.bool mv)] (by kernel_rfl) (by kernel_rfl) ?obl ?fin
    case obl=>
     simp only [YA,YL,YO,YR,Op.operands,Call.operands]
     repeat' apply And.intro
     any_goals trivial
     all_goals (intro tv w' hg hold hd;(try simp at hold);obtain ⟨hcg,hfg,hsg⟩:=YG hg)
     all_goals first | (go_simp;done) | (go_simp;rw [if_neg (by omega)];exact ⟨.refl _,rfl⟩) | (obtain ⟨⟨g,hvg,hgg,hcell⟩,_⟩:=hd;have hcell0:=hcell 0 (by decide);simp at hcell0;go_simp;done) | (go_simp;go_at_call 121;(with_reducible refine (HC.out _ ?_).mono ?_);(exact HM.out.grow (Qk (Tryst2.Grow.below hg (.refl X.heap.size X)) HBX.out));rintro e w2 ⟨rfl,hb2⟩;exact ⟨hb2,rfl⟩) | (go_simp;go_at_call 217;(with_reducible refine (HMV.out _).mono ?_);rintro e w2 ⟨rfl,hb2⟩;exact ⟨hb2,rfl⟩)
    case fin=>
     intro tv w' hg hR;simp only [YF,YL,YR] at hR;obtain ⟨hcg,hfg,hsg⟩:=YG hg;simp only [YP,YL,Act.put,hR];have HB1:=Zh (Qk (Tryst2.Grow.below hg (.refl X.heap.size X)) HBX.out);have HX1:=Zh (HX.out.grow (Tryst2.Grow.below hg (.refl X.heap.size X)));have a1:=HA1.out;clear hg hR hcg hfg hsg HA1 x0 x1 x2 x3 x4 x5 x6;obtain ⟨x0,x1,x2,x3,x4,x5,x6⟩:=HX1.out;cases fb
     all_goals
      cases mv
      all_goals
       by_cases hl0:len=0
       all_goals
        have y1:=hl0;have HL0:=Zh hl0;clear hl0
        first | (have y2:((len:Int)==0)=true:=by simp<;>omega) | (have y2:((len:Int)==0)=false:=by simp<;>omega)
        clear y1
       all_goals
        go_wp2_with fail;have hg:=HG.out;have hm:=HGM.out;go_ret;refine ⟨Qq (Eq.trans ?_ (Yf (Opk.eq) s _ _ vs len).symm),HB1.out⟩;have hl0:=HL0.out;dsimp only [Jj];simp only [hg,hm,hl0,decide_true,decide_false,Bool.true_and,Bool.and_true,Bool.and_false,Bool.false_and]
  ·
   have HMV:=Zh (fun (W:World)=>qQS false n vs hv W);obtain ⟨mv,hmv⟩:∃ mv,V.mayB ⟨false,n,vs.data.toList⟩=mv:=⟨_,rfl⟩;rw [hmv] at HMV;have HGM:=Zh hmv;clear hmv HV;go_enter Tryz.func209,Tryz.ntmps209;unfold Opk.text;go_upto_region 13 with fail
   refine Qg (fun v=>Hid (PBox v w.heap.size (Opk.eq).text s (false) (n) vs (.slice a len c))/\Hid (Below w.heap.size w v)) ⟨PBox.new w (Opk.eq).text s (false) (n) vs (.slice a len c) 123,Qj _ (.refl _ _)⟩ ?_;rintro X ⟨HX,HBX⟩;generalize w.heap.size=B at HX ⊢;obtain ⟨x0,x1,x2,x3,x4,x5,x6⟩:=HX.out;rename_i a1;have HA1:=Zh a1;clear a1;refine Tryst2.wp_region_grows [.is (.pointer (some ⟨B,1,none⟩)),.is (.string s),.is (.bool fb),.is (.pointer (some ⟨B,2,none⟩)),.is (.agg #[.bool (false),.int .i64 (n),.string vs]),.is (.bool mv)] (by kernel_rfl) (by kernel_rfl) ?obl ?fin
   case obl=>
    simp only [YA,YL,YO,YR,Op.operands,Call.operands]
    repeat' apply And.intro
    any_goals trivial
    all_goals (intro tv w' hg hold hd;(try simp at hold);obtain ⟨hcg,hfg,hsg⟩:=YG hg)
    all_goals first | (go_simp;done) | (go_simp;rw [if_neg (by omega)];exact ⟨.refl _,rfl⟩) | (obtain ⟨⟨g,hvg,hgg,hcell⟩,_⟩:=hd;have hcell0:=hcell 0 (by decide);simp at hcell0;go_simp;done) | (go_simp;go_at_call 121;(with_reducible refine (HC.out _ ?_).mono ?_);(exact HM.out.grow (Qk (Tryst2.Grow.below hg (.refl X.heap.size X)) HBX.out));rintro e w2 ⟨rfl,hb2⟩;exact ⟨hb2,rfl⟩) | (go_simp;go_at_call 217;(with_reducible refine (HMV.out _).mono ?_);rintro e w2 ⟨rfl,hb2⟩;exact ⟨hb2,rfl⟩)
   case fin=>
    intro tv w' hg hR;simp only [YF,YL,YR] at hR;obtain ⟨hcg,hfg,hsg⟩:=YG hg;simp only [YP,YL,Act.put,hR];have HB1:=Zh (Qk (Tryst2.Grow.below hg (.refl X.heap.size X)) HBX.out);have HX1:=Zh (HX.out.grow (Tryst2.Grow.below hg (.refl X.heap.size X)));have a1:=HA1.out;clear hg hR hcg hfg hsg HA1 x0 x1 x2 x3 x4 x5 x6;obtain ⟨x0,x1,x2,x3,x4,x5,x6⟩:=HX1.out;cases fb
    all_goals
     cases mv
     all_goals
      by_cases hl0:len=0
      all_goals
       have y1:=hl0;have HL0:=Zh hl0;clear hl0
       first | (have y2:((len:Int)==0)=true:=by simp<;>omega) | (have y2:((len:Int)==0)=false:=by simp<;>omega)
       clear y1
      all_goals
       go_wp2_with fail;have hg:=HG.out;have hm:=HGM.out;go_ret;refine ⟨Qq (Eq.trans ?_ (Yf (Opk.eq) s _ _ vs len).symm),HB1.out⟩;have hl0:=HL0.out;dsimp only [Jj];simp only [hg,hm,hl0,decide_true,decide_false,Bool.true_and,Bool.and_true,Bool.and_false,Bool.false_and]
set_option maxHeartbeats 8000000 in
theorem jJy (s:ByteArray) (num:Bool) (n:Int) (vs:ByteArray) (a:Option Addr) (len c:Nat) (hs:s.size<=1000000000) (hv:vs.size<=1000000000) (hl:len<=1000000000) (w:World) (hM:MaxW w) :
  Calls Tryz.prog 209 #[.agg #[.string (Opk.text Opk.lt),.string s,.bool num,.int .i64 n,.string vs,.slice a len c]] w fun e w'=>e=.returned (.bool (Z6 (Opk.text Opk.lt) s num n vs len))/\Below w.heap.size w w':=by
 have HM:=Zh hM;clear hM;have hsz:True:=trivial;have HV:True:=trivial;clear hsz;have HC:=Zh (fun (W:World) (hM:MaxW W)=>Xp s hs W hM);obtain ⟨fb,hfb⟩:∃ fb,Q5 s.data.toList=fb:=⟨_,rfl⟩;rw [hfb] at HC;have HG:=Zh hfb;clear hfb;cases num with
 | true=>
  have HMV:=Zh (fun (W:World)=>qQS true n vs hv W);obtain ⟨mv,hmv⟩:∃ mv,V.mayB ⟨true,n,vs.data.toList⟩=mv:=⟨_,rfl⟩;rw [hmv] at HMV;have HGM:=Zh hmv;clear hmv HV;go_enter Tryz.func209,Tryz.ntmps209;unfold Opk.text;go_upto_region 13 with fail
  refine Qg (fun v=>Hid (PBox v w.heap.size (Opk.lt).text s (true) (n) vs (.slice a len c))/\Hid (Below w.heap.size w v)) ⟨PBox.new w (Opk.lt).text s (true) (n) vs (.slice a len c) 123,Qj _ (.refl _ _)⟩ ?_;rintro X ⟨HX,HBX⟩;generalize w.heap.size=B at HX ⊢;obtain ⟨x0,x1,x2,x3,x4,x5,x6⟩:=HX.out;rename_i a1;have HA1:=Zh a1;clear a1;refine Tryst2.wp_region_grows [.is (.pointer (some ⟨B,1,none⟩)),.is (.string s),.is (.bool fb),.is (.pointer (some ⟨B,2,none⟩)),.is (.agg #[.bool (true),.int .i64 (n),.string vs]),.is (.bool mv)] (by kernel_rfl) (by kernel_rfl) ?obl ?fin
  case obl=>
   simp only [YA,YL,YO,YR,Op.operands,Call.operands]
   repeat' apply And.intro
   any_goals trivial
   all_goals (intro tv w' hg hold hd;(try simp at hold);obtain ⟨hcg,hfg,hsg⟩:=YG hg)
   all_goals first | (go_simp;done) | (go_simp;rw [if_neg (by omega)];exact ⟨.refl _,rfl⟩) | (obtain ⟨⟨g,hvg,hgg,hcell⟩,_⟩:=hd;have hcell0:=hcell 0 (by decide);simp at hcell0;go_simp;done) | (go_simp;go_at_call 121;(with_reducible refine (HC.out _ ?_).mono ?_);(exact HM.out.grow (Qk (Tryst2.Grow.below hg (.refl X.heap.size X)) HBX.out));rintro e w2 ⟨rfl,hb2⟩;exact ⟨hb2,rfl⟩) | (go_simp;go_at_call 217;(with_reducible refine (HMV.out _).mono ?_);rintro e w2 ⟨rfl,hb2⟩;exact ⟨hb2,rfl⟩)
  case fin=>
   intro tv w' hg hR;simp only [YF,YL,YR] at hR;obtain ⟨hcg,hfg,hsg⟩:=YG hg;simp only [YP,YL,Act.put,hR];have HB1:=Zh (Qk (Tryst2.Grow.below hg (.refl X.heap.size X)) HBX.out);have HX1:=Zh (HX.out.grow (Tryst2.Grow.below hg (.refl X.heap.size X)));have a1:=HA1.out;clear hg hR hcg hfg hsg HA1 x0 x1 x2 x3 x4 x5 x6;obtain ⟨x0,x1,x2,x3,x4,x5,x6⟩:=HX1.out;cases fb
   all_goals
    cases mv
    all_goals
     by_cases hl0:len=0
     all_goals
      have y1:=hl0;have HL0:=Zh hl0;clear hl0
      first | (have y2:((len:Int)==0)=true:=by simp<;>omega) | (have y2:((len:Int)==0)=false:=by simp<;>omega)
      clear y1
     all_goals
      go_wp2_with fail;have hg:=HG.out;have hm:=HGM.out;go_ret;refine ⟨Qq (Eq.trans ?_ (Yf (Opk.lt) s _ _ vs len).symm),HB1.out⟩;have hl0:=HL0.out;dsimp only [Jj];simp only [hg,hm,hl0,decide_true,decide_false,Bool.true_and,Bool.and_true,Bool.and_false,Bool.false_and]
 | false=>
  by_cases hn:n=0
  ·
   subst hn;have HMV:=Zh (fun (W:World)=>qQS false 0 vs hv W);obtain ⟨mv,hmv⟩:∃ mv,V.mayB ⟨false,0,vs.data.toList⟩=mv:=⟨_,rfl⟩;rw [hmv] at HMV;have HGM:=Zh hmv;clear hmv HV
   by_cases hvz:vs.toList=[]
   ·
    go_enter Tryz.func209,Tryz.ntmps209;unfold Opk.text;go_upto_region 13 with fail
    refine Qg (fun v=>Hid (PBox v w.heap.size (Opk.lt).text s (false) (0) vs (.slice a len c))/\Hid (Below w.heap.size w v)) ⟨PBox.new w (Opk.lt).text s (false) (0) vs (.slice a len c) 123,Qj _ (.refl _ _)⟩ ?_;rintro X ⟨HX,HBX⟩;generalize w.heap.size=B at HX ⊢;obtain ⟨x0,x1,x2,x3,x4,x5,x6⟩:=HX.out;rename_i a1;have HA1:=Zh a1;clear a1;refine Tryst2.wp_region_grows [.is (.pointer (some ⟨B,1,none⟩)),.is (.string s),.is (.bool fb),.is (.pointer (some ⟨B,2,none⟩)),.is (.agg #[.bool (false),.int .i64 (0),.string vs]),.is (.bool mv)] (by kernel_rfl) (by kernel_rfl) ?obl ?fin
    case obl=>
     simp only [YA,YL,YO,YR,Op.operands,Call.operands]
     repeat' apply And.intro
     any_goals trivial
     all_goals (intro tv w' hg hold hd;(try simp at hold);obtain ⟨hcg,hfg,hsg⟩:=YG hg)
     all_goals first | (go_simp;done) | (go_simp;rw [if_neg (by omega)];exact ⟨.refl _,rfl⟩) | (obtain ⟨⟨g,hvg,hgg,hcell⟩,_⟩:=hd;have hcell0:=hcell 0 (by decide);simp at hcell0;go_simp;done) | (go_simp;go_at_call 121;(with_reducible refine (HC.out _ ?_).mono ?_);(exact HM.out.grow (Qk (Tryst2.Grow.below hg (.refl X.heap.size X)) HBX.out));rintro e w2 ⟨rfl,hb2⟩;exact ⟨hb2,rfl⟩) | (go_simp;go_at_call 217;(with_reducible refine (HMV.out _).mono ?_);rintro e w2 ⟨rfl,hb2⟩;exact ⟨hb2,rfl⟩)
    case fin=>
     intro tv w' hg hR;simp only [YF,YL,YR] at hR;obtain ⟨hcg,hfg,hsg⟩:=YG hg;simp only [YP,YL,Act.put,hR];have HB1:=Zh (Qk (Tryst2.Grow.below hg (.refl X.heap.size X)) HBX.out);have HX1:=Zh (HX.out.grow (Tryst2.Grow.below hg (.refl X.heap.size X)));have a1:=HA1.out;clear hg hR hcg hfg hsg HA1 x0 x1 x2 x3 x4 x5 x6;obtain ⟨x0,x1,x2,x3,x4,x5,x6⟩:=HX1.out;cases fb
     all_goals
      cases mv
      all_goals
       by_cases hl0:len=0
       all_goals
        have y1:=hl0;have HL0:=Zh hl0;clear hl0
        first | (have y2:((len:Int)==0)=true:=by simp<;>omega) | (have y2:((len:Int)==0)=false:=by simp<;>omega)
        clear y1
       all_goals
        go_wp2_with fail;have hg:=HG.out;have hm:=HGM.out;go_ret;refine ⟨Qq (Eq.trans ?_ (Yf (Opk.lt) s _ _ vs len).symm),HB1.out⟩;have hl0:=HL0.out;dsimp only [Jj];simp only [hg,hm,hl0,decide_true,decide_false,Bool.true_and,Bool.and_true,Bool.and_false,Bool.false_and]
   ·
    go_enter Tryz.func209,Tryz.ntmps209;unfold Opk.text;go_upto_region 13 with fail
    refine Qg (fun v=>Hid (PBox v w.heap.size (Opk.lt).text s (false) (0) vs (.slice a len c))/\Hid (Below w.heap.size w v)) ⟨PBox.new w (Opk.lt).text s (false) (0) vs (.slice a len c) 123,Qj _ (.refl _ _)⟩ ?_;rintro X ⟨HX,HBX⟩;generalize w.heap.size=B at HX ⊢;obtain ⟨x0,x1,x2,x3,x4,x5,x6⟩:=HX.out;rename_i a1;have HA1:=Zh a1;clear a1;refine Tryst2.wp_region_grows [.is (.pointer (some ⟨B,1,none⟩)),.is (.string s),.is (.bool fb),.is (.pointer (some ⟨B,2,none⟩)),.is (.agg #[.bool (false),.int .i64 (0),.string vs]),.is (.bool mv)] (by kernel_rfl) (by kernel_rfl) ?obl ?fin
    case obl=>
     simp only [YA,YL,YO,YR,Op.operands,Call.operands]
     repeat' apply And.intro
     any_goals trivial
     all_goals (intro tv w' hg hold hd;(try simp at hold);obtain ⟨hcg,hfg,hsg⟩:=YG hg)
     all_goals first | (go_simp;done) | (go_simp;rw [if_neg (by omega)];exact ⟨.refl _,rfl⟩) | (obtain ⟨⟨g,hvg,hgg,hcell⟩,_⟩:=hd;have hcell0:=hcell 0 (by decide);simp at hcell0;go_simp;done) | (go_simp;go_at_call 121;(with_reducible refine (HC.out _ ?_).mono ?_);(exact HM.out.grow (Qk (Tryst2.Grow.below hg (.refl X.heap.size X)) HBX.out));rintro e w2 ⟨rfl,hb2⟩;exact ⟨hb2,rfl⟩) | (go_simp;go_at_call 217;(with_reducible refine (HMV.out _).mono ?_);rintro e w2 ⟨rfl,hb2⟩;exact ⟨hb2,rfl⟩)
    case fin=>
     intro tv w' hg hR;simp only [YF,YL,YR] at hR;obtain ⟨hcg,hfg,hsg⟩:=YG hg;simp only [YP,YL,Act.put,hR];have HB1:=Zh (Qk (Tryst2.Grow.below hg (.refl X.heap.size X)) HBX.out);have HX1:=Zh (HX.out.grow (Tryst2.Grow.below hg (.refl X.heap.size X)));have a1:=HA1.out;clear hg hR hcg hfg hsg HA1 x0 x1 x2 x3 x4 x5 x6;obtain ⟨x0,x1,x2,x3,x4,x5,x6⟩:=HX1.out;cases fb
     all_goals
      cases mv
      all_goals
       by_cases hl0:len=0
       all_goals
        have y1:=hl0;have HL0:=Zh hl0;clear hl0
        first | (have y2:((len:Int)==0)=true:=by simp<;>omega) | (have y2:((len:Int)==0)=false:=by simp<;>omega)
        clear y1
       all_goals
        go_wp2_with fail;have hg:=HG.out;have hm:=HGM.out;go_ret;refine ⟨Qq (Eq.trans ?_ (Yf (Opk.lt) s _ _ vs len).symm),HB1.out⟩;have hl0:=HL0.out;dsimp only [Jj];simp only [hg,hm,hl0,decide_true,decide_false,Bool.true_and,Bool.and_true,Bool.and_false,Bool.false_and]
  ·
   have HMV:=Zh (fun (W:World)=>qQS false n vs hv W);obtain ⟨mv,hmv⟩:∃ mv,V.mayB ⟨false,n,vs.data.toList⟩=mv:=⟨_,rfl⟩;rw [hmv] at HMV;have HGM:=Zh hmv;clear hmv HV;go_enter Tryz.func209,Tryz.ntmps209;unfold Opk.text;go_upto_region 13 with fail
   refine Qg (fun v=>Hid (PBox v w.heap.size (Opk.lt).text s (false) (n) vs (.slice a len c))/\Hid (Below w.heap.size w v)) ⟨PBox.new w (Opk.lt).text s (false) (n) vs (.slice a len c) 123,Qj _ (.refl _ _)⟩ ?_;rintro X ⟨HX,HBX⟩;generalize w.heap.size=B at HX ⊢;obtain ⟨x0,x1,x2,x3,x4,x5,x6⟩:=HX.out;rename_i a1;have HA1:=Zh a1;clear a1;refine Tryst2.wp_region_grows [.is (.pointer (some ⟨B,1,none⟩)),.is (.string s),.is (.bool fb),.is (.pointer (some ⟨B,2,none⟩)),.is (.agg #[.bool (false),.int .i64 (n),.string vs]),.is (.bool mv)] (by kernel_rfl) (by kernel_rfl) ?obl ?fin
   case obl=>
    simp only [YA,YL,YO,YR,Op.operands,Call.operands]
    repeat' apply And.intro
    any_goals trivial
    all_goals (intro tv w' hg hold hd;(try simp at hold);obtain ⟨hcg,hfg,hsg⟩:=YG hg)
    all_goals first | (go_simp;done) | (go_simp;rw [if_neg (by omega)];exact ⟨.refl _,rfl⟩) | (obtain ⟨⟨g,hvg,hgg,hcell⟩,_⟩:=hd;have hcell0:=hcell 0 (by decide);simp at hcell0;go_simp;done) | (go_simp;go_at_call 121;(with_reducible refine (HC.out _ ?_).mono ?_);(exact HM.out.grow (Qk (Tryst2.Grow.below hg (.refl X.heap.size X)) HBX.out));rintro e w2 ⟨rfl,hb2⟩;exact ⟨hb2,rfl⟩) | (go_simp;go_at_call 217;(with_reducible refine (HMV.out _).mono ?_);rintro e w2 ⟨rfl,hb2⟩;exact ⟨hb2,rfl⟩)
   case fin=>
    intro tv w' hg hR;simp only [YF,YL,YR] at hR;obtain ⟨hcg,hfg,hsg⟩:=YG hg;simp only [YP,YL,Act.put,hR];have HB1:=Zh (Qk (Tryst2.Grow.below hg (.refl X.heap.size X)) HBX.out);have HX1:=Zh (HX.out.grow (Tryst2.Grow.below hg (.refl X.heap.size X)));have a1:=HA1.out;clear hg hR hcg hfg hsg HA1 x0 x1 x2 x3 x4 x5 x6;obtain ⟨x0,x1,x2,x3,x4,x5,x6⟩:=HX1.out;cases fb
    all_goals
     cases mv
     all_goals
      by_cases hl0:len=0
      all_goals
       have y1:=hl0;have HL0:=Zh hl0;clear hl0
       first | (have y2:((len:Int)==0)=true:=by simp<;>omega) | (have y2:((len:Int)==0)=false:=by simp<;>omega)
       clear y1
      all_goals
       go_wp2_with fail;have hg:=HG.out;have hm:=HGM.out;go_ret;refine ⟨Qq (Eq.trans ?_ (Yf (Opk.lt) s _ _ vs len).symm),HB1.out⟩;have hl0:=HL0.out;dsimp only [Jj];simp only [hg,hm,hl0,decide_true,decide_false,Bool.true_and,Bool.and_true,Bool.and_false,Bool.false_and]
