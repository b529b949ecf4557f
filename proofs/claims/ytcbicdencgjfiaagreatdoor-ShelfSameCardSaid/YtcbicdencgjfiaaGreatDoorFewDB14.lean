import Derived.Test.YtcbicdencgjfiaaGreatDoorFewD14
set_option linter.all false
set_option maxHeartbeats 4000000
set_option maxRecDepth 20000
namespace Go.Proofs.YtcbicdencgjfiaaGreatDoor
open Go.RowKit Tryst
structure DOB (base:Nat) (w:World) (d:DB):Prop where
 o:DO w d
 ga:∀ b o,d.ga=some ⟨b,o,none⟩->base<=b
 wa:∀ b o,d.wa=some ⟨b,o,none⟩->base<=b
 ps:∀ p∈d.wl,POwn w (fun b=>base<=b) p/\J9 p<=50
 g6:d.gl.length<=6
 w7:d.wl.length<=7
theorem DOB.grow {base:Nat} {v w:World} {d:DB} (h:DOB base v d) (hb:Below v.heap.size v w):DOB base w d:=⟨h.o.grow hb,h.ga,h.wa,fun p hp=>⟨(h.ps p hp).1.grow hb (fun _ h=>h),(h.ps p hp).2⟩,h.g6,h.w7⟩
theorem DOB.keep {base:Nat} {v w:World} {d:DB} (h:DOB base v d) (hk:∀ b,base<=b->w.heap[b]?=v.heap[b]?) (hz:v.heap.size<=w.heap.size):DOB base w d:=by
 have hp:∀ p∈d.wl,POwn w (fun b=>base<=b) p/\J9 p<=50:=fun p hp=>⟨(h.ps p hp).1.keep (fun b hb _=>⟨hk b hb,hb⟩) hz,(h.ps p hp).2⟩
 exact ⟨⟨h.o.hn,h.o.hg,h.o.hgs,Strs.keepB h.o.gS (fun b o e=>hk b (h.ga b o e)) hz,h.o.gL,h.o.hw,⟨h.o.wR.row.block (fun b o e=>hk b (h.wa b o e)) hz,h.o.wR.sl,fun p hp'=>⟨(hp p hp').1.grow (.refl _ _) (fun _ _=>trivial),(hp p hp').2⟩⟩,h.o.hk⟩,h.ga,h.wa,hp,h.g6,h.w7⟩
set_option maxHeartbeats 16000000 in
theorem qJx (d:DB) (w:World) (hD:DArg w d):Calls Tryz.prog 27 #[d.agg] w fun e w'=>∃ d':DB,e=.returned d'.agg/\DOB w.heap.size w' d'/\Below w.heap.size w w'/\d'.j=⟨jQz d.j.kind,d.j.parts,d.j.need,d.j.window⟩:=by
 have CN:=Zh (fun W=>jQn d.name hD.hn W);have CK:=Zh (fun W=>jQn d.key hD.hk W);have CJ:=Zh (fun W=>xJX d.j.kind d.j.parts d.j.need d.j.window hD.hj W);have CG:=Zh (fun (k:Nat) (hk:k < d.gl.length) W=>jQn d.gl[k] (hD.gs _ (List.getElem_mem hk)) W);have cP:=(fun (k:Nat) (hk:k < d.wl.length) W (hb:Below w.heap.size w W)=>xJL d.wl[k] W (PArg.grow (hD.wP _ (List.getElem_mem hk)) hb));unfold PB.agg at cP;have CP:=Zh cP;have HG:=Zh (fun W (hb:Below w.heap.size w W)=>hD.gS.grow hb);have HU:=Zh (fun W (hb:Below w.heap.size w W)=>hD.wR.grow hb);have hlg:=hD.gn;have hlw:=hD.wn;clear hD cP;obtain ⟨nm,ga,gl,gc,wa,wl,wc,ky,⟨kd,p,n,x⟩⟩:=d;unfold DB.agg;simp only at CN CK CJ CG CP HG HU hlg hlw ⊢;have n1:=Z7 nm;have n2:=Z7 ky;generalize Q7 nm=nm1 at CN n1;generalize Q7 ky=ky1 at CK n2;generalize jQz kd=kd1 at CJ ⊢;go_enter Tryz.func27,Tryz.ntmps27;go_upto_region 1 with fail
 have q0:=DX.new w nm (.slice ga gl.length gc) (.slice wa wl.length wc) ky kd p n x;have q1:=DX.new (w.alloc (.cells #[.string nm,.slice ga gl.length gc,.slice wa wl.length wc,.string ky,.string kd,.int .i64 p,.int .i64 n,.int .i64 x] 45)) ⟨#[]⟩ (.slice none 0 0) (.slice none 0 0) ⟨#[]⟩ ⟨#[]⟩ 0 0 0;rw [show (w.alloc (.cells #[.string nm,.slice ga gl.length gc,.slice wa wl.length wc,.string ky,.string kd,.int .i64 p,.int .i64 n,.int .i64 x] 45)).heap.size=w.heap.size+1 by simp] at q1;refine Qg (fun v=>Hid (DX v w.heap.size nm (.slice ga gl.length gc) (.slice wa wl.length wc) ky kd p n x)/\Hid (DX v (w.heap.size+1) ⟨#[]⟩ (.slice none 0 0) (.slice none 0 0) ⟨#[]⟩ ⟨#[]⟩ 0 0 0)/\Hid (Below w.heap.size w v)) ⟨q0.grow (Qj _ (.refl _ _)),q1,Qj _ (Qj _ (.refl _ _))⟩ ?_;rintro Y ⟨HA,HZ,HY⟩;clear q0 q1;obtain ⟨x0,x1,x2,x3,x4,x5,x6,x7,x8⟩:=HA.out.box;refine Tryst2.wp_region_grows [.is (.pointer (some ⟨w.heap.size,0,none⟩)),.is (.string nm),.is (.string nm1),.is (.pointer (some ⟨w.heap.size,3,none⟩)),.is (.string ky),.is (.string ky1),.is (.pointer (some ⟨w.heap.size,4,none⟩)),.is (.agg #[.string kd,.int .i64 p,.int .i64 n,.int .i64 x]),.is (.agg #[.string kd1,.int .i64 p,.int .i64 n,.int .i64 x]),.is (.agg #[.string nm1,.slice none 0 0,.slice none 0 0,.string ky1,.string kd1,.int .i64 p,.int .i64 n,.int .i64 x]),.any (qQk Y.heap.size 45 [.string ⟨#[]⟩,.slice none 0 0,.slice none 0 0,.string ⟨#[]⟩,.string ⟨#[]⟩,.int .i64 0,.int .i64 0,.int .i64 0])] (by kernel_rfl) (by kernel_rfl) ?obl ?fin
 case obl=>
  simp only [YA,YL,YO,YR,Op.operands,Call.operands]
  repeat' apply And.intro
  any_goals trivial
  all_goals (intro tv w' hg hold hd;(try simp at hold);obtain ⟨hcg,hfg,hsg⟩:=YG hg)
  all_goals first | (go_simp;done) | (go_simp;rw [if_neg (by omega)];exact ⟨.refl _,rfl⟩) | (obtain ⟨⟨g,hvg,hgg,hcell⟩,_⟩:=hd;have hcell0:=hcell 0 (by decide);simp at hcell0;go_simp;done) | (go_simp;refine (CN.out _).mono ?_;rintro e w2 ⟨rfl,rfl⟩;exact ⟨Tryst2.Grow.refl _,rfl⟩) | (go_simp;refine (CK.out _).mono ?_;rintro e w2 ⟨rfl,rfl⟩;exact ⟨Tryst2.Grow.refl _,rfl⟩) | (go_simp;refine (CJ.out _).mono ?_;rintro e w2 ⟨rfl,hb2⟩;exact ⟨hb2,rfl⟩) | (rw [jYa _ _ _ rfl,Tryst2.stepV_value];exact qJJ _ _ _ _ (by omega))
 case fin=>
  intro tv w' hg hR;simp only [YF,YL,YR] at hR;obtain ⟨hcg,hfg,hsg⟩:=YG hg;simp only [YP,YL,Act.put,hR];obtain ⟨g,e3,hg1,hg2,hg3⟩:=qQk.at hR.2.2.2.2.2.2.2.2.2.2.1;simp only [e3];have HBZ:=Zh (Tryst2.Grow.below hg (.refl Y.heap.size Y));have HXg:Hid (DX w' g ⟨#[]⟩ (.slice none 0 0) (.slice none 0 0) ⟨#[]⟩ ⟨#[]⟩ 0 0 0):=hg3;have HA2:=Zh (HA.out.grow HBZ.out);have HZ2:=Zh (HZ.out.grow HBZ.out);have HY2:=Zh (Qk HBZ.out HY.out)
  have hgP:w.heap.size+1 < g:=by
   have:=HZ.out.box.lt;omega
  clear hg hR hcg hfg hsg x0 x1 x2 x3 x4 x5 x6 x7 x8 CN CK CJ hg3 e3 HA HZ HY HBZ;obtain ⟨x0,x1,x2,x3,x4,x5,x6,x7,x8⟩:=HXg.out.box;have z0:=HXg.out.fz 0;have z1:=HXg.out.fz 1;have z2:=HXg.out.fz 2;have z3:=HXg.out.fz 3;have z4:=HXg.out.fz 4;have z5:=HXg.out.fz 5;have z6:=HXg.out.fz 6;have z7:=HXg.out.fz 7;go_upto_region 2 with fail
  refine Qg (fun v=>Hid (F3 w v g nm (.slice ga gl.length gc) (.slice wa wl.length wc) ky kd p n x nm1 (.slice none 0 0) (.slice none 0 0) ky1 kd1)) ?_ ?_
  · show F3 w (DS8 w' g nm1 (.slice none 0 0) (.slice none 0 0) ky1 kd1 p n x) g nm (.slice ga gl.length gc) (.slice wa wl.length wc) ky kd p n x nm1 (.slice none 0 0) (.slice none 0 0) ky1 kd1;exact ⟨(DS8.away (by omega)).trans HA2.out,(DS8.away (by omega)).trans HZ2.out,DS8.box HXg.out,hgP,DS8.below (by omega) HY2.out⟩
  rintro v HF;clear x0 x1 x2 x3 x4 x5 x6 x7 x8 z0 z1 z2 z3 z4 z5 z6 z7 HXg HA2 HZ2 HY2 hg1 hg2;obtain ⟨B,hB⟩:∃ B,v.heap.size=B:=⟨_,rfl⟩;have hgB:g < B:=by have:=HF.out.x.box.lt;omega
  have hBv:B<=v.heap.size:=by omega
  clear hB;go_wp2_with fail;go_loopw [4] (fun i wr=>FD1 w g B nm (.slice ga gl.length gc) (.slice wa wl.length wc) ky kd nm1 ky1 kd1 p n x gl i wr) (fun i _=>gl.length - (intOf i).toNat)
  case atStart=>exact ⟨0,.slice none 0 0,by omega,by omega,rfl,HF,Zh (ROwn.nil _ _ _ _),hBv⟩
  case round=>
   clear HF hBv;obtain ⟨k,v,hk6,hkl,rfl,HF,HO,hBw⟩:=hrel;obtain ⟨wo,rfl⟩:∃ wo,wo=wr:=⟨_,rfl⟩;obtain ⟨y0,y1,y2,y3,y4,y5,y6,y7,y8⟩:=HF.out.a.box;obtain ⟨x0,x1,x2,x3,x4,x5,x6,x7,x8⟩:=HF.out.x.box
   by_cases hlt:k < gl.length/\k < 6
   ·
    obtain ⟨hl1,hl2⟩:=hlt;obtain ⟨b,o,ha,hb⟩:=(HG.out wo HF.out.l).head hl1;subst ha;have f0:=((HG.out wo HF.out.l).at hl1).2;have HCC:=Zh (CG.out k hl1);have HL2:Hid (gV ((gl.take (k+1)).map Q7)=gV ((gl.take k).map Q7)++[[.string (Q7 gl[k])]]):=Zh (by unfold gV;rw [List.take_succ_eq_append_getElem hl1,List.map_append,List.map_append];rfl);obtain ⟨L,hL⟩:∃ L,gV ((gl.take k).map Q7)=L:=⟨_,rfl⟩;have hLl:L.length=k:=by rw [<- hL];unfold gV;simp;omega
    rw [hL] at HO HL2;have HLL:=Zh hLl
    have HLN:Hid (∀ x∈L,x.length=1):=Zh (fun x hx=>by
     rw [<- hL] at hx;obtain ⟨s,_,rfl⟩:=List.mem_map.1 hx;rfl)
    clear hL hLl;generalize gl[k]=s at f0 HCC HL2;generalize Q7 s=s1 at HCC HL2;have q1:(k:Int) < gl.length:=by omega
    have q2:(k:Int) < 6:=by omega
    go_upto_region 5 with fail
    refine Tryst2.wp_region_grows [.is (.pointer (some ⟨g,1,none⟩)),.is v,.is (.pointer (some ⟨w.heap.size,1,none⟩)),.is (.slice (some ⟨b,o,none⟩) gl.length gc),.is (.int .i64 (k:Int)),.is (.pointer (some ⟨b,o+k,none⟩)),.is (.string s),.is (.string s1),.any (zQV s1)] (by kernel_rfl) (by kernel_rfl) ?obl ?fin
    case obl=>
     simp only [YA,YL,YO,YR,Op.operands,Call.operands]
     repeat' apply And.intro
     any_goals trivial
     all_goals (intro tv w' hg hold hd;(try simp at hold);obtain ⟨hcg,hfg,hsg⟩:=YG hg)
     all_goals first | (go_simp;done) | (go_simp;rw [if_neg (by omega)];exact ⟨.refl _,rfl⟩) | (obtain ⟨⟨g,hvg,hgg,hcell⟩,_⟩:=hd;have hcell0:=hcell 0 (by decide);simp at hcell0;go_simp;done) | (go_simp;refine (HCC.out _).mono ?_;rintro e w2 ⟨rfl,rfl⟩;exact ⟨Tryst2.Grow.refl _,rfl⟩) | (go_simp;exact (zQV.of _ s1).2)
    case fin=>
     intro tv w' hg hR;simp only [YF,YL,YR] at hR;obtain ⟨hcg,hfg,hsg⟩:=YG hg;simp only [YP,YL,Act.put,hR];obtain ⟨gv,e6,h6⟩:=zQV.at hR.2.2.2.2.2.2.2.2.1;simp only [e6];have hbw:=Tryst2.Grow.below hg (.refl wo.heap.size wo);have HF6:=Zh (HF.out.grow hbw);have HO6:=Zh (HO.out.grow hbw);have hz6:B<=w'.heap.size:=by have:=hbw.size;omega
     have H6:=Zh h6;clear hR hcg hfg hsg e6 hbw h6 hg HO HF x0 x1 x2 x3 x4 x5 x6 x7 x8 y0 y1 y2 y3 y4 y5 y6 y7 y8 f0;refine Kq strT rfl _ _ rfl B v L k HLL.out rfl HO6.out [.string s1] rfl (by intro u hu;simp at hu;subst hu;rfl) gv rfl (by intro j hj;obtain rfl:j=0:=(by omega);have h6:=H6.out;simp [World.cell?,h6]) (by omega) hz6 ?_;intro v' w3 ho3 hb3 _
     obtain ⟨a3,c3,hv3,_⟩:=ROwn.row ho3 (fun x hx=>by
      rcases List.mem_append.1 hx with h | h
      · exact HLN.out x h
      · rw [List.mem_singleton] at h;subst h;rfl) (by decide)
     rw [show (L++[[Value.string s1]]).length=L.length+1 by simp] at hv3;subst hv3;have HF3:=HF6.out.growB hgB hb3;have HFS:=Zh (HF3.set1 (.slice a3 (L.length+1) c3));have HO3:Hid (ROwn 9 1 (w3.setCell ⟨g,1,none⟩ (.slice a3 (L.length+1) c3)) B (.slice a3 (L.length+1) c3) (gV ((gl.take (k+1)).map Q7))):=Zh (by rw [HL2.out];exact ho3.below hgB _);have hBr3:B<=(w3.setCell ⟨g,1,none⟩ (.slice a3 (L.length+1) c3)).heap.size:=by have:=hb3.size;simp;omega
     obtain ⟨x0,x1,x2,x3,x4,x5,x6,x7,x8⟩:=HF3.x.box;have z1:=HF3.x.fz 1;clear ho3 hb3 HF3 HF6 HO6 H6;go_wp2_with fail;go_roundw
     case rel=>exact ⟨k+1,_,by omega,by omega,by go_num,HFS,HO3,hBr3⟩
     case measure=>simp [intOf]<;>omega
   ·
    obtain ⟨gs,hgs⟩:∃ gs,(gl.take k).map Q7=gs:=⟨_,rfl⟩;have HGL:Hid (gs.length<=6):=Zh (by rw [<- hgs];simp;omega)
    have HGZ:Hid (∀ s∈gs,s.size<=60):=Zh (fun s hs=>by
     rw [<- hgs] at hs;obtain ⟨t,_,rfl⟩:=List.mem_map.1 hs;exact Z7 t)
    have HO2:Hid (ROwn 9 1 wo B v (gs.map fun s=>[Value.string s])):=Zh (by rw [<- hgs];exact HO.out);clear HO hgs
    by_cases hks:k < gl.length
    ·
     have h6:k=6:=by omega
     subst h6;obtain ⟨a1,c1,hv1,hS1,hL1,hA1⟩:=SOwn.strs (SOwn.rows.2 HO2.out);subst hv1;have HS1:=Zh hS1;have HL1:=Zh hL1;have HA1:Hid (∀ b o,a1=some ⟨b,o,none⟩->B<=b/\b < wo.heap.size):=Zh (fun b o e=>⟨(hA1 b o e).1,(hA1 b o e).2⟩);clear hS1 hL1 hA1 HO2 HG CG;obtain ⟨B2,hB2⟩:∃ B2,wo.heap.size=B2:=⟨_,rfl⟩;rw [hB2] at HA1;have hgB2:g < B2:=by omega
     have hBB:B<=B2:=by omega
     have hB2w:B2<=wo.heap.size:=by omega
     have HO20:Hid (ROwn 123 6 wo B2 (.slice none 0 0) (([]:List PB).map PB.cells)):=Zh (ROwn.nil _ _ _ _);clear hB2;go_wp2_with fail;go_loopw [5] (fun i wr=>FD2 w g B2 nm (.slice ga gl.length gc) (.slice wa wl.length wc) ky kd nm1 ky1 kd1 p n x a1 c1 gs wl.length i wr) (fun i _=>wl.length - (intOf i).toNat)
     case atStart=>exact ⟨0,.slice none 0 0,[],by omega,by omega,rfl,rfl,HF,HO20,Zh (fun y h=>by cases h),HS1,hB2w⟩
     case round=>
      clear HF HS1 HO20 hB2w hBw;obtain ⟨m,v,ys,hm7,hml,rfl,hym,HF,HO,HY,HS,hBr⟩:=hrel;obtain ⟨wq,rfl⟩:∃ wq,wq=wr:=⟨_,rfl⟩;obtain ⟨y0,y1,y2,y3,y4,y5,y6,y7,y8⟩:=HF.out.a.box;obtain ⟨x0,x1,x2,x3,x4,x5,x6,x7,x8⟩:=HF.out.x.box;have z2:=HF.out.x.fz 2;have hwq:w.heap.size+1 < wq.heap.size:=by have:=HF.out.hg;omega
      have HYM:=Zh hym;clear hym
      by_cases hlt2:m < wl.length/\m < 7
      ·
       obtain ⟨hl3,hl4⟩:=hlt2;obtain ⟨b,o,ha,hb⟩:=(HU.out wq HF.out.l).head (i:=m) (by simpa using hl3);subst ha;obtain ⟨_,f0,f1,f2,f3,f4,f5⟩:=Row.pat (HU.out wq HF.out.l) hl3;have HCC:=Zh (CP.out m hl3);have s1:(m:Int) < wl.length:=by omega
       have s2:(m:Int) < 7:=by omega
       have HRL:Hid ((ys.map PB.cells).length=m):=Zh (by rw [List.length_map];exact HYM.out);go_upto_region 9 with fail
       refine Tryst2.wp_region_grows [.is (.pointer (some ⟨g,2,none⟩)),.is v,.is (.pointer (some ⟨w.heap.size,2,none⟩)),.is (.slice (some ⟨b,o,none⟩) wl.length wc),.is (.int .i64 (m:Int)),.is (.pointer (some ⟨b,o+m*6,none⟩)),.is (.agg #[.string wl[m].op,.string wl[m].s,.bool wl[m].num,.int .i64 wl[m].n,.string wl[m].vs,.slice wl[m].a wl[m].l.length wl[m].c]),.any (PrO wq.heap.size),.any (kQF wq.heap.size)] (by kernel_rfl) (by kernel_rfl) ?obl ?fin
       case obl=>
        simp only [YA,YL,YO,YR,Op.operands,Call.operands]
        repeat' apply And.intro
        any_goals trivial
        all_goals (intro tv w' hg hold hd;(try simp at hold);obtain ⟨hcg,hfg,hsg⟩:=YG hg)
        all_goals first | (go_simp;done) | (go_simp;rw [if_neg (by omega)];exact ⟨.refl _,rfl⟩) | (obtain ⟨⟨g,hvg,hgg,hcell⟩,_⟩:=hd;have hcell0:=hcell 0 (by decide);simp at hcell0;go_simp;done) | (go_simp;go_at_call 65;(with_reducible refine (HCC.out _ ?_).mono ?_);(exact Qk (Tryst2.Grow.below hg (.refl wq.heap.size wq)) HF.out.l);rintro e w2 ⟨y,rfl,ho,hb2⟩;exact PrO.of ho hb2 (by have:=hg.size;omega)) | (obtain ⟨hd1,_⟩:=hd;obtain ⟨y,ey,ho,hn⟩:=PrO.at hd1;unfold PB.agg at ey;go_simp;exact (kQF.of _ y ho hn).2)
       case fin=>
        intro tv w' hg hR;simp only [YF,YL,YR] at hR;obtain ⟨hcg,hfg,hsg⟩:=YG hg;simp only [YP,YL,Act.put,hR];obtain ⟨gv,y,e6,hbx,hyo,hyn⟩:=kQF.at hR.2.2.2.2.2.2.2.2.1;simp only [e6];have hbw:=Tryst2.Grow.below hg (.refl wq.heap.size wq);have HF6:=Zh (HF.out.grow hbw);have HO6:=Zh (HO.out.grow hbw);have HS6:=Zh (HS.out.grow hbw);have hz6:wq.heap.size<=w'.heap.size:=hbw.size;have hvl:∀ A n c,v=.slice (some A) n c->A.block < wq.heap.size:=fun A n c e=>(World.ownsRow.lt HO.out A.block (by rw [e];rfl)).2
        have HY6:Hid (∀ z∈ys++[y],POwn w' (fun b=>B2<=b/\Away v b) z/\J9 z<=50):=Zh (fun z hz=>by
         rcases List.mem_append.1 hz with hz | hz
         · exact ⟨(HY.out z hz).1.grow hbw (fun _ h=>h),(HY.out z hz).2⟩
         · rw [List.mem_singleton] at hz;subst hz;exact ⟨hyo.grow (.refl _ _) (fun b hb=>⟨by omega,fun A n c e he=>by have:=hvl A n c e;omega⟩),hyn⟩)
        have HBX:=Zh hbx;have hB26:B2<=w'.heap.size:=by omega
        clear hR hcg hfg hsg e6 hbw hbx hg HO HY HS HF hyo hvl y0 y1 y2 y3 y4 y5 y6 y7 y8 x0 x1 x2 x3 x4 x5 x6 x7 x8 z2 f0 f1 f2 f3 f4 f5;refine Q8 xQc rfl _ _ rfl B2 v (ys.map PB.cells) m HRL.out rfl HO6.out y.cells rfl (by intro u hu;simp [PB.cells] at hu;rcases hu with rfl | rfl | rfl | rfl | rfl | rfl<;>rfl) gv rfl (by obtain ⟨k0,k1,k2,k3,k4,k5,_⟩:=HBX.out.box;intro j hj;match j,hj with | 0,_=>exact k0 | 1,_=>exact k1 | 2,_=>exact k2 | 3,_=>exact k3 | 4,_=>exact k4 | 5,_=>exact k5) (by omega) hB26 ?_;intro g' cap' w3 ho3 hb3 hs3 hat3 hlt3;obtain ⟨q1,q2⟩:=kJ0 (u:=.slice (some ⟨g',0,none⟩) (m+1) cap') hgB2 HY6.out ho3 hb3 hs3 hat3;have HF3:=(HF6.out.growB hgB2 hb3);have HFS:=Zh (HF3.set2 (.slice (some ⟨g',0,none⟩) (m+1) cap'));have HO3:Hid (ROwn 123 6 (w3.setCell ⟨g,2,none⟩ (.slice (some ⟨g',0,none⟩) (m+1) cap')) B2 (.slice (some ⟨g',0,none⟩) (m+1) cap') ((ys++[y]).map PB.cells)):=Zh (by rw [List.map_append];exact q1);have HY3:=Zh q2;have HS3:Hid (Strs (w3.setCell ⟨g,2,none⟩ (.slice (some ⟨g',0,none⟩) (m+1) cap')) a1 gs):=Zh (Strs.keepB HS6.out (fun b o e=>(Below.heap_setCell _ _ _ _ (by show b≠g;have:=(HA1.out b o e).1;omega)).trans (hb3.block b (HA1.out b o e).2)) (by have:=hb3.size;simp;omega));have hBr3:B2<=(w3.setCell ⟨g,2,none⟩ (.slice (some ⟨g',0,none⟩) (m+1) cap')).heap.size:=by have:=hb3.size;simp;omega
        have HYM3:Hid ((ys++[y]).length=m+1):=Zh (by rw [List.length_append,HYM.out];rfl);obtain ⟨x0,x1,x2,x3,x4,x5,x6,x7,x8⟩:=HF3.x.box;have z2:=HF3.x.fz 2;clear ho3 hb3 hs3 hat3 hlt3 q1 q2 HF3 HF6 HO6 HS6 HY6 HBX;go_wp2_with fail;go_roundw
        case rel=>exact ⟨m+1,_,ys++[y],by omega,by omega,by go_num,HYM3.out,HFS,HO3,HY3,HS3,hBr3⟩
        case measure=>simp [intOf]<;>omega
      ·
       obtain ⟨a9,c9,hv9,hR9,hS9,hA9⟩:=ROwn.row HO.out (PB.cells_len _) (by decide);rw [List.length_map] at hv9 hS9;subst hv9;obtain ⟨w0,w1,w2,w3,w4,w5,w6,w7,w8⟩:=HF.out.z.box;have k0:=HF.out.z.fz 0;have k1:=HF.out.z.fz 1;have k2:=HF.out.z.fz 2;have k3:=HF.out.z.fz 3;have k4:=HF.out.z.fz 4;have k5:=HF.out.z.fz 5;have k6:=HF.out.z.fz 6;have k7:=HF.out.z.fz 7;have hQ:w.heap.size+1 < B:=by have:=HF.out.hg;omega
       have hwB2:w.heap.size<=B2:=by omega
       have HDO:Hid (DOB w.heap.size (DS8 wq (w.heap.size+1) nm1 (.slice a1 gs.length c1) (.slice a9 ys.length c9) ky1 kd1 p n x) ⟨nm1,a1,gs,c1,a9,ys,c9,ky1,⟨kd1,p,n,x⟩⟩):=Zh (by
        have hsz:wq.heap.size<=(DS8 wq (w.heap.size+1) nm1 (.slice a1 gs.length c1) (.slice a9 ys.length c9) ky1 kd1 p n x).heap.size:=by rw [DS8.size];exact Nat.le_refl _
        exact ⟨⟨Nat.le_trans n1 (by decide),Nat.le_trans HGL.out (by decide),fun s hs=>Nat.le_trans (HGZ.out s hs) (by decide),Strs.keepB HS.out (fun b o e=>DS8.away (by have:=(HA1.out b o e).1;omega)) hsz,HL1.out,(show ys.length<=1500000 by rw [HYM.out];omega),⟨hR9.block (fun b o e=>DS8.away (by have:=(hA9 b o e).1;omega)) hsz,hS9,fun y hy=>⟨(HY.out y hy).1.keep (fun b hb _=>⟨DS8.away (by have:=hb.1;omega),trivial⟩) hsz,(HY.out y hy).2⟩⟩,Nat.le_trans n2 (by decide)⟩,fun b o e=>(by have:=(HA1.out b o e).1;omega),fun b o e=>(by have:=(hA9 b o e).1;omega),fun y hy=>⟨(HY.out y hy).1.keep (fun b hb _=>⟨DS8.away (by have:=hb.1;omega),(by have:=hb.1;show w.heap.size<=b;omega)⟩) hsz,(HY.out y hy).2⟩,HGL.out,(show ys.length<=7 by rw [HYM.out];omega)⟩)
       have HBL:=Zh (DS8.below (nm:=nm1) (G:=.slice a1 gs.length c1) (U:=.slice a9 ys.length c9) (ky:=ky1) (kd:=kd1) (p:=p) (n:=n) (x:=x) (Nat.le_succ w.heap.size) HF.out.l);clear hR9 hS9 hA9 HO HY HS HF HU CP
       by_cases hks2:m < wl.length
       ·
        have h7:m=7:=by omega
        subst h7;go_wp2_with fail;exact bodyPost_ret (v:=.agg #[.string nm1,.slice a1 gs.length c1,.slice a9 ys.length c9,.string ky1,.string kd1,.int .i64 p,.int .i64 n,.int .i64 x]) (by simp [results,Tryz.results27,go_sem, *]) rfl ⟨⟨nm1,a1,gs,c1,a9,ys,c9,ky1,⟨kd1,p,n,x⟩⟩,rfl,HDO.out,HBL.out,rfl⟩
       · go_wp2_with fail;exact bodyPost_ret (v:=.agg #[.string nm1,.slice a1 gs.length c1,.slice a9 ys.length c9,.string ky1,.string kd1,.int .i64 p,.int .i64 n,.int .i64 x]) (by simp [results,Tryz.results27,go_sem, *]) rfl ⟨⟨nm1,a1,gs,c1,a9,ys,c9,ky1,⟨kd1,p,n,x⟩⟩,rfl,HDO.out,HBL.out,rfl⟩
    ·
     obtain ⟨a1,c1,hv1,hS1,hL1,hA1⟩:=SOwn.strs (SOwn.rows.2 HO2.out);subst hv1;have HS1:=Zh hS1;have HL1:=Zh hL1;have HA1:Hid (∀ b o,a1=some ⟨b,o,none⟩->B<=b/\b < wo.heap.size):=Zh (fun b o e=>⟨(hA1 b o e).1,(hA1 b o e).2⟩);clear hS1 hL1 hA1 HO2 HG CG;obtain ⟨B2,hB2⟩:∃ B2,wo.heap.size=B2:=⟨_,rfl⟩;rw [hB2] at HA1;have hgB2:g < B2:=by omega
     have hBB:B<=B2:=by omega
     have hB2w:B2<=wo.heap.size:=by omega
     have HO20:Hid (ROwn 123 6 wo B2 (.slice none 0 0) (([]:List PB).map PB.cells)):=Zh (ROwn.nil _ _ _ _);clear hB2;go_wp2_with fail;go_loopw [5] (fun i wr=>FD2 w g B2 nm (.slice ga gl.length gc) (.slice wa wl.length wc) ky kd nm1 ky1 kd1 p n x a1 c1 gs wl.length i wr) (fun i _=>wl.length - (intOf i).toNat)
     case atStart=>exact ⟨0,.slice none 0 0,[],by omega,by omega,rfl,rfl,HF,HO20,Zh (fun y h=>by cases h),HS1,hB2w⟩
     case round=>
      clear HF HS1 HO20 hB2w hBw;obtain ⟨m,v,ys,hm7,hml,rfl,hym,HF,HO,HY,HS,hBr⟩:=hrel;obtain ⟨wq,rfl⟩:∃ wq,wq=wr:=⟨_,rfl⟩;obtain ⟨y0,y1,y2,y3,y4,y5,y6,y7,y8⟩:=HF.out.a.box;obtain ⟨x0,x1,x2,x3,x4,x5,x6,x7,x8⟩:=HF.out.x.box;have z2:=HF.out.x.fz 2;have hwq:w.heap.size+1 < wq.heap.size:=by have:=HF.out.hg;omega
      have HYM:=Zh hym;clear hym
      by_cases hlt2:m < wl.length/\m < 7
      ·
       obtain ⟨hl3,hl4⟩:=hlt2;obtain ⟨b,o,ha,hb⟩:=(HU.out wq HF.out.l).head (i:=m) (by simpa using hl3);subst ha;obtain ⟨_,f0,f1,f2,f3,f4,f5⟩:=Row.pat (HU.out wq HF.out.l) hl3;have HCC:=Zh (CP.out m hl3);have s1:(m:Int) < wl.length:=by omega
       have s2:(m:Int) < 7:=by omega
       have HRL:Hid ((ys.map PB.cells).length=m):=Zh (by rw [List.length_map];exact HYM.out);go_upto_region 9 with fail
       refine Tryst2.wp_region_grows [.is (.pointer (some ⟨g,2,none⟩)),.is v,.is (.pointer (some ⟨w.heap.size,2,none⟩)),.is (.slice (some ⟨b,o,none⟩) wl.length wc),.is (.int .i64 (m:Int)),.is (.pointer (some ⟨b,o+m*6,none⟩)),.is (.agg #[.string wl[m].op,.string wl[m].s,.bool wl[m].num,.int .i64 wl[m].n,.string wl[m].vs,.slice wl[m].a wl[m].l.length wl[m].c]),.any (PrO wq.heap.size),.any (kQF wq.heap.size)] (by kernel_rfl) (by kernel_rfl) ?obl ?fin
       case obl=>
        simp only [YA,YL,YO,YR,Op.operands,Call.operands]
        repeat' apply And.intro
        any_goals trivial
        all_goals (intro tv w' hg hold hd;(try simp at hold);obtain ⟨hcg,hfg,hsg⟩:=YG hg)
        all_goals first | (go_simp;done) | (go_simp;rw [if_neg (by omega)];exact ⟨.refl _,rfl⟩) | (obtain ⟨⟨g,hvg,hgg,hcell⟩,_⟩:=hd;have hcell0:=hcell 0 (by decide);simp at hcell0;go_simp;done) | (go_simp;go_at_call 65;(with_reducible refine (HCC.out _ ?_).mono ?_);(exact Qk (Tryst2.Grow.below hg (.refl wq.heap.size wq)) HF.out.l);rintro e w2 ⟨y,rfl,ho,hb2⟩;exact PrO.of ho hb2 (by have:=hg.size;omega)) | (obtain ⟨hd1,_⟩:=hd;obtain ⟨y,ey,ho,hn⟩:=PrO.at hd1;unfold PB.agg at ey;go_simp;exact (kQF.of _ y ho hn).2)
       case fin=>
        intro tv w' hg hR;simp only [YF,YL,YR] at hR;obtain ⟨hcg,hfg,hsg⟩:=YG hg;simp only [YP,YL,Act.put,hR];obtain ⟨gv,y,e6,hbx,hyo,hyn⟩:=kQF.at hR.2.2.2.2.2.2.2.2.1;simp only [e6];have hbw:=Tryst2.Grow.below hg (.refl wq.heap.size wq);have HF6:=Zh (HF.out.grow hbw);have HO6:=Zh (HO.out.grow hbw);have HS6:=Zh (HS.out.grow hbw);have hz6:wq.heap.size<=w'.heap.size:=hbw.size;have hvl:∀ A n c,v=.slice (some A) n c->A.block < wq.heap.size:=fun A n c e=>(World.ownsRow.lt HO.out A.block (by rw [e];rfl)).2
        have HY6:Hid (∀ z∈ys++[y],POwn w' (fun b=>B2<=b/\Away v b) z/\J9 z<=50):=Zh (fun z hz=>by
         rcases List.mem_append.1 hz with hz | hz
         · exact ⟨(HY.out z hz).1.grow hbw (fun _ h=>h),(HY.out z hz).2⟩
         · rw [List.mem_singleton] at hz;subst hz;exact ⟨hyo.grow (.refl _ _) (fun b hb=>⟨by omega,fun A n c e he=>by have:=hvl A n c e;omega⟩),hyn⟩)
        have HBX:=Zh hbx;have hB26:B2<=w'.heap.size:=by omega
        clear hR hcg hfg hsg e6 hbw hbx hg HO HY HS HF hyo hvl y0 y1 y2 y3 y4 y5 y6 y7 y8 x0 x1 x2 x3 x4 x5 x6 x7 x8 z2 f0 f1 f2 f3 f4 f5;refine Q8 xQc rfl _ _ rfl B2 v (ys.map PB.cells) m HRL.out rfl HO6.out y.cells rfl (by intro u hu;simp [PB.cells] at hu;rcases hu with rfl | rfl | rfl | rfl | rfl | rfl<;>rfl) gv rfl (by obtain ⟨k0,k1,k2,k3,k4,k5,_⟩:=HBX.out.box;intro j hj;match j,hj with | 0,_=>exact k0 | 1,_=>exact k1 | 2,_=>exact k2 | 3,_=>exact k3 | 4,_=>exact k4 | 5,_=>exact k5) (by omega) hB26 ?_;intro g' cap' w3 ho3 hb3 hs3 hat3 hlt3;obtain ⟨q1,q2⟩:=kJ0 (u:=.slice (some ⟨g',0,none⟩) (m+1) cap') hgB2 HY6.out ho3 hb3 hs3 hat3;have HF3:=(HF6.out.growB hgB2 hb3);have HFS:=Zh (HF3.set2 (.slice (some ⟨g',0,none⟩) (m+1) cap'));have HO3:Hid (ROwn 123 6 (w3.setCell ⟨g,2,none⟩ (.slice (some ⟨g',0,none⟩) (m+1) cap')) B2 (.slice (some ⟨g',0,none⟩) (m+1) cap') ((ys++[y]).map PB.cells)):=Zh (by rw [List.map_append];exact q1);have HY3:=Zh q2;have HS3:Hid (Strs (w3.setCell ⟨g,2,none⟩ (.slice (some ⟨g',0,none⟩) (m+1) cap')) a1 gs):=Zh (Strs.keepB HS6.out (fun b o e=>(Below.heap_setCell _ _ _ _ (by show b≠g;have:=(HA1.out b o e).1;omega)).trans (hb3.block b (HA1.out b o e).2)) (by have:=hb3.size;simp;omega));have hBr3:B2<=(w3.setCell ⟨g,2,none⟩ (.slice (some ⟨g',0,none⟩) (m+1) cap')).heap.size:=by have:=hb3.size;simp;omega
        have HYM3:Hid ((ys++[y]).length=m+1):=Zh (by rw [List.length_append,HYM.out];rfl);obtain ⟨x0,x1,x2,x3,x4,x5,x6,x7,x8⟩:=HF3.x.box;have z2:=HF3.x.fz 2;clear ho3 hb3 hs3 hat3 hlt3 q1 q2 HF3 HF6 HO6 HS6 HY6 HBX;go_wp2_with fail;go_roundw
        case rel=>exact ⟨m+1,_,ys++[y],by omega,by omega,by go_num,HYM3.out,HFS,HO3,HY3,HS3,hBr3⟩
        case measure=>simp [intOf]<;>omega
      ·
       obtain ⟨a9,c9,hv9,hR9,hS9,hA9⟩:=ROwn.row HO.out (PB.cells_len _) (by decide);rw [List.length_map] at hv9 hS9;subst hv9;obtain ⟨w0,w1,w2,w3,w4,w5,w6,w7,w8⟩:=HF.out.z.box;have k0:=HF.out.z.fz 0;have k1:=HF.out.z.fz 1;have k2:=HF.out.z.fz 2;have k3:=HF.out.z.fz 3;have k4:=HF.out.z.fz 4;have k5:=HF.out.z.fz 5;have k6:=HF.out.z.fz 6;have k7:=HF.out.z.fz 7;have hQ:w.heap.size+1 < B:=by have:=HF.out.hg;omega
       have hwB2:w.heap.size<=B2:=by omega
       have HDO:Hid (DOB w.heap.size (DS8 wq (w.heap.size+1) nm1 (.slice a1 gs.length c1) (.slice a9 ys.length c9) ky1 kd1 p n x) ⟨nm1,a1,gs,c1,a9,ys,c9,ky1,⟨kd1,p,n,x⟩⟩):=Zh (by
        have hsz:wq.heap.size<=(DS8 wq (w.heap.size+1) nm1 (.slice a1 gs.length c1) (.slice a9 ys.length c9) ky1 kd1 p n x).heap.size:=by rw [DS8.size];exact Nat.le_refl _
        exact ⟨⟨Nat.le_trans n1 (by decide),Nat.le_trans HGL.out (by decide),fun s hs=>Nat.le_trans (HGZ.out s hs) (by decide),Strs.keepB HS.out (fun b o e=>DS8.away (by have:=(HA1.out b o e).1;omega)) hsz,HL1.out,(show ys.length<=1500000 by rw [HYM.out];omega),⟨hR9.block (fun b o e=>DS8.away (by have:=(hA9 b o e).1;omega)) hsz,hS9,fun y hy=>⟨(HY.out y hy).1.keep (fun b hb _=>⟨DS8.away (by have:=hb.1;omega),trivial⟩) hsz,(HY.out y hy).2⟩⟩,Nat.le_trans n2 (by decide)⟩,fun b o e=>(by have:=(HA1.out b o e).1;omega),fun b o e=>(by have:=(hA9 b o e).1;omega),fun y hy=>⟨(HY.out y hy).1.keep (fun b hb _=>⟨DS8.away (by have:=hb.1;omega),(by have:=hb.1;show w.heap.size<=b;omega)⟩) hsz,(HY.out y hy).2⟩,HGL.out,(show ys.length<=7 by rw [HYM.out];omega)⟩)
       have HBL:=Zh (DS8.below (nm:=nm1) (G:=.slice a1 gs.length c1) (U:=.slice a9 ys.length c9) (ky:=ky1) (kd:=kd1) (p:=p) (n:=n) (x:=x) (Nat.le_succ w.heap.size) HF.out.l);clear hR9 hS9 hA9 HO HY HS HF HU CP
       by_cases hks2:m < wl.length
       ·
        have h7:m=7:=by omega
        subst h7;go_wp2_with fail;exact bodyPost_ret (v:=.agg #[.string nm1,.slice a1 gs.length c1,.slice a9 ys.length c9,.string ky1,.string kd1,.int .i64 p,.int .i64 n,.int .i64 x]) (by simp [results,Tryz.results27,go_sem, *]) rfl ⟨⟨nm1,a1,gs,c1,a9,ys,c9,ky1,⟨kd1,p,n,x⟩⟩,rfl,HDO.out,HBL.out,rfl⟩
       · go_wp2_with fail;exact bodyPost_ret (v:=.agg #[.string nm1,.slice a1 gs.length c1,.slice a9 ys.length c9,.string ky1,.string kd1,.int .i64 p,.int .i64 n,.int .i64 x]) (by simp [results,Tryz.results27,go_sem, *]) rfl ⟨⟨nm1,a1,gs,c1,a9,ys,c9,ky1,⟨kd1,p,n,x⟩⟩,rfl,HDO.out,HBL.out,rfl⟩
