/- offs.Same, ref14.Same (joined: EqP14, SameP14) -/
import Derived.Test.YtcbicdencgjfiaaGreatDoorDefU
import Derived.Test.YtcbicdencgjfiaaGreatDoorPSm5
import Derived.Test.YtcbicdencgjfiaaGreatDoorRFH5
set_option linter.unusedVariables false
set_option linter.unusedSimpArgs false
namespace Tryst
open Go Go.RowKit
theorem zip_len {α β:Type} {l:List α} {m:List β} (h:l.length=m.length):(l.zip m).length=l.length:=by rw [List.length_zip,← h,Nat.min_self]
theorem all_zip_eq:∀ {l m:List ByteArray},l.length=m.length→(l.zip m).all (fun x=>decide (x.1=x.2))=decide (l=m)
 | [],[],_=>rfl
 | x :: r,y :: s,h=>by
  have ih:=all_zip_eq (l:=r) (m:=s) (by simpa using h)
  rw [List.zip_cons_cons,List.all_cons,ih]
  by_cases e:x=y<;>by_cases e2:r=s<;>simp [e,e2]
theorem all_zip_same:∀ {l m:List PB},l.length=m.length→(l.zip m).all (fun x=>sameB x.1 x.2)=sameL l m
 | [],[],_=>by rw [sameL];rfl
 | x :: r,y :: s,h=>by
  rw [List.zip_cons_cons,List.all_cons,all_zip_same (by simpa using h),sameL]
theorem sameL_len:∀ {l m:List PB},sameL l m=true→l.length=m.length
 | [],[],_=>rfl
 | x :: r,y :: s,h=>by
  rw [sameL,Bool.and_eq_true] at h
  simp [sameL_len h.2]
 | [],y :: s,h=>by rw [sameL] at h;cases h
 | x :: r,[],h=>by rw [sameL] at h;cases h
end Tryst
namespace Go.Proofs.YtcbicdencgjfiaaGreatDoor
open Go.RowKit Tryst
set_option maxHeartbeats 2000000
set_option maxRecDepth 20000
theorem equalS_c (a1 a2:Option Addr) (c1 c2:Nat) (l m:List ByteArray) (hl:l.length≤1000000) (hm:m.length≤1000000) (w:World) (h1:Strs w a1 l) (h2:Strs w a2 m) :
  Calls Tryz.prog 129 #[.slice a1 l.length c1,.slice a2 m.length c2] w fun e w'=>e=.returned (.bool (decide (l=m)))∧Below w.heap.size w w':=by
 by_cases hn:l.length=m.length
 ·
  by_cases h0:l.length=0
  ·
   have e1:l=[]:=List.eq_nil_of_length_eq_zero h0
   have e2:m=[]:=List.eq_nil_of_length_eq_zero (by omega)
   subst e1 e2
   refine (Tryz.slices_Equal_string_empty a1 a2 c1 0 c2 w (by omega)).mono ?_
   rintro e w' ⟨rfl,rfl⟩
   exact ⟨by simp,.refl _ _⟩
  ·
   obtain ⟨b1,o1,rfl,_⟩:=h1.head (i:=0) (by omega)
   obtain ⟨b2,o2,rfl,_⟩:=h2.head (i:=0) (by omega)
   refine (Tryz.slices_Equal_string b1 o1 l.length c1 b2 o2 m.length c2 l m w (Nat.le_refl _) (Nat.le_refl _) (by omega) (by omega) (fun j hj=>?_) (fun j hj=>?_)).mono ?_
   ·
    rw [(h1.at hj).2,List.getD_eq_getElem?_getD,List.getElem?_eq_getElem hj];rfl
   ·
    rw [(h2.at hj).2,List.getD_eq_getElem?_getD,List.getElem?_eq_getElem hj];rfl
   ·
    rintro e w' ⟨rfl,q,rfl⟩
    rw [List.take_length,List.take_length]
    exact ⟨rfl,below_drewN w q⟩
 ·
  refine (Tryz.slices_Equal_string_lens a1 a2 l.length c1 m.length c2 w hn).mono ?_
  rintro e w' ⟨rfl,rfl⟩
  exact ⟨by rw [decide_eq_false (fun e=>hn (by rw [e]))],.refl _ _⟩
theorem rsameSt_c (a1 a2:Option Addr) (c1 c2:Nat) (l m:List ByteArray) (hl:l.length≤1000000) (hm:m.length≤1000000) (w:World) (h1:Strs w a1 l) (h2:Strs w a2 m) :
  Calls Tryz.prog 105 #[.slice a1 l.length c1,.slice a2 m.length c2] w fun e w'=>e=.returned (.bool (decide (l=m)))∧Below w.heap.size w w':=by
 have H1:=Lib.hid h1
 have H2:=Lib.hid h2
 clear h1 h2
 by_cases hn:(l.length:Int)=m.length
 ·
  have hn1:l.length=m.length:=by omega
  have hzl:=zip_len hn1
  obtain ⟨R,hR⟩:∃ R,decide (l=m)=R:=⟨_,rfl⟩
  rw [hR]
  have HR:Hid (R=((l.zip m).drop 0).all (fun x=>decide (x.1=x.2))):=Lib.hid (by rw [← hR,List.drop_zero,all_zip_eq hn1])
  have HZL:=Lib.hid hzl
  have HN:=Lib.hid hn1
  clear hR hzl hn hn1
  rw [← HN.out]
  go_enter Tryz.func105,Tryz.ntmps105
  go_wp2_with fail
  go_loopw [5] (fun i wr=>AllR R (fun x:ByteArray × ByteArray=>decide (x.1=x.2)) (l.zip m) w i wr) (fun i _=>l.length - (intOf i).toNat)
  case atStart=>exact ⟨0,by omega,rfl,HR,.refl _ _,by omega⟩
  case round=>
   obtain ⟨k,hk,rfl,HP,HW,hz⟩:=hrel
   obtain ⟨wo,rfl⟩:∃ wo,wo=wr:=⟨_,rfl⟩
   rw [HZL.out] at hk
   by_cases hlt:k < l.length
   ·
    have hlt2:k < m.length:=by have:=HN.out;omega
    have hst:=allR_step (by rw [HZL.out];exact hlt) HP.out
    rw [List.getElem_zip] at hst
    simp only at hst
    have HA:=Lib.hid (H1.out.grow HW.out)
    have HB:=Lib.hid (H2.out.grow HW.out)
    obtain ⟨b1,o1,ha1,hb1⟩:=HA.out.head hlt
    obtain ⟨b2,o2,ha2,hb2⟩:=HB.out.head hlt2
    subst ha1 ha2
    obtain ⟨_,f1⟩:=HA.out.at hlt
    obtain ⟨_,f2⟩:=HB.out.at hlt2
    have HST:=Lib.hid hst
    clear hst HP
    by_cases hx:l[k]=m[k]
    ·
     have HNX:Hid (R=((l.zip m).drop (k+1)).all (fun x=>decide (x.1=x.2))):=Lib.hid (by have:=HST.out;rwa [decide_eq_true hx,Bool.true_and] at this)
     have ne:(l[k].toList != l[k].toList)=false:=bne_self_eq_false _
     rw [← hx] at f2
     clear HST hx
     go_upto_region 6 with fail
     refine Tryst2.wp_region_grows [.is (.slice (some ⟨b1,o1,none⟩) l.length c1),.is (.int .i64 (k:Int)),.is (.pointer (some ⟨b1,o1+k,none⟩)),.is (.string l[k]),.is (.slice (some ⟨b2,o2,none⟩) l.length c2),.is (.int .i64 (k:Int)),.is (.pointer (some ⟨b2,o2+k,none⟩)),.is (.string l[k]),.is (.bool false)] (by kernel_rfl) (by kernel_rfl) ?obl ?fin
     case obl=>
      simp only [YA,YL,YO,YR,Op.operands,Call.operands]
      repeat' apply And.intro
      any_goals trivial
      all_goals (intro tv w' hg hold hd;(try simp at hold);obtain ⟨hcg,hfg,hsg⟩:=YG hg)
      all_goals first | (go_simp;done) | (go_simp;rw [if_neg (by omega)];exact ⟨.refl _,rfl⟩) | (obtain ⟨⟨g,hvg,hgg,hcell⟩,_⟩:=hd;have hcell0:=hcell 0 (by decide);simp at hcell0;go_simp;done) 
     case fin=>
      intro tv w' hg hR
      simp only [YF,YL,YR] at hR
      obtain ⟨hcg,hfg,hsg⟩:=YG hg
      simp only [YP,YL,Act.put,hR]
      have HW9:=Lib.hid (Tryst2.Grow.below hg HW.out)
      clear hg hR hcg hfg hsg
      go_wp2_with fail
      go_roundw
      case rel=>exact ⟨k+1,by rw [HZL.out];omega,by go_num,HNX,HW9.out,HW9.out.size⟩
      case measure=>simp [intOf]<;>omega
    ·
     have HNX:Hid (R=false):=Lib.hid (by have:=HST.out;rwa [decide_eq_false hx,Bool.false_and] at this)
     have ne0:(l[k].toList==m[k].toList)=false:=strNe (fun e=>hx (str_ext e))
     have ne:(l[k].toList != m[k].toList)=true:=by rw [bne_iff_ne];exact fun e=>hx (str_ext (by rw [← str_toList,← str_toList,e]))
     clear HST hx
     go_upto_region 6 with fail
     refine Tryst2.wp_region_grows [.is (.slice (some ⟨b1,o1,none⟩) l.length c1),.is (.int .i64 (k:Int)),.is (.pointer (some ⟨b1,o1+k,none⟩)),.is (.string l[k]),.is (.slice (some ⟨b2,o2,none⟩) l.length c2),.is (.int .i64 (k:Int)),.is (.pointer (some ⟨b2,o2+k,none⟩)),.is (.string m[k]),.is (.bool true)] (by kernel_rfl) (by kernel_rfl) ?obl ?fin
     case obl=>
      simp only [YA,YL,YO,YR,Op.operands,Call.operands]
      repeat' apply And.intro
      any_goals trivial
      all_goals (intro tv w' hg hold hd;(try simp at hold);obtain ⟨hcg,hfg,hsg⟩:=YG hg)
      all_goals first | (go_simp;done) | (go_simp;rw [if_neg (by omega)];exact ⟨.refl _,rfl⟩) | (obtain ⟨⟨g,hvg,hgg,hcell⟩,_⟩:=hd;have hcell0:=hcell 0 (by decide);simp at hcell0;go_simp;done) 
     case fin=>
      intro tv w' hg hR
      simp only [YF,YL,YR] at hR
      obtain ⟨hcg,hfg,hsg⟩:=YG hg
      simp only [YP,YL,Act.put,hR]
      have HW9:=Lib.hid (Tryst2.Grow.below hg HW.out)
      clear hg hR hcg hfg hsg
      go_wp2_with fail
      go_ret
      exact ⟨ret_bool HNX.out.symm,HW9.out⟩
   ·
    have HNX:=Lib.hid (allR_end (by rw [HZL.out];omega) HP.out)
    go_wp2_with fail
    go_ret
    exact ⟨ret_bool HNX.out.symm,HW.out⟩
 ·
  have HN:Hid (decide (l=m)=false):=Lib.hid (decide_eq_false (fun e=>hn (by rw [e])))
  rw [HN.out]
  go_enter Tryz.func105,Tryz.ntmps105
  go_wp2_with fail
  go_ret
  exact ⟨rfl,.refl _ _⟩
theorem eqfP_c (a1 a2:Option Addr) (c1 c2:Nat) (l m:List PB) (hl:l.length≤1000000) (hm:m.length≤1000000) (w:World) (h1:PRow w a1 c1 l) (h2:PRow w a2 c2 m) :
  Calls Tryz.prog 130 #[.slice a1 l.length c1,.slice a2 m.length c2,.func (.func 131) #[] #[]] w fun e w'=>e=.returned (.bool (sameL l m))∧Below w.heap.size w w':=by
 have H1:=Lib.hid (fun W (hb:Below w.heap.size w W)=>h1.grow hb)
 have H2:=Lib.hid (fun W (hb:Below w.heap.size w W)=>h2.grow hb)
 have cC:=(fun (k:Nat) (hk:k < l.length) (hk2:k < m.length) W (hb:Below w.heap.size w W)=>psame_c l[k] m[k] (Nat.le_trans (h1.po _ (List.getElem_mem hk)).2 (by decide)) W ((h1.po _ (List.getElem_mem hk)).1.grow hb) ((h2.po _ (List.getElem_mem hk2)).1.grow hb))
 unfold PB.agg at cC
 have CC:=Lib.hid cC
 clear h1 h2 cC
 by_cases hn:(l.length:Int)=m.length
 ·
  have hn1:l.length=m.length:=by omega
  have hzl:=zip_len hn1
  obtain ⟨R,hR⟩:∃ R,sameL l m=R:=⟨_,rfl⟩
  rw [hR]
  have HR:Hid (R=((l.zip m).drop 0).all (fun x=>sameB x.1 x.2)):=Lib.hid (by rw [← hR,List.drop_zero,all_zip_same hn1])
  have HZL:=Lib.hid hzl
  have HN:=Lib.hid hn1
  clear hR hzl hn hn1
  rw [← HN.out]
  go_enter Tryz.func130,Tryz.ntmps130
  go_wp2_with fail
  go_loopw [17] (fun i wr=>AllR R (fun x:PB × PB=>sameB x.1 x.2) (l.zip m) w i wr) (fun i _=>l.length - (intOf i).toNat)
  case atStart=>exact ⟨0,by omega,rfl,HR,.refl _ _,by omega⟩
  case round=>
   obtain ⟨k,hk,rfl,HP,HW,hz⟩:=hrel
   obtain ⟨wo,rfl⟩:∃ wo,wo=wr:=⟨_,rfl⟩
   rw [HZL.out] at hk
   by_cases hlt:k < l.length
   ·
    have hlt2:k < m.length:=by have:=HN.out;omega
    have hst:=allR_step (by rw [HZL.out];exact hlt) HP.out
    rw [List.getElem_zip] at hst
    simp only at hst
    have HCC:=Lib.hid (CC.out k hlt hlt2)
    obtain ⟨pp,hpp⟩:∃ pp,sameB l[k] m[k]=pp:=⟨_,rfl⟩
    rw [hpp] at hst
    have HPP:=Lib.hid hpp
    have HST:=Lib.hid hst
    clear hpp hst HP
    have HA:=Lib.hid (H1.out _ HW.out)
    have HB:=Lib.hid (H2.out _ HW.out)
    obtain ⟨b1,o1,ha1,hb1⟩:=HA.out.head hlt
    obtain ⟨b2,o2,ha2,hb2⟩:=HB.out.head hlt2
    subst ha1 ha2
    obtain ⟨_,f0,f1,f2,f3,f4,f5⟩:=Row.pat HA.out.row hlt
    obtain ⟨_,g0,g1,g2,g3,g4,g5⟩:=Row.pat HB.out.row hlt2
    have HBX:=Lib.hid (balloc (.cells #[.string m[k].op,.string m[k].s,.bool m[k].num,.int .i64 m[k].n,.string m[k].vs,.slice m[k].a m[k].l.length m[k].c] 123) (balloc (.cells #[.string l[k].op,.string l[k].s,.bool l[k].num,.int .i64 l[k].n,.string l[k].vs,.slice l[k].a l[k].l.length l[k].c] 123) HW.out))
    go_wp2_with fail
    refine (HCC.out _ HBX.out).mono ?_
    rintro e w2 ⟨rfl,hb3⟩
    have HB2:=Lib.hid (bstep hb3 HBX.out)
    clear hb3 HCC HBX
    rw [HPP.out]
    cases pp with
    | true=>
     have HNX:Hid (R=((l.zip m).drop (k+1)).all (fun x=>sameB x.1 x.2)):=Lib.hid (by have:=HST.out;rwa [Bool.true_and] at this)
     go_wp2_with fail
     go_roundw
     case rel=>exact ⟨k+1,by rw [HZL.out];omega,by go_num,HNX,HB2.out,HB2.out.size⟩
     case measure=>simp [intOf]<;>omega
    | false=>
     have HNX:Hid (R=false):=Lib.hid (by have:=HST.out;rwa [Bool.false_and] at this)
     go_wp2_with fail
     go_ret
     exact ⟨ret_bool HNX.out.symm,HB2.out⟩
   ·
    have HNX:=Lib.hid (allR_end (by rw [HZL.out];omega) HP.out)
    go_wp2_with fail
    go_ret
    exact ⟨ret_bool HNX.out.symm,HW.out⟩
 ·
  have HN:Hid (sameL l m=false):=Lib.hid (by
   cases h:sameL l m with
   | false=>rfl
   | true=>exact absurd (sameL_len h) (by omega))
  rw [HN.out]
  go_enter Tryz.func130,Tryz.ntmps130
  go_wp2_with fail
  go_ret
  exact ⟨rfl,.refl _ _⟩
end Go.Proofs.YtcbicdencgjfiaaGreatDoor
namespace Go.Proofs.YtcbicdencgjfiaaGreatDoor
open Go.RowKit Tryst
set_option maxHeartbeats 4000000
set_option maxRecDepth 20000
structure D2 (w v:World) (g1:Nat) (nm:ByteArray) (G U:Value) (ky kd:ByteArray) (p n x:Int) (nm':ByteArray) (G' U':Value) (ky' kd':ByteArray) (p' n' x':Int) (g0:Nat):Prop where
 a:DX v g0 nm G U ky kd p n x
 b:DX v g1 nm' G' U' ky' kd' p' n' x'
 l:Below w.heap.size w v
theorem D2.grow {w v v':World} {g0 g1:Nat} {nm:ByteArray} {G U:Value} {ky kd:ByteArray} {p n x:Int} {nm':ByteArray} {G' U':Value} {ky' kd':ByteArray} {p' n' x':Int} (h:D2 w v g1 nm G U ky kd p n x nm' G' U' ky' kd' p' n' x' g0) (hb:Below v.heap.size v v'):D2 w v' g1 nm G U ky kd p n x nm' G' U' ky' kd' p' n' x' g0:=
 ⟨h.a.grow hb,h.b.grow hb,bstep hb h.l⟩
theorem D2.new (w:World) (nm:ByteArray) (G U:Value) (ky kd:ByteArray) (p n x:Int) (nm':ByteArray) (G' U':Value) (ky' kd':ByteArray) (p' n' x':Int) :
  D2 w ((w.alloc (.cells #[.string nm,G,U,.string ky,.string kd,.int .i64 p,.int .i64 n,.int .i64 x] 45)).alloc (.cells #[.string nm',G',U',.string ky',.string kd',.int .i64 p',.int .i64 n',.int .i64 x'] 45)) (w.heap.size+1) nm G U ky kd p n x nm' G' U' ky' kd' p' n' x' w.heap.size:=by
 have e1:=DX.new (w.alloc (.cells #[.string nm,G,U,.string ky,.string kd,.int .i64 p,.int .i64 n,.int .i64 x] 45)) nm' G' U' ky' kd' p' n' x'
 rw [show (w.alloc (.cells #[.string nm,G,U,.string ky,.string kd,.int .i64 p,.int .i64 n,.int .i64 x] 45)).heap.size=w.heap.size+1 by simp] at e1
 exact ⟨(DX.new _ _ _ _ _ _ _ _ _).grow (balloc _ (.refl _ _)),e1,balloc _ (balloc _ (.refl _ _))⟩
set_option maxHeartbeats 8000000 in
theorem dSame_c (a b:DB) (w:World) (hA:DO w a) (hB:DO w b):Calls Tryz.prog 62 #[a.agg,b.agg] w fun e w'=>e=.returned (.bool (sameD a b))∧Below w.heap.size w w':=by
 have CE:=Lib.hid (fun W (hb:Below w.heap.size w W)=>equalS_c a.ga b.ga a.gc b.gc a.gl b.gl (Nat.le_trans hA.hg (by decide)) (Nat.le_trans hB.hg (by decide)) W (hA.gS.grow hb) (hB.gS.grow hb))
 have CP:=Lib.hid (fun W (hb:Below w.heap.size w W)=>eqfP_c a.wa b.wa a.wc b.wc a.wl b.wl (Nat.le_trans hA.hw (by decide)) (Nat.le_trans hB.hw (by decide)) W (hA.wR.grow hb) (hB.wR.grow hb))
 obtain ⟨R,hR⟩:∃ R,sameD a b=R:=⟨_,rfl⟩
 rw [hR]
 unfold sameD sameJ at hR
 clear hA hB
 obtain ⟨nm,ga,gl,gc,wa,wl,wc,ky,⟨kd,p,n,x⟩⟩:=a
 obtain ⟨nm',ga',gl',gc',wa',wl',wc',ky',⟨kd',p',n',x'⟩⟩:=b
 unfold DB.agg
 simp only at CE CP hR ⊢
 obtain ⟨gb,hgb⟩:∃ b,decide (gl=gl')=b:=⟨_,rfl⟩
 obtain ⟨pb,hpb⟩:∃ b,sameL wl wl'=b:=⟨_,rfl⟩
 rw [hgb] at CE hR
 rw [hpb] at CP hR
 have HR:=Lib.hid hR
 clear hR hgb hpb
 go_enter Tryz.func62,Tryz.ntmps62
 go_upto_region 1 with fail
 refine wp_genC (fun v=>Hid (D2 w v (w.heap.size+1) nm (.slice ga gl.length gc) (.slice wa wl.length wc) ky kd p n x nm' (.slice ga' gl'.length gc') (.slice wa' wl'.length wc') ky' kd' p' n' x' w.heap.size)) (D2.new _ _ _ _ _ _ _ _ _ _ _ _ _ _ _ _ _) ?_
 rintro Y HY
 generalize w.heap.size+1=g1 at HY ⊢
 have HB0:=Lib.hid HY.out.l
 generalize w.heap.size=g0 at HY ⊢
 obtain ⟨x0,x1,x2,x3,x4,x5,x6,x7,x8⟩:=HY.out.a.box
 obtain ⟨y0,y1,y2,y3,y4,y5,y6,y7,y8⟩:=HY.out.b.box
 by_cases h1:nm=nm'
 ·
  subst h1
  by_cases h2:ky=ky'
  ·
   subst h2
   by_cases h3:kd=kd'∧p=p'∧n=n'∧x=x'
   ·
    obtain ⟨rfl,rfl,rfl,rfl⟩:=h3
    have HR2:Hid ((gb&&pb)=R):=Lib.hid (by rw [← HR.out];simp)
    clear HR
    go_wp2_with fail
    refine (CE.out _ HB0.out).mono ?_
    rintro e w1 ⟨rfl,hb1⟩
    have HY1:=Lib.hid (HY.out.grow hb1)
    have HB1:=Lib.hid HY1.out.l
    clear hb1 HY HB0 CE x0 x1 x2 x3 x4 x5 x6 x7 x8 y0 y1 y2 y3 y4 y5 y6 y7 y8
    obtain ⟨x0,x1,x2,x3,x4,x5,x6,x7,x8⟩:=HY1.out.a.box
    obtain ⟨y0,y1,y2,y3,y4,y5,y6,y7,y8⟩:=HY1.out.b.box
    cases gb with
    | false=>
     have HN:=Lib.hid (show R=false by rw [← HR2.out];rfl)
     go_wp2_with fail
     go_ret
     exact ⟨ret_bool HN.out.symm,HB1.out⟩
    | true=>
     go_wp2_with fail
     refine (CP.out _ HB1.out).mono ?_
     rintro e w2 ⟨rfl,hb2⟩
     have HB2:=Lib.hid (bstep hb2 HB1.out)
     have HN:=Lib.hid (show R=pb by rw [← HR2.out];rfl)
     clear hb2
     go_wp2_with fail
     go_ret
     exact ⟨ret_bool HN.out.symm,HB2.out⟩
   ·
    have HN:=Lib.hid (show R=false by
     rw [← HR.out]
     by_cases a1:kd=kd'<;>by_cases a2:p=p'<;>by_cases a3:n=n'<;>by_cases a4:x=x'<;>first | (simp [a1,a2,a3,a4];done) | exact absurd (And.intro a1 (And.intro a2 (And.intro a3 a4))) h3)
    by_cases a1:kd=kd'
    ·
     subst a1
     by_cases a2:p=p'
     ·
      subst a2
      by_cases a3:n=n'
      ·
       subst a3
       have a4:¬ x=x':=fun e=>h3 ⟨rfl,rfl,rfl,e⟩
       have b4:(x==x')=false:=by simpa using a4
       clear h3
       go_wp2_with fail
       go_ret
       exact ⟨ret_bool HN.out.symm,HB0.out⟩
      ·
       have b4:(n==n')=false:=by simpa using a3
       clear h3
       go_wp2_with fail
       go_ret
       exact ⟨ret_bool HN.out.symm,HB0.out⟩
     ·
      have b4:(p==p')=false:=by simpa using a2
      clear h3
      go_wp2_with fail
      go_ret
      exact ⟨ret_bool HN.out.symm,HB0.out⟩
    ·
     have b4:(kd.toList==kd'.toList)=false:=strNe (fun e=>a1 (str_ext e))
     clear h3
     go_wp2_with fail
     go_ret
     exact ⟨ret_bool HN.out.symm,HB0.out⟩
  ·
   have HN:=Lib.hid (show R=false by rw [← HR.out];simp [h2])
   have b4:(ky.toList==ky'.toList)=false:=strNe (fun e=>h2 (str_ext e))
   go_wp2_with fail
   go_ret
   exact ⟨ret_bool HN.out.symm,HB0.out⟩
 ·
  have HN:=Lib.hid (show R=false by rw [← HR.out];simp [h1])
  have b4:(nm.toList==nm'.toList)=false:=strNe (fun e=>h1 (str_ext e))
  go_wp2_with fail
  go_ret
  exact ⟨ret_bool HN.out.symm,HB0.out⟩
set_option maxHeartbeats 8000000 in
theorem rdSame_c (a b:DB) (w:World) (hA:DO w a) (hB:DO w b):Calls Tryz.prog 53 #[a.agg,b.agg] w fun e w'=>e=.returned (.bool (sameD a b))∧Below w.heap.size w w':=by
 have CE:=Lib.hid (fun W (hb:Below w.heap.size w W)=>rsameSt_c a.ga b.ga a.gc b.gc a.gl b.gl (Nat.le_trans hA.hg (by decide)) (Nat.le_trans hB.hg (by decide)) W (hA.gS.grow hb) (hB.gS.grow hb))
 have H1:=Lib.hid (fun W (hb:Below w.heap.size w W)=>hA.wR.grow hb)
 have H2:=Lib.hid (fun W (hb:Below w.heap.size w W)=>hB.wR.grow hb)
 have cC:=(fun (k:Nat) (hk:k < a.wl.length) (hk2:k < b.wl.length) W (hb:Below w.heap.size w W)=>rsame5_c 100 a.wl[k] b.wl[k] (Nat.le_trans (hA.wR.po _ (List.getElem_mem hk)).2 (by decide)) W ((hA.wR.po _ (List.getElem_mem hk)).1.grow hb) ((hB.wR.po _ (List.getElem_mem hk2)).1.grow hb))
 unfold PB.agg at cC
 have CC:=Lib.hid cC
 have hl1:=hA.hw
 have hl2:=hB.hw
 obtain ⟨R,hR⟩:∃ R,sameD a b=R:=⟨_,rfl⟩
 rw [hR]
 unfold sameD sameJ at hR
 clear hA hB cC
 obtain ⟨nm,ga,gl,gc,wa,wl,wc,ky,⟨kd,p,n,x⟩⟩:=a
 obtain ⟨nm',ga',gl',gc',wa',wl',wc',ky',⟨kd',p',n',x'⟩⟩:=b
 unfold DB.agg
 simp only at CE CC H1 H2 hl1 hl2 hR ⊢
 obtain ⟨gb,hgb⟩:∃ b,decide (gl=gl')=b:=⟨_,rfl⟩
 obtain ⟨pb,hpb⟩:∃ b,sameL wl wl'=b:=⟨_,rfl⟩
 rw [hgb] at CE hR
 rw [hpb] at hR
 have HPB:=Lib.hid hpb
 have HR:=Lib.hid hR
 clear hR hgb hpb
 go_enter Tryz.func53,Tryz.ntmps53
 go_upto_region 1 with fail
 refine wp_genC (fun v=>Hid (D2 w v (w.heap.size+1) nm (.slice ga gl.length gc) (.slice wa wl.length wc) ky kd p n x nm' (.slice ga' gl'.length gc') (.slice wa' wl'.length wc') ky' kd' p' n' x' w.heap.size)) (D2.new _ _ _ _ _ _ _ _ _ _ _ _ _ _ _ _ _) ?_
 rintro Y HY
 generalize w.heap.size+1=g1 at HY ⊢
 have HB0:=Lib.hid HY.out.l
 generalize w.heap.size=g0 at HY ⊢
 obtain ⟨x0,x1,x2,x3,x4,x5,x6,x7,x8⟩:=HY.out.a.box
 obtain ⟨y0,y1,y2,y3,y4,y5,y6,y7,y8⟩:=HY.out.b.box
 by_cases h1:nm=nm'
 ·
  subst h1
  by_cases h2:ky=ky'
  ·
   subst h2
   by_cases h3:kd=kd'∧p=p'∧n=n'∧x=x'
   ·
    obtain ⟨rfl,rfl,rfl,rfl⟩:=h3
    have HR2:Hid ((gb&&pb)=R):=Lib.hid (by rw [← HR.out];simp)
    clear HR
    go_wp2_with fail
    refine (CE.out _ HB0.out).mono ?_
    rintro e w1 ⟨rfl,hb1⟩
    have HY1:=Lib.hid (HY.out.grow hb1)
    have HB1:=Lib.hid HY1.out.l
    clear hb1 HY HB0 CE x0 x1 x2 x3 x4 x5 x6 x7 x8 y0 y1 y2 y3 y4 y5 y6 y7 y8
    obtain ⟨x0,x1,x2,x3,x4,x5,x6,x7,x8⟩:=HY1.out.a.box
    obtain ⟨y0,y1,y2,y3,y4,y5,y6,y7,y8⟩:=HY1.out.b.box
    cases gb with
    | false=>
     have HN:=Lib.hid (show R=false by rw [← HR2.out];rfl)
     go_wp2_with fail
     go_ret
     exact ⟨ret_bool HN.out.symm,HB1.out⟩
    | true=>
     have HR3:Hid (R=pb):=Lib.hid (by rw [← HR2.out];rfl)
     clear HR2
     by_cases hn:(wl.length:Int)=wl'.length
     ·
      have hn1:wl.length=wl'.length:=by omega
      have HZL:=Lib.hid (zip_len hn1)
      have HN0:Hid (R=((wl.zip wl').drop 0).all (fun x=>sameB x.1 x.2)):=Lib.hid (by rw [HR3.out,← HPB.out,List.drop_zero,all_zip_same hn1])
      have HNN:=Lib.hid hn1
      have hne:((wl.length:Int) != (wl'.length:Int))=false:=by rw [hn];exact bne_self_eq_false _
      clear HR3 HPB hn1
      go_wp2_with fail
      go_loopw [5] (fun i wr=>AllR R (fun x:PB × PB=>sameB x.1 x.2) (wl.zip wl') w1 i wr) (fun i _=>wl.length - (intOf i).toNat)
      case atStart=>exact ⟨0,by omega,rfl,HN0,.refl _ _,by omega⟩
      case round=>
       clear HN0 x0 x1 x2 x3 x4 x5 x6 x7 x8 y0 y1 y2 y3 y4 y5 y6 y7 y8
       obtain ⟨k,hk,rfl,HP,HW,hz⟩:=hrel
       obtain ⟨wo,rfl⟩:∃ wo,wo=wr:=⟨_,rfl⟩
       rw [HZL.out] at hk
       have HYo:=Lib.hid (HY1.out.grow HW.out)
       have HBo:=Lib.hid HYo.out.l
       obtain ⟨x0,x1,x2,x3,x4,x5,x6,x7,x8⟩:=HYo.out.a.box
       obtain ⟨y0,y1,y2,y3,y4,y5,y6,y7,y8⟩:=HYo.out.b.box
       by_cases hlt:k < wl.length
       ·
        have hlt2:k < wl'.length:=by have:=HNN.out;omega
        have hst:=allR_step (by rw [HZL.out];exact hlt) HP.out
        rw [List.getElem_zip] at hst
        simp only at hst
        have HCC:=Lib.hid (CC.out k hlt hlt2)
        obtain ⟨pp,hpp⟩:∃ pp,sameB wl[k] wl'[k]=pp:=⟨_,rfl⟩
        rw [hpp] at hst HCC
        have HST:=Lib.hid hst
        clear hpp hst HP CC
        have HA:=Lib.hid (H1.out _ HBo.out)
        have HB:=Lib.hid (H2.out _ HBo.out)
        obtain ⟨b1,o1,ha1,hb1⟩:=HA.out.head hlt
        obtain ⟨b2,o2,ha2,hb2⟩:=HB.out.head hlt2
        subst ha1 ha2
        obtain ⟨_,f0,f1,f2,f3,f4,f5⟩:=Row.pat HA.out.row hlt
        obtain ⟨_,e0,e1,e2,e3,e4,e5⟩:=Row.pat HB.out.row hlt2
        have hlti:(k:Int) < (wl'.length:Int):=by omega
        go_upto_region 6 with fail
        refine Tryst2.wp_region_grows [.is (.pointer (some ⟨g0,2,none⟩)),.is (.slice (some ⟨b1,o1,none⟩) wl.length wc),.is (.int .i64 (k:Int)),.is (.pointer (some ⟨b1,o1+k*6,none⟩)),.is (.agg #[.string wl[k].op,.string wl[k].s,.bool wl[k].num,.int .i64 wl[k].n,.string wl[k].vs,.slice wl[k].a wl[k].l.length wl[k].c]),.is (.pointer (some ⟨g1,2,none⟩)),.is (.slice (some ⟨b2,o2,none⟩) wl'.length wc'),.is (.int .i64 (k:Int)),.is (.pointer (some ⟨b2,o2+k*6,none⟩)),.is (.agg #[.string wl'[k].op,.string wl'[k].s,.bool wl'[k].num,.int .i64 wl'[k].n,.string wl'[k].vs,.slice wl'[k].a wl'[k].l.length wl'[k].c]),.is (.bool pp),.is (.bool (!pp))] (by kernel_rfl) (by kernel_rfl) ?obl ?fin
        case obl=>
         simp only [YA,YL,YO,YR,Op.operands,Call.operands]
         repeat' apply And.intro
         any_goals trivial
         all_goals (intro tv w' hg hold hd;(try simp at hold);obtain ⟨hcg,hfg,hsg⟩:=YG hg)
         all_goals first | (go_simp;done) | (go_simp;rw [if_neg (by omega)];exact ⟨.refl _,rfl⟩) | (obtain ⟨⟨g,hvg,hgg,hcell⟩,_⟩:=hd;have hcell0:=hcell 0 (by decide);simp at hcell0;go_simp;done) | (go_simp;go_at_call 107;(with_reducible refine (HCC.out _ ?_).mono ?_);(exact bstep (Tryst2.Grow.below hg (.refl _ _)) HBo.out);rintro e w5 ⟨rfl,hb5⟩;exact ⟨hb5,rfl⟩)
        case fin=>
         intro tv w' hg hR
         simp only [YF,YL,YR] at hR
         obtain ⟨hcg,hfg,hsg⟩:=YG hg
         simp only [YP,YL,Act.put,hR]
         have HW9:=Lib.hid (bstep (Tryst2.Grow.below hg (.refl _ _)) HW.out)
         have HB9:=Lib.hid (bstep (Tryst2.Grow.below hg (.refl _ _)) HBo.out)
         clear hg hR hcg hfg hsg
         cases pp with
         | true=>
          have HNX:Hid (R=((wl.zip wl').drop (k+1)).all (fun x=>sameB x.1 x.2)):=Lib.hid (by have:=HST.out;rwa [Bool.true_and] at this)
          go_wp2_with fail
          go_roundw
          case rel=>exact ⟨k+1,by rw [HZL.out];omega,by go_num,HNX,HW9.out,HW9.out.size⟩
          case measure=>simp [intOf]<;>omega
         | false=>
          have HN:Hid (R=false):=Lib.hid (by have:=HST.out;rwa [Bool.false_and] at this)
          go_wp2_with fail
          go_ret
          exact ⟨ret_bool HN.out.symm,HB9.out⟩
       ·
        have HN:=Lib.hid (allR_end (by rw [HZL.out];omega) HP.out)
        go_wp2_with fail
        go_ret
        exact ⟨ret_bool HN.out.symm,HBo.out⟩
     ·
      have HN:Hid (R=false):=Lib.hid (by
       rw [HR3.out,← HPB.out]
       cases h:sameL wl wl' with
       | false=>rfl
       | true=>exact absurd (sameL_len h) (by omega))
      have hne:((wl.length:Int)==(wl'.length:Int))=false:=by simpa using hn
      go_wp2_with fail
      go_ret
      exact ⟨ret_bool HN.out.symm,HB1.out⟩
   ·
    have HN:=Lib.hid (show R=false by
     rw [← HR.out]
     by_cases a1:kd=kd'<;>by_cases a2:p=p'<;>by_cases a3:n=n'<;>by_cases a4:x=x'<;>first | (simp [a1,a2,a3,a4];done) | exact absurd (And.intro a1 (And.intro a2 (And.intro a3 a4))) h3)
    by_cases a1:kd=kd'
    ·
     subst a1
     by_cases a2:p=p'
     ·
      subst a2
      by_cases a3:n=n'
      ·
       subst a3
       have a4:¬ x=x':=fun e=>h3 ⟨rfl,rfl,rfl,e⟩
       have b4:(x==x')=false:=by simpa using a4
       clear h3
       go_wp2_with fail
       go_ret
       exact ⟨ret_bool HN.out.symm,HB0.out⟩
      ·
       have b4:(n==n')=false:=by simpa using a3
       clear h3
       go_wp2_with fail
       go_ret
       exact ⟨ret_bool HN.out.symm,HB0.out⟩
     ·
      have b4:(p==p')=false:=by simpa using a2
      clear h3
      go_wp2_with fail
      go_ret
      exact ⟨ret_bool HN.out.symm,HB0.out⟩
    ·
     have b4:(kd.toList==kd'.toList)=false:=strNe (fun e=>a1 (str_ext e))
     clear h3
     go_wp2_with fail
     go_ret
     exact ⟨ret_bool HN.out.symm,HB0.out⟩
  ·
   have HN:=Lib.hid (show R=false by rw [← HR.out];simp [h2])
   have b4:(ky.toList==ky'.toList)=false:=strNe (fun e=>h2 (str_ext e))
   go_wp2_with fail
   go_ret
   exact ⟨ret_bool HN.out.symm,HB0.out⟩
 ·
  have HN:=Lib.hid (show R=false by rw [← HR.out];simp [h1])
  have b4:(nm.toList==nm'.toList)=false:=strNe (fun e=>h1 (str_ext e))
  go_wp2_with fail
  go_ret
  exact ⟨ret_bool HN.out.symm,HB0.out⟩
end Go.Proofs.YtcbicdencgjfiaaGreatDoor
