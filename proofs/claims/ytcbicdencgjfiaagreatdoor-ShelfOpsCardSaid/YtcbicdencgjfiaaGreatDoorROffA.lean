/- ref09.May; ref14.May, ref14.Wants. -/
import Derived.Test.YtcbicdencgjfiaaGreatDoorDefU
import Derived.Test.YtcbicdencgjfiaaGreatDoorRFH5
set_option linter.unusedVariables false
set_option linter.unusedSimpArgs false
namespace Go.Proofs.YtcbicdencgjfiaaGreatDoor
open Go.RowKit Tryst
set_option maxHeartbeats 2000000
set_option maxRecDepth 20000
theorem rjmay_c (j:JB) (w:World):Calls Tryz.prog 119 #[.agg #[.string j.kind,.int .i64 j.parts,.int .i64 j.need,.int .i64 j.window]] w fun e w'=>e=.returned (.bool (mayJ j))∧Below w.heap.size w w':=by
 obtain ⟨kd,p,n,x⟩:=j
 obtain ⟨R,hR⟩:∃ R,mayJ ⟨kd,p,n,x⟩=R:=⟨_,rfl⟩
 rw [hR]
 unfold mayJ at hR
 simp only at hR
 have HR:=Lib.hid hR
 have HB:=Lib.hid (balloc (.cells #[.string kd,.int .i64 p,.int .i64 n,.int .i64 x] 43) (.refl w.heap.size w))
 clear hR
 have key:∀ k:ByteArray,¬ kd=k→(kd.toList==k.data.toList)=false:=fun k hk=>by rw [beq_eq_false_iff_ne];exact fun e=>hk (str_ext (by rw [← str_toList,e]))
 by_cases kc:kd=⟨#[99,111,117,110,116]⟩
 ·
  subst kc
  clear key
  by_cases hn:n < 1
  ·
   have HN:=Lib.hid (show R=false by rw [← HR.out];simp;omega)
   go_enter Tryz.func119,Tryz.ntmps119
   go_wp2_with fail
   go_ret
   exact ⟨ret_bool HN.out.symm,HB.out⟩
  ·
   by_cases hm:30 < n
   ·
    have HN:=Lib.hid (show R=false by rw [← HR.out];simp;omega)
    go_enter Tryz.func119,Tryz.ntmps119
    go_wp2_with fail
    go_ret
    exact ⟨ret_bool HN.out.symm,HB.out⟩
   ·
    have HK:Hid (R=(decide (1≤p)&&(decide (p≤6)&&(decide (0≤x)&&decide (x≤1073741824))))):=Lib.hid (by
     rw [← HR.out,if_neg (by decide),if_pos rfl,decide_eq_true (show 1≤n by omega),decide_eq_true (show n≤30 by omega)]
     simp)
    clear HR
    by_cases h1:1≤p
    ·
     by_cases h2:p≤6
     ·
      by_cases h3:0≤x
      ·
       by_cases h4:x≤1073741824
       ·
        have HN:=Lib.hid (show R=true by rw [HK.out];simp [h1,h2,h3,h4])
        go_enter Tryz.func119,Tryz.ntmps119
        go_wp2_with fail
        go_ret
        exact ⟨ret_bool HN.out.symm,HB.out⟩
       ·
        have HN:=Lib.hid (show R=false by rw [HK.out];simp [h4])
        go_enter Tryz.func119,Tryz.ntmps119
        go_wp2_with fail
        go_ret
        exact ⟨ret_bool HN.out.symm,HB.out⟩
      ·
       have HN:=Lib.hid (show R=false by rw [HK.out];simp [h3])
       go_enter Tryz.func119,Tryz.ntmps119
       go_wp2_with fail
       go_ret
       exact ⟨ret_bool HN.out.symm,HB.out⟩
     ·
      have HN:=Lib.hid (show R=false by rw [HK.out];simp [h2])
      go_enter Tryz.func119,Tryz.ntmps119
      go_wp2_with fail
      go_ret
      exact ⟨ret_bool HN.out.symm,HB.out⟩
    ·
     have HN:=Lib.hid (show R=false by rw [HK.out];simp [h1])
     go_enter Tryz.func119,Tryz.ntmps119
     go_wp2_with fail
     go_ret
     exact ⟨ret_bool HN.out.symm,HB.out⟩
 ·
  have q3:(kd.toList==[99,111,117,110,116])=false:=key _ kc
  by_cases ka:kd=⟨#[97,108,108]⟩
  ·
   subst ka
   clear key kc
   by_cases hn:n=0
   ·
    subst hn
    have HK:Hid (R=(decide (1≤p)&&(decide (p≤6)&&(decide (0≤x)&&decide (x≤1073741824))))):=Lib.hid (by
     rw [← HR.out]
     simp)
    clear HR
    by_cases h1:1≤p
    ·
     by_cases h2:p≤6
     ·
      by_cases h3:0≤x
      ·
       by_cases h4:x≤1073741824
       ·
        have HN:=Lib.hid (show R=true by rw [HK.out];simp [h1,h2,h3,h4])
        go_enter Tryz.func119,Tryz.ntmps119
        go_wp2_with fail
        go_ret
        exact ⟨ret_bool HN.out.symm,HB.out⟩
       ·
        have HN:=Lib.hid (show R=false by rw [HK.out];simp [h4])
        go_enter Tryz.func119,Tryz.ntmps119
        go_wp2_with fail
        go_ret
        exact ⟨ret_bool HN.out.symm,HB.out⟩
      ·
       have HN:=Lib.hid (show R=false by rw [HK.out];simp [h3])
       go_enter Tryz.func119,Tryz.ntmps119
       go_wp2_with fail
       go_ret
       exact ⟨ret_bool HN.out.symm,HB.out⟩
     ·
      have HN:=Lib.hid (show R=false by rw [HK.out];simp [h2])
      go_enter Tryz.func119,Tryz.ntmps119
      go_wp2_with fail
      go_ret
      exact ⟨ret_bool HN.out.symm,HB.out⟩
    ·
     have HN:=Lib.hid (show R=false by rw [HK.out];simp [h1])
     go_enter Tryz.func119,Tryz.ntmps119
     go_wp2_with fail
     go_ret
     exact ⟨ret_bool HN.out.symm,HB.out⟩
   ·
    have HN:=Lib.hid (show R=false by rw [← HR.out];simp [hn])
    have hn2:(n==0)=false:=by simpa using hn
    go_enter Tryz.func119,Tryz.ntmps119
    go_wp2_with fail
    go_ret
    exact ⟨ret_bool HN.out.symm,HB.out⟩
  ·
   have q1:(kd.toList==[97,108,108])=false:=key _ ka
   by_cases kb:kd=⟨#[97,110,121]⟩
   ·
    subst kb
    clear key kc ka
    by_cases hn:n=0
    ·
     subst hn
     have HK:Hid (R=(decide (1≤p)&&(decide (p≤6)&&(decide (0≤x)&&decide (x≤1073741824))))):=Lib.hid (by
      rw [← HR.out]
      simp)
     clear HR
     by_cases h1:1≤p
     ·
      by_cases h2:p≤6
      ·
       by_cases h3:0≤x
       ·
        by_cases h4:x≤1073741824
        ·
         have HN:=Lib.hid (show R=true by rw [HK.out];simp [h1,h2,h3,h4])
         go_enter Tryz.func119,Tryz.ntmps119
         go_wp2_with fail
         go_ret
         exact ⟨ret_bool HN.out.symm,HB.out⟩
        ·
         have HN:=Lib.hid (show R=false by rw [HK.out];simp [h4])
         go_enter Tryz.func119,Tryz.ntmps119
         go_wp2_with fail
         go_ret
         exact ⟨ret_bool HN.out.symm,HB.out⟩
       ·
        have HN:=Lib.hid (show R=false by rw [HK.out];simp [h3])
        go_enter Tryz.func119,Tryz.ntmps119
        go_wp2_with fail
        go_ret
        exact ⟨ret_bool HN.out.symm,HB.out⟩
      ·
       have HN:=Lib.hid (show R=false by rw [HK.out];simp [h2])
       go_enter Tryz.func119,Tryz.ntmps119
       go_wp2_with fail
       go_ret
       exact ⟨ret_bool HN.out.symm,HB.out⟩
     ·
      have HN:=Lib.hid (show R=false by rw [HK.out];simp [h1])
      go_enter Tryz.func119,Tryz.ntmps119
      go_wp2_with fail
      go_ret
      exact ⟨ret_bool HN.out.symm,HB.out⟩
    ·
     have HN:=Lib.hid (show R=false by rw [← HR.out];simp [hn])
     have hn2:(n==0)=false:=by simpa using hn
     go_enter Tryz.func119,Tryz.ntmps119
     go_wp2_with fail
     go_ret
     exact ⟨ret_bool HN.out.symm,HB.out⟩
   ·
    have q2:(kd.toList==[97,110,121])=false:=key _ kb
    have HN:=Lib.hid (show R=false by rw [← HR.out,if_neg (by rintro (h | h);exact ka h;exact kb h),if_neg kc];simp)
    clear key ka kb kc
    go_enter Tryz.func119,Tryz.ntmps119
    go_wp2_with fail
    go_ret
    exact ⟨ret_bool HN.out.symm,HB.out⟩
set_option maxHeartbeats 8000000 in
theorem rdmay_c (d:DB) (w:World) (hD:DO w d):Calls Tryz.prog 58 #[d.agg] w fun e w'=>e=.returned (.bool (mayD d))∧Below w.heap.size w w':=by
 have CF:=Lib.hid (fun W=>rfield_c d.name (Nat.le_trans hD.hn (by decide)) W)
 have CK:=Lib.hid (fun W=>rfield_c d.key (Nat.le_trans hD.hk (by decide)) W)
 have CJ:=Lib.hid (fun W=>rjmay_c d.j W)
 have CG:=Lib.hid (fun (k:Nat) (hk:k < d.gl.length) W=>rglob_c d.gl[k] (Nat.le_trans (hD.hgs _ (List.getElem_mem hk)) (by decide)) W)
 have cP:=(fun (k:Nat) (hk:k < d.wl.length) W (hb:Below w.heap.size w W)=>rmay5_c d.wl[k] W ((hD.wR.po _ (List.getElem_mem hk)).1.grow hb))
 unfold PB.agg at cP
 have CP:=Lib.hid cP
 have HG:=Lib.hid (fun W (hb:Below w.heap.size w W)=>hD.gS.grow hb)
 have HU:=Lib.hid (fun W (hb:Below w.heap.size w W)=>hD.wR.grow hb)
 obtain ⟨R,hR⟩:∃ R,mayD d=R:=⟨_,rfl⟩
 rw [hR]
 unfold mayD at hR
 unfold DB.agg
 have hlw:=hD.hw
 have hlg:=hD.hg
 clear hD cP
 obtain ⟨nm,ga,gl,gc,wa,wl,wc,ky,j⟩:=d
 simp only at CF CK CJ CG CP HG HU hR hlw hlg ⊢
 obtain ⟨fb,hfb⟩:∃ b,fieldB nm.data.toList=b:=⟨_,rfl⟩
 obtain ⟨kb,hkb⟩:∃ b,fieldB ky.data.toList=b:=⟨_,rfl⟩
 obtain ⟨jb,hjb⟩:∃ b,mayJ j=b:=⟨_,rfl⟩
 obtain ⟨gb,hgb⟩:∃ b,(gl.all fun s=>globB s.data.toList)=b:=⟨_,rfl⟩
 obtain ⟨pb,hpb⟩:∃ b,(wl.all fun p=>mayP p.pr)=b:=⟨_,rfl⟩
 rw [hfb] at CF hR
 rw [hkb] at CK hR
 rw [hjb] at CJ hR
 rw [hgb,hpb] at hR
 have HG0:Hid (gb=(gl.drop 0).all fun s=>globB s.data.toList):=Lib.hid (by rw [← hgb];rfl)
 have HP0:Hid (pb=(wl.drop 0).all fun p=>mayP p.pr):=Lib.hid (by rw [← hpb];rfl)
 clear hfb hkb hjb hgb hpb
 obtain ⟨kd,p,n,x⟩:=j
 simp only at CJ hR ⊢
 have HR:=Lib.hid hR
 clear hR
 go_enter Tryz.func58,Tryz.ntmps58
 go_upto_region 1 with fail
 refine wp_genC (fun v=>Hid (DX v w.heap.size nm (.slice ga gl.length gc) (.slice wa wl.length wc) ky kd p n x)∧Hid (Below w.heap.size w v)) ⟨DX.new _ _ _ _ _ _ _ _ _,balloc _ (.refl _ _)⟩ ?_
 rintro Y ⟨HX,HY⟩
 obtain ⟨g,hg⟩:∃ g,w.heap.size=g:=⟨_,rfl⟩
 rw [hg] at HX
 simp only [hg]
 go_wp2_with fail
 go_loopw [3] (fun i wr=>AllR gb (fun s:ByteArray=>globB s.data.toList) gl Y i wr) (fun i _=>gl.length - (intOf i).toNat)
 case atStart=>exact ⟨0,by omega,rfl,HG0,.refl _ _,by omega⟩
 case round=>
  obtain ⟨k,hk,rfl,HP,HW,hz⟩:=hrel
  obtain ⟨wo,rfl⟩:∃ wo,wo=wr:=⟨_,rfl⟩
  have HXo:=Lib.hid (HX.out.grow HW.out)
  obtain ⟨x0,x1,x2,x3,x4,x5,x6,x7,x8⟩:=HXo.out.box
  have HBo:=Lib.hid (bstep HW.out HY.out)
  clear HG0
  by_cases hlt:k < gl.length
  ·
   obtain ⟨b,o,ha,hb⟩:=(HG.out wo HBo.out).head hlt
   subst ha
   have hc1:=((HG.out wo HBo.out).at hlt).2
   have hst:=allR_step hlt HP.out
   obtain ⟨pp,hpp⟩:∃ pp,globB gl[k].data.toList=pp:=⟨_,rfl⟩
   rw [hpp] at hst
   have HPP:=Lib.hid hpp
   have HST:=Lib.hid hst
   have HCC:=Lib.hid (CG.out k hlt)
   clear hpp hst HP
   go_wp2_with fail
   refine (HCC.out _).mono ?_
   rintro e w2 ⟨rfl,hb2⟩
   have HB2:=Lib.hid (bstep hb2 HW.out)
   have HBB:=Lib.hid (bstep hb2 HBo.out)
   clear hb2 HCC
   rw [HPP.out]
   cases pp with
   | true=>
    have HN:Hid (gb=(gl.drop (k+1)).all fun s=>globB s.data.toList):=Lib.hid (by have:=HST.out;rwa [Bool.true_and] at this)
    go_wp2_with fail
    go_roundw
    case rel=>exact ⟨k+1,by omega,by go_num,HN,HB2.out,HB2.out.size⟩
    case measure=>simp [intOf]<;>omega
   | false=>
    have HN:Hid (R=false):=Lib.hid (by
     have h5:=HST.out
     rw [Bool.false_and] at h5
     rw [← HR.out,h5]
     simp)
    go_wp2_with fail
    go_ret
    exact ⟨ret_bool HN.out.symm,HBB.out⟩
  ·
   obtain rfl:gb=true:=allR_end (by omega:gl.length≤k) HP.out
   clear HP
   go_wp2_with fail
   go_loopw [4] (fun i wr=>AllR pb (fun p:PB=>mayP p.pr) wl wo i wr) (fun i _=>wl.length - (intOf i).toNat)
   case atStart=>exact ⟨0,by omega,rfl,HP0,.refl _ _,by omega⟩
   case round=>
    clear x0 x1 x2 x3 x4 x5 x6 x7 x8 HX HP0
    obtain ⟨m,hm,rfl,HP,HW2,hz2⟩:=hrel
    obtain ⟨wp,rfl⟩:∃ wp,wp=wr:=⟨_,rfl⟩
    have HXp:=Lib.hid (HXo.out.grow HW2.out)
    obtain ⟨x0,x1,x2,x3,x4,x5,x6,x7,x8⟩:=HXp.out.box
    have HBp:=Lib.hid (bstep HW2.out HBo.out)
    clear HW HXo HBo
    by_cases hlt2:m < wl.length
    ·
     obtain ⟨b,o,ha,hb⟩:=(HU.out wp HBp.out).head hlt2
     subst ha
     obtain ⟨_,f0,f1,f2,f3,f4,f5⟩:=Row.pat (HU.out wp HBp.out).row hlt2
     have hst:=allR_step hlt2 HP.out
     obtain ⟨pp,hpp⟩:∃ pp,mayP wl[m].pr=pp:=⟨_,rfl⟩
     rw [hpp] at hst
     have HPP:=Lib.hid hpp
     have HST:=Lib.hid hst
     have HCC:=Lib.hid (CP.out m hlt2)
     clear hpp hst HP
     go_wp2_with fail
     refine (HCC.out _ HBp.out).mono ?_
     rintro e w2 ⟨rfl,hb2⟩
     have HB2:=Lib.hid (bstep hb2 HW2.out)
     have HBB:=Lib.hid (bstep hb2 HBp.out)
     clear hb2 HCC
     rw [HPP.out]
     cases pp with
     | true=>
      have HN:Hid (pb=(wl.drop (m+1)).all fun p=>mayP p.pr):=Lib.hid (by have:=HST.out;rwa [Bool.true_and] at this)
      go_wp2_with fail
      go_roundw
      case rel=>exact ⟨m+1,by omega,by go_num,HN,HB2.out,HB2.out.size⟩
      case measure=>simp [intOf]<;>omega
     | false=>
      have HN:Hid (R=false):=Lib.hid (by
       have h5:=HST.out
       rw [Bool.false_and] at h5
       rw [← HR.out,h5]
       simp)
      go_wp2_with fail
      go_ret
      exact ⟨ret_bool HN.out.symm,HBB.out⟩
    ·
     obtain rfl:pb=true:=allR_end (by omega:wl.length≤m) HP.out
     clear HP CG CP HG HU
     go_wp2_with fail
     refine (CF.out _).mono ?_
     rintro e w1 ⟨rfl,hb1⟩
     have HX1:=Lib.hid (HXp.out.grow hb1)
     have HB1:=Lib.hid (bstep hb1 HBp.out)
     clear hb1 CF x0 x1 x2 x3 x4 x5 x6 x7 x8 HW2 HXp HBp
     obtain ⟨x0,x1,x2,x3,x4,x5,x6,x7,x8⟩:=HX1.out.box
     cases fb with
     | false=>
      have HN:=Lib.hid (show R=false by rw [← HR.out];rfl)
      go_wp2_with fail
      go_ret
      exact ⟨ret_bool HN.out.symm,HB1.out⟩
     | true=>
      by_cases h1:(1:Int)≤(gl.length:Int)
      ·
       by_cases h2:(gl.length:Int)≤5
       ·
        have HR2:Hid ((jb&&(decide ((wl.length:Int)=p)&&(decide (ky=⟨#[]⟩)||kb)))=R):=Lib.hid (by
         rw [← HR.out,decide_eq_true (show 1≤gl.length by omega),decide_eq_true (show gl.length≤5 by omega)]
         simp only [Bool.true_and,Bool.and_true])
        clear HR
        go_wp2_with fail
        refine (CJ.out _).mono ?_
        rintro e w2 ⟨rfl,hb2⟩
        have HX2:=Lib.hid (HX1.out.grow hb2)
        have HB2:=Lib.hid (bstep hb2 HB1.out)
        clear hb2 HX1 HB1 CJ x0 x1 x2 x3 x4 x5 x6 x7 x8
        obtain ⟨x0,x1,x2,x3,x4,x5,x6,x7,x8⟩:=HX2.out.box
        cases jb with
        | false=>
         have HN:=Lib.hid (show R=false by rw [← HR2.out];rfl)
         go_wp2_with fail
         go_ret
         exact ⟨ret_bool HN.out.symm,HB2.out⟩
        | true=>
         by_cases h3:(wl.length:Int)=p
         ·
          subst h3
          have HR3:Hid ((decide (ky=⟨#[]⟩)||kb)=R):=Lib.hid (by rw [← HR2.out];simp)
          clear HR2
          by_cases hk:ky=⟨#[]⟩
          ·
           subst hk
           have HN:Hid (R=true):=Lib.hid (by rw [← HR3.out];simp)
           clear HR3
           go_wp2_with fail
           go_ret
           exact ⟨ret_bool HN.out.symm,HB2.out⟩
          ·
           have hky:(ky.toList==[])=false:=by rw [beq_eq_false_iff_ne];exact fun e=>hk (str_ext (by rw [← str_toList,e]))
           have HN:Hid (R=kb):=Lib.hid (by rw [← HR3.out];simp [hk])
           clear hk HR3
           go_wp2_with fail
           refine (CK.out _).mono ?_
           rintro e w3 ⟨rfl,hb3⟩
           have HB3:=Lib.hid (bstep hb3 HB2.out)
           clear hb3
           go_wp2_with fail
           go_ret
           exact ⟨ret_bool HN.out.symm,HB3.out⟩
         ·
          have HN:=Lib.hid (show R=false by rw [← HR2.out];simp [h3])
          go_wp2_with fail
          go_ret
          exact ⟨ret_bool HN.out.symm,HB2.out⟩
       ·
        have HN:=Lib.hid (show R=false by rw [← HR.out];simp;omega)
        go_wp2_with fail
        go_ret
        refine ⟨ret_bool HN.out.symm,?_⟩
        first | exact HB1.out | (rw [← hg];exact HB1.out)
      ·
       have HN:=Lib.hid (show R=false by rw [← HR.out];simp;omega)
       go_wp2_with fail
       go_ret
       refine ⟨ret_bool HN.out.symm,?_⟩
       first | exact HB1.out | (rw [← hg];exact HB1.out)
end Go.Proofs.YtcbicdencgjfiaaGreatDoor
