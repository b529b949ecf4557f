/- variables with cells -/
import Derived.Test.YtcbicdencgjfiaaGreatDoorDraws
import Derived.Test.YtcbicdencgjfiaaGreatDoorShO
set_option linter.unusedVariables false
set_option linter.unusedSimpArgs false
namespace Tryst
open Go Go.RowKit
def Var (w:World) (g:Nat) (T:TypeId) (cs:List Value):Prop:=w.heap[g]?=some (.cells cs.toArray T (0,0))
def VarC (w:World) (g:Nat):Nat→List Value→Prop
 | _,[]=>True
 | i,v :: r=>w.cell? ⟨g,i,none⟩=some v∧VarC w g (i+1) r
section
variable {w w':World} {g:Nat} {T:TypeId} {cs:List Value}
theorem Var.lt (h:Var w g T cs):g < w.heap.size:=(Array.getElem?_eq_some_iff.1 h).1
theorem Var.grow (h:Var w g T cs) (hb:Below w.heap.size w w'):Var w' g T cs:=(hb.block g h.lt).trans h
theorem Var.growB {B:Nat} (h:Var w g T cs) (hg:g < B) (hb:Below B w w'):Var w' g T cs:=(hb.block g hg).trans h
theorem Var.new (w:World) (T:TypeId) (cs:List Value):Var (w.alloc (.cells cs.toArray T)) w.heap.size T cs:=by
 show (w.heap.push _)[w.heap.size]?=_
 simp
theorem Var.cell (h:Var w g T cs) (i:Nat):w.cell? ⟨g,i,none⟩=cs[i]?:=by
 unfold Var at h
 simp [World.cell?,h]
theorem Var.fz (h:Var w g T cs) (i:Nat):w.frozen? ⟨g,i,none⟩=false:=by
 unfold Var at h
 simp [World.frozen?,h]
theorem VarC.of:∀ (r:List Value) (i:Nat),(∀ j,j < r.length→w.cell? ⟨g,i+j,none⟩=r[j]?)→VarC w g i r
 | [],_,_=>trivial
 | v :: r,i,h=>⟨by simpa using h 0 (by simp),VarC.of r (i+1) (fun j hj=>by
   have:=h (j+1) (by simpa using hj)
   rw [show i+1+j=i+(j+1) by omega,this]
   simp)⟩
theorem Var.cells (h:Var w g T cs):VarC w g 0 cs:=VarC.of cs 0 (fun j _=>by rw [Nat.zero_add];exact h.cell j)
theorem Var.away (h:Var w g T cs) {c o:Nat} (hc:c≠g) (v:Value):Var (w.setCell ⟨c,o,none⟩ v) g T cs:=(Below.heap_setCell _ _ _ _ (fun e=>hc e.symm)).trans h
theorem Var.set (h:Var w g T cs) (i:Nat) (v:Value):Var (w.setCell ⟨g,i,none⟩ v) g T (cs.set i v):=by
 unfold Var at h ⊢
 simp [World.setCell,Array.getElem?_modify,h]
theorem Var.shape (h:Var w g T cs):w.shape? g=some (T,cs.length):=by
 unfold Var at h
 simp [World.shape?,h]
def setsV (w:World) (g:Nat):Nat→List Value→World
 | _,[]=>w
 | i,v :: r=>setsV (w.setCell ⟨g,i,none⟩ v) g (i+1) r
theorem setsV_away {k:Nat} (hk:k≠g):∀ (vs:List Value) (i:Nat) (w:World),(setsV w g i vs).heap[k]?=w.heap[k]?
 | [],_,_=>rfl
 | v :: r,i,w=>by
  rw [setsV,setsV_away hk r]
  exact Below.heap_setCell _ _ _ _ hk
theorem setsV_size:∀ (vs:List Value) (i:Nat) (w:World),(setsV w g i vs).heap.size=w.heap.size
 | [],_,_=>rfl
 | v :: r,i,w=>by
  rw [setsV,setsV_size r]
  simp
theorem setsV_below {B:Nat} (hg:B≤g) {v:World}:∀ (vs:List Value) (i:Nat) (w:World),Below B v w→Below B v (setsV w g i vs)
 | [],_,_,h=>h
 | u :: r,i,w,h=>setsV_below hg r (i+1) _ (h.setCell (p:=⟨g,i,none⟩) hg u)
theorem Var.sets:∀ (vs:List Value) (xs bs:List Value) (w:World),Var w g T (xs++bs)→vs.length=bs.length→Var (setsV w g xs.length vs) g T (xs++vs)
 | [],xs,bs,w,h,e=>by
  have:bs=[]:=List.eq_nil_of_length_eq_zero (by simpa using e.symm)
  subst this
  exact h
 | v :: r,xs,b :: bs,w,h,e=>by
  rw [setsV]
  have h2:=h.set xs.length v
  rw [List.set_append_right _ _ (Nat.le_refl _),Nat.sub_self,List.set_cons_zero] at h2
  have:=Var.sets r (xs++[v]) bs (w.setCell ⟨g,xs.length,none⟩ v) (by simpa using h2) (by simpa using e)
  simpa using this
theorem Var.put (h:Var w g T cs) (vs:List Value) (e:vs.length=cs.length):Var (setsV w g 0 vs) g T vs:=Var.sets vs [] cs w h e
end
end Tryst
/- ref20: num, count, text, texts -/
set_option linter.unusedVariables false
set_option linter.unusedSimpArgs false
namespace Go.Proofs.YtcbicdencgjfiaaGreatDoor
open Go.RowKit Tryst
set_option maxHeartbeats 4000000
set_option maxRecDepth 20000
theorem rnum20_c (n:Int) (h0:-9223372036854775808≤n) (h1:n≤9223372036854775807) (w:World) :
  Calls Tryz.prog 43 #[.int .i64 n] w fun e w'=>e=.returned (.string ⟨(numL n).toArray⟩)∧Below w.heap.size w w':=by
 have HP:=Lib.hid (fun W=>rfold_c n h0 h1 W)
 have hf:=fold_lt h0 h1
 unfold numL
 generalize fold n=m at HP hf ⊢
 have HK:=Lib.hid (fun W=>rpackAll_c (m:Int) W (by omega) (by omega))
 rw [Int.toNat_natCast] at HK
 go_enter Tryz.func43,Tryz.ntmps43
 go_wp2_with fail
 refine (HP.out _).mono ?_
 rintro e w1 ⟨rfl,rfl⟩
 go_wp2_with fail
 refine (HK.out _).mono ?_
 rintro e w1 ⟨rfl,hb⟩
 go_wp2_with fail
 go_ret
 exact ⟨rfl,hb⟩
theorem rcount20_c (n:Nat) (hn:n≤1000000000) (w:World) :
  Calls Tryz.prog 44 #[.int .i64 n] w fun e w'=>e=.returned (.string ⟨(pack n).toArray⟩)∧Below w.heap.size w w':=by
 have HK:=Lib.hid (fun W=>rpackAll_c (n:Int) W (by omega) (by omega))
 rw [Int.toNat_natCast] at HK
 go_enter Tryz.func44,Tryz.ntmps44
 go_wp2_with fail
 refine (HK.out _).mono ?_
 rintro e w1 ⟨rfl,hb⟩
 go_wp2_with fail
 go_ret
 exact ⟨rfl,hb⟩
theorem rtext20_c (s:ByteArray) (hs:s.size≤1000000000) (w:World) :
  Calls Tryz.prog 45 #[.string s] w fun e w'=>e=.returned (.string ⟨(strL s).toArray⟩)∧Below w.heap.size w w':=by
 have HK:=Lib.hid (fun W=>rcount20_c s.size hs W)
 have hpk:=pack_le s.size
 have hsz:(⟨(pack s.size).toArray⟩:ByteArray).size≤10:=by rw [mk_size];exact hpk
 have HE:Hid ((⟨(pack s.size).toArray⟩:ByteArray)++s=⟨(strL s).toArray⟩):=Lib.hid (str_ext (by unfold strL textL;rw [len_str];simp))
 generalize (⟨(pack s.size).toArray⟩:ByteArray)=P at HK HE hsz
 generalize (⟨(strL s).toArray⟩:ByteArray)=R at HE ⊢
 go_enter Tryz.func45,Tryz.ntmps45
 go_wp2_with fail
 refine (HK.out _).mono ?_
 rintro e w1 ⟨rfl,hb⟩
 go_wp2_with fail
 go_ret
 exact ⟨congrArg (fun z=>Ending.returned (.string z)) HE.out,hb⟩
def RLR {α:Type} (w:World) (f:α→List UInt8) (o:List UInt8) (l:List α) (s i:Value) (wr:World):Prop:=
 ∃ (k:Nat) (A:ByteArray),k≤l.length∧i=.int .i64 k∧s=.string A∧Hid (A=⟨(o++(l.take k).flatMap f).toArray⟩)∧Hid (Below w.heap.size w wr)
theorem rtexts20_c (a:Option Addr) (c:Nat) (l:List ByteArray) (hl:(listL strL l).length≤1000000000) (hn:l.length≤1000000000) (w:World) (hS:Strs w a l) :
  Calls Tryz.prog 46 #[.slice a l.length c] w fun e w'=>e=.returned (.string ⟨(listL strL l).toArray⟩)∧Below w.heap.size w w':=by
 have HS:=Lib.hid hS
 have HC:=Lib.hid (fun W=>rcount20_c l.length hn W)
 unfold listL at hl ⊢
 rw [List.length_append] at hl
 clear hS
 go_enter Tryz.func46,Tryz.ntmps46
 go_wp2_with fail
 refine (HC.out _).mono ?_
 rintro e w1 ⟨rfl,hb1⟩
 have HB1:=Lib.hid hb1
 clear hb1
 go_wp2_with fail
 go_loopw [3,4] (fun s i wr=>RLR w strL (pack l.length) l s i wr) (fun _ i _=>l.length - (intOf i).toNat)
 case atStart=>exact ⟨0,_,by omega,rfl,rfl,Lib.hid (by rw [List.take_zero,List.flatMap_nil,List.append_nil]),HB1⟩
 case round=>
  clear HB1
  obtain ⟨k,A,hk,rfl,rfl,HA,HB⟩:=hrel
  obtain ⟨wo,rfl⟩:∃ wo,wo=wr:=⟨_,rfl⟩
  by_cases hlt:k < l.length
  ·
   obtain ⟨g,j,ha,hb⟩:=(HS.out.grow HB.out).head hlt
   subst ha
   have f0:=((HS.out.grow HB.out).at hlt).2
   have hfl:=flat_le strL hlt
   have HFN:=Lib.hid (flat_next strL hlt)
   have hsl:A.size≤(pack l.length).length+((l.take k).flatMap strL).length:=by rw [HA.out,mk_size,List.length_append];exact Nat.le_refl _
   have HT:=Lib.hid (fun W=>rtext20_c l[k] (by have:=strL_ge l[k];omega) W)
   have hs2:(⟨(strL l[k]).toArray⟩:ByteArray).size=(strL l[k]).length:=mk_size _
   have HN:Hid (A++(⟨(strL l[k]).toArray⟩:ByteArray)=⟨(pack l.length++(l.take (k+1)).flatMap strL).toArray⟩):=Lib.hid (by rw [HA.out,HFN.out];exact str_ext (by simp))
   generalize (⟨(strL l[k]).toArray⟩:ByteArray)=B at HT HN hs2
   clear HFN HA
   go_wp2_with fail
   refine (HT.out _).mono ?_
   rintro e w2 ⟨rfl,hb2⟩
   have HB2:=Lib.hid (bstep hb2 HB.out)
   clear hb2
   go_wp2_with fail
   go_roundw
   case rel=>exact ⟨k+1,_,by omega,by go_num,rfl,HN,HB2⟩
   case measure=>simp [intOf]<;>omega
  ·
   have HN:Hid (A=⟨(pack l.length++l.flatMap strL).toArray⟩):=Lib.hid (by rw [HA.out,List.take_of_length_le (by omega)])
   go_wp2_with fail
   go_ret
   exact ⟨congrArg (fun z=>Ending.returned (.string z)) HN.out,HB.out⟩
end Go.Proofs.YtcbicdencgjfiaaGreatDoor
/- ref20.def -/
set_option linter.unusedVariables false
set_option linter.unusedSimpArgs false
namespace Go.Proofs.YtcbicdencgjfiaaGreatDoor
open Go.RowKit Tryst
set_option maxHeartbeats 16000000
set_option maxRecDepth 20000
def RDR (w:World) (g:Nat) (nm:ByteArray) (G U:Value) (ky kd:ByteArray) (p n x:Int) (o:List UInt8) (l:List PB) (s i:Value) (wr:World):Prop:=
 ∃ (k:Nat) (A:ByteArray),k≤l.length∧i=.int .i64 k∧s=.string A∧Hid (A=⟨(o++((l.map PB.pr).take k).flatMap whereL).toArray⟩)∧Hid (Below w.heap.size w wr)∧Hid (DX wr g nm G U ky kd p n x)
theorem rdef20_c (d:DB) (w:World) (hD:DO w d) (hj:JIn d.j) (hm:∀ p∈d.wl,mayP p.pr=true) (hl:(defL d.dp).length≤1000000) :
  Calls Tryz.prog 59 #[d.agg] w fun e w'=>e=.returned (.string ⟨(defL d.dp).toArray⟩)∧Below w.heap.size w w':=by
 have hlen:=hl
 unfold DB.dp defL at hlen
 simp only [List.length_append] at hlen
 have C1:=Lib.hid (fun W=>rtext20_c d.name (Nat.le_trans hD.hn (by decide)) W)
 have C2:=Lib.hid (fun W (hb:Below w.heap.size w W)=>rtexts20_c d.ga d.gc d.gl (by omega) (Nat.le_trans hD.hg (by decide)) W (hD.gS.grow hb))
 have C3:=Lib.hid (fun W=>rcount20_c d.wl.length (Nat.le_trans hD.hw (by decide)) W)
 have C4:=Lib.hid (fun (k:Nat) (hk:k < d.wl.length) W (hb:Below w.heap.size w W)=>rtext_c 8 d.wl[k] (Nat.le_refl _) (by
  have:=hm _ (List.getElem_mem hk)
  rw [mayP_eq,Bool.and_eq_true] at this
  exact this.1) (po_fits _ (hD.wR.po _ (List.getElem_mem hk)).1) W ((hD.wR.po _ (List.getElem_mem hk)).1.grow hb))
 have C5:=Lib.hid (fun W=>rtext20_c d.key (Nat.le_trans hD.hk (by decide)) W)
 have C6:=Lib.hid (fun W=>rtext20_c d.j.kind (Nat.le_trans hj.k (by decide)) W)
 have C7:=Lib.hid (fun W=>rnum20_c d.j.parts hj.p0 hj.p1 W)
 have C8:=Lib.hid (fun W=>rnum20_c d.j.need hj.n0 hj.n1 W)
 have C9:=Lib.hid (fun W=>rnum20_c d.j.window hj.w0 hj.w1 W)
 have HU:=Lib.hid (fun W (hb:Below w.heap.size w W)=>hD.wR.grow hb)
 have hwn:=hD.hw
 clear hD hj hm hl
 obtain ⟨nm,ga,gl,gc,wa,wl,wc,ky,⟨kd,p,n,x⟩⟩:=d
 unfold DB.agg
 unfold DB.dp defL listL
 unfold PB.agg at C4
 unfold listL at hlen C2
 simp only [List.length_append,List.length_map] at C1 C2 C3 C4 C5 C6 C7 C8 C9 HU hlen hwn ⊢
 have s1:(⟨(strL nm).toArray⟩:ByteArray).size≤1000000:=by rw [mk_size];omega
 have s2:(⟨(pack gl.length++gl.flatMap strL).toArray⟩:ByteArray).size≤1000000:=by rw [mk_size,List.length_append];omega
 have s3:(⟨(pack wl.length).toArray⟩:ByteArray).size≤1000000:=by rw [mk_size];omega
 obtain ⟨A1,h1⟩:∃ A:ByteArray,⟨(strL nm).toArray⟩=A:=⟨_,rfl⟩
 obtain ⟨A2,h2⟩:∃ A:ByteArray,⟨(pack gl.length++gl.flatMap strL).toArray⟩=A:=⟨_,rfl⟩
 obtain ⟨A3,h3⟩:∃ A:ByteArray,⟨(pack wl.length).toArray⟩=A:=⟨_,rfl⟩
 rw [h1] at C1 s1
 rw [h2] at C2 s2
 rw [h3] at C3 s3
 have H1:=Lib.hid h1
 have H2:=Lib.hid h2
 have H3:=Lib.hid h3
 clear h1 h2 h3
 have HX:=Lib.hid (DX.new w nm (.slice ga gl.length gc) (.slice wa wl.length wc) ky kd p n x)
 have B0:=Lib.hid (balloc (.cells #[.string nm,.slice ga gl.length gc,.slice wa wl.length wc,.string ky,.string kd,.int .i64 p,.int .i64 n,.int .i64 x] 45) (.refl w.heap.size w))
 go_enter Tryz.func59,Tryz.ntmps59
 go_upto_region 1 with fail
 revert HX B0
 generalize w.alloc (.cells _ 45)=Z
 intro HX B0
 generalize w.heap.size=g at HX ⊢
 obtain ⟨x0,x1,x2,x3,x4,x5,x6,x7,x8⟩:=HX.out.box
 refine Tryst2.wp_region_grows [.is (.pointer (some ⟨g,0,none⟩)),.is (.string nm),.is (.string A1),.is (.pointer (some ⟨g,1,none⟩)),.is (.slice ga gl.length gc),.is (.string A2),.is (.string (A1++A2)),.is (.pointer (some ⟨g,2,none⟩)),.is (.slice wa wl.length wc),.is (.int .i64 (wl.length:Int)),.is (.string A3),.is (.string (A1++A2++A3)),.is (.string (A1++A2++A3))] (by kernel_rfl) (by kernel_rfl) ?obl ?fin
 case obl=>
  simp only [YA,YL,YO,YR,Op.operands,Call.operands]
  repeat' apply And.intro
  any_goals trivial
  all_goals (intro tv w' hg hold hd;(try simp at hold);obtain ⟨hcg,hfg,hsg⟩:=YG hg)
  all_goals first | (go_simp;done) | (go_simp;rw [if_neg (by omega)];exact ⟨.refl _,rfl⟩) | (obtain ⟨⟨g,hvg,hgg,hcell⟩,_⟩:=hd;have hcell0:=hcell 0 (by decide);simp at hcell0;go_simp;done) | (go_simp;refine (C1.out _).mono ?_;rintro e w2 ⟨rfl,hb2⟩;exact ⟨hb2,rfl⟩) | (go_simp;refine (C3.out _).mono ?_;rintro e w2 ⟨rfl,hb2⟩;exact ⟨hb2,rfl⟩) | (go_simp;(with_reducible refine (C2.out _ ?_).mono ?_);(exact bstep (Tryst2.Grow.below hg (.refl _ _)) B0.out);rintro e w5 ⟨rfl,hb5⟩;exact ⟨hb5,rfl⟩)
 case fin=>
  intro tv w' hg hR
  simp only [YF,YL,YR] at hR
  obtain ⟨hcg,hfg,hsg⟩:=YG hg
  simp only [YP,YL,Act.put,hR]
  have HZ1:=Lib.hid (HX.out.grow (Tryst2.Grow.below hg (.refl _ _)))
  have HB1:=Lib.hid (bstep (Tryst2.Grow.below hg (.refl _ _)) B0.out)
  clear hg hR hcg hfg hsg x0 x1 x2 x3 x4 x5 x6 x7 x8 HX B0 C1 C2 C3
  obtain ⟨x0,x1,x2,x3,x4,x5,x6,x7,x8⟩:=HZ1.out.box
  go_wp2_with fail
  obtain ⟨o,ho⟩:∃ o,strL nm++(pack gl.length++gl.flatMap strL)++pack wl.length=o:=⟨_,rfl⟩
  have HA0:Hid (A1++A2++A3=⟨o.toArray⟩):=Lib.hid (by rw [← H1.out,← H2.out,← H3.out,← ho];exact str_ext (by simp))
  have hol:o.length=(strL nm).length+((pack gl.length).length+(gl.flatMap strL).length)+(pack wl.length).length:=by rw [← ho,List.length_append,List.length_append,List.length_append]
  have HO:=Lib.hid ho
  generalize A1++A2++A3=A0 at HA0 ⊢
  clear H1 H2 H3 s1 s2 s3 ho x0 x1 x2 x3 x4 x5 x6 x7 x8
  go_loopw [3,4] (fun s i wr=>RDR w g nm (.slice ga gl.length gc) (.slice wa wl.length wc) ky kd p n x o wl s i wr) (fun _ i _=>wl.length - (intOf i).toNat)
  case atStart=>exact ⟨0,A0,by omega,rfl,rfl,Lib.hid (by rw [List.take_zero,List.flatMap_nil,List.append_nil];exact HA0.out),HB1,HZ1⟩
  case round=>
   clear HB1 HZ1 HA0
   obtain ⟨k,A,hk,rfl,rfl,HA,HB,HX⟩:=hrel
   obtain ⟨wo,rfl⟩:∃ wo,wo=wr:=⟨_,rfl⟩
   obtain ⟨x0,x1,x2,x3,x4,x5,x6,x7,x8⟩:=HX.out.box
   by_cases hlt:k < wl.length
   ·
    have hlt2:k < (wl.map PB.pr).length:=by rw [List.length_map];exact hlt
    have hfl:=flat_le whereL hlt2
    have HFN:=Lib.hid (flat_next whereL hlt2)
    rw [List.getElem_map] at hfl HFN
    have hsl:A.size≤o.length+(((wl.map PB.pr).take k).flatMap whereL).length:=by rw [HA.out,mk_size,List.length_append];exact Nat.le_refl _
    have hU:=HU.out wo HB.out
    obtain ⟨b,j,ha,hb⟩:=hU.head hlt
    subst ha
    obtain ⟨_,f0,f1,f2,f3,f4,f5⟩:=Row.pat hU.row hlt
    have HC:=Lib.hid (C4.out k hlt)
    have hwl:(pText wl[k].pr).length≤(whereL wl[k].pr).length:=by
     unfold whereL textL
     rw [List.length_append]
     omega
    have HT:=Lib.hid (fun W=>rtext20_c ⟨(pText wl[k].pr).toArray⟩ (by rw [mk_size];omega) W)
    have e2:strL ⟨(pText wl[k].pr).toArray⟩=whereL wl[k].pr:=by unfold strL whereL;rw [mk_str]
    rw [e2] at HT
    have hs2:(⟨(whereL wl[k].pr).toArray⟩:ByteArray).size≤1000000:=by rw [mk_size];omega
    have hs3:A.size≤1000000:=by omega
    have HN:Hid (A++(⟨(whereL wl[k].pr).toArray⟩:ByteArray)=⟨(o++((wl.map PB.pr).take (k+1)).flatMap whereL).toArray⟩):=Lib.hid (by rw [HA.out,HFN.out];exact str_ext (by simp))
    generalize (⟨(whereL wl[k].pr).toArray⟩:ByteArray)=B at HT HN hs2
    generalize (⟨(pText wl[k].pr).toArray⟩:ByteArray)=T at HT HC
    clear HFN HA hU e2 hwl hfl hsl hol
    go_wp2_with fail
    refine (HC.out wo HB.out).mono ?_
    rintro e w2 ⟨rfl,hb2⟩
    have HB2:=Lib.hid (bstep hb2 HB.out)
    have HX2:=Lib.hid (HX.out.grow hb2)
    clear hb2
    go_wp2_with fail
    refine (HT.out _).mono ?_
    rintro e w3 ⟨rfl,hb3⟩
    have HB3:=Lib.hid (bstep hb3 HB2.out)
    have HX3:=Lib.hid (HX2.out.grow hb3)
    clear hb3 HB HX HB2 HX2 x0 x1 x2 x3 x4 x5 x6 x7 x8 f0 f1 f2 f3 f4 f5 HC HT
    go_wp2_with fail
    go_roundw
    case rel=>exact ⟨k+1,_,by omega,by go_num,rfl,HN,HB3,HX3⟩
    case measure=>simp [intOf]<;>omega
   ·
    have HA2:Hid (A=⟨(o++(wl.map PB.pr).flatMap whereL).toArray⟩):=Lib.hid (by rw [HA.out,List.take_of_length_le (by rw [List.length_map];omega)])
    have hs0:A.size≤1000000:=by rw [HA2.out,mk_size,List.length_append];omega
    clear HA
    have t1:(⟨(strL ky).toArray⟩:ByteArray).size≤1000000:=by rw [mk_size];omega
    have t2:(⟨(strL kd).toArray⟩:ByteArray).size≤1000000:=by rw [mk_size];omega
    have t3:(⟨(numL p).toArray⟩:ByteArray).size≤1000000:=by rw [mk_size];omega
    have t4:(⟨(numL n).toArray⟩:ByteArray).size≤1000000:=by rw [mk_size];omega
    have t5:(⟨(numL x).toArray⟩:ByteArray).size≤1000000:=by rw [mk_size];omega
    have HE:Hid (A++(⟨(strL ky).toArray⟩:ByteArray)++⟨(strL kd).toArray⟩++⟨(numL p).toArray⟩++⟨(numL n).toArray⟩++⟨(numL x).toArray⟩=⟨(strL nm++(pack gl.length++gl.flatMap strL++(pack wl.length++(wl.map PB.pr).flatMap whereL++(strL ky++(strL kd++(numL p++(numL n++numL x))))))).toArray⟩):=Lib.hid (by rw [HA2.out,← HO.out];exact str_ext (by simp))
    generalize (⟨(strL ky).toArray⟩:ByteArray)=B1 at C5 t1 HE
    generalize (⟨(strL kd).toArray⟩:ByteArray)=B2 at C6 t2 HE
    generalize (⟨(numL p).toArray⟩:ByteArray)=B3 at C7 t3 HE
    generalize (⟨(numL n).toArray⟩:ByteArray)=B4 at C8 t4 HE
    generalize (⟨(numL x).toArray⟩:ByteArray)=B5 at C9 t5 HE
    clear HA2 HO hol hlen HU C4
    go_upto_region 6 with fail
    refine Tryst2.wp_region_grows [.is (.string A),.is (.pointer (some ⟨g,3,none⟩)),.is (.string ky),.is (.string B1),.is (.string (A++B1)),.is (.pointer (some ⟨g,4,none⟩)),.is (.pointer (some ⟨g,4,none⟩)),.is (.string kd),.is (.string B2),.is (.string (A++B1++B2)),.is (.pointer (some ⟨g,4,none⟩)),.is (.pointer (some ⟨g,5,none⟩)),.is (.int .i64 p),.is (.string B3),.is (.string (A++B1++B2++B3)),.is (.pointer (some ⟨g,4,none⟩)),.is (.pointer (some ⟨g,6,none⟩)),.is (.int .i64 n),.is (.string B4),.is (.string (A++B1++B2++B3++B4)),.is (.pointer (some ⟨g,4,none⟩)),.is (.pointer (some ⟨g,7,none⟩)),.is (.int .i64 x),.is (.string B5),.is (.string (A++B1++B2++B3++B4++B5)),.is (.string (A++B1++B2++B3++B4++B5))] (by kernel_rfl) (by kernel_rfl) ?obl ?fin
    case obl=>
     simp only [YA,YL,YO,YR,Op.operands,Call.operands]
     repeat' apply And.intro
     any_goals trivial
     all_goals (intro tv w' hg hold hd;(try simp at hold);obtain ⟨hcg,hfg,hsg⟩:=YG hg)
     all_goals first | (go_simp;done) | (go_simp;rw [if_neg (by omega)];exact ⟨.refl _,rfl⟩) | (obtain ⟨⟨g,hvg,hgg,hcell⟩,_⟩:=hd;have hcell0:=hcell 0 (by decide);simp at hcell0;go_simp;done) | (go_simp;(first | with_reducible refine (C5.out _).mono ?_ | with_reducible refine (C6.out _).mono ?_ | with_reducible refine (C7.out _).mono ?_ | with_reducible refine (C8.out _).mono ?_ | with_reducible refine (C9.out _).mono ?_);rintro e w2 ⟨rfl,hb2⟩;exact ⟨hb2,rfl⟩)
    case fin=>
     intro tv w' hg hR
     simp only [YF,YL,YR] at hR
     obtain ⟨hcg,hfg,hsg⟩:=YG hg
     simp only [YP,YL,Act.put,hR]
     have HB1:=Lib.hid (bstep (Tryst2.Grow.below hg (.refl _ _)) HB.out)
     clear hg hR hcg hfg hsg x0 x1 x2 x3 x4 x5 x6 x7 x8 HX HB C5 C6 C7 C8 C9
     go_wp2_with fail
     go_ret
     exact ⟨congrArg (fun z=>Ending.returned (.string z)) HE.out,HB1.out⟩
end Go.Proofs.YtcbicdencgjfiaaGreatDoor
