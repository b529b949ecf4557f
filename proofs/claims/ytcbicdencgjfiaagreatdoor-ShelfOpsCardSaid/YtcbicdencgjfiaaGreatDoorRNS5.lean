/- ref05.nodes, ref05.Same. -/
import Derived.Test.YtcbicdencgjfiaaGreatDoorFwP5
set_option linter.unusedVariables false
set_option linter.unusedSimpArgs false
namespace Tryst
open Go Go.RowKit
abbrev PO (w:World) (x:PB):Prop:=POwn w (fun _=>True) x
theorem PO.grow {w w':World} {x:PB} (h:PO w x) (hb:Below w.heap.size w w'):PO w' x:=POwn.grow h hb (fun _ _=>trivial)
theorem POwn.po {w:World} {S:Nat→Prop} {x:PB} (h:POwn w S x):PO w x:=POwn.grow h (.refl _ _) (fun _ _=>trivial)
theorem PO.parts {w:World} {op s:ByteArray} {num:Bool} {n:Int} {vs:ByteArray} {a:Option Addr} {c:Nat} {l:List PB} (h:PO w (.mk op s num n vs a c l)):(op.size≤1000000∧s.size≤1000000∧vs.size≤1000000∧l.length≤10)∧(-9223372036854775808≤n∧n≤9223372036854775807)∧Row w a 6 (l.map PB.cells)∧∀ x∈l,PO w x:=by
 cases h with
 | mk _ _ _ _ _ _ _ _ h0 h1 h2 h3 h4 h5 h6 h7 h8 h9=>exact ⟨⟨h0,h1,h2,h3⟩,h4,h5,h9⟩
theorem PO.plain {w:World} {x:PB} (h:PO w x) {b o:Nat} (e:x.a=some ⟨b,o,none⟩):b < w.heap.size∧∃ cs T,w.heap[b]?=some (.cells cs T (0,0)):=by
 cases h with
 | mk _ _ _ _ _ _ _ _ h0 h1 h2 h3 h4 h5 h6 h7 h8 h9=>exact ⟨(h7 b o e).2,h8 b o e⟩
theorem nodesBL_take:∀ (l:List PB) (k:Nat) (h:k < l.length),nodesBL (l.take (k+1))=nodesBL (l.take k)+nodesB l[k]
 | x :: r,0,h=>by simp [nodesBL]
 | x :: r,k+1,h=>by
  have:=nodesBL_take r k (by simpa using h)
  rw [List.take_succ_cons,List.take_succ_cons,nodesBL,nodesBL,this]
  simp
  omega
theorem nodesBL_le:∀ (l:List PB) (k:Nat),nodesBL (l.take k)≤nodesBL l
 | [],k=>by simp
 | x :: r,0=>by simp [nodesBL]
 | x :: r,k+1=>by
  have:=nodesBL_le r k
  rw [List.take_succ_cons,nodesBL,nodesBL]
  omega
end Tryst
namespace Go.Proofs.YtcbicdencgjfiaaGreatDoor
open Go.RowKit Tryst
set_option maxHeartbeats 2000000
set_option maxRecDepth 20000
def NRel (w:World) (B:Nat) (op s:ByteArray) (num:Bool) (n:Int) (vs:ByteArray) (u:Value) (l:List PB) (m i:Value) (wr:World):Prop:=
 ∃ k r:Nat,k≤l.length∧i=.int .i64 k∧m=.int .i64 r∧Hid (r=1+nodesBL (l.take k))∧r≤1000000∧Hid (BX wr B op s num n vs u)∧Hid (Below w.heap.size w wr)
theorem rnodes_c (N:Nat):∀ (x:PB),nodesB x≤N→N≤1000000→∀ w,PO w x→Calls Tryz.prog 172 #[x.agg] w fun e w'=>e=.returned (.int .i64 (nodesB x:Int))∧Below w.heap.size w w':=by
 induction N with
 | zero=>
  intro x h
  rw [nodesB_eq] at h
  omega
 | succ N ih=>
  intro x hN hN2 w hx
  obtain ⟨op,s,num,n,vs,a,c,l⟩:=x
  obtain ⟨⟨-,-,-,hl⟩,-,hrow,hel⟩:=PO.parts hx
  have HRW:=Lib.hid hrow
  have HEL:=Lib.hid hel
  have HIH:=Lib.hid ih
  have HN:=Lib.hid hN
  rw [nodesB] at hN
  have HNN:=Lib.hid (show nodesB (PB.mk op s num n vs a c l)=1+nodesBL l by rw [nodesB])
  obtain ⟨R,hR⟩:∃ R,nodesB (PB.mk op s num n vs a c l)=R:=⟨_,rfl⟩
  rw [hR] at HNN HN ⊢
  clear hrow hel ih hR hx
  unfold PB.agg
  simp only [PB.op,PB.s,PB.num,PB.n,PB.vs,PB.a,PB.c,PB.l]
  go_enter Tryz.func172,Tryz.ntmps172
  go_upto_region 1 with fail
  refine wp_genC (fun v=>Hid (BX v w.heap.size op s num n vs (.slice a l.length c))∧Hid (Below w.heap.size w v)) ⟨BX.new w op s num n vs (.slice a l.length c),balloc _ (.refl _ _)⟩ ?_
  rintro Y ⟨HX,HB⟩
  obtain ⟨B,hB⟩:∃ B,w.heap.size=B:=⟨_,rfl⟩
  rw [hB] at HX ⊢
  go_wp2_with fail
  go_loopw [3,4] (fun m i wr=>NRel w B op s num n vs (.slice a l.length c) l m i wr) (fun m i _=>l.length - (intOf i).toNat)
  case atStart=>exact ⟨0,1,by omega,rfl,rfl,by show 1=_;simp [nodesBL],by omega,HX,HB⟩
  case round=>
   obtain ⟨k,r,hk,rfl,rfl,HR,hr,HX1,HB1⟩:=hrel
   obtain ⟨wo,rfl⟩:∃ wo,wo=wr:=⟨_,rfl⟩
   clear HX HB
   obtain ⟨x0,x1,x2,x3,x4,x5,x6⟩:=HX1.out.box
   by_cases hlt:k < l.length
   ·
    have HRo:=Lib.hid (HRW.out.grow HB1.out)
    obtain ⟨b,o,ha,hbz⟩:=HRo.out.head (i:=k) (by simpa using hlt)
    obtain rfl:a=some ⟨b,o,none⟩:=ha
    obtain ⟨_,hcs⟩:=HRo.out.at (i:=k) (by simpa using hlt)
    simp only [List.getElem_map] at hcs
    have e0:wo.cell? ⟨b,o+k*6,none⟩=some (.string l[k].op):=hcs 0 (by omega)
    have e1:wo.cell? ⟨b,o+k*6+1,none⟩=some (.string l[k].s):=hcs 1 (by omega)
    have e2:wo.cell? ⟨b,o+k*6+2,none⟩=some (.bool l[k].num):=hcs 2 (by omega)
    have e3:wo.cell? ⟨b,o+k*6+3,none⟩=some (.int .i64 l[k].n):=hcs 3 (by omega)
    have e4:wo.cell? ⟨b,o+k*6+4,none⟩=some (.string l[k].vs):=hcs 4 (by omega)
    have e5:wo.cell? ⟨b,o+k*6+5,none⟩=some (.slice l[k].a l[k].l.length l[k].c):=hcs 5 (by omega)
    have y1:(k:Int) < l.length:=by omega
    have y2:(0:Int)≤k:=by omega
    have hst:=nodesBL_take l k hlt
    have hle:=nodesBL_le l (k+1)
    have hrr:=HR.out
    have hnn:=HNN.out
    have hcn:nodesB l[k]≤N:=by have:=HN.out;omega
    have HC:=Lib.hid (HIH.out l[k] hcn (by omega) wo ((HEL.out l[k] (List.getElem_mem hlt)).grow HB1.out))
    have hbq:r+nodesB l[k]≤1000000:=by have:=HN.out;omega
    have HS:Hid (r+nodesB l[k]=1+nodesBL (l.take (k+1))):=by show _=_;omega
    obtain ⟨q,hq⟩:∃ q,nodesB l[k]=q:=⟨_,rfl⟩
    rw [hq] at HC HS hcn hst hbq
    unfold PB.agg at HC
    clear hcs hst hle hrr hnn hq
    go_wp2_with fail
    refine HC.out.mono ?_
    rintro e w2 ⟨rfl,hb2⟩
    have HB2:=Lib.hid (bstep hb2 HB1.out)
    have HX2:=Lib.hid (HX1.out.grow hb2)
    clear hb2 x0 x1 x2 x3 x4 x5 x6 e0 e1 e2 e3 e4 e5 HX1 HB1 HC HR HRo
    go_wp2_with fail
    go_roundw
    case rel=>exact ⟨k+1,r+q,by omega,by go_num,by go_num,HS,hbq,HX2,HB2⟩
    case measure=>simp [intOf]<;>omega
   ·
    have hrr:r=R:=by
     have:=HR.out
     rw [List.take_of_length_le (by omega)] at this
     have:=HNN.out
     omega
    subst hrr
    go_wp2_with fail
    go_ret
    exact ⟨rfl,HB1.out⟩
end Go.Proofs.YtcbicdencgjfiaaGreatDoor
namespace Tryst
open Go Go.RowKit
theorem same_no {op s op' s':ByteArray} {num num':Bool} {n n':Int} {vs vs':ByteArray} {a a':Option Addr} {c c':Nat} {l l':List PB} (h:¬ (op=op'∧s=s'∧(num=num'∧n=n'∧vs=vs')∧l.length=l'.length)):sameB (.mk op s num n vs a c l) (.mk op' s' num' n' vs' a' c' l')=false:=by
 rw [sameB_eq]
 have:headB (.mk op s num n vs a c l) (.mk op' s' num' n' vs' a' c' l')=false:=by
  cases e:headB (.mk op s num n vs a c l) (.mk op' s' num' n' vs' a' c' l') with
  | false=>rfl
  | true=>
   refine absurd ?_ h
   unfold headB at e
   simp only [PB.op,PB.s,PB.num,PB.n,PB.vs,PB.l,Bool.and_eq_true] at e
   exact ⟨of_decide_eq_true e.1,of_decide_eq_true e.2.1,⟨of_decide_eq_true e.2.2.1.1,of_decide_eq_true e.2.2.1.2.1,of_decide_eq_true e.2.2.1.2.2⟩,of_decide_eq_true e.2.2.2⟩
 rw [this]
 rfl
theorem same_yes {op s:ByteArray} {num:Bool} {n:Int} {vs:ByteArray} {a a':Option Addr} {c c':Nat} {l l':List PB} (h:l.length=l'.length):sameB (.mk op s num n vs a c l) (.mk op s num n vs a' c' l')=sameL l l':=by
 rw [sameB_eq]
 have:headB (.mk op s num n vs a c l) (.mk op s num n vs a' c' l')=true:=by
  unfold headB
  simp only [PB.op,PB.s,PB.num,PB.n,PB.vs,PB.l,decide_true,Bool.true_and]
  exact decide_eq_true h
 rw [this]
 rfl
end Tryst
namespace Go.Proofs.YtcbicdencgjfiaaGreatDoor
open Go.RowKit Tryst
set_option maxHeartbeats 4000000
set_option maxRecDepth 20000
def SRel (w:World) (B C:Nat) (op s:ByteArray) (num:Bool) (n:Int) (vs:ByteArray) (u v:Value) (l m:List PB) (i:Value) (wr:World):Prop:=
 ∃ k:Nat,k≤l.length∧i=.int .i64 k∧Hid (∀ (j:Nat) (x y:PB),j < k→l[j]?=some x→m[j]?=some y→sameB x y=true)∧Hid (BX wr B op s num n vs u)∧Hid (BX wr C op s num n vs v)∧Hid (Below w.heap.size w wr)
theorem str_ne {a b:ByteArray} (h:¬ a=b):¬ a.toList=b.toList:=fun e=>h (str_ext (by rw [← str_toList,← str_toList];exact e))
theorem rsame5_c (N:Nat):∀ (x y:PB),nodesB x≤N→∀ w,PO w x→PO w y→Calls Tryz.prog 107 #[x.agg,y.agg] w fun e w'=>e=.returned (.bool (sameB x y))∧Below w.heap.size w w':=by
 induction N with
 | zero=>
  intro x y h
  rw [nodesB_eq] at h
  omega
 | succ N ih=>
  intro x y hN w hx hy
  obtain ⟨op,s,num,n,vs,a,c,l⟩:=x
  obtain ⟨op',s',num',n',vs',a',c',l'⟩:=y
  obtain ⟨⟨-,-,-,hl⟩,-,hrow,hel⟩:=PO.parts hx
  obtain ⟨⟨-,-,-,hl'⟩,-,hrow',hel'⟩:=PO.parts hy
  have HRW:=Lib.hid hrow
  have HEL:=Lib.hid hel
  have HRW':=Lib.hid hrow'
  have HEL':=Lib.hid hel'
  have HIH:=Lib.hid ih
  rw [nodesB] at hN
  have HN:=Lib.hid hN
  clear hrow hel hrow' hel' ih hx hy hN
  unfold PB.agg
  simp only [PB.op,PB.s,PB.num,PB.n,PB.vs,PB.a,PB.c,PB.l]
  go_enter Tryz.func107,Tryz.ntmps107
  go_upto_region 1 with fail
  have bx0:=BX.new w op s num n vs (.slice a l.length c)
  have bx1:=BX.new (w.alloc (.cells #[.string op,.string s,.bool num,.int .i64 n,.string vs,.slice a l.length c] 123)) op' s' num' n' vs' (.slice a' l'.length c')
  rw [show (w.alloc (.cells #[.string op,.string s,.bool num,.int .i64 n,.string vs,.slice a l.length c] 123)).heap.size=w.heap.size+1 by simp] at bx1
  refine wp_genC (fun v=>Hid (BX v w.heap.size op s num n vs (.slice a l.length c))∧Hid (BX v (w.heap.size+1) op' s' num' n' vs' (.slice a' l'.length c'))∧Hid (Below w.heap.size w v)) ⟨bx0.grow (balloc _ (.refl _ _)),bx1,balloc _ (balloc _ (.refl _ _))⟩ ?_
  rintro Y ⟨HX,HZ,HB⟩
  clear bx0 bx1
  obtain ⟨B,hB⟩:∃ B,w.heap.size=B:=⟨_,rfl⟩
  have hC:w.heap.size+1≠w.heap.size:=by omega
  rw [hB] at HX HZ ⊢
  obtain ⟨C,hCC⟩:∃ C,B+1=C:=⟨_,rfl⟩
  rw [hCC] at HZ ⊢
  clear hC
  obtain ⟨x0,x1,x2,x3,x4,x5,x6⟩:=HX.out.box
  obtain ⟨y0,y1,y2,y3,y4,y5,y6⟩:=HZ.out.box
  have KN:=Lib.hid (fun (h:¬ (op=op'∧s=s'∧(num=num'∧n=n'∧vs=vs')∧l.length=l'.length))=>same_no (a:=a) (a':=a') (c:=c) (c':=c') h)
  by_cases h1:op=op'
  rotate_left
  ·
   have q1:=str_ne h1
   have HNO:=Lib.hid (KN.out (fun h=>h1 h.1))
   clear h1 KN
   go_wp2_with fail
   go_ret
   exact ⟨ret_bool HNO.out.symm,HB.out⟩
  subst h1
  by_cases h1:s=s'
  rotate_left
  ·
   have q1:=str_ne h1
   have HNO:=Lib.hid (KN.out (fun h=>h1 h.2.1))
   clear h1 KN
   go_wp2_with fail
   go_ret
   exact ⟨ret_bool HNO.out.symm,HB.out⟩
  subst h1
  by_cases h1:num=num'∧n=n'∧vs=vs'
  rotate_left
  ·
   have HNO:=Lib.hid (KN.out (fun h=>h1 h.2.2.1))
   have HQ:=Lib.hid h1
   clear h1 KN
   go_wp2_with fail
   all_goals first
    | (exfalso;exact HQ.out ⟨by assumption,by assumption,str_ext (by rw [← str_toList,← str_toList];assumption)⟩)
    | (go_ret;exact ⟨ret_bool HNO.out.symm,HB.out⟩)
  obtain ⟨rfl,rfl,rfl⟩:=h1
  by_cases h1:l.length=l'.length
  rotate_left
  ·
   have q1:¬ ((l.length:Int)=l'.length):=by omega
   have HNO:=Lib.hid (KN.out (fun h=>h1 h.2.2.2))
   clear h1 KN
   go_wp2_with fail
   go_ret
   exact ⟨ret_bool HNO.out.symm,HB.out⟩
  have HY:=Lib.hid (same_yes (op:=op) (s:=s) (num:=num) (n:=n) (vs:=vs) (a:=a) (a':=a') (c:=c) (c':=c') h1)
  have HL:=Lib.hid h1
  rw [← h1] at HZ y5
  clear KN h1
  go_wp2_with fail
  go_loopw [5] (fun i wr=>SRel w B C op s num n vs (.slice a l.length c) (.slice a' l.length c') l l' i wr) (fun i _=>l.length - (intOf i).toNat)
  case atStart=>exact ⟨0,by omega,rfl,(fun j x y h=>by omega),HX,HZ,HB⟩
  case round=>
   obtain ⟨k,hk,rfl,HS,HX1,HZ1,HB1⟩:=hrel
   obtain ⟨wo,rfl⟩:∃ wo,wo=wr:=⟨_,rfl⟩
   clear HX HZ HB x0 x1 x2 x3 x4 x5 x6 y0 y1 y2 y3 y4 y5 y6
   obtain ⟨x0,x1,x2,x3,x4,x5,x6⟩:=HX1.out.box
   obtain ⟨y0,y1,y2,y3,y4,y5,y6⟩:=HZ1.out.box
   by_cases hlt:k < l.length
   ·
    have hlt':k < l'.length:=by rw [← HL.out];exact hlt
    have HRo:=Lib.hid (HRW.out.grow HB1.out)
    have HRp:=Lib.hid (HRW'.out.grow HB1.out)
    obtain ⟨b,o,ha,hbz⟩:=HRo.out.head (i:=k) (by simpa using hlt)
    obtain rfl:a=some ⟨b,o,none⟩:=ha
    obtain ⟨b',o',ha',hbz'⟩:=HRp.out.head (i:=k) (by simpa using hlt')
    obtain rfl:a'=some ⟨b',o',none⟩:=ha'
    obtain ⟨_,hcs⟩:=HRo.out.at (i:=k) (by simpa using hlt)
    obtain ⟨_,hcs'⟩:=HRp.out.at (i:=k) (by simpa using hlt')
    simp only [List.getElem_map] at hcs hcs'
    have e0:wo.cell? ⟨b,o+k*6,none⟩=some (.string l[k].op):=hcs 0 (by omega)
    have e1:wo.cell? ⟨b,o+k*6+1,none⟩=some (.string l[k].s):=hcs 1 (by omega)
    have e2:wo.cell? ⟨b,o+k*6+2,none⟩=some (.bool l[k].num):=hcs 2 (by omega)
    have e3:wo.cell? ⟨b,o+k*6+3,none⟩=some (.int .i64 l[k].n):=hcs 3 (by omega)
    have e4:wo.cell? ⟨b,o+k*6+4,none⟩=some (.string l[k].vs):=hcs 4 (by omega)
    have e5:wo.cell? ⟨b,o+k*6+5,none⟩=some (.slice l[k].a l[k].l.length l[k].c):=hcs 5 (by omega)
    have f0:wo.cell? ⟨b',o'+k*6,none⟩=some (.string l'[k].op):=hcs' 0 (by omega)
    have f1:wo.cell? ⟨b',o'+k*6+1,none⟩=some (.string l'[k].s):=hcs' 1 (by omega)
    have f2:wo.cell? ⟨b',o'+k*6+2,none⟩=some (.bool l'[k].num):=hcs' 2 (by omega)
    have f3:wo.cell? ⟨b',o'+k*6+3,none⟩=some (.int .i64 l'[k].n):=hcs' 3 (by omega)
    have f4:wo.cell? ⟨b',o'+k*6+4,none⟩=some (.string l'[k].vs):=hcs' 4 (by omega)
    have f5:wo.cell? ⟨b',o'+k*6+5,none⟩=some (.slice l'[k].a l'[k].l.length l'[k].c):=hcs' 5 (by omega)
    have q1:(k:Int) < l.length:=by omega
    have q2:(0:Int)≤k:=by omega
    have hg1:l[k]?=some l[k]:=List.getElem?_eq_getElem hlt
    have hg2:l'[k]?=some l'[k]:=List.getElem?_eq_getElem hlt'
    have hnk:=nodesBL_at hg1
    have HC:=Lib.hid (fun W (hb:Below wo.heap.size wo W)=>HIH.out l[k] l'[k] (by have:=HN.out;omega) W ((HEL.out l[k] (List.getElem_mem hlt)).grow (bstep hb HB1.out)) ((HEL'.out l'[k] (List.getElem_mem hlt')).grow (bstep hb HB1.out)))
    have HG1:=Lib.hid hg1
    have HG2:=Lib.hid hg2
    obtain ⟨r,hr⟩:∃ r,sameB l[k] l'[k]=r:=⟨_,rfl⟩
    rw [hr] at HC
    have HRR:=Lib.hid hr
    clear hcs hcs' hg1 hg2 hnk hr
    unfold PB.agg at HC
    go_upto_region 6 with fail
    refine Tryst2.wp_region_grows [.is (.pointer (some ⟨B,5,none⟩)),.is (.slice (some ⟨b,o,none⟩) l.length c),.is (.int .i64 (k:Int)),.is (.pointer (some ⟨b,o+k*6,none⟩)),.is (.agg #[.string l[k].op,.string l[k].s,.bool l[k].num,.int .i64 l[k].n,.string l[k].vs,.slice l[k].a l[k].l.length l[k].c]),.is (.pointer (some ⟨C,5,none⟩)),.is (.slice (some ⟨b',o',none⟩) l.length c'),.is (.int .i64 (k:Int)),.is (.pointer (some ⟨b',o'+k*6,none⟩)),.is (.agg #[.string l'[k].op,.string l'[k].s,.bool l'[k].num,.int .i64 l'[k].n,.string l'[k].vs,.slice l'[k].a l'[k].l.length l'[k].c]),.is (.bool r),.is (.bool !r)] (by kernel_rfl) (by kernel_rfl) ?obl ?fin
    case obl=>
     simp only [YA,YL,YO,YR,Op.operands,Call.operands]
     repeat' apply And.intro
     any_goals trivial
     all_goals (intro tv w' hg hold hd;(try simp at hold);obtain ⟨hcg,hfg,hsg⟩:=YG hg)
     all_goals first | (go_simp;done) | (go_simp;rw [if_neg (by omega)];exact ⟨.refl _,rfl⟩) | (obtain ⟨⟨g,hvg,hgg,hcell⟩,_⟩:=hd;have hcell0:=hcell 0 (by decide);simp at hcell0;go_simp;done) | (go_simp;go_at_call 107;(with_reducible refine (HC.out _ ?_).mono ?_);(exact Tryst2.Grow.below hg (.refl _ _));rintro e w2 ⟨rfl,hb2⟩;exact ⟨hb2,rfl⟩)
    case fin=>
     intro tv w' hg hR
     simp only [YF,YL,YR] at hR
     obtain ⟨hcg,hfg,hsg⟩:=YG hg
     simp only [YP,YL,Act.put,hR]
     have HBG:=Lib.hid (Tryst2.Grow.below hg (.refl wo.heap.size wo))
     have HX2:=Lib.hid (HX1.out.grow HBG.out)
     have HZ2:=Lib.hid (HZ1.out.grow HBG.out)
     have HB2:=Lib.hid (bstep HBG.out HB1.out)
     clear hg hR hcg hfg hsg x0 x1 x2 x3 x4 x5 x6 y0 y1 y2 y3 y4 y5 y6 e0 e1 e2 e3 e4 e5 f0 f1 f2 f3 f4 f5 HX1 HZ1 HB1 HC HBG HRo HRp
     obtain ⟨x0,x1,x2,x3,x4,x5,x6⟩:=HX2.out.box
     obtain ⟨y0,y1,y2,y3,y4,y5,y6⟩:=HZ2.out.box
     cases r with
     | false=>
      have HNO:Hid (sameL l l'=false):=by
       show _=_
       cases e:sameL l l' with
       | false=>rfl
       | true=>
        have:=(sameL_iff l l' HL.out).1 e k _ _ HG1.out HG2.out
        rw [HRR.out] at this
        cases this
      go_wp2_with fail
      go_ret
      exact ⟨ret_bool (by rw [HY.out,HNO.out]),HB2.out⟩
     | true=>
      have HS2:Hid (∀ (j:Nat) (x y:PB),j < k+1→l[j]?=some x→l'[j]?=some y→sameB x y=true):=by
       show ∀ _,_
       intro j x y hj hx hy
       by_cases e:j=k
       ·
        subst e
        rw [HG1.out] at hx
        rw [HG2.out] at hy
        cases hx;cases hy
        exact HRR.out
       ·
        exact HS.out j x y (by omega) hx hy
      clear HS
      go_wp2_with fail
      go_roundw
      case rel=>exact ⟨k+1,by omega,by go_num,HS2,HX2,HZ2,HB2⟩
      case measure=>simp [intOf]<;>omega
   ·
    have HYES:Hid (sameL l l'=true):=by
     show _=_
     rw [sameL_iff l l' HL.out]
     intro i x y hx hy
     exact HS.out i x y (by have:=(List.getElem?_eq_some_iff.1 hx).1;omega) hx hy
    go_wp2_with fail
    go_ret
    exact ⟨ret_bool (by rw [HY.out,HYES.out]),HB1.out⟩
end Go.Proofs.YtcbicdencgjfiaaGreatDoor
