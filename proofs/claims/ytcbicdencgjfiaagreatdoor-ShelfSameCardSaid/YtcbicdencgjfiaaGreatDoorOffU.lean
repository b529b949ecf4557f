import Derived.Test.YtcbicdencgjfiaaGreatDoorRowK
import Derived.Test.YtcbicdencgjfiaaGreatDoorTopFN
set_option linter.all false
set_option maxHeartbeats 2000000
set_option maxRecDepth 20000
namespace Tryst
open Go Go.RowKit
def OB.cells (t:OB):List Value:=[.string t.topic,.int .i64 t.next]
theorem OB.cells_len (l:List OB):∀ x∈l.map OB.cells,x.length=2:=by
 intro x hx;obtain ⟨t,_,rfl⟩:=List.mem_map.1 hx;rfl
theorem OB.cells_one (l:List OB):∀ x∈l.map OB.cells,∀ u∈x,u.oneCell'=true:=by
 intro x hx u hu;obtain ⟨t,_,rfl⟩:=List.mem_map.1 hx;simp [OB.cells] at hu
 rcases hu with rfl | rfl<;>rfl
structure OAt (w:World) (b o:Nat) (t:OB):Prop where
 c0:w.cell? ⟨b,o,none⟩=some (.string t.topic)
 c1:w.cell? ⟨b,o+1,none⟩=some (.int .i64 t.next)
abbrev Offs (w:World) (a:Option Addr) (l:List OB):Prop:=Row w a 2 (l.map OB.cells)
theorem Offs.at {w:World} {b o:Nat} {l:List OB} (h:Offs w (some ⟨b,o,none⟩) l) {i:Nat} (hi:i < l.length):b < w.heap.size/\OAt w b (o+i*2) l[i]:=by
 obtain ⟨h1,h2⟩:=Row.at h (i:=i) (by simpa using hi);simp only [List.getElem_map] at h2;exact ⟨h1,h2 0 (by omega),h2 1 (by omega)⟩
structure OfR (w:World) (a:Option Addr) (l:List OB):Prop where
 r:Offs w a l
theorem OfR.head {w:World} {a:Option Addr} {l:List OB} (h:OfR w a l) {i:Nat} (hi:i < l.length):∃ b o,a=some ⟨b,o,none⟩/\b < w.heap.size:=Row.head h.r (by simpa using hi)
end Tryst
namespace Go.Proofs.YtcbicdencgjfiaaGreatDoor
open Go.RowKit Tryst
def OOwn (w:World) (base:Nat) (v:Value) (l:List OB):Prop:=ROwn 126 2 w base v (l.map OB.cells)
theorem OOwn.grow {w w':World} {base:Nat} {v:Value} {l:List OB} (h:OOwn w base v l) (hb:Below w.heap.size w w'):OOwn w' base v l:=ROwn.grow h hb
theorem OOwn.block {w:World} {base:Nat} {v:Value} {l:List OB} (h:OOwn w base v l) (h0:0 < l.length) :
  ∃ g c,v=.slice (some ⟨g,0,none⟩) l.length c/\base<=g/\g < w.heap.size/\(∀ j,w.frozen? ⟨g,j,none⟩=false):=by
 obtain ⟨g,c,hv,h1,h2,h3,h4,h5⟩:=ROwn.block h (OB.cells_len l) (by simpa using h0);rw [List.length_map] at hv;exact ⟨g,c,hv,h1,h2,h3⟩
theorem offT:SliceOf Tryz.prog 65 126 2 24:=.mk' Tryz.underlying65 (z:=.agg #[.string ⟨#[]⟩,.int .i64 0]) (by kernel_rfl) rfl (by decide) (by decide)
def idxG {α:Type} (p:α->Bool) (l:List α):Int:=match l.findIdx? p with | some i=>(i:Int) | none=>-1
theorem jJO {α:Type} {p:α->Bool} {l:List α} {k:Nat} (hlt:k < l.length) (h:∀ (j:Nat) (h:j < l.length),j < k->p l[j]=false) (hp:p l[k]=true):idxG p l=k:=by
 unfold idxG;rw [List.findIdx?_eq_some_iff_getElem.2 ⟨hlt,hp,fun j hj=>by rw [h j (by omega) hj];simp⟩]
theorem xQ6 {α:Type} {p:α->Bool} {l:List α} {k:Nat} (hlt:k < l.length) (h:∀ (j:Nat) (h:j < l.length),j < k->p l[j]=false) (hp:p l[k]=false):∀ (j:Nat) (h:j < l.length),j < k+1->p l[j]=false:=by
 intro j hj hk
 by_cases e:j=k
 · subst e;exact hp
 · exact h j hj (by omega)
theorem kJ7 {α:Type} {p:α->Bool} {l:List α} {k:Nat} (hk:l.length<=k) (h:∀ (j:Nat) (h:j < l.length),j < k->p l[j]=false):idxG p l=-1:=by
 unfold idxG
 rw [List.findIdx?_eq_none_iff.2 fun x hx=>by
  obtain ⟨j,hj,rfl⟩:=List.getElem_of_mem hx;exact h j hj (by omega)]
def qJu {α:Type} (p:α->Bool) (l:List α) (w:World) (i:Value) (wr:World):Prop:=∃ k:Nat,k<=l.length/\i=.int .i64 k/\Hid (∀ (j:Nat) (h:j < l.length),j < k->p l[j]=false)/\Hid (Below w.heap.size w wr)/\w.heap.size<=wr.heap.size
def AllR {α:Type} (R:Bool) (p:α->Bool) (l:List α) (w:World) (i:Value) (wr:World):Prop:=∃ k:Nat,k<=l.length/\i=.int .i64 k/\Hid (R=(l.drop k).all p)/\Hid (Below w.heap.size w wr)/\w.heap.size<=wr.heap.size
theorem zQJ {α:Type} {R:Bool} {p:α->Bool} {l:List α} {k:Nat} (hk:k < l.length) (h:R=(l.drop k).all p):R=(p l[k]&&(l.drop (k+1)).all p):=by
 rw [h,List.drop_eq_getElem_cons hk];rfl
theorem vQC {α:Type} {R:Bool} {p:α->Bool} {l:List α} {k:Nat} (hk:l.length<=k) (h:R=(l.drop k).all p):R=true:=by
 rw [h,List.drop_eq_nil_of_le hk];rfl
theorem jYe (t:OB) (hs:t.topic.size<=1000000000) (w:World) (hM:MaxW w):Calls Tryz.prog 225 #[.agg #[.string t.topic,.int .i64 t.next]] w fun e w'=>e=.returned (.bool (oMay t))/\Below w.heap.size w w':=by
 have HT:=Zh (fun W (hb:Below w.heap.size w W)=>qQD t.topic hs W (hM.grow hb));obtain ⟨tp,nx⟩:=t;obtain ⟨R,hR⟩:∃ R,oMay ⟨tp,nx⟩=R:=⟨_,rfl⟩;rw [hR];unfold oMay at hR;simp only at hR HT;have HR:=Zh hR;have HB:=Zh (Qj (.cells #[.string tp,.int .i64 nx] 126) (.refl w.heap.size w));obtain ⟨tb,htb⟩:∃ tb,Yx tp.data.toList=tb:=⟨_,rfl⟩;rw [htb] at HT HR;clear hR htb hM;have hc1:(w.alloc (.cells #[.string tp,.int .i64 nx] 126)).cell? ⟨w.heap.size,1,none⟩=some (.int .i64 nx):=by simp [go_sem]
 have HC1:=Zh hc1;clear hc1;go_enter Tryz.func225,Tryz.ntmps225;go_wp2_with fail;refine (HT.out _ HB.out).mono ?_;rintro e w1 ⟨rfl,hb1⟩;have c1:=(hb1.cell (p:=⟨w.heap.size,1,none⟩) (by simp)).trans HC1.out;have HB1:=Zh (Qk hb1 HB.out);clear hb1;cases tb with
 | false=>
  have HN:=Zh (show R=false by rw [<- HR.out];rfl);go_wp2_with fail;go_ret;exact ⟨Qq HN.out.symm,HB1.out⟩
 | true=>
  by_cases hn:0<=nx
  · have HN:=Zh (show R=true by rw [<- HR.out];simp [hn]);go_wp2_with fail;go_ret;exact ⟨Qq HN.out.symm,HB1.out⟩
  · have HN:=Zh (show R=decide (0<=nx) by rw [<- HR.out,Bool.true_and]);go_wp2_with fail;go_ret;exact ⟨Qq HN.out.symm,HB1.out⟩
theorem kJl (t:OB) (hs:t.topic.size<=1000000000) (w:World) (hM:MaxW w):Calls Tryz.prog 224 #[.agg #[.string t.topic,.int .i64 t.next]] w fun e w'=>e=.returned (.bool (oMay t))/\Below w.heap.size w w':=by
 have HT:=Zh (fun W (hb:Below w.heap.size w W)=>jYe t hs W (hM.grow hb));have HB:=Zh (Qj (.cells #[.string t.topic,.int .i64 t.next] 126) (.refl w.heap.size w));generalize oMay t=R at HT ⊢;clear hM;go_enter Tryz.func224,Tryz.ntmps224;go_wp2_with fail;refine (HT.out _ HB.out).mono ?_;rintro e w1 ⟨rfl,hb1⟩;go_wp2_with fail;go_ret;exact ⟨rfl,Qk hb1 HB.out⟩
theorem qY0 (a:Option Addr) (c:Nat) (l:List OB) (hl:l.length<=1500000) (hs:∀ x∈l,x.topic.size<=1000000000) (w:World) (hM:MaxW w) (hO:Offs w a l) :
  Calls Tryz.prog 223 #[.slice a l.length c,.func (.func 224) #[] #[]] w fun e w'=>e=.returned (.bool (l.all oMay))/\Below w.heap.size w w':=by
 obtain ⟨R,hR⟩:∃ R,(l.all oMay)=R:=⟨_,rfl⟩;rw [hR];have HR:Hid (R=(l.drop 0).all oMay):=Zh (by rw [<- hR];rfl);have HF:=Zh (fun W (hb:Below w.heap.size w W)=>OfR.mk (Row.grow hO hb));have HC:=Zh (fun (k:Nat) (hk:k < l.length) W (hb:Below w.heap.size w W)=>kJl l[k] (hs _ (List.getElem_mem hk)) W (hM.grow hb));clear hO hM hR hs;go_enter Tryz.func223,Tryz.ntmps223;go_wp2_with fail;go_loopw [9] (fun i wr=>AllR R (oMay) l w i wr) (fun i _=>l.length - (intOf i).toNat)
 case atStart=>exact ⟨0,by omega,rfl,HR.out,.refl _ _,by omega⟩
 case round=>
  obtain ⟨k,hk,rfl,HP,HW,hz⟩:=hrel;obtain ⟨wo,rfl⟩:∃ wo,wo=wr:=⟨_,rfl⟩
  by_cases hlt:k < l.length
  ·
   have hst:R=((oMay l[k])&&(l.drop (k+1)).all (oMay)):=zQJ hlt HP.out;obtain ⟨b,o,ha,hb⟩:=(HF.out wo HW.out).head hlt;subst ha;have HCC:=Zh (HC.out k hlt);obtain ⟨pp,hpp⟩:∃ pp,(oMay l[k])=pp:=⟨_,rfl⟩;rw [hpp] at hst;have HPP:=Zh hpp;have HST:=Zh hst;clear hpp hst HP;obtain ⟨_,f0,f1⟩:=(HF.out wo HW.out).r.at hlt;have HBX:=Zh (Qj (.cells #[.string l[k].topic,.int .i64 l[k].next] 126) HW.out);go_wp2_with fail;refine (HCC.out _ HBX.out).mono ?_;rintro e w2 ⟨rfl,hb2⟩;have HB2:=Zh (Qk hb2 HBX.out);clear hb2 HCC HBX;rw [show (oMay l[k])=pp from HPP.out];cases pp with
   | true=>
    have HN:Hid (R=(l.drop (k+1)).all (oMay)):=Zh (by have:=HST.out;rwa [Bool.true_and] at this);go_wp2_with fail;go_roundw
    case rel=>exact ⟨k+1,by omega,by go_num,HN,HB2.out,HB2.out.size⟩
    case measure=>simp [intOf]<;>omega
   | false=>
    have HN:Hid (R=false):=Zh (by have:=HST.out;rwa [Bool.false_and] at this);go_wp2_with fail;go_ret;exact ⟨Qq HN.out.symm,HB2.out⟩
  · have HN:=Zh (vQC (by omega:l.length<=k) HP.out);go_wp2_with fail;go_ret;exact ⟨Qq HN.out.symm,HW.out⟩
end Go.Proofs.YtcbicdencgjfiaaGreatDoor
namespace Tryst
open Go Go.Lib
def risO:List OB->Bool
 | a :: b :: r=>Kf a.topic b.topic&&risO (b :: r)
 | _=>true
theorem xQZ:∀ (r:List OB) (t:OB),okO (some t.topic) r=(r.all oMay&&risO (t :: r))
 | [],t=>rfl
 | x :: s,t=>by
  have e1:okO (some t.topic) (x :: s)=(oMay x&&(Kf t.topic x.topic&&okO (some x.topic) s)):=rfl;have e2:risO (t :: x :: s)=(Kf t.topic x.topic&&risO (x :: s)):=rfl;rw [e1,e2,xQZ s x,List.all_cons];cases oMay x<;>cases Kf t.topic x.topic<;>cases s.all oMay<;>simp
theorem zJ9 (l:List OB):okO none l=(l.all oMay&&risO l):=by
 cases l with
 | nil=>rfl
 | cons t r=>
  have e1:okO none (t :: r)=(oMay t&&okO (some t.topic) r):=rfl;rw [e1,xQZ,List.all_cons,Bool.and_assoc]
theorem kJS {l:List OB} {k:Nat} (h:k+1 < l.length):risO (l.drop k)=(Kf (l[k]'(by omega)).topic l[k+1].topic&&risO (l.drop (k+1))):=by
 rw [List.drop_eq_getElem_cons (by omega:k < l.length),List.drop_eq_getElem_cons h];rfl
theorem zJq {l:List OB} {k:Nat} (h:l.length<=k+1):risO (l.drop k)=true:=by
 by_cases h2:k < l.length
 · rw [List.drop_eq_getElem_cons h2,List.drop_eq_nil_of_le (by omega)];rfl
 · rw [List.drop_eq_nil_of_le (by omega)];rfl
end Tryst
namespace Go.Proofs.YtcbicdencgjfiaaGreatDoor
open Go.RowKit Tryst
def errO (b:Bool):Int:=if b=true then 0 else 1
def xJQ (w:World) (l:List OB) (R:Bool) (i:Value) (wr:World):Prop:=∃ m:Nat,i=.int .i64 ((m:Int)+1)/\m<=l.length/\Hid (R=risO (l.drop m))/\Hid (Below w.heap.size w wr)
theorem zJw (a:Option Addr) (c:Nat) (l:List OB) (hl:l.length<=1500000) (hs:∀ x∈l,x.topic.size<=1000000000) (w:World) (hM:MaxW w) (hO:Offs w a l) :
  Calls Tryz.prog 210 #[.slice a l.length c] w fun e w'=>e=.returned (.int .i64 (errO (vQ9 l)))/\Below w.heap.size w w':=by
 have CA:=Zh (qY0 a c l hl hs w hM hO);have HF:=Zh (fun W (hb:Below w.heap.size w W)=>OfR.mk (Row.grow hO hb));obtain ⟨R,hR⟩:∃ R,vQ9 l=R:=⟨_,rfl⟩;rw [hR];unfold vQ9 at hR;rw [zJ9] at hR;obtain ⟨ab,hab⟩:∃ b,l.all oMay=b:=⟨_,rfl⟩;rw [hab] at hR CA;have HR:=Zh hR;clear hM hO hs hR hab
 by_cases h20:(20:Int) < l.length
 · have HN:=Zh (show R=false by rw [<- HR.out,decide_eq_false (by omega)];rfl);go_enter Tryz.func210,Tryz.ntmps210;go_wp2_with fail;go_ret;exact ⟨Qy (by rw [HN.out];rfl),.refl _ _⟩
 ·
  go_enter Tryz.func210,Tryz.ntmps210;go_wp2_with fail;refine CA.out.mono ?_;rintro e w1 ⟨rfl,hb1⟩;have HB1:=Zh hb1;clear hb1 CA;cases ab with
  | false=>
   have HN:=Zh (show R=false by rw [<- HR.out,Bool.false_and,Bool.and_false]);go_wp2_with fail;go_ret;exact ⟨Qy (by rw [HN.out];rfl),HB1.out⟩
  | true=>
   have HR2:Hid (R=risO (l.drop 0)):=Zh (by rw [<- HR.out,decide_eq_true (by omega)];rfl);clear HR;go_wp2_with fail;go_loopw [3] (fun i wr=>xJQ w l R i wr) (fun i _=>l.length+1 - (intOf i).toNat)
   case atStart=>exact ⟨0,by go_num,by omega,HR2,HB1⟩
   case round=>
    obtain ⟨m,rfl,hm,HP,HW⟩:=hrel;obtain ⟨wo,rfl⟩:∃ wo,wo=wr:=⟨_,rfl⟩;clear HR2 HB1
    by_cases hlt:m+1 < l.length
    ·
     have y1:(m:Int)+1 < (l.length:Int):=by omega
     have y2:((m:Int)+1).toNat=m+1:=by omega
     have y3:(0:Int)<=(m:Int)+1:=by omega
     have hlm:m < l.length:=by omega
     have y4:(m:Int) < (l.length:Int):=by omega
     have y5:(0:Int)<=(m:Int):=by omega
     have hst:=kJS hlt;rw [<- HP.out] at hst;obtain ⟨b,o,ha,hb⟩:=(HF.out wo HW.out).head hlt;subst ha;obtain ⟨_,f0,f1⟩:=(HF.out wo HW.out).r.at hlt;obtain ⟨_,g0,g1⟩:=(HF.out wo HW.out).r.at (show m < l.length by omega);have HGE:=geB l[m].topic l[m+1].topic;have HST:=Zh hst;clear hst HP f1 g1;generalize Kf l[m].topic l[m+1].topic=lb at HST HGE;go_upto_region 6 with fail
     cases lb with
     | false=>
      have HN:Hid (R=false):=Zh (HST.out.trans (Bool.false_and _));have hge:(!Op.bytesLess l[m].topic.toList l[m+1].topic.toList)=true:=HGE;clear HGE HST;refine Tryst2.wp_region_grows [.is (.slice (some ⟨b,o,none⟩) l.length c),.is (.int .i64 ((m:Int)+1)),.is (.int .i64 (m:Int)),.is (.pointer (some ⟨b,o+m*2,none⟩)),.is (.pointer (some ⟨b,o+m*2,none⟩)),.is (.string l[m].topic),.is (.slice (some ⟨b,o,none⟩) l.length c),.is (.int .i64 ((m:Int)+1)),.is (.pointer (some ⟨b,o+(m+1)*2,none⟩)),.is (.pointer (some ⟨b,o+(m+1)*2,none⟩)),.is (.string l[m+1].topic),.is (.bool true)] (by kernel_rfl) (by kernel_rfl) ?obl ?fin
      case obl=>
       simp only [YA,YL,YO,YR,Op.operands,Call.operands]
       repeat' apply And.intro
       any_goals trivial
       all_goals (intro tv w' hg hold hd;(try simp at hold);obtain ⟨hcg,hfg,hsg⟩:=YG hg)
       all_goals first | (go_simp;done) | (go_simp;rw [if_neg (by omega)];exact ⟨.refl _,rfl⟩) | (obtain ⟨⟨g,hvg,hgg,hcell⟩,_⟩:=hd;have hcell0:=hcell 0 (by decide);simp at hcell0;go_simp;done) | (go_simp;exact IntWalk.i64_in _ (by omega))
      case fin=>
       intro tv w' hg hR;simp only [YF,YL,YR] at hR;obtain ⟨hcg,hfg,hsg⟩:=YG hg;simp only [YP,YL,Act.put,hR];have HB9:=Zh (Qk (Tryst2.Grow.below hg (.refl _ _)) HW.out);clear hg hR hcg hfg hsg;go_wp2_with fail;go_ret;exact ⟨Qy (by rw [HN.out];rfl),HB9.out⟩
     | true=>
      have HN:Hid (R=risO (l.drop (m+1))):=Zh (HST.out.trans (Bool.true_and _));have hge:(!Op.bytesLess l[m].topic.toList l[m+1].topic.toList)=false:=HGE;clear HGE HST;refine Tryst2.wp_region_grows [.is (.slice (some ⟨b,o,none⟩) l.length c),.is (.int .i64 ((m:Int)+1)),.is (.int .i64 (m:Int)),.is (.pointer (some ⟨b,o+m*2,none⟩)),.is (.pointer (some ⟨b,o+m*2,none⟩)),.is (.string l[m].topic),.is (.slice (some ⟨b,o,none⟩) l.length c),.is (.int .i64 ((m:Int)+1)),.is (.pointer (some ⟨b,o+(m+1)*2,none⟩)),.is (.pointer (some ⟨b,o+(m+1)*2,none⟩)),.is (.string l[m+1].topic),.is (.bool false)] (by kernel_rfl) (by kernel_rfl) ?obl ?fin
      case obl=>
       simp only [YA,YL,YO,YR,Op.operands,Call.operands]
       repeat' apply And.intro
       any_goals trivial
       all_goals (intro tv w' hg hold hd;(try simp at hold);obtain ⟨hcg,hfg,hsg⟩:=YG hg)
       all_goals first | (go_simp;done) | (go_simp;rw [if_neg (by omega)];exact ⟨.refl _,rfl⟩) | (obtain ⟨⟨g,hvg,hgg,hcell⟩,_⟩:=hd;have hcell0:=hcell 0 (by decide);simp at hcell0;go_simp;done) | (go_simp;exact IntWalk.i64_in _ (by omega))
      case fin=>
       intro tv w' hg hR;simp only [YF,YL,YR] at hR;obtain ⟨hcg,hfg,hsg⟩:=YG hg;simp only [YP,YL,Act.put,hR];have HB9:=Zh (Qk (Tryst2.Grow.below hg (.refl _ _)) HW.out);clear hg hR hcg hfg hsg;go_wp2_with fail;go_roundw
       case rel=>exact ⟨m+1,by go_num,by omega,HN,HB9⟩
       case measure=>simp [intOf]<;>omega
    ·
     have y1:¬ (m:Int)+1 < (l.length:Int):=by omega
     have HN:Hid (R=true):=Zh (HP.out.trans (zJq (by omega)));go_wp2_with fail;go_ret;exact ⟨Qy (by rw [HN.out];rfl),HW.out⟩
def OX (w:World) (g:Nat) (tp:ByteArray) (nx:Int):Prop:=w.heap[g]?=some (.cells #[.string tp,.int .i64 nx] 126 (0,0))
theorem OX.grow {w w':World} {g:Nat} {tp:ByteArray} {nx:Int} (h:OX w g tp nx) (hb:Below w.heap.size w w'):OX w' g tp nx:=(hb.block g (Array.getElem?_eq_some_iff.1 h).1).trans h
theorem OX.new (w:World) (tp:ByteArray) (nx:Int):OX (w.alloc (.cells #[.string tp,.int .i64 nx] 126)) w.heap.size tp nx:=by
 show (w.heap.push _)[w.heap.size]?=_;simp
theorem OX.box {w:World} {g:Nat} {tp:ByteArray} {nx:Int} (h:OX w g tp nx):g < w.heap.size/\w.cell? ⟨g,0,none⟩=some (.string tp)/\w.cell? ⟨g,1,none⟩=some (.int .i64 nx):=by
 have hz:=(Array.getElem?_eq_some_iff.1 h).1;unfold OX at h;refine ⟨hz,?_,?_⟩<;>simp [World.cell?,h]
theorem OOwn.cap {w:World} {base:Nat} {a:Option Addr} {n c:Nat} {l:List OB} (h:OOwn w base (.slice a n c) l):c<=9223372036854775807:=by
 rcases h.2 with ⟨hv,_⟩ | ⟨g,cap,cur,hv,_,_,_,h2,_⟩
 · cases hv;omega
 · cases hv;exact h2
def OneO (tp:ByteArray) (nx:Int) (v:Value) (w:World):Prop:=∃ g,v=.slice (some ⟨g,0,none⟩) 1 1/\OX w g tp nx
theorem OneO.at {tp:ByteArray} {nx:Int} {v:Value} {w':World} (h:∃ w0,Tryst2.Grow w0 w'/\OneO tp nx v w0):OneO tp nx v w':=by
 obtain ⟨w0,hg,g,h1,h2⟩:=h;exact ⟨g,h1,h2.grow hg⟩
theorem OneO.of (w:World) (tp:ByteArray) (nx:Int):Tryst2.Grow w (w.alloc (.cells #[.string tp,.int .i64 nx] 126))/\∃ w0,Tryst2.Grow w0 (w.alloc (.cells #[.string tp,.int .i64 nx] 126))/\OneO tp nx (.slice (some ⟨w.heap.size,0,none⟩) 1 1) w0:=
 ⟨Qj _ (.refl _ _),_,Tryst2.Grow.refl _,w.heap.size,rfl,OX.new _ _ _⟩
theorem OOwn.put {w:World} {base:Nat} {v:Value} {l:List OB} (h:OOwn w base v l) {g:Nat} {n c:Nat} (hv:v=.slice (some ⟨g,0,none⟩) n c) {i:Nat} (hi:i < l.length) (tp:ByteArray) (nx:Int) :
  OOwn ((w.setCell ⟨g,i*2,none⟩ (.string tp)).setCell ⟨g,i*2+1,none⟩ (.int .i64 nx)) base v (l.set i ⟨tp,nx⟩):=by
 have hlen:=OB.cells_len l;obtain ⟨g1,c1,hv1,_,_,_,_,h5⟩:=ROwn.block h hlen (by simpa using (by omega:0 < l.length));rw [hv] at hv1;simp only [Value.slice.injEq,Option.some.injEq,Addr.mk.injEq,and_true] at hv1;obtain ⟨rfl,_⟩:=hv1;have h6:=h5 i (by simpa using hi) 0 (by omega) (.string tp)
 have e1:(l.map OB.cells).set i (((l.map OB.cells)[i]'(by simpa using hi)).set 0 (.string tp))=(l.set i ⟨tp,l[i].next⟩).map OB.cells:=by
  rw [List.map_set,List.getElem_map];rfl
 rw [e1] at h6;obtain ⟨g2,c2,hv2,_,_,_,_,h7⟩:=ROwn.block h6 (OB.cells_len _) (by rw [List.length_map,List.length_set];omega);rw [hv] at hv2;simp only [Value.slice.injEq,Option.some.injEq,Addr.mk.injEq,and_true] at hv2;obtain ⟨rfl,_⟩:=hv2;have h8:=h7 i (by simpa using hi) 1 (by omega) (.int .i64 nx)
 have e2:((l.set i ⟨tp,l[i].next⟩).map OB.cells).set i ((((l.set i ⟨tp,l[i].next⟩).map OB.cells)[i]'(by simpa using hi)).set 1 (.int .i64 nx))=(l.set i ⟨tp,nx⟩).map OB.cells:=by
  rw [List.getElem_map,List.getElem_set_self];show ((l.set i ⟨tp,l[i].next⟩).map OB.cells).set i (OB.cells ⟨tp,nx⟩)=_;rw [<- List.map_set,List.set_set]
 rw [e2] at h8;exact h8
theorem OOwn.cells {w:World} {base:Nat} {l:List OB} {g n c:Nat} (h:OOwn w base (.slice (some ⟨g,0,none⟩) n c) l) {i:Nat} (hi:i < l.length):OAt w g (i*2) l[i]:=by
 obtain ⟨g1,c1,hv1,_,_,_,h4,_⟩:=ROwn.block h (OB.cells_len l) (by rw [List.length_map];omega);simp only [Value.slice.injEq,Option.some.injEq,Addr.mk.injEq,and_true] at hv1;obtain ⟨rfl,_⟩:=hv1;have h0:=h4 i (by simpa using hi) 0 (by omega);have h1:=h4 i (by simpa using hi) 1 (by omega);rw [List.getElem_map] at h0 h1;exact ⟨h0,h1⟩
