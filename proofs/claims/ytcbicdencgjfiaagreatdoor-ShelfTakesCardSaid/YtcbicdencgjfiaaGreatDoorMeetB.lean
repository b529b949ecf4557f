import Derived.Test.YtcbicdencgjfiaaGreatDoorDefU
import Derived.Test.YtcbicdencgjfiaaGreatDoorDraws
import Derived.Test.YtcbicdencgjfiaaGreatDoorOutC
import Derived.Test.YtcbicdencgjfiaaGreatDoorPenL
set_option linter.all false
set_option maxHeartbeats 4000000
set_option maxRecDepth 20000
namespace Tryst
open Go Go.RowKit
def Var (w:World) (g:Nat) (T:TypeId) (cs:List Value):Prop:=w.heap[g]?=some (.cells cs.toArray T (0,0))
def VarC (w:World) (g:Nat):Nat->List Value->Prop
 | _,[]=>True
 | i,v :: r=>w.cell? ⟨g,i,none⟩=some v/\VarC w g (i+1) r
section
variable {w w':World} {g:Nat} {T:TypeId} {cs:List Value}
theorem Var.lt (h:Var w g T cs):g < w.heap.size:=(Array.getElem?_eq_some_iff.1 h).1
theorem Var.grow (h:Var w g T cs) (hb:Below w.heap.size w w'):Var w' g T cs:=(hb.block g h.lt).trans h
theorem Var.growB {B:Nat} (h:Var w g T cs) (hg:g < B) (hb:Below B w w'):Var w' g T cs:=(hb.block g hg).trans h
theorem Var.new (w:World) (T:TypeId) (cs:List Value):Var (w.alloc (.cells cs.toArray T)) w.heap.size T cs:=by
 show (w.heap.push _)[w.heap.size]?=_;simp
theorem Var.cell (h:Var w g T cs) (i:Nat):w.cell? ⟨g,i,none⟩=cs[i]?:=by
 unfold Var at h;simp [World.cell?,h]
theorem Var.fz (h:Var w g T cs) (i:Nat):w.frozen? ⟨g,i,none⟩=false:=by
 unfold Var at h;simp [World.frozen?,h]
theorem VarC.of:∀ (r:List Value) (i:Nat),(∀ j,j < r.length->w.cell? ⟨g,i+j,none⟩=r[j]?)->VarC w g i r
 | [],_,_=>trivial
 | v :: r,i,h=>⟨by simpa using h 0 (by simp),VarC.of r (i+1) (fun j hj=>by
   have:=h (j+1) (by simpa using hj);rw [show i+1+j=i+(j+1) by omega,this];simp)⟩
theorem Var.cells (h:Var w g T cs):VarC w g 0 cs:=VarC.of cs 0 (fun j _=>by rw [Nat.zero_add];exact h.cell j)
theorem v2 {a0 a1:Value} (h:Var w g T [a0,a1]):w.cell? ⟨g,0,none⟩=some a0/\w.cell? ⟨g,1,none⟩=some a1:=by
 have XX:=h.cells
 simpa only [VarC,Nat.reduceAdd,Nat.zero_add,and_true] using XX
theorem v3 {a0 a1 a2:Value} (h:Var w g T [a0,a1,a2]):w.cell? ⟨g,0,none⟩=some a0/\w.cell? ⟨g,1,none⟩=some a1/\w.cell? ⟨g,2,none⟩=some a2:=by
 have XX:=h.cells
 simpa only [VarC,Nat.reduceAdd,Nat.zero_add,and_true] using XX
theorem v4 {a0 a1 a2 a3:Value} (h:Var w g T [a0,a1,a2,a3]):w.cell? ⟨g,0,none⟩=some a0/\w.cell? ⟨g,1,none⟩=some a1/\w.cell? ⟨g,2,none⟩=some a2/\w.cell? ⟨g,3,none⟩=some a3:=by
 have XX:=h.cells
 simpa only [VarC,Nat.reduceAdd,Nat.zero_add,and_true] using XX
theorem v5 {a0 a1 a2 a3 a4:Value} (h:Var w g T [a0,a1,a2,a3,a4]):w.cell? ⟨g,0,none⟩=some a0/\w.cell? ⟨g,1,none⟩=some a1/\w.cell? ⟨g,2,none⟩=some a2/\w.cell? ⟨g,3,none⟩=some a3/\w.cell? ⟨g,4,none⟩=some a4:=by
 have XX:=h.cells
 simpa only [VarC,Nat.reduceAdd,Nat.zero_add,and_true] using XX
theorem v6 {a0 a1 a2 a3 a4 a5:Value} (h:Var w g T [a0,a1,a2,a3,a4,a5]):w.cell? ⟨g,0,none⟩=some a0/\w.cell? ⟨g,1,none⟩=some a1/\w.cell? ⟨g,2,none⟩=some a2/\w.cell? ⟨g,3,none⟩=some a3/\w.cell? ⟨g,4,none⟩=some a4/\w.cell? ⟨g,5,none⟩=some a5:=by
 have XX:=h.cells
 simpa only [VarC,Nat.reduceAdd,Nat.zero_add,and_true] using XX
theorem v8 {a0 a1 a2 a3 a4 a5 a6 a7:Value} (h:Var w g T [a0,a1,a2,a3,a4,a5,a6,a7]):w.cell? ⟨g,0,none⟩=some a0/\w.cell? ⟨g,1,none⟩=some a1/\w.cell? ⟨g,2,none⟩=some a2/\w.cell? ⟨g,3,none⟩=some a3/\w.cell? ⟨g,4,none⟩=some a4/\w.cell? ⟨g,5,none⟩=some a5/\w.cell? ⟨g,6,none⟩=some a6/\w.cell? ⟨g,7,none⟩=some a7:=by
 have XX:=h.cells
 simpa only [VarC,Nat.reduceAdd,Nat.zero_add,and_true] using XX
theorem v13 {a0 a1 a2 a3 a4 a5 a6 a7 a8 a9 a10 a11 a12:Value} (h:Var w g T [a0,a1,a2,a3,a4,a5,a6,a7,a8,a9,a10,a11,a12]):w.cell? ⟨g,0,none⟩=some a0/\w.cell? ⟨g,1,none⟩=some a1/\w.cell? ⟨g,2,none⟩=some a2/\w.cell? ⟨g,3,none⟩=some a3/\w.cell? ⟨g,4,none⟩=some a4/\w.cell? ⟨g,5,none⟩=some a5/\w.cell? ⟨g,6,none⟩=some a6/\w.cell? ⟨g,7,none⟩=some a7/\w.cell? ⟨g,8,none⟩=some a8/\w.cell? ⟨g,9,none⟩=some a9/\w.cell? ⟨g,10,none⟩=some a10/\w.cell? ⟨g,11,none⟩=some a11/\w.cell? ⟨g,12,none⟩=some a12:=by
 have XX:=h.cells
 simpa only [VarC,Nat.reduceAdd,Nat.zero_add,and_true] using XX
theorem v15 {a0 a1 a2 a3 a4 a5 a6 a7 a8 a9 a10 a11 a12 a13 a14:Value} (h:Var w g T [a0,a1,a2,a3,a4,a5,a6,a7,a8,a9,a10,a11,a12,a13,a14]):w.cell? ⟨g,0,none⟩=some a0/\w.cell? ⟨g,1,none⟩=some a1/\w.cell? ⟨g,2,none⟩=some a2/\w.cell? ⟨g,3,none⟩=some a3/\w.cell? ⟨g,4,none⟩=some a4/\w.cell? ⟨g,5,none⟩=some a5/\w.cell? ⟨g,6,none⟩=some a6/\w.cell? ⟨g,7,none⟩=some a7/\w.cell? ⟨g,8,none⟩=some a8/\w.cell? ⟨g,9,none⟩=some a9/\w.cell? ⟨g,10,none⟩=some a10/\w.cell? ⟨g,11,none⟩=some a11/\w.cell? ⟨g,12,none⟩=some a12/\w.cell? ⟨g,13,none⟩=some a13/\w.cell? ⟨g,14,none⟩=some a14:=by
 have XX:=h.cells
 simpa only [VarC,Nat.reduceAdd,Nat.zero_add,and_true] using XX
theorem Var.away (h:Var w g T cs) {c o:Nat} (hc:c≠g) (v:Value):Var (w.setCell ⟨c,o,none⟩ v) g T cs:=(Below.heap_setCell _ _ _ _ (fun e=>hc e.symm)).trans h
theorem Var.set (h:Var w g T cs) (i:Nat) (v:Value):Var (w.setCell ⟨g,i,none⟩ v) g T (cs.set i v):=by
 unfold Var at h ⊢;simp [World.setCell,Array.getElem?_modify,h]
theorem Var.shape (h:Var w g T cs):w.shape? g=some (T,cs.length):=by
 unfold Var at h;simp [World.shape?,h]
def Yq (w:World) (g:Nat):Nat->List Value->World
 | _,[]=>w
 | i,v :: r=>Yq (w.setCell ⟨g,i,none⟩ v) g (i+1) r
theorem Qb {k:Nat} (hk:k≠g):∀ (vs:List Value) (i:Nat) (w:World),(Yq w g i vs).heap[k]?=w.heap[k]?
 | [],_,_=>rfl
 | v :: r,i,w=>by
  rw [Yq,Qb hk r];exact Below.heap_setCell _ _ _ _ hk
theorem Q6:∀ (vs:List Value) (i:Nat) (w:World),(Yq w g i vs).heap.size=w.heap.size
 | [],_,_=>rfl
 | v :: r,i,w=>by
  rw [Yq,Q6 r];simp
theorem Qw {B:Nat} (hg:B<=g) {v:World}:∀ (vs:List Value) (i:Nat) (w:World),Below B v w->Below B v (Yq w g i vs)
 | [],_,_,h=>h
 | u :: r,i,w,h=>Qw hg r (i+1) _ (h.setCell (p:=⟨g,i,none⟩) hg u)
theorem Var.sets:∀ (vs:List Value) (xs bs:List Value) (w:World),Var w g T (xs++bs)->vs.length=bs.length->Var (Yq w g xs.length vs) g T (xs++vs)
 | [],xs,bs,w,h,e=>by
  have:bs=[]:=List.eq_nil_of_length_eq_zero (by simpa using e.symm);subst this;exact h
 | v :: r,xs,b :: bs,w,h,e=>by
  rw [Yq];have h2:=h.set xs.length v;rw [List.set_append_right _ _ (Nat.le_refl _),Nat.sub_self,List.set_cons_zero] at h2;have:=Var.sets r (xs++[v]) bs (w.setCell ⟨g,xs.length,none⟩ v) (by simpa using h2) (by simpa using e)
  simpa using this
theorem Var.put (h:Var w g T cs) (vs:List Value) (e:vs.length=cs.length):Var (Yq w g 0 vs) g T vs:=Var.sets vs [] cs w h e
end
end Tryst
namespace Go.Proofs.YtcbicdencgjfiaaGreatDoor
open Go.RowKit Tryst
theorem Q3 (n:Int) (h0:-9223372036854775808<=n) (h1:n<=9223372036854775807) (w:World) :
  Calls Tryz.prog 43 #[.int .i64 n] w fun e w'=>e=.returned (.string ⟨(numL n).toArray⟩)/\Below w.heap.size w w':=by
 have HP:=Zh (fun W=>zYO n h0 h1 W);have hf:=jQS h0 h1;unfold numL;generalize fold n=m at HP hf ⊢;have HK:=Zh (fun W=>Y4 (m:Int) W (by omega) (by omega));rw [Int.toNat_natCast] at HK;go_enter Tryz.func43,Tryz.ntmps43;go_wp2_with fail;refine (HP.out _).mono ?_;rintro e w1 ⟨rfl,rfl⟩;go_wp2_with fail;refine (HK.out _).mono ?_;rintro e w1 ⟨rfl,hb⟩;go_wp2_with fail;go_ret;exact ⟨rfl,hb⟩
theorem Q4 (n:Nat) (hn:n<=1000000000) (w:World) :
  Calls Tryz.prog 44 #[.int .i64 n] w fun e w'=>e=.returned (.string ⟨(pack n).toArray⟩)/\Below w.heap.size w w':=by
 have HK:=Zh (fun W=>Y4 (n:Int) W (by omega) (by omega));rw [Int.toNat_natCast] at HK;go_enter Tryz.func44,Tryz.ntmps44;go_wp2_with fail;refine (HK.out _).mono ?_;rintro e w1 ⟨rfl,hb⟩;go_wp2_with fail;go_ret;exact ⟨rfl,hb⟩
theorem J2 (s:ByteArray) (hs:s.size<=1000000000) (w:World) :
  Calls Tryz.prog 45 #[.string s] w fun e w'=>e=.returned (.string ⟨(strL s).toArray⟩)/\Below w.heap.size w w':=by
 have HK:=Zh (fun W=>Q4 s.size hs W);have hpk:=Jf s.size;have hsz:(⟨(pack s.size).toArray⟩:ByteArray).size<=10:=by rw [mk_size];exact hpk
 have HE:Hid ((⟨(pack s.size).toArray⟩:ByteArray)++s=⟨(strL s).toArray⟩):=Zh (Xk (by unfold strL jQM;rw [Qx];simp));generalize (⟨(pack s.size).toArray⟩:ByteArray)=P at HK HE hsz;generalize (⟨(strL s).toArray⟩:ByteArray)=R at HE ⊢;go_enter Tryz.func45,Tryz.ntmps45;go_wp2_with fail;refine (HK.out _).mono ?_;rintro e w1 ⟨rfl,hb⟩;go_wp2_with fail;go_ret;exact ⟨congrArg (fun z=>Ending.returned (.string z)) HE.out,hb⟩
def RLR {α:Type} (w:World) (f:α->List UInt8) (o:List UInt8) (l:List α) (s i:Value) (wr:World):Prop:=
 ∃ (k:Nat) (A:ByteArray),k<=l.length/\i=.int .i64 k/\s=.string A/\Hid (A=⟨(o++(l.take k).flatMap f).toArray⟩)/\Hid (Below w.heap.size w wr)
theorem kYp (a:Option Addr) (c:Nat) (l:List ByteArray) (hl:(Qf strL l).length<=1000000000) (hn:l.length<=1000000000) (w:World) (hS:Strs w a l) :
  Calls Tryz.prog 46 #[.slice a l.length c] w fun e w'=>e=.returned (.string ⟨(Qf strL l).toArray⟩)/\Below w.heap.size w w':=by
 have HS:=Zh hS;have HC:=Zh (fun W=>Q4 l.length hn W);unfold Qf at hl ⊢;rw [List.length_append] at hl;clear hS;go_enter Tryz.func46,Tryz.ntmps46;go_wp2_with fail;refine (HC.out _).mono ?_;rintro e w1 ⟨rfl,hb1⟩;have HB1:=Zh hb1;clear hb1;go_wp2_with fail;go_loopw [3,4] (fun s i wr=>RLR w strL (pack l.length) l s i wr) (fun _ i _=>l.length - (intOf i).toNat)
 case atStart=>exact ⟨0,_,by omega,rfl,rfl,Zh (by rw [List.take_zero,List.flatMap_nil,List.append_nil]),HB1⟩
 case round=>
  clear HB1;obtain ⟨k,A,hk,rfl,rfl,HA,HB⟩:=hrel;obtain ⟨wo,rfl⟩:∃ wo,wo=wr:=⟨_,rfl⟩
  by_cases hlt:k < l.length
  ·
   obtain ⟨g,j,ha,hb⟩:=(HS.out.grow HB.out).head hlt;subst ha;have f0:=((HS.out.grow HB.out).at hlt).2;have hfl:=jQE strL hlt;have HFN:=Zh (Xy strL hlt);have hsl:A.size<=(pack l.length).length+((l.take k).flatMap strL).length:=by rw [HA.out,mk_size,List.length_append];exact Nat.le_refl _
   have HT:=Zh (fun W=>J2 l[k] (by have:=Ky l[k];omega) W);have hs2:(⟨(strL l[k]).toArray⟩:ByteArray).size=(strL l[k]).length:=mk_size _;have HN:Hid (A++(⟨(strL l[k]).toArray⟩:ByteArray)=⟨(pack l.length++(l.take (k+1)).flatMap strL).toArray⟩):=Zh (by rw [HA.out,HFN.out];exact Xk (by simp));generalize (⟨(strL l[k]).toArray⟩:ByteArray)=B at HT HN hs2;clear HFN HA;go_wp2_with fail;refine (HT.out _).mono ?_;rintro e w2 ⟨rfl,hb2⟩;have HB2:=Zh (Qk hb2 HB.out);clear hb2;go_wp2_with fail;go_roundw
   case rel=>exact ⟨k+1,_,by omega,by go_num,rfl,HN,HB2⟩
   case measure=>simp [intOf]<;>omega
  · have HN:Hid (A=⟨(pack l.length++l.flatMap strL).toArray⟩):=Zh (by rw [HA.out,List.take_of_length_le (by omega)]);go_wp2_with fail;go_ret;exact ⟨congrArg (fun z=>Ending.returned (.string z)) HN.out,HB.out⟩
end Go.Proofs.YtcbicdencgjfiaaGreatDoor
namespace Tryst
open Go Go.RowKit
structure KpB where
 part:Int
 id:Nat
 time:Int
def KpB.cells (x:KpB):List Value:=[.int .i64 x.part,.int .u64 x.id,.int .i64 x.time]
def KpB.val (x:KpB):Value:=.agg #[.int .i64 x.part,.int .u64 x.id,.int .i64 x.time]
def xQw (parts:Int) (x:KpB):Bool:=decide (0<=x.part)&&(decide (x.part < parts)&&(decide (0<=x.time)&&decide (x.time<=1099511627775)))
structure KpAt (w:World) (b o:Nat) (t:KpB):Prop where
 c0:w.cell? ⟨b,o,none⟩=some (.int .i64 t.part)
 c1:w.cell? ⟨b,o+1,none⟩=some (.int .u64 t.id)
 c2:w.cell? ⟨b,o+2,none⟩=some (.int .i64 t.time)
abbrev Xg (w:World) (a:Option Addr) (l:List KpB):Prop:=Row w a 3 (l.map KpB.cells)
theorem Xg.at {w:World} {b o:Nat} {l:List KpB} (h:Xg w (some ⟨b,o,none⟩) l) {i:Nat} (hi:i < l.length):b < w.heap.size/\KpAt w b (o+i*3) l[i]:=by
 obtain ⟨h1,h2⟩:=Row.at h (i:=i) (by simpa using hi);simp only [List.getElem_map] at h2;exact ⟨h1,h2 0 (by omega),h2 1 (by omega),h2 2 (by omega)⟩
theorem Xg.hd {w:World} {a:Option Addr} {l:List KpB} (h:Xg w a l) {i:Nat} (hi:i < l.length):∃ b o,a=some ⟨b,o,none⟩/\b < w.heap.size:=Row.head h (by simpa using hi)
def vQ5 (l:List KpB) (t:Int):Bool:=match l.getLast? with | some x=>decide (t < x.time) | none=>false
end Tryst
namespace Go.Proofs.YtcbicdencgjfiaaGreatDoor
open Go.RowKit Tryst
theorem xJp (n:Int) (w:World):Calls Tryz.prog 252 #[.int .i64 n] w fun e w'=>e=.returned (.bool (decide (0<=n)&&decide (n<=1099511627775)))/\w'=w:=by
 by_cases h1:0<=n
 · go_enter Tryz.func252,Tryz.ntmps252;go_wp2_with fail;go_ret;exact ⟨Qq (by rw [decide_eq_true h1,Bool.true_and]),rfl⟩
 · go_enter Tryz.func252,Tryz.ntmps252;go_wp2_with fail;go_ret;exact ⟨Qq (by rw [decide_eq_false (show ¬ 0<=n by omega),Bool.false_and]),rfl⟩
theorem jYZ (j:JB) (x:KpB) (w:World):Calls Tryz.prog 240 #[.agg #[.string j.kind,.int .i64 j.parts,.int .i64 j.need,.int .i64 j.window],x.val] w fun e w'=>e=.returned (.bool (xQw j.parts x))/\Below w.heap.size w w':=by
 have HB0:=Zh (Qj (.cells #[.int .i64 x.part,.int .u64 x.id,.int .i64 x.time] 155) (Qj (.cells #[.string j.kind,.int .i64 j.parts,.int .i64 j.need,.int .i64 j.window] 43) (.refl w.heap.size w)));have CA:=Zh (fun W=>xJp x.time W);obtain ⟨kd,ps,nd,wd⟩:=j;obtain ⟨pt,id,tm⟩:=x;unfold KpB.val xQw;simp only at HB0 CA ⊢
 by_cases h1:0<=pt
 case neg=>
  rw [decide_eq_false h1];go_enter Tryz.func240,Tryz.ntmps240;go_wp2_with fail;go_ret;exact ⟨rfl,HB0.out⟩
 rw [decide_eq_true h1,Bool.true_and]
 by_cases h2:pt < ps
 case neg=>
  rw [decide_eq_false h2];go_enter Tryz.func240,Tryz.ntmps240;go_wp2_with fail;go_ret;exact ⟨rfl,HB0.out⟩
 rw [decide_eq_true h2,Bool.true_and];generalize (decide (0<=tm)&&decide (tm<=1099511627775))=b at CA ⊢;go_enter Tryz.func240,Tryz.ntmps240;go_wp2_with fail;refine (CA.out _).mono ?_;rintro e w3 ⟨rfl,rfl⟩;clear CA;go_wp2_with fail;go_ret;exact ⟨rfl,HB0.out⟩
theorem jY0 (a:Option Addr) (c:Nat) (l:List KpB) (t:Int) (hl:l.length<=1500000) (w:World) (hR:Xg w a l):Calls Tryz.prog 241 #[.slice a l.length c,.int .i64 t] w fun e w'=>e=.returned (.bool (vQ5 l t))/\w'=w:=by
 by_cases h0:l.length=0
 · have:l=[]:=List.eq_nil_of_length_eq_zero h0;subst this;go_enter Tryz.func241,Tryz.ntmps241;go_wp2_with fail;go_ret;exact ⟨rfl,rfl⟩
 ·
  have hm:l.length - 1 < l.length:=by omega
  have HE:Hid (vQ5 l t=decide (t < l[l.length - 1].time)):=Zh (by
   unfold vQ5;rw [List.getLast?_eq_getElem?,List.getElem?_eq_getElem hm])
  obtain ⟨b,o,ha,hb⟩:=Xg.hd hR hm;subst ha;obtain ⟨_,f0,f1,f2⟩:=Xg.at hR hm;obtain ⟨m,hmm⟩:∃ m,l.length - 1=m:=⟨_,rfl⟩;have y1:(0:Int) < (l.length:Int):=by omega
  have y6:0 < l.length:=by omega
  have y2:IntKind.i64.wrap ((l.length:Int) - 1)=(m:Int):=by rw [IntWalk.i64_in _ (by omega)];omega
  have y4:(m:Int) < (l.length:Int):=by omega
  have y5:(0:Int)<=(m:Int):=by omega
  rw [HE.out];clear HE;generalize l[l.length - 1].time=tt at f2 ⊢;rw [hmm] at f2;clear hmm hm h0 f0 f1 hR;go_enter Tryz.func241,Tryz.ntmps241;go_wp2_with fail;go_ret;exact ⟨rfl,rfl⟩
end Go.Proofs.YtcbicdencgjfiaaGreatDoor
namespace Tryst
open Go Go.RowKit
structure KpR (w:World) (a:Option Addr) (l:List KpB):Prop where
 r:Xg w a l
theorem KpR.head {w:World} {a:Option Addr} {l:List KpB} (h:KpR w a l) {i:Nat} (hi:i < l.length):∃ b o,a=some ⟨b,o,none⟩/\b < w.heap.size:=Xg.hd h.r hi
end Tryst
namespace Go.Proofs.YtcbicdencgjfiaaGreatDoor
open Go.RowKit Tryst
theorem zJo {α:Type} (p:α->Bool) (l:List α):decide (0<=idxG p l)=l.any p:=by
 unfold idxG;cases h:l.findIdx? p with
 | none=>
  rw [List.findIdx?_eq_none_iff] at h
  have:l.any p=false:=by
   rw [List.any_eq_false];intro x hx;rw [h x hx];simp
  rw [this];rfl
 | some i=>
  rw [List.findIdx?_eq_some_iff_getElem] at h;obtain ⟨hi,h1,_⟩:=h;have:l.any p=true:=List.any_eq_true.2 ⟨_,List.getElem_mem hi,h1⟩;rw [this];simp
theorem zJJ (t:KpB) (n:Nat) (A:Addr) (w:World) (hc:w.cell? A=some (.int .u64 n)) (hb:A.block < w.heap.size):Calls Tryz.prog 254 #[.agg #[.int .i64 t.part,.int .u64 t.id,.int .i64 t.time],.pointer (some A)] w fun e w'=>e=.returned (.bool ((t.id:Int)==(n:Int)))/\Below w.heap.size w w':=by
 obtain ⟨b,o,x⟩:=A;go_enter Tryz.func254,Tryz.ntmps254;go_wp2_with fail;go_ret;exact ⟨rfl,Qj _ (.refl _ _)⟩
theorem zJZ (n:Nat) (A:Addr) (a:Option Addr) (c:Nat) (l:List KpB) (hl:l.length<=1500000) (w:World) (hO:Xg w a l) (hA:w.cell? A=some (.int .u64 n)) (hAb:A.block < w.heap.size) :
  Calls Tryz.prog 264 #[.slice a l.length c,.func (.func 254) #[] #[.pointer (some A)]] w fun e w'=>e=.returned (.int .i64 (idxG (fun x:KpB=>(x.id:Int)==(n:Int)) l))/\Below w.heap.size w w':=by
 have HF:=Zh (fun W (hb:Below w.heap.size w W)=>KpR.mk (hO.grow hb));have HC:=Zh (fun (k:Nat) (hk:k < l.length) W (hb:Below w.heap.size w W)=>zJJ l[k] n A W ((hb.cell hAb).trans hA) (Nat.lt_of_lt_of_le hAb hb.size));clear hO hA;go_enter Tryz.func264,Tryz.ntmps264;go_wp2_with fail;go_loopw [8] (fun i wr=>qJu (fun x:KpB=>(x.id:Int)==(n:Int)) l w i wr) (fun i _=>l.length - (intOf i).toNat)
 case atStart=>exact ⟨0,by omega,rfl,fun _ _ h=>by omega,.refl _ _,by omega⟩
 case round=>
  obtain ⟨k,hk,rfl,HR,HW,hz⟩:=hrel;obtain ⟨wo,rfl⟩:∃ wo,wo=wr:=⟨_,rfl⟩
  by_cases hlt:k < l.length
  ·
   obtain ⟨b,o,ha,hb⟩:=(HF.out wo HW.out).head hlt;subst ha;have HCC:=Zh (HC.out k hlt);obtain ⟨pp,hpp⟩:∃ pp,((l[k].id:Int)==(n:Int))=pp:=⟨_,rfl⟩;have HPP:=Zh hpp;clear hpp;obtain ⟨_,f0,f1,f2⟩:=(HF.out wo HW.out).r.at hlt;go_wp2_with fail;refine (HCC.out _ HW.out).mono ?_;rintro e w2 ⟨rfl,hb2⟩;have HB2:=Zh (Qk hb2 HW.out);clear hb2 HCC;rw [show ((l[k].id:Int)==(n:Int))=pp from HPP.out];cases pp with
   | true=>
    have HI:=Zh (jJO (p:=fun x:KpB=>(x.id:Int)==(n:Int)) hlt HR.out HPP.out);clear HR;go_wp2_with fail;go_ret;exact ⟨Qy HI.out.symm,HB2.out⟩
   | false=>
    have HI:=Zh (xQ6 (p:=fun x:KpB=>(x.id:Int)==(n:Int)) hlt HR.out HPP.out);clear HR;go_wp2_with fail;go_roundw
    case rel=>exact ⟨k+1,by omega,by go_num,HI.out,HB2.out,HB2.out.size⟩
    case measure=>simp [intOf]<;>omega
  · have HI:=Zh (kJ7 (p:=fun x:KpB=>(x.id:Int)==(n:Int)) (by omega:l.length<=k) HR.out);clear HR;go_wp2_with fail;go_ret;exact ⟨Qy HI.out.symm,HW.out⟩
theorem jJ3 (n:Nat) (A:Addr) (a:Option Addr) (c:Nat) (l:List KpB) (hl:l.length<=1500000) (w:World) (hO:Xg w a l) (hA:w.cell? A=some (.int .u64 n)) (hAb:A.block < w.heap.size) :
  Calls Tryz.prog 253 #[.slice a l.length c,.func (.func 254) #[] #[.pointer (some A)]] w fun e w'=>e=.returned (.bool (l.any (fun x:KpB=>(x.id:Int)==(n:Int))))/\Below w.heap.size w w':=by
 have CI:=Zh (zJZ n A a c l hl w hO hA hAb);rw [<- zJo (fun x:KpB=>(x.id:Int)==(n:Int)) l];clear hO hA hAb;generalize idxG (fun x:KpB=>(x.id:Int)==(n:Int)) l=R at CI ⊢;go_enter Tryz.func253,Tryz.ntmps253;go_wp2_with fail;refine CI.out.mono ?_;rintro e w1 ⟨rfl,hb1⟩;go_wp2_with fail;go_ret;exact ⟨rfl,hb1⟩
theorem xQo (a:Option Addr) (c:Nat) (l:List KpB) (n:Nat) (hl:l.length<=1500000) (w:World) (hO:Xg w a l) :
  Calls Tryz.prog 242 #[.slice a l.length c,.int .u64 n] w fun e w'=>e=.returned (.bool (l.any (fun x:KpB=>(x.id:Int)==(n:Int))))/\Below w.heap.size w w':=by
 have CI:=Zh (fun A W (hb:Below w.heap.size w W) h1 h2=>jJ3 n A a c l hl W (hO.grow hb) h1 h2);generalize l.any (fun x:KpB=>(x.id:Int)==(n:Int))=R at CI ⊢;clear hO;have HB0:=Zh (Qj (.cells #[.int .u64 n] 46) (.refl w.heap.size w));go_enter Tryz.func242,Tryz.ntmps242;go_wp2_with fail;refine (CI.out ⟨w.heap.size,0,none⟩ _ HB0.out (by simp [go_sem]) (by simp)).mono ?_;rintro e w1 ⟨rfl,hb1⟩;have HB1:=Zh (Qk hb1 HB0.out);clear hb1;go_wp2_with fail;go_ret;exact ⟨rfl,HB1.out⟩
end Go.Proofs.YtcbicdencgjfiaaGreatDoor
namespace Tryst
open Go Go.RowKit
def natC (i:Nat):List Value:=[.int .i64 (i:Int)]
def jQh (w:World) (ps:List Nat) (e:Ending) (w':World):Prop:=∃ a c,e=.returned (.slice a ps.length c)/\Row w' a 1 (ps.map natC)/\Below w.heap.size w w'
def Upt (w:World) (n g:Nat) (T:TypeId) (i:Value) (wr:World):Prop:=∃ (k:Nat) (cs:List Value),k<=n/\i=.int .i64 k/\Hid (Var wr g T cs)/\cs.length=n/\Hid (∀ j,j < k->cs[j]?=some (.int .i64 (j:Int)))/\Hid (Below w.heap.size w wr)/\g < wr.heap.size
end Tryst
namespace Go.Proofs.YtcbicdencgjfiaaGreatDoor
open Go.RowKit Tryst
theorem infoI:(Tryz.prog.info? 3).map (fun i=>(i.zero,i.size,i.bytes))=some (some (.int .i64 0),1,8):=by kernel_rfl
theorem makeI (n:Nat) (hn:n<=1500000):∃ M:List Value,M.length=n/\∀ w:World,(Instr.makeSlice 308 (.int .i64 n) (.int .i64 n)).run Tryz.prog w=.ok (.slice (some ⟨w.heap.size,0,none⟩) n n) (w.alloc (.cells M.toArray 3)):=by
 obtain ⟨i,hi,hz,h2,h3⟩:=info_parts infoI;refine ⟨(madeCells (Value.int .i64 0).cells (n*1)).toList,by simp [size_madeCells],fun w=>?_⟩;have hr:=run_make (P:=Tryz.prog) w 308 3 i _ Tryz.underlying308 hi hz .i64 .i64 n n (by omega) (Int.le_refl _) (by rw [h3];omega) (by omega);rw [h2] at hr
 simpa using hr
theorem jJw (n m:Nat) (hn:n<=1500000) (hm:m<=1500000) (w:World):Calls Tryz.prog 257 #[.int .i64 n,.int .i64 m] w fun e w'=>jQh w (if n<=m then List.range n else []) e w':=by
 by_cases h:n<=m
 ·
  have h1:¬ ((m:Int) < n):=by omega
  have h2:(0:Int)<=n:=by omega
  rw [if_pos h];obtain ⟨M,hM,hmk⟩:=makeI n hn;have HV0:Hid (Var (w.alloc (.cells M.toArray 3)) w.heap.size 3 M):=Zh (by show (w.heap.push _)[_]?=_;simp);have HB0:=Zh (Qj (.cells M.toArray 3) (.refl w.heap.size w));go_enter Tryz.func257,Tryz.ntmps257;go_wp2_with (simp only [hmk]);go_loopw [14] (fun i wr=>Upt w n w.heap.size 3 i wr) (fun i _=>n - (intOf i).toNat)
  case atStart=>exact ⟨0,M,by omega,rfl,HV0,hM,Zh (fun j hj=>by omega),HB0,by simp⟩
  case round=>
   clear hmk HV0 HB0;obtain ⟨k,cs,hk,rfl,HV,hcs,HC,HW,hz⟩:=hrel;obtain ⟨wo,rfl⟩:∃ wo,wo=wr:=⟨_,rfl⟩
   by_cases hlt:k < n
   ·
    have x1:(k:Int) < n:=by omega
    have x2:(0:Int)<=k:=by omega
    have hf:=HV.out.fz k;have hc:wo.cell? ⟨w.heap.size,k,none⟩=some (cs[k]'(by omega)):=by rw [HV.out.cell k,List.getElem?_eq_getElem (by omega)]
    have hs:=HV.out.shape;rw [hcs] at hs;have HV2:=Zh (HV.out.set k (.int .i64 (k:Int)))
    have HC2:Hid (∀ j,j < k+1->(cs.set k (.int .i64 (k:Int)))[j]?=some (.int .i64 (j:Int))):=Zh (fun j hj=>by
     by_cases e:j=k
     · subst e;rw [List.getElem?_set_self (by omega)]
     · rw [List.getElem?_set_ne (by omega)];exact HC.out j (by omega))
    have HW2:=Zh (bset (.int .i64 (k:Int)) (p:=⟨w.heap.size,k,none⟩) (Nat.le_refl _) HW.out);have hcs2:(cs.set k (.int .i64 (k:Int))).length=n:=by rw [List.length_set];exact hcs
    clear HC HV HW;go_wp2_with fail;go_roundw
    case rel=>exact ⟨k+1,_,by omega,by go_num,HV2,hcs2,HC2,HW2,by simpa using hz⟩
    case measure=>simp [intOf]<;>omega
   ·
    have hkn:k=n:=by omega
    subst hkn
    have HR:Hid (Row wo (some ⟨w.heap.size,0,none⟩) 1 ((List.range k).map natC)):=Zh (fun i hi=>by
     simp only [List.length_map,List.length_range] at hi;refine ⟨w.heap.size,0,rfl,hz,fun j hj=>?_⟩;obtain rfl:j=0:=by omega
     simp only [List.getElem_map,List.getElem_range];rw [show 0+i*1+0=i by omega,HV.out.cell i,HC.out i hi];rfl)
    go_wp2_with fail;go_ret;exact ⟨some ⟨w.heap.size,0,none⟩,k,(by rw [List.length_range];rfl),HR.out,HW.out⟩
 ·
  have h1:(m:Int) < n:=by omega
  rw [if_neg h];go_enter Tryz.func257,Tryz.ntmps257;go_wp2_with fail;go_ret;exact ⟨none,0,rfl,Row.nil _ _ _,.refl _ _⟩
end Go.Proofs.YtcbicdencgjfiaaGreatDoor
namespace Go.Proofs.YtcbicdencgjfiaaGreatDoor
open Go.RowKit Tryst Go.Maps
structure MJ (w v:World) (j:JB) (s:Value):Prop where
 c0:v.cell? ⟨w.heap.size,0,none⟩=some (.string j.kind)
 c1:v.cell? ⟨w.heap.size,1,none⟩=some (.int .i64 j.parts)
 c2:v.cell? ⟨w.heap.size,2,none⟩=some (.int .i64 j.need)
 s0:v.cell? ⟨w.heap.size+1,0,none⟩=some s
 k:Below w.heap.size w v
 z:w.heap.size+1 < v.heap.size
theorem MJ.grow {w v v':World} {j:JB} {s:Value} (h:MJ w v j s) (hb:Below v.heap.size v v'):MJ w v' j s:=by
 obtain ⟨c0,c1,c2,s0,k,z⟩:=h;exact ⟨by rw [hb.cell (p:=⟨_,_,none⟩) (by show w.heap.size < _;omega)];exact c0,by rw [hb.cell (p:=⟨_,_,none⟩) (by show w.heap.size < _;omega)];exact c1,by rw [hb.cell (p:=⟨_,_,none⟩) (by show w.heap.size < _;omega)];exact c2,by rw [hb.cell (p:=⟨_,_,none⟩) z];exact s0,Qk hb k,Nat.lt_of_lt_of_le z hb.size⟩
theorem MJ.turn {w v v':World} {mb:Nat} {j:JB} {s:Value} (h:Hid (MJ w v j s)) (hg:v.grownBy v' (some mb)) (hn:w.heap.size+2<=mb):Hid (MJ w v' j s):=by
 obtain ⟨c0,c1,c2,s0,k,z⟩:=h.out;have hc:∀ g o,g<=w.heap.size+1->v'.cell? ⟨g,o,none⟩=v.cell? ⟨g,o,none⟩:=fun g o hle=>World.cell?_of_block (w:=v) (a:=⟨g,o,none⟩) (hg.block g (by omega) (by simp only [ne_eq,Option.some.injEq];omega))
 exact ⟨by rw [hc _ _ (by omega)];exact c0,by rw [hc _ _ (by omega)];exact c1,by rw [hc _ _ (by omega)];exact c2,by rw [hc _ _ (by omega)];exact s0,k.grown hg (by have:=k.size;omega) (fun j hj=>by cases hj;show w.heap.size<=mb;omega),Nat.lt_of_lt_of_le z hg.size⟩
theorem jQh.grow {w w1:World} (hb:Below w.heap.size w w1) {ps:List Nat} {e:Ending} {w':World} (h:jQh w1 ps e w'):jQh w ps e w':=by
 obtain ⟨a,c,h1,h2,h3⟩:=h;exact ⟨a,c,h1,h2,Qk h3 hb⟩
theorem vJD (b o:Nat) (a:Option Addr) (c n:Nat) (hn:n<=1500000) (w:World) (hc:w.cell? ⟨b,o,none⟩=some (.slice a n c)):Calls Tryz.prog 256 #[.pointer (some ⟨b,o,none⟩)] w fun e w'=>jQh w (if 1<=n then List.range 1 else []) e w':=by
 have HU:=Zh (jJw 1 n (by omega) hn w);generalize (if 1<=n then List.range 1 else [])=ps at HU ⊢;go_enter Tryz.func256,Tryz.ntmps256;go_wp2_with fail;refine HU.out.mono ?_;rintro e w1 ⟨a1,c1,rfl,h2,h3⟩;go_wp2_with fail;go_ret;exact ⟨a1,c1,rfl,h2,h3⟩
theorem vJA (b1 o1 b2 o2:Nat) (a:Option Addr) (c n nd:Nat) (hn:n<=1500000) (hd:nd<=1500000) (w:World) (hc:w.cell? ⟨b2,o2,none⟩=some (.slice a n c)) (hj:w.cell? ⟨b1,o1+2,none⟩=some (.int .i64 nd)):Calls Tryz.prog 258 #[.pointer (some ⟨b1,o1,none⟩),.pointer (some ⟨b2,o2,none⟩)] w fun e w'=>jQh w (if nd<=n then List.range nd else []) e w':=by
 have HU:=Zh (jJw nd n hd hn w);generalize (if nd<=n then List.range nd else [])=ps at HU ⊢;go_enter Tryz.func258,Tryz.ntmps258;go_wp2_with fail;refine HU.out.mono ?_;rintro e w1 ⟨a1,c1,rfl,h2,h3⟩;go_wp2_with fail;go_ret;exact ⟨a1,c1,rfl,h2,h3⟩
