import Derived.Deep.RegionWith
import Derived.Deep.Cut
import Derived.Lib.SplitLaws
import Derived.Test.YtcbicdencgjfiaaGreatDoorDraws
import Derived.Test.YtcbicdencgjfiaaGreatDoorFacts
import Derived.Test.YtcbicdencgjfiaaGreatDoorNumV
import Derived.Test.YtcbicdencgjfiaaGreatDoorRowK
import Derived.Test.YtcbicdencgjfiaaGreatDoorShelf
set_option linter.all false
set_option maxHeartbeats 400000
set_option maxRecDepth 20000
namespace Go.Proofs.YtcbicdencgjfiaaGreatDoor
open Go.RowKit Tryst
def Zv (r:Int):Bool:=decide (97<=r/\r<=122)||decide (48<=r/\r<=57)||decide (r=95)
theorem xQH (r:Int) (h0:0<=r) (h1:r<=2147483647) (w:World):Calls Tryz.prog 207 #[.int .i32 r] w fun e w'=>e=.returned (.bool (Zv r))/\w=w':=by
 by_cases ha:97<=r
 ·
  by_cases hb:r<=122
  ·
   have e:Zv r=true:=by unfold Zv;simp;omega
   have E:=Zh e;clear e;go_enter Tryz.func207,Tryz.ntmps207;go_wp2_with fail;go_ret;exact ⟨Qq E.out.symm,rfl⟩
  ·
   have hc:48<=r:=by omega
   have hd:¬ r<=57:=by omega
   have hn:(r==95)=false:=by simp;omega
   have e:Zv r=false:=by unfold Zv;simp;omega
   have E:=Zh e;clear e;go_enter Tryz.func207,Tryz.ntmps207;go_wp2_with fail;go_ret;exact ⟨Qq E.out.symm,rfl⟩
 ·
  by_cases hc:48<=r
  ·
   by_cases hd:r<=57
   ·
    have e:Zv r=true:=by unfold Zv;simp;omega
    have E:=Zh e;clear e;go_enter Tryz.func207,Tryz.ntmps207;go_wp2_with fail;go_ret;exact ⟨Qq E.out.symm,rfl⟩
   ·
    have e:Zv r=(r==95):=by
     by_cases h:r=95
     · subst h;rfl
     ·
      have h':(r==95)=false:=by simpa using h
      rw [h'];unfold Zv;simp;omega
    have E:=Zh e;clear e;go_enter Tryz.func207,Tryz.ntmps207;go_wp2_with fail;go_ret;exact ⟨Qq E.out.symm,rfl⟩
  ·
   have hn:(r==95)=false:=by simp;omega
   have e:Zv r=false:=by unfold Zv;simp;omega
   have E:=Zh e;clear e;go_enter Tryz.func207,Tryz.ntmps207;go_wp2_with fail;go_ret;exact ⟨Qq E.out.symm,rfl⟩
def xJn (s:ByteArray) (w:World) (wr:World):Prop:=∃ pos:Nat,wr=w.iter s pos/\pos<=s.size/\Hid (∀ (j:Nat) (h:j < s.size),j < pos->qQE s[j]=true)
theorem qJ3 (s:ByteArray) (hs:s.size<=1000000000) (w:World):Calls Tryz.prog 178 #[.string s] w fun e w'=>e=.returned (.bool (Z1 s.data.toList))/\Below w.heap.size w w':=by
 go_enter Tryz.func178,Tryz.ntmps178;go_wp2_with fail;go_loopw [5] (fun _ wr=>xJn s w wr) (fun _ wr=>s.size - wr.iterPos w.heap.size)
 case atStart=>exact ⟨0,rfl,by omega,fun j _ h=>by omega⟩
 case round=>
  obtain ⟨pos,rfl,hp,HA⟩:=hrel
  by_cases hlt:pos < s.size
  ·
   obtain ⟨c,hc⟩:∃ c,s[pos].toNat=c:=⟨_,rfl⟩;have hcl:c < 256:=hc ▸ s[pos].toNat_lt
   by_cases hasc:c < 128
   ·
    have hnx:=fun ty=>run_next_ascii (P:=Tryz.prog) w s pos ty hlt (by omega)
    rw [hc] at hnx
    by_cases hok:qQE s[pos]=true
    ·
     have hr:Zv (c:Int)=true:=by
      unfold qQE at hok;rw [hc] at hok;unfold Zv;simp at hok ⊢;omega
     have HR:=Zh hr;have HK:=Zh hok;clear hr hok;go_wp2_with fail;refine (xQH c (by omega) (by omega) _).mono ?_;rintro e w1 ⟨rfl,rfl⟩;rw [HR.out];go_wp2_with fail;go_roundw
     case rel=>exact ⟨pos+1,rfl,by omega,fun j h hj=>by
      by_cases e:j=pos
      · subst e;exact HK.out
      · exact HA.out j h (by omega)⟩
     case measure=>simp;omega
    ·
     have hr:Zv (c:Int)=false:=by
      unfold qQE at hok;rw [hc] at hok;unfold Zv;simp at hok ⊢;omega
     have hbad:Z1 s.data.toList=false:=by
      unfold Z1
      have:s.data.toList.all qQE=false:=by
       rw [List.all_eq_false];exact ⟨s[pos],List.mem_of_getElem? (by rw [List.getElem?_eq_getElem (by simpa using hlt)];rfl),hok⟩
      rw [this,Bool.and_false]
     have HR:=Zh hr;have HB:=Zh hbad;clear hr hok hbad;go_wp2_with fail;refine (xQH c (by omega) (by omega) _).mono ?_;rintro e w1 ⟨rfl,rfl⟩;rw [HR.out];go_wp2_with fail;go_ret;exact ⟨Qq HB.out.symm,Qj _ (.refl _ _)⟩
   ·
    have hnx:=fun ty=>run_next_any (P:=Tryz.prog) w s pos ty hlt
    obtain ⟨hd1,hd2⟩:=decode_high s pos hlt (by omega);have hd3:=decode_le s pos;obtain ⟨D,hD⟩:∃ D,(Utf8.decode s pos).1=D:=⟨_,rfl⟩;rw [hD] at hnx hd1 hd3
    have hr:Zv (D:Int)=false:=by
     unfold Zv;simp;omega
    have hbad:Z1 s.data.toList=false:=by
     unfold Z1
     have:s.data.toList.all qQE=false:=by
      rw [List.all_eq_false];refine ⟨s[pos],List.mem_of_getElem? (by rw [List.getElem?_eq_getElem (by simpa using hlt)];rfl),?_⟩;unfold qQE;rw [hc];simp;omega
     rw [this,Bool.and_false]
    have HR:=Zh hr;have HB:=Zh hbad;clear hr hbad hD;go_wp2_with fail;refine (xQH D (by omega) (by omega) _).mono ?_;rintro e w1 ⟨rfl,rfl⟩;rw [HR.out];go_wp2_with fail;go_ret;exact ⟨Qq HB.out.symm,Qj _ (.refl _ _)⟩
  ·
   have hnx:=fun ty=>run_next_end (P:=Tryz.prog) w s pos ty hlt
   have hall:s.data.toList.all qQE=true:=by
    rw [List.all_eq_true];intro x hx;obtain ⟨j,hj,rfl⟩:=List.getElem_of_mem hx;exact HA.out j (by simpa using hj) (by simp at hj;omega)
   have HP:Hid (Z1 s.data.toList=!s.data.toList.isEmpty):=by
    show Z1 s.data.toList=_;unfold Z1;rw [hall,Bool.and_true]
   clear hall;go_wp2_with fail;go_ret;refine ⟨Qq ?_,Qj _ (.refl _ _)⟩;rw [HP.out,<- Qp]
def MaxW (w:World):Prop:=(∃ m:Int,w.cell? ⟨0,0,none⟩=some (.int .i64 m))/\0 < w.heap.size
theorem MaxW.grow {w w':World} (h:MaxW w) (hb:Below w.heap.size w w'):MaxW w':=by
 obtain ⟨⟨m,hm⟩,hz⟩:=h;exact ⟨⟨m,by rw [hb.cell (p:=⟨0,0,none⟩) hz];exact hm⟩,Nat.lt_of_lt_of_le hz hb.size⟩
theorem kQ7 (w:World) (n:Nat):Below w.heap.size w (w.drewN n):=⟨rfl,rfl,rfl,Nat.le_refl _,fun _ _=>rfl⟩
theorem jJQ (s:ByteArray) (hs:s.size<=1000000000) (w:World) (hM:MaxW w) :
  (46 ∉ s.data.toList/\Calls Tryz.prog 206 #[.string s,.string ⟨#[46]⟩] w fun e w'=>e=.returned (.tuple #[.string s,.string ⟨#[]⟩,.bool false])/\Below w.heap.size w w')∨
  (∃ p r:ByteArray,s.data.toList=p.data.toList++46 :: r.data.toList/\46 ∉ p.data.toList/\Calls Tryz.prog 206 #[.string s,.string ⟨#[46]⟩] w fun e w'=>e=.returned (.tuple #[.string p,.string r,.bool true])/\Below w.heap.size w w'):=by
 obtain ⟨⟨m,hm⟩,_⟩:=hM;have hc:=Tryz.strings_Cut s ⟨#[46]⟩ m w (by omega) hm;have e46:(⟨#[46]⟩:ByteArray).data.toList=[46]:=rfl;rw [e46] at hc
 rcases xJS s.data.toList with ⟨h,e⟩ | ⟨p,r,e1,e2,e3⟩
 · refine .inl ⟨h,hc.mono ?_⟩;rintro e0 w' ⟨rfl,n,rfl⟩;rw [e];exact ⟨rfl,kQ7 w n⟩
 · refine .inr ⟨⟨p.toArray⟩,⟨r.toArray⟩,by rw [Jb,Jb];exact e1,by rw [Jb];exact e2,hc.mono ?_⟩;rintro e0 w' ⟨rfl,n,rfl⟩;rw [e3];exact ⟨rfl,kQ7 w n⟩
def jYs (s:ByteArray) (w:World) (t i:Value) (wr:World):Prop:=∃ (k:Nat) (u:ByteArray),k<=8/\t=.string u/\i=.int .i64 k/\u.size<=s.size/\Hid (allF 8 s.data.toList=allF (8 - k) u.data.toList)/\Hid (Below w.heap.size w wr)
theorem all_c (s:ByteArray) (hs:s.size<=1000000000) (w:World) (hM:MaxW w) :
  Calls Tryz.prog 176 #[.string s,.func (.func 178) #[] #[]] w fun e w'=>e=.returned (.bool (Yx s.data.toList))/\Below w.heap.size w w':=by
 have HM:=Zh hM;clear hM;have hte:=kJM s.data.toList;rw [Qx] at hte
 by_cases h40:40 < s.size
 ·
  have HT:Hid (Yx s.data.toList=false):=by
   show Yx s.data.toList=false;rw [hte,decide_eq_false (by omega)];rfl
  clear hte;go_enter Tryz.func176,Tryz.ntmps176;go_wp2_with fail;go_ret;exact ⟨Qq HT.out.symm,.refl _ _⟩
 ·
  have HT:Hid (Yx s.data.toList=allF 8 s.data.toList):=by
   show Yx s.data.toList=_;rw [hte,decide_eq_true (by omega)];rfl
  clear hte;go_enter Tryz.func176,Tryz.ntmps176;go_wp2_with fail;go_loopw [0,11] (fun t i wr=>jYs s w t i wr) (fun _ i _=>8 - (intOf i).toNat)
  case atStart=>exact ⟨0,s,by omega,rfl,rfl,Nat.le_refl _,rfl,.refl _ _⟩
  case round=>
   obtain ⟨k,u,hk,rfl,rfl,hu,HA,HB⟩:=hrel;obtain ⟨wo,rfl⟩:∃ wo,wo=wr:=⟨_,rfl⟩
   by_cases hlt:k < 8
   ·
    rcases jJQ u (by omega) wo (HM.out.grow HB.out) with ⟨hno,hc⟩ | ⟨p,r,e1,e2,hc⟩
    ·
     have HC:=Zh hc
     have HF:Hid (Yx s.data.toList=Z1 u.data.toList):=by
      show Yx s.data.toList=_;rw [HT.out,HA.out,show 8 - k=(7 - k)+1 by omega,kJG hno]
     clear hc hno HA;go_wp2_with fail;refine HC.out.mono ?_;rintro e w1 ⟨rfl,hb1⟩;go_wp2_with fail;refine (qJ3 u (by omega) _).mono ?_;rintro e w2 ⟨rfl,hb2⟩;have KB:=Zh ((HB.out.trans (hb1.mono HB.out.size)).trans (hb2.mono (Nat.le_trans HB.out.size hb1.size)));clear hb1 hb2;cases hpb:Z1 u.data.toList with
     | true=>
      have HP:=Zh hpb;clear hpb;go_wp2_with fail;go_ret;exact ⟨Qq (by rw [HF.out,HP.out]),KB.out⟩
     | false=>
      have HP:=Zh hpb;clear hpb;go_wp2_with fail;go_ret;exact ⟨Qq (by rw [HF.out,HP.out]),KB.out⟩
    ·
     have HC:=Zh hc
     have hsz:p.size+1+r.size=u.size:=by
      have:=congrArg List.length e1;rw [List.length_append,List.length_cons,Qx,Qx,Qx] at this;omega
     have hps:p.size<=1000000000:=by omega
     have hrs:r.size<=s.size:=by omega
     have HF:Hid (Yx s.data.toList=(Z1 p.data.toList&&allF (8 - (k+1)) r.data.toList)):=by
      show Yx s.data.toList=_;rw [HT.out,HA.out,show 8 - k=(8 - (k+1))+1 by omega,e1,vJg e2]
     have HA2:Hid (Z1 p.data.toList=true->allF 8 s.data.toList=allF (8 - (k+1)) r.data.toList):=fun h=>by
      rw [<- HT.out,HF.out,h,Bool.true_and]
     clear hc HA e1 e2 hsz;go_wp2_with fail;refine HC.out.mono ?_;rintro e w1 ⟨rfl,hb1⟩;go_wp2_with fail;refine (qJ3 p hps _).mono ?_;rintro e w2 ⟨rfl,hb2⟩;have KB:=Zh ((HB.out.trans (hb1.mono HB.out.size)).trans (hb2.mono (Nat.le_trans HB.out.size hb1.size)));clear hb1 hb2 HB;cases hpb:Z1 p.data.toList with
     | true=>
      have HP:=Zh (HA2.out hpb);clear hpb HA2 HF;go_wp2_with fail;go_roundw
      case rel=>exact ⟨k+1,r,by omega,rfl,by go_num,hrs,HP,KB⟩
      case measure=>simp [intOf]<;>omega
     | false=>
      have HP:Hid (Yx s.data.toList=false):=by
       show Yx s.data.toList=false;rw [HF.out,hpb,Bool.false_and]
      clear hpb HA2 HF;go_wp2_with fail;go_ret;exact ⟨Qq HP.out.symm,KB.out⟩
   ·
    have HP:Hid (Yx s.data.toList=false):=by
     show Yx s.data.toList=false;rw [HT.out,HA.out,show 8 - k=0 by omega,kJN]
    clear HA HT;go_wp2_with fail;go_ret;exact ⟨Qq HP.out.symm,HB.out⟩
theorem qQD (s:ByteArray) (hs:s.size<=1000000000) (w:World) (hM:MaxW w):Calls Tryz.prog 175 #[.string s] w fun e w'=>e=.returned (.bool (Yx s.data.toList))/\Below w.heap.size w w':=by
 go_enter Tryz.func175,Tryz.ntmps175;go_wp2_with fail;refine (all_c s hs _ hM).mono ?_;rintro e w1 ⟨rfl,hb1⟩;go_wp2_with fail;go_ret;exact ⟨rfl,hb1⟩
theorem Xp (s:ByteArray) (hs:s.size<=1000000000) (w:World) (hM:MaxW w):Calls Tryz.prog 121 #[.string s] w fun e w'=>e=.returned (.bool (Q5 s.data.toList))/\Below w.heap.size w w':=by
 have HM:=Zh hM;clear hM
 by_cases h16:s.size<=16
 ·
  have hd:=zJE s.data.toList;cases hdc:s.data.toList.contains 46 with
  | true=>
   have HT:Hid (Q5 s.data.toList=false):=by
    show Q5 s.data.toList=false;unfold Q5;rw [hdc];simp
   rw [hdc] at hd;have HD:=Zh hd;clear hd hdc;go_enter Tryz.func121,Tryz.ntmps121;go_wp2_with fail;refine (Tryz.strings_Contains_one s 46 _).mono ?_;rintro e w1 ⟨rfl,rfl⟩;rw [HD.out];go_wp2_with fail;go_ret;exact ⟨Qq HT.out.symm,.refl _ _⟩
  | false=>
   have HT:Hid (Q5 s.data.toList=Yx s.data.toList):=by
    show Q5 s.data.toList=_;unfold Q5;rw [hdc,Qx,decide_eq_true h16];rfl
   rw [hdc] at hd;have HD:=Zh hd;clear hd hdc;go_enter Tryz.func121,Tryz.ntmps121;go_wp2_with fail;refine (Tryz.strings_Contains_one s 46 _).mono ?_;rintro e w1 ⟨rfl,rfl⟩;rw [HD.out];go_wp2_with fail;refine (qQD s hs _ HM.out).mono ?_;rintro e w1 ⟨rfl,hb1⟩;go_wp2_with fail;go_ret;exact ⟨Qq HT.out.symm,hb1⟩
 ·
  have HT:Hid (Q5 s.data.toList=false):=by
   show Q5 s.data.toList=false;unfold Q5;rw [Qx,decide_eq_false h16];rfl
  go_enter Tryz.func121,Tryz.ntmps121;go_wp2_with fail;go_ret;exact ⟨Qq HT.out.symm,.refl _ _⟩
end Go.Proofs.YtcbicdencgjfiaaGreatDoor
namespace Tryst
open Go Go.Lib
inductive Pr where
 | mk (op s:ByteArray) (num:Bool) (n:Int) (vs:ByteArray) (l:List Pr)
namespace Pr
def op:Pr->ByteArray | mk o _ _ _ _ _=>o
def s:Pr->ByteArray | mk _ s _ _ _ _=>s
def num:Pr->Bool | mk _ _ b _ _ _=>b
def n:Pr->Int | mk _ _ _ n _ _=>n
def vs:Pr->ByteArray | mk _ _ _ _ v _=>v
def l:Pr->List Pr | mk _ _ _ _ _ l=>l
def v (p:Pr):V:=⟨p.num,p.n,p.vs.data.toList⟩
def zero:Pr:=mk ⟨#[]⟩ ⟨#[]⟩ false 0 ⟨#[]⟩ []
end Pr
def Xb (p:List UInt8):Bool:=decide (p=[42])||(decide (p=[42,42])||Z1 p)
def Yz (s:List UInt8):Bool:=decide (s.length<=40)&&decide ((dots s).length<=8)&&(dots s).all Xb
inductive Opk where
 | all | topic | has | eq | lt | not | and | or
def Opk.text:Opk->ByteArray
 | .all=>⟨#[97,108,108]⟩
 | .topic=>⟨#[116,111,112,105,99]⟩
 | .has=>⟨#[104,97,115]⟩
 | .eq=>⟨#[101,113]⟩
 | .lt=>⟨#[108,116]⟩
 | .not=>⟨#[110,111,116]⟩
 | .and=>⟨#[97,110,100]⟩
 | .or=>⟨#[111,114]⟩
def opk (o:ByteArray):Option Opk:=
 if o.data.toList=[97,108,108] then some .all
 else if o.data.toList=[116,111,112,105,99] then some .topic
 else if o.data.toList=[104,97,115] then some .has
 else if o.data.toList=[101,113] then some .eq
 else if o.data.toList=[108,116] then some .lt
 else if o.data.toList=[110,111,116] then some .not
 else if o.data.toList=[97,110,100] then some .and
 else if o.data.toList=[111,114] then some .or
 else none
theorem jJM (o:ByteArray):(∃ k:Opk,o=k.text)∨(opk o=none/\(o.toList==[97,108,108])=false/\(o.toList==[116,111,112,105,99])=false/\(o.toList==[104,97,115])=false/\(o.toList==[101,113])=false/\(o.toList==[108,116])=false/\(o.toList==[110,111,116])=false/\(o.toList==[97,110,100])=false/\(o.toList==[111,114])=false):=by
 have key:∀ (k:Opk) (l:List UInt8),k.text.data.toList=l->o.data.toList=l->∃ k:Opk,o=k.text:=fun k l h1 h2=>⟨k,Xk (h2.trans h1.symm)⟩
 by_cases h1:o.data.toList=[97,108,108]
 · exact .inl (key .all _ rfl h1)
 by_cases h2:o.data.toList=[116,111,112,105,99]
 · exact .inl (key .topic _ rfl h2)
 by_cases h3:o.data.toList=[104,97,115]
 · exact .inl (key .has _ rfl h3)
 by_cases h4:o.data.toList=[101,113]
 · exact .inl (key .eq _ rfl h4)
 by_cases h5:o.data.toList=[108,116]
 · exact .inl (key .lt _ rfl h5)
 by_cases h6:o.data.toList=[110,111,116]
 · exact .inl (key .not _ rfl h6)
 by_cases h7:o.data.toList=[97,110,100]
 · exact .inl (key .and _ rfl h7)
 by_cases h8:o.data.toList=[111,114]
 · exact .inl (key .or _ rfl h8)
 refine .inr ⟨by simp only [opk,h1,h2,h3,h4,h5,h6,h7,h8,if_false],?_,?_,?_,?_,?_,?_,?_,?_⟩<;>rw [Qp]<;>simp [*]
theorem xQi (k:Opk):opk k.text=some k:=by cases k<;>rfl
def noV (num:Bool) (n:Int) (vs:ByteArray):Bool:=!num&&(decide (n=0)&&decide (vs.size=0))
def Z6 (op s:ByteArray) (num:Bool) (n:Int) (vs:ByteArray) (len:Nat):Bool:=
 match opk op with
 | none=>false
 | some .all=>decide (s.size=0)&&(noV num n vs&&decide (len=0))
 | some .topic=>Yz s.data.toList&&(noV num n vs&&decide (len=0))
 | some .has=>Q5 s.data.toList&&(noV num n vs&&decide (len=0))
 | some .eq=>Q5 s.data.toList&&(Go.Proofs.YtcbicdencgjfiaaGreatDoor.V.mayB ⟨num,n,vs.data.toList⟩&&decide (len=0))
 | some .lt=>Q5 s.data.toList&&(Go.Proofs.YtcbicdencgjfiaaGreatDoor.V.mayB ⟨num,n,vs.data.toList⟩&&decide (len=0))
 | some .not=>decide (s.size=0)&&(noV num n vs&&decide (len=1))
 | some .and=>decide (s.size=0)&&(noV num n vs&&decide (len=2))
 | some .or=>decide (s.size=0)&&(noV num n vs&&decide (len=2))
def Jj (k:Opk) (s:ByteArray) (num:Bool) (n:Int) (vs:ByteArray) (len:Nat):Bool:=
 match k with
 | .all=>decide (s.size=0)&&(noV num n vs&&decide (len=0))
 | .topic=>Yz s.data.toList&&(noV num n vs&&decide (len=0))
 | .has=>Q5 s.data.toList&&(noV num n vs&&decide (len=0))
 | .eq=>Q5 s.data.toList&&(Go.Proofs.YtcbicdencgjfiaaGreatDoor.V.mayB ⟨num,n,vs.data.toList⟩&&decide (len=0))
 | .lt=>Q5 s.data.toList&&(Go.Proofs.YtcbicdencgjfiaaGreatDoor.V.mayB ⟨num,n,vs.data.toList⟩&&decide (len=0))
 | .not=>decide (s.size=0)&&(noV num n vs&&decide (len=1))
 | .and=>decide (s.size=0)&&(noV num n vs&&decide (len=2))
 | .or=>decide (s.size=0)&&(noV num n vs&&decide (len=2))
theorem Yf (k:Opk) (s:ByteArray) (num:Bool) (n:Int) (vs:ByteArray) (len:Nat):Z6 k.text s num n vs len=Jj k s num n vs len:=by
 unfold Z6;rw [xQi];cases k<;>rfl
mutual
def X9:Pr->Nat->Nat->(Nat × Bool) × Nat
 | .mk op s num n vs l,room,nodes=>
  if room=0∨40 < nodes+1∨Z6 op s num n vs l.length=false then ((1,false),nodes+1)
  else match jQI l (room - 1) (nodes+1) 0 with
   | ((d,true),m)=>((d+1,true),m)
   | ((_,false),m)=>((1,false),m)
def jQI:List Pr->Nat->Nat->Nat->(Nat × Bool) × Nat
 | [],_,nodes,d=>((d,true),nodes)
 | q :: r,room,nodes,d=>match X9 q room nodes with
  | ((b,true),m)=>jQI r room m (max d b)
  | ((_,false),m)=>((0,false),m)
end
def mayP (p:Pr):Bool:=(X9 p 8 0).1.2&&decide ((X9 p 8 0).1.1<=8)
end Tryst
namespace Tryst
open Go
section
variable {g t:List (List UInt8)}
end
open Go.Lib
mutual
def Kg:Pr->Nat->Bool
 | .mk op s num n vs l,room=>decide (room≠0)&&(Z6 op s num n vs l.length&&jQL l (room - 1))
def jQL:List Pr->Nat->Bool
 | [],_=>true
 | q :: r,room=>Kg q room&&jQL r room
end
mutual
def Q9:Pr->Nat
 | .mk _ _ _ _ _ l=>1+J3 l
def J3:List Pr->Nat
 | []=>0
 | q :: r=>Q9 q+J3 r
end
theorem qJF (p:Pr):1<=Q9 p:=by
 cases p;rw [Q9];omega
mutual
theorem xQz:∀ (p:Pr) (room k:Nat),(X9 p room k).1.2=(Kg p room&&decide (k+Q9 p<=40))/\((X9 p room k).1.2=true->(X9 p room k).2=k+Q9 p/\(X9 p room k).1.1<=room)
 | .mk op s num n vs l,room,k=>by
  rw [X9,Kg,Q9]
  by_cases h:room=0∨40 < k+1∨Z6 op s num n vs l.length=false
  ·
   rw [if_pos h];refine ⟨?_,fun e=>by cases e⟩
   rcases h with h | h | h
   · simp [h]
   ·
    have:¬ (k+(1+J3 l)<=40):=by omega
    simp [this]
   · simp [h]
  ·
   rw [if_neg h];have h1:room≠0:=fun e=>h (.inl e)
   have h2:k+1<=40:=by
    have:=fun e=>h (.inr (.inl e))
    omega
   have h3:Z6 op s num n vs l.length=true:=by
    cases e:Z6 op s num n vs l.length with
    | false=>exact absurd (.inr (.inr e)) h
    | true=>rfl
   obtain ⟨e1,e2⟩:=jJc l (room - 1) (k+1) 0 h2 (Nat.zero_le _);rw [h3];have hk:k+(1+J3 l)=k+1+J3 l:=by omega
   rw [hk]
   rcases hd:jQI l (room - 1) (k+1) 0 with ⟨⟨d,b⟩,m⟩
   rw [hd] at e1 e2;cases b with
   | true=>
    obtain ⟨e3,e4⟩:=e2 rfl;refine ⟨?_,fun _=>⟨e3,?_⟩⟩
    · show true=_;simp only [h1,ne_eq,not_false_eq_true,decide_true,Bool.true_and];exact e1
    · show d+1<=room;have e4:d<=room - 1:=e4;omega
   | false=>
    refine ⟨?_,fun e=>by cases e⟩;show false=_;simp only [h1,ne_eq,not_false_eq_true,decide_true,Bool.true_and];exact e1
theorem jJc:∀ (l:List Pr) (room k d:Nat),k<=40->d<=room->(jQI l room k d).1.2=(jQL l room&&decide (k+J3 l<=40))/\((jQI l room k d).1.2=true->(jQI l room k d).2=k+J3 l/\(jQI l room k d).1.1<=room)
 | [],room,k,d,hk,hd=>by
  rw [jQI,jQL,J3];exact ⟨by simp [hk],fun _=>⟨rfl,hd⟩⟩
 | q :: r,room,k,d,hk,hd=>by
  rw [jQI,jQL,J3];obtain ⟨e1,e2⟩:=xQz q room k
  rcases hq:X9 q room k with ⟨⟨b,ok⟩,m⟩
  rw [hq] at e1 e2;cases ok with
  | true=>
   obtain ⟨rfl,e4⟩:=e2 rfl;have e1:true=(Kg q room&&decide (k+Q9 q<=40)):=e1;have e5:=e1.symm;rw [Bool.and_eq_true,decide_eq_true_eq] at e5;have e4:b<=room:=e4;obtain ⟨f1,f2⟩:=jJc r room (k+Q9 q) (max d b) e5.2 (by omega);have hn:k+(Q9 q+J3 r)=k+Q9 q+J3 r:=by omega
   rw [hn,e5.1,Bool.true_and];exact ⟨f1,f2⟩
  | false=>
   refine ⟨?_,fun e=>by cases e⟩;show false=_;have e1:false=(Kg q room&&decide (k+Q9 q<=40)):=e1
   rcases Bool.and_eq_false_iff.1 e1.symm with e | e
   · rw [e];rfl
   ·
    have:¬ (k+(Q9 q+J3 r)<=40):=by
     simp only [decide_eq_false_iff_not] at e;omega
    simp [this]
end
theorem qQi (p:Pr):mayP p=(Kg p 8&&decide (Q9 p<=40)):=by
 obtain ⟨h1,h2⟩:=xQz p 8 0;unfold mayP;rw [Nat.zero_add] at h1;cases hb:(X9 p 8 0).1.2 with
 | false=>rw [<- h1,hb];rfl
 | true=>
  rw [<- h1,hb];have:=(h2 hb).2;simp [this]
end Tryst
namespace Go.Proofs.YtcbicdencgjfiaaGreatDoor
open Go.RowKit Tryst
theorem qJY (u:ByteArray) (hs:u.size<=1000000000) (w:World):Calls Tryz.prog 177 #[.string u] w fun e w'=>e=.returned (.bool (Xb u.data.toList))/\Below w.heap.size w w':=by
 by_cases h1:u.data.toList=[42]
 ·
  have e1:(u.toList==[42])=true:=by rw [Qp,h1];rfl
  have HT:Hid (Xb u.data.toList=true):=by show Xb _=true;unfold Xb;rw [h1];rfl
  clear h1;go_enter Tryz.func177,Tryz.ntmps177;go_wp2_with fail;go_ret;exact ⟨Qq HT.out.symm,.refl _ _⟩
 ·
  have e1:(u.toList==[42])=false:=by rw [Qp];simpa using h1
  by_cases h2:u.data.toList=[42,42]
  ·
   have e2:(u.toList==[42,42])=true:=by rw [Qp,h2];rfl
   have HT:Hid (Xb u.data.toList=true):=by show Xb _=true;unfold Xb;rw [h2];rfl
   clear h1 h2;go_enter Tryz.func177,Tryz.ntmps177;go_wp2_with fail;go_ret;exact ⟨Qq HT.out.symm,.refl _ _⟩
  ·
   have e2:(u.toList==[42,42])=false:=by rw [Qp];simpa using h2
   have HT:Hid (Xb u.data.toList=Z1 u.data.toList):=by
    show Xb _=_;unfold Xb;rw [decide_eq_false h1,decide_eq_false h2];rfl
   clear h1 h2;go_enter Tryz.func177,Tryz.ntmps177;go_wp2_with fail;refine (qJ3 u hs _).mono ?_;rintro e w1 ⟨rfl,hb1⟩;go_wp2_with fail;go_ret;exact ⟨Qq HT.out.symm,hb1⟩
end Go.Proofs.YtcbicdencgjfiaaGreatDoor
namespace Tryst
def jQv (k:Nat) (s:List UInt8):Bool:=decide ((dots s).length<=k)&&(dots s).all Xb
theorem qJ9 {k:Nat} {s:List UInt8} (h:46 ∉ s):jQv (k+1) s=Xb s:=by
 unfold jQv;rw [vQf s h];simp
theorem kJO {k:Nat} {p r:List UInt8} (h:46 ∉ p):jQv (k+1) (p++46 :: r)=(Xb p&&jQv k r):=by
 unfold jQv;rw [jJa p r h];simp only [List.length_cons,List.all_cons,Nat.add_le_add_iff_right];cases Xb p<;>simp
theorem jJp (s:List UInt8):jQv 0 s=false:=by
 unfold jQv;have:=List.length_pos_iff.2 (kJ8 s);rw [decide_eq_false (by omega)];rfl
theorem zJl (s:List UInt8):Yz s=(decide (s.length<=40)&&jQv 8 s):=by
 unfold Yz jQv;rw [Bool.and_assoc]
end Tryst
namespace Go.Proofs.YtcbicdencgjfiaaGreatDoor
open Go.RowKit Tryst
def xJ5 (s:ByteArray) (w:World) (t i:Value) (wr:World):Prop:=∃ (k:Nat) (u:ByteArray),k<=8/\t=.string u/\i=.int .i64 k/\u.size<=s.size/\Hid (jQv 8 s.data.toList=jQv (8 - k) u.data.toList)/\Hid (Below w.heap.size w wr)
theorem jYY (s:ByteArray) (hs:s.size<=1000000000) (w:World) (hM:MaxW w) :
  Calls Tryz.prog 176 #[.string s,.func (.func 177) #[] #[]] w fun e w'=>e=.returned (.bool (Yz s.data.toList))/\Below w.heap.size w w':=by
 have HM:=Zh hM;clear hM;have hte:=zJl s.data.toList;rw [Qx] at hte
 by_cases h40:40 < s.size
 ·
  have HT:Hid (Yz s.data.toList=false):=by
   show Yz s.data.toList=false;rw [hte,decide_eq_false (by omega)];rfl
  clear hte;go_enter Tryz.func176,Tryz.ntmps176;go_wp2_with fail;go_ret;exact ⟨Qq HT.out.symm,.refl _ _⟩
 ·
  have HT:Hid (Yz s.data.toList=jQv 8 s.data.toList):=by
   show Yz s.data.toList=_;rw [hte,decide_eq_true (by omega)];rfl
  clear hte;go_enter Tryz.func176,Tryz.ntmps176;go_wp2_with fail;go_loopw [0,11] (fun t i wr=>xJ5 s w t i wr) (fun _ i _=>8 - (intOf i).toNat)
  case atStart=>exact ⟨0,s,by omega,rfl,rfl,Nat.le_refl _,rfl,.refl _ _⟩
  case round=>
   obtain ⟨k,u,hk,rfl,rfl,hu,HA,HB⟩:=hrel;obtain ⟨wo,rfl⟩:∃ wo,wo=wr:=⟨_,rfl⟩
   by_cases hlt:k < 8
   ·
    rcases jJQ u (by omega) wo (HM.out.grow HB.out) with ⟨hno,hc⟩ | ⟨p,r,e1,e2,hc⟩
    ·
     have HC:=Zh hc
     have HF:Hid (Yz s.data.toList=Xb u.data.toList):=by
      show Yz s.data.toList=_;rw [HT.out,HA.out,show 8 - k=(7 - k)+1 by omega,qJ9 hno]
     clear hc hno HA;go_wp2_with fail;refine HC.out.mono ?_;rintro e w1 ⟨rfl,hb1⟩;go_wp2_with fail;refine (qJY u (by omega) _).mono ?_;rintro e w2 ⟨rfl,hb2⟩;have KB:=Zh ((HB.out.trans (hb1.mono HB.out.size)).trans (hb2.mono (Nat.le_trans HB.out.size hb1.size)));clear hb1 hb2;cases hpb:Xb u.data.toList with
     | true=>
      have HP:=Zh hpb;clear hpb;go_wp2_with fail;go_ret;exact ⟨Qq (by rw [HF.out,HP.out]),KB.out⟩
     | false=>
      have HP:=Zh hpb;clear hpb;go_wp2_with fail;go_ret;exact ⟨Qq (by rw [HF.out,HP.out]),KB.out⟩
    ·
     have HC:=Zh hc
     have hsz:p.size+1+r.size=u.size:=by
      have:=congrArg List.length e1;rw [List.length_append,List.length_cons,Qx,Qx,Qx] at this;omega
     have hps:p.size<=1000000000:=by omega
     have hrs:r.size<=s.size:=by omega
     have HF:Hid (Yz s.data.toList=(Xb p.data.toList&&jQv (8 - (k+1)) r.data.toList)):=by
      show Yz s.data.toList=_;rw [HT.out,HA.out,show 8 - k=(8 - (k+1))+1 by omega,e1,kJO e2]
     have HA2:Hid (Xb p.data.toList=true->jQv 8 s.data.toList=jQv (8 - (k+1)) r.data.toList):=fun h=>by
      rw [<- HT.out,HF.out,h,Bool.true_and]
     clear hc HA e1 e2 hsz;go_wp2_with fail;refine HC.out.mono ?_;rintro e w1 ⟨rfl,hb1⟩;go_wp2_with fail;refine (qJY p hps _).mono ?_;rintro e w2 ⟨rfl,hb2⟩;have KB:=Zh ((HB.out.trans (hb1.mono HB.out.size)).trans (hb2.mono (Nat.le_trans HB.out.size hb1.size)));clear hb1 hb2 HB;cases hpb:Xb p.data.toList with
     | true=>
      have HP:=Zh (HA2.out hpb);clear hpb HA2 HF;go_wp2_with fail;go_roundw
      case rel=>exact ⟨k+1,r,by omega,rfl,by go_num,hrs,HP,KB⟩
      case measure=>simp [intOf]<;>omega
     | false=>
      have HP:Hid (Yz s.data.toList=false):=by
       show Yz s.data.toList=false;rw [HF.out,hpb,Bool.false_and]
      clear hpb HA2 HF;go_wp2_with fail;go_ret;exact ⟨Qq HP.out.symm,KB.out⟩
   ·
    have HP:Hid (Yz s.data.toList=false):=by
     show Yz s.data.toList=false;rw [HT.out,HA.out,show 8 - k=0 by omega,jJp]
    clear HA HT;go_wp2_with fail;go_ret;exact ⟨Qq HP.out.symm,HB.out⟩
theorem zJP (s:ByteArray) (hs:s.size<=1000000000) (w:World) (hM:MaxW w):Calls Tryz.prog 125 #[.string s] w fun e w'=>e=.returned (.bool (Yz s.data.toList))/\Below w.heap.size w w':=by
 go_enter Tryz.func125,Tryz.ntmps125;go_wp2_with fail;refine (jYY s hs _ hM).mono ?_;rintro e w1 ⟨rfl,hb1⟩;go_wp2_with fail;go_ret;exact ⟨rfl,hb1⟩
structure PBox (w:World) (b:Nat) (op s:ByteArray) (num:Bool) (n:Int) (vs:ByteArray) (u:Value):Prop where
 c0:w.cell? ⟨b,0,none⟩=some (.string op)
 c1:w.cell? ⟨b,1,none⟩=some (.string s)
 c2:w.cell? ⟨b,2,none⟩=some (.bool num)
 c3:w.cell? ⟨b,3,none⟩=some (.int .i64 n)
 c4:w.cell? ⟨b,4,none⟩=some (.string vs)
 c5:w.cell? ⟨b,5,none⟩=some u
 hz:b < w.heap.size
theorem PBox.new (w:World) (op s:ByteArray) (num:Bool) (n:Int) (vs:ByteArray) (u:Value) (T:TypeId):PBox (w.alloc (.cells #[.string op,.string s,.bool num,.int .i64 n,.string vs,u] T)) w.heap.size op s num n vs u:=by
 constructor<;>simp [go_sem]
theorem PBox.grow {v w:World} {b:Nat} {op s:ByteArray} {num:Bool} {n:Int} {vs:ByteArray} {u:Value} (h:PBox v b op s num n vs u) (hw:Below v.heap.size v w):PBox w b op s num n vs u:=by
 obtain ⟨h0,h1,h2,h3,h4,h5,h6⟩:=h;exact ⟨by rw [hw.cell (p:=⟨b,0,none⟩) h6];exact h0,by rw [hw.cell (p:=⟨b,1,none⟩) h6];exact h1,by rw [hw.cell (p:=⟨b,2,none⟩) h6];exact h2,by rw [hw.cell (p:=⟨b,3,none⟩) h6];exact h3,by rw [hw.cell (p:=⟨b,4,none⟩) h6];exact h4,by rw [hw.cell (p:=⟨b,5,none⟩) h6];exact h5,Nat.lt_of_lt_of_le h6 hw.size⟩
