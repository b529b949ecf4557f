import Derived.Deep.RegionWith
import Derived.Deep.Cut
import Derived.Maps.OwnSet
import Derived.Maps.Views
import Derived.StringKeys
import Derived.DeepKeys5
import Derived.IntWalk
import Derived.Test.YtcbicdencgjfiaaGreatDoorDraws
import Derived.Test.YtcbicdencgjfiaaGreatDoorFacts
import Derived.Test.YtcbicdencgjfiaaGreatDoorFldG
import Derived.Test.YtcbicdencgjfiaaGreatDoorPrF
import Derived.Test.YtcbicdencgjfiaaGreatDoorRowK
import Derived.Test.YtcbicdencgjfiaaGreatDoorShelf
set_option linter.all false
set_option maxHeartbeats 400000
set_option maxRecDepth 20000
namespace Go.Proofs.YtcbicdencgjfiaaGreatDoor
open Go.RowKit Tryst
def Zv (r:Int):Bool:=decide (97<=r/\r<=122)||decide (48<=r/\r<=57)||decide (r=95)
theorem xQH (r:Int) (h0:0<=r) (h1:r<=2147483647) (w:World):Calls Tryz.prog 207 #[.int .i32 r] w fun e w'=>e=.returned (.bool (Zv r))/\w=w':=by
 by_cases ha:97<=r
 ·
  by_cases hb:r<=122
  ·
   have e:Zv r=true:=by unfold Zv;simp;omega
   have E:=Zh e;clear e;go_enter Tryz.func207,Tryz.ntmps207;go_wp2_with fail;go_ret;exact ⟨Qq E.out.symm,rfl⟩
  ·
   have hc:48<=r:=by omega
   have hd:¬ r<=57:=by omega
   have hn:(r==95)=false:=by simp;omega
   have e:Zv r=false:=by unfold Zv;simp;omega
   have E:=Zh e;clear e;go_enter Tryz.func207,Tryz.ntmps207;go_wp2_with fail;go_ret;exact ⟨Qq E.out.symm,rfl⟩
 ·
  by_cases hc:48<=r
  ·
   by_cases hd:r<=57
   ·
    have e:Zv r=true:=by unfold Zv;simp;omega
    have E:=Zh e;clear e;go_enter Tryz.func207,Tryz.ntmps207;go_wp2_with fail;go_ret;exact ⟨Qq E.out.symm,rfl⟩
   ·
    have e:Zv r=(r==95):=by
     by_cases h:r=95
     · subst h;rfl
     ·
      have h':(r==95)=false:=by simpa using h
      rw [h'];unfold Zv;simp;omega
    have E:=Zh e;clear e;go_enter Tryz.func207,Tryz.ntmps207;go_wp2_with fail;go_ret;exact ⟨Qq E.out.symm,rfl⟩
  ·
   have hn:(r==95)=false:=by simp;omega
   have e:Zv r=false:=by unfold Zv;simp;omega
   have E:=Zh e;clear e;go_enter Tryz.func207,Tryz.ntmps207;go_wp2_with fail;go_ret;exact ⟨Qq E.out.symm,rfl⟩
def xJn (s:ByteArray) (w:World) (wr:World):Prop:=∃ pos:Nat,wr=w.iter s pos/\pos<=s.size/\Hid (∀ (j:Nat) (h:j < s.size),j < pos->qQE s[j]=true)
theorem qJ3 (s:ByteArray) (hs:s.size<=1000000000) (w:World):Calls Tryz.prog 178 #[.string s] w fun e w'=>e=.returned (.bool (Z1 s.data.toList))/\Below w.heap.size w w':=by
 go_enter Tryz.func178,Tryz.ntmps178;go_wp2_with fail;go_loopw [5] (fun _ wr=>xJn s w wr) (fun _ wr=>s.size - wr.iterPos w.heap.size)
 case atStart=>exact ⟨0,rfl,by omega,fun j _ h=>by omega⟩
 case round=>
  obtain ⟨pos,rfl,hp,HA⟩:=hrel
  by_cases hlt:pos < s.size
  ·
   obtain ⟨c,hc⟩:∃ c,s[pos].toNat=c:=⟨_,rfl⟩;have hcl:c < 256:=hc ▸ s[pos].toNat_lt
   by_cases hasc:c < 128
   ·
    have hnx:=fun ty=>run_next_ascii (P:=Tryz.prog) w s pos ty hlt (by omega)
    rw [hc] at hnx
    by_cases hok:qQE s[pos]=true
    ·
     have hr:Zv (c:Int)=true:=by
      unfold qQE at hok;rw [hc] at hok;unfold Zv;simp at hok ⊢;omega
     have HR:=Zh hr;have HK:=Zh hok;clear hr hok;go_wp2_with fail;refine (xQH c (by omega) (by omega) _).mono ?_;rintro e w1 ⟨rfl,rfl⟩;rw [HR.out];go_wp2_with fail;go_roundw
     case rel=>exact ⟨pos+1,rfl,by omega,fun j h hj=>by
      by_cases e:j=pos
      · subst e;exact HK.out
      · exact HA.out j h (by omega)⟩
     case measure=>simp;omega
    ·
     have hr:Zv (c:Int)=false:=by
      unfold qQE at hok;rw [hc] at hok;unfold Zv;simp at hok ⊢;omega
     have hbad:Z1 s.data.toList=false:=by
      unfold Z1
      have:s.data.toList.all qQE=false:=by
       rw [List.all_eq_false];exact ⟨s[pos],List.mem_of_getElem? (by rw [List.getElem?_eq_getElem (by simpa using hlt)];rfl),hok⟩
      rw [this,Bool.and_false]
     have HR:=Zh hr;have HB:=Zh hbad;clear hr hok hbad;go_wp2_with fail;refine (xQH c (by omega) (by omega) _).mono ?_;rintro e w1 ⟨rfl,rfl⟩;rw [HR.out];go_wp2_with fail;go_ret;exact ⟨Qq HB.out.symm,Qj _ (.refl _ _)⟩
   ·
    have hnx:=fun ty=>run_next_any (P:=Tryz.prog) w s pos ty hlt
    obtain ⟨hd1,hd2⟩:=decode_high s pos hlt (by omega);have hd3:=decode_le s pos;obtain ⟨D,hD⟩:∃ D,(Utf8.decode s pos).1=D:=⟨_,rfl⟩;rw [hD] at hnx hd1 hd3
    have hr:Zv (D:Int)=false:=by
     unfold Zv;simp;omega
    have hbad:Z1 s.data.toList=false:=by
     unfold Z1
     have:s.data.toList.all qQE=false:=by
      rw [List.all_eq_false];refine ⟨s[pos],List.mem_of_getElem? (by rw [List.getElem?_eq_getElem (by simpa using hlt)];rfl),?_⟩;unfold qQE;rw [hc];simp;omega
     rw [this,Bool.and_false]
    have HR:=Zh hr;have HB:=Zh hbad;clear hr hbad hD;go_wp2_with fail;refine (xQH D (by omega) (by omega) _).mono ?_;rintro e w1 ⟨rfl,rfl⟩;rw [HR.out];go_wp2_with fail;go_ret;exact ⟨Qq HB.out.symm,Qj _ (.refl _ _)⟩
  ·
   have hnx:=fun ty=>run_next_end (P:=Tryz.prog) w s pos ty hlt
   have hall:s.data.toList.all qQE=true:=by
    rw [List.all_eq_true];intro x hx;obtain ⟨j,hj,rfl⟩:=List.getElem_of_mem hx;exact HA.out j (by simpa using hj) (by simp at hj;omega)
   have HP:Hid (Z1 s.data.toList=!s.data.toList.isEmpty):=by
    show Z1 s.data.toList=_;unfold Z1;rw [hall,Bool.and_true]
   clear hall;go_wp2_with fail;go_ret;refine ⟨Qq ?_,Qj _ (.refl _ _)⟩;rw [HP.out,<- Qp]
def MaxW (w:World):Prop:=(∃ m:Int,w.cell? ⟨0,0,none⟩=some (.int .i64 m))/\0 < w.heap.size
theorem MaxW.grow {w w':World} (h:MaxW w) (hb:Below w.heap.size w w'):MaxW w':=by
 obtain ⟨⟨m,hm⟩,hz⟩:=h;exact ⟨⟨m,by rw [hb.cell (p:=⟨0,0,none⟩) hz];exact hm⟩,Nat.lt_of_lt_of_le hz hb.size⟩
theorem kQ7 (w:World) (n:Nat):Below w.heap.size w (w.drewN n):=⟨rfl,rfl,rfl,Nat.le_refl _,fun _ _=>rfl⟩
theorem jJQ (s:ByteArray) (hs:s.size<=1000000000) (w:World) (hM:MaxW w) :
  (46 ∉ s.data.toList/\Calls Tryz.prog 206 #[.string s,.string ⟨#[46]⟩] w fun e w'=>e=.returned (.tuple #[.string s,.string ⟨#[]⟩,.bool false])/\Below w.heap.size w w')∨
  (∃ p r:ByteArray,s.data.toList=p.data.toList++46 :: r.data.toList/\46 ∉ p.data.toList/\Calls Tryz.prog 206 #[.string s,.string ⟨#[46]⟩] w fun e w'=>e=.returned (.tuple #[.string p,.string r,.bool true])/\Below w.heap.size w w'):=by
 obtain ⟨⟨m,hm⟩,_⟩:=hM;have hc:=Tryz.strings_Cut s ⟨#[46]⟩ m w (by omega) hm;have e46:(⟨#[46]⟩:ByteArray).data.toList=[46]:=rfl;rw [e46] at hc
 rcases xJS s.data.toList with ⟨h,e⟩ | ⟨p,r,e1,e2,e3⟩
 · refine .inl ⟨h,hc.mono ?_⟩;rintro e0 w' ⟨rfl,n,rfl⟩;rw [e];exact ⟨rfl,kQ7 w n⟩
 · refine .inr ⟨⟨p.toArray⟩,⟨r.toArray⟩,by rw [Jb,Jb];exact e1,by rw [Jb];exact e2,hc.mono ?_⟩;rintro e0 w' ⟨rfl,n,rfl⟩;rw [e3];exact ⟨rfl,kQ7 w n⟩
def jYs (s:ByteArray) (w:World) (t i:Value) (wr:World):Prop:=∃ (k:Nat) (u:ByteArray),k<=8/\t=.string u/\i=.int .i64 k/\u.size<=s.size/\Hid (allF 8 s.data.toList=allF (8 - k) u.data.toList)/\Hid (Below w.heap.size w wr)
theorem all_c (s:ByteArray) (hs:s.size<=1000000000) (w:World) (hM:MaxW w) :
  Calls Tryz.prog 176 #[.string s,.func (.func 178) #[] #[]] w fun e w'=>e=.returned (.bool (Yx s.data.toList))/\Below w.heap.size w w':=by
 have HM:=Zh hM;clear hM;have hte:=kJM s.data.toList;rw [Qx] at hte
 by_cases h40:40 < s.size
 ·
  have HT:Hid (Yx s.data.toList=false):=by
   show Yx s.data.toList=false;rw [hte,decide_eq_false (by omega)];rfl
  clear hte;go_enter Tryz.func176,Tryz.ntmps176;go_wp2_with fail;go_ret;exact ⟨Qq HT.out.symm,.refl _ _⟩
 ·
  have HT:Hid (Yx s.data.toList=allF 8 s.data.toList):=by
   show Yx s.data.toList=_;rw [hte,decide_eq_true (by omega)];rfl
  clear hte;go_enter Tryz.func176,Tryz.ntmps176;go_wp2_with fail;go_loopw [0,11] (fun t i wr=>jYs s w t i wr) (fun _ i _=>8 - (intOf i).toNat)
  case atStart=>exact ⟨0,s,by omega,rfl,rfl,Nat.le_refl _,rfl,.refl _ _⟩
  case round=>
   obtain ⟨k,u,hk,rfl,rfl,hu,HA,HB⟩:=hrel;obtain ⟨wo,rfl⟩:∃ wo,wo=wr:=⟨_,rfl⟩
   by_cases hlt:k < 8
   ·
    rcases jJQ u (by omega) wo (HM.out.grow HB.out) with ⟨hno,hc⟩ | ⟨p,r,e1,e2,hc⟩
    ·
     have HC:=Zh hc
     have HF:Hid (Yx s.data.toList=Z1 u.data.toList):=by
      show Yx s.data.toList=_;rw [HT.out,HA.out,show 8 - k=(7 - k)+1 by omega,kJG hno]
     clear hc hno HA;go_wp2_with fail;refine HC.out.mono ?_;rintro e w1 ⟨rfl,hb1⟩;go_wp2_with fail;refine (qJ3 u (by omega) _).mono ?_;rintro e w2 ⟨rfl,hb2⟩;have KB:=Zh ((HB.out.trans (hb1.mono HB.out.size)).trans (hb2.mono (Nat.le_trans HB.out.size hb1.size)));clear hb1 hb2;cases hpb:Z1 u.data.toList with
     | true=>
      have HP:=Zh hpb;clear hpb;go_wp2_with fail;go_ret;exact ⟨Qq (by rw [HF.out,HP.out]),KB.out⟩
     | false=>
      have HP:=Zh hpb;clear hpb;go_wp2_with fail;go_ret;exact ⟨Qq (by rw [HF.out,HP.out]),KB.out⟩
    ·
     have HC:=Zh hc
     have hsz:p.size+1+r.size=u.size:=by
      have:=congrArg List.length e1;rw [List.length_append,List.length_cons,Qx,Qx,Qx] at this;omega
     have hps:p.size<=1000000000:=by omega
     have hrs:r.size<=s.size:=by omega
     have HF:Hid (Yx s.data.toList=(Z1 p.data.toList&&allF (8 - (k+1)) r.data.toList)):=by
      show Yx s.data.toList=_;rw [HT.out,HA.out,show 8 - k=(8 - (k+1))+1 by omega,e1,vJg e2]
     have HA2:Hid (Z1 p.data.toList=true->allF 8 s.data.toList=allF (8 - (k+1)) r.data.toList):=fun h=>by
      rw [<- HT.out,HF.out,h,Bool.true_and]
     clear hc HA e1 e2 hsz;go_wp2_with fail;refine HC.out.mono ?_;rintro e w1 ⟨rfl,hb1⟩;go_wp2_with fail;refine (qJ3 p hps _).mono ?_;rintro e w2 ⟨rfl,hb2⟩;have KB:=Zh ((HB.out.trans (hb1.mono HB.out.size)).trans (hb2.mono (Nat.le_trans HB.out.size hb1.size)));clear hb1 hb2 HB;cases hpb:Z1 p.data.toList with
     | true=>
      have HP:=Zh (HA2.out hpb);clear hpb HA2 HF;go_wp2_with fail;go_roundw
      case rel=>exact ⟨k+1,r,by omega,rfl,by go_num,hrs,HP,KB⟩
      case measure=>simp [intOf]<;>omega
     | false=>
      have HP:Hid (Yx s.data.toList=false):=by
       show Yx s.data.toList=false;rw [HF.out,hpb,Bool.false_and]
      clear hpb HA2 HF;go_wp2_with fail;go_ret;exact ⟨Qq HP.out.symm,KB.out⟩
   ·
    have HP:Hid (Yx s.data.toList=false):=by
     show Yx s.data.toList=false;rw [HT.out,HA.out,show 8 - k=0 by omega,kJN]
    clear HA HT;go_wp2_with fail;go_ret;exact ⟨Qq HP.out.symm,HB.out⟩
theorem qQD (s:ByteArray) (hs:s.size<=1000000000) (w:World) (hM:MaxW w):Calls Tryz.prog 175 #[.string s] w fun e w'=>e=.returned (.bool (Yx s.data.toList))/\Below w.heap.size w w':=by
 go_enter Tryz.func175,Tryz.ntmps175;go_wp2_with fail;refine (all_c s hs _ hM).mono ?_;rintro e w1 ⟨rfl,hb1⟩;go_wp2_with fail;go_ret;exact ⟨rfl,hb1⟩
theorem Xp (s:ByteArray) (hs:s.size<=1000000000) (w:World) (hM:MaxW w):Calls Tryz.prog 121 #[.string s] w fun e w'=>e=.returned (.bool (Q5 s.data.toList))/\Below w.heap.size w w':=by
 have HM:=Zh hM;clear hM
 by_cases h16:s.size<=16
 ·
  have hd:=zJE s.data.toList;cases hdc:s.data.toList.contains 46 with
  | true=>
   have HT:Hid (Q5 s.data.toList=false):=by
    show Q5 s.data.toList=false;unfold Q5;rw [hdc];simp
   rw [hdc] at hd;have HD:=Zh hd;clear hd hdc;go_enter Tryz.func121,Tryz.ntmps121;go_wp2_with fail;refine (Tryz.strings_Contains_one s 46 _).mono ?_;rintro e w1 ⟨rfl,rfl⟩;rw [HD.out];go_wp2_with fail;go_ret;exact ⟨Qq HT.out.symm,.refl _ _⟩
  | false=>
   have HT:Hid (Q5 s.data.toList=Yx s.data.toList):=by
    show Q5 s.data.toList=_;unfold Q5;rw [hdc,Qx,decide_eq_true h16];rfl
   rw [hdc] at hd;have HD:=Zh hd;clear hd hdc;go_enter Tryz.func121,Tryz.ntmps121;go_wp2_with fail;refine (Tryz.strings_Contains_one s 46 _).mono ?_;rintro e w1 ⟨rfl,rfl⟩;rw [HD.out];go_wp2_with fail;refine (qQD s hs _ HM.out).mono ?_;rintro e w1 ⟨rfl,hb1⟩;go_wp2_with fail;go_ret;exact ⟨Qq HT.out.symm,hb1⟩
 ·
  have HT:Hid (Q5 s.data.toList=false):=by
   show Q5 s.data.toList=false;unfold Q5;rw [Qx,decide_eq_false h16];rfl
  go_enter Tryz.func121,Tryz.ntmps121;go_wp2_with fail;go_ret;exact ⟨Qq HT.out.symm,.refl _ _⟩
end Go.Proofs.YtcbicdencgjfiaaGreatDoor
namespace Go.Proofs.YtcbicdencgjfiaaGreatDoor
open Go.RowKit Tryst
theorem qJY (u:ByteArray) (hs:u.size<=1000000000) (w:World):Calls Tryz.prog 177 #[.string u] w fun e w'=>e=.returned (.bool (Xb u.data.toList))/\Below w.heap.size w w':=by
 by_cases h1:u.data.toList=[42]
 ·
  have e1:(u.toList==[42])=true:=by rw [Qp,h1];rfl
  have HT:Hid (Xb u.data.toList=true):=by show Xb _=true;unfold Xb;rw [h1];rfl
  clear h1;go_enter Tryz.func177,Tryz.ntmps177;go_wp2_with fail;go_ret;exact ⟨Qq HT.out.symm,.refl _ _⟩
 ·
  have e1:(u.toList==[42])=false:=by rw [Qp];simpa using h1
  by_cases h2:u.data.toList=[42,42]
  ·
   have e2:(u.toList==[42,42])=true:=by rw [Qp,h2];rfl
   have HT:Hid (Xb u.data.toList=true):=by show Xb _=true;unfold Xb;rw [h2];rfl
   clear h1 h2;go_enter Tryz.func177,Tryz.ntmps177;go_wp2_with fail;go_ret;exact ⟨Qq HT.out.symm,.refl _ _⟩
  ·
   have e2:(u.toList==[42,42])=false:=by rw [Qp];simpa using h2
   have HT:Hid (Xb u.data.toList=Z1 u.data.toList):=by
    show Xb _=_;unfold Xb;rw [decide_eq_false h1,decide_eq_false h2];rfl
   clear h1 h2;go_enter Tryz.func177,Tryz.ntmps177;go_wp2_with fail;refine (qJ3 u hs _).mono ?_;rintro e w1 ⟨rfl,hb1⟩;go_wp2_with fail;go_ret;exact ⟨Qq HT.out.symm,hb1⟩
end Go.Proofs.YtcbicdencgjfiaaGreatDoor
namespace Tryst
def jQv (k:Nat) (s:List UInt8):Bool:=decide ((dots s).length<=k)&&(dots s).all Xb
theorem qJ9 {k:Nat} {s:List UInt8} (h:46 ∉ s):jQv (k+1) s=Xb s:=by
 unfold jQv;rw [vQf s h];simp
theorem kJO {k:Nat} {p r:List UInt8} (h:46 ∉ p):jQv (k+1) (p++46 :: r)=(Xb p&&jQv k r):=by
 unfold jQv;rw [jJa p r h];simp only [List.length_cons,List.all_cons,Nat.add_le_add_iff_right];cases Xb p<;>simp
theorem jJp (s:List UInt8):jQv 0 s=false:=by
 unfold jQv;have:=List.length_pos_iff.2 (kJ8 s);rw [decide_eq_false (by omega)];rfl
theorem zJl (s:List UInt8):Yz s=(decide (s.length<=40)&&jQv 8 s):=by
 unfold Yz jQv;rw [Bool.and_assoc]
end Tryst
namespace Go.Proofs.YtcbicdencgjfiaaGreatDoor
open Go.RowKit Tryst
def xJ5 (s:ByteArray) (w:World) (t i:Value) (wr:World):Prop:=∃ (k:Nat) (u:ByteArray),k<=8/\t=.string u/\i=.int .i64 k/\u.size<=s.size/\Hid (jQv 8 s.data.toList=jQv (8 - k) u.data.toList)/\Hid (Below w.heap.size w wr)
theorem jYY (s:ByteArray) (hs:s.size<=1000000000) (w:World) (hM:MaxW w) :
  Calls Tryz.prog 176 #[.string s,.func (.func 177) #[] #[]] w fun e w'=>e=.returned (.bool (Yz s.data.toList))/\Below w.heap.size w w':=by
 have HM:=Zh hM;clear hM;have hte:=zJl s.data.toList;rw [Qx] at hte
 by_cases h40:40 < s.size
 ·
  have HT:Hid (Yz s.data.toList=false):=by
   show Yz s.data.toList=false;rw [hte,decide_eq_false (by omega)];rfl
  clear hte;go_enter Tryz.func176,Tryz.ntmps176;go_wp2_with fail;go_ret;exact ⟨Qq HT.out.symm,.refl _ _⟩
 ·
  have HT:Hid (Yz s.data.toList=jQv 8 s.data.toList):=by
   show Yz s.data.toList=_;rw [hte,decide_eq_true (by omega)];rfl
  clear hte;go_enter Tryz.func176,Tryz.ntmps176;go_wp2_with fail;go_loopw [0,11] (fun t i wr=>xJ5 s w t i wr) (fun _ i _=>8 - (intOf i).toNat)
  case atStart=>exact ⟨0,s,by omega,rfl,rfl,Nat.le_refl _,rfl,.refl _ _⟩
  case round=>
   obtain ⟨k,u,hk,rfl,rfl,hu,HA,HB⟩:=hrel;obtain ⟨wo,rfl⟩:∃ wo,wo=wr:=⟨_,rfl⟩
   by_cases hlt:k < 8
   ·
    rcases jJQ u (by omega) wo (HM.out.grow HB.out) with ⟨hno,hc⟩ | ⟨p,r,e1,e2,hc⟩
    ·
     have HC:=Zh hc
     have HF:Hid (Yz s.data.toList=Xb u.data.toList):=by
      show Yz s.data.toList=_;rw [HT.out,HA.out,show 8 - k=(7 - k)+1 by omega,qJ9 hno]
     clear hc hno HA;go_wp2_with fail;refine HC.out.mono ?_;rintro e w1 ⟨rfl,hb1⟩;go_wp2_with fail;refine (qJY u (by omega) _).mono ?_;rintro e w2 ⟨rfl,hb2⟩;have KB:=Zh ((HB.out.trans (hb1.mono HB.out.size)).trans (hb2.mono (Nat.le_trans HB.out.size hb1.size)));clear hb1 hb2;cases hpb:Xb u.data.toList with
     | true=>
      have HP:=Zh hpb;clear hpb;go_wp2_with fail;go_ret;exact ⟨Qq (by rw [HF.out,HP.out]),KB.out⟩
     | false=>
      have HP:=Zh hpb;clear hpb;go_wp2_with fail;go_ret;exact ⟨Qq (by rw [HF.out,HP.out]),KB.out⟩
    ·
     have HC:=Zh hc
     have hsz:p.size+1+r.size=u.size:=by
      have:=congrArg List.length e1;rw [List.length_append,List.length_cons,Qx,Qx,Qx] at this;omega
     have hps:p.size<=1000000000:=by omega
     have hrs:r.size<=s.size:=by omega
     have HF:Hid (Yz s.data.toList=(Xb p.data.toList&&jQv (8 - (k+1)) r.data.toList)):=by
      show Yz s.data.toList=_;rw [HT.out,HA.out,show 8 - k=(8 - (k+1))+1 by omega,e1,kJO e2]
     have HA2:Hid (Xb p.data.toList=true->jQv 8 s.data.toList=jQv (8 - (k+1)) r.data.toList):=fun h=>by
      rw [<- HT.out,HF.out,h,Bool.true_and]
     clear hc HA e1 e2 hsz;go_wp2_with fail;refine HC.out.mono ?_;rintro e w1 ⟨rfl,hb1⟩;go_wp2_with fail;refine (qJY p hps _).mono ?_;rintro e w2 ⟨rfl,hb2⟩;have KB:=Zh ((HB.out.trans (hb1.mono HB.out.size)).trans (hb2.mono (Nat.le_trans HB.out.size hb1.size)));clear hb1 hb2 HB;cases hpb:Xb p.data.toList with
     | true=>
      have HP:=Zh (HA2.out hpb);clear hpb HA2 HF;go_wp2_with fail;go_roundw
      case rel=>exact ⟨k+1,r,by omega,rfl,by go_num,hrs,HP,KB⟩
      case measure=>simp [intOf]<;>omega
     | false=>
      have HP:Hid (Yz s.data.toList=false):=by
       show Yz s.data.toList=false;rw [HF.out,hpb,Bool.false_and]
      clear hpb HA2 HF;go_wp2_with fail;go_ret;exact ⟨Qq HP.out.symm,KB.out⟩
   ·
    have HP:Hid (Yz s.data.toList=false):=by
     show Yz s.data.toList=false;rw [HT.out,HA.out,show 8 - k=0 by omega,jJp]
    clear HA HT;go_wp2_with fail;go_ret;exact ⟨Qq HP.out.symm,HB.out⟩
theorem zJP (s:ByteArray) (hs:s.size<=1000000000) (w:World) (hM:MaxW w):Calls Tryz.prog 125 #[.string s] w fun e w'=>e=.returned (.bool (Yz s.data.toList))/\Below w.heap.size w w':=by
 go_enter Tryz.func125,Tryz.ntmps125;go_wp2_with fail;refine (jYY s hs _ hM).mono ?_;rintro e w1 ⟨rfl,hb1⟩;go_wp2_with fail;go_ret;exact ⟨rfl,hb1⟩
structure PBox (w:World) (b:Nat) (op s:ByteArray) (num:Bool) (n:Int) (vs:ByteArray) (u:Value):Prop where
 c0:w.cell? ⟨b,0,none⟩=some (.string op)
 c1:w.cell? ⟨b,1,none⟩=some (.string s)
 c2:w.cell? ⟨b,2,none⟩=some (.bool num)
 c3:w.cell? ⟨b,3,none⟩=some (.int .i64 n)
 c4:w.cell? ⟨b,4,none⟩=some (.string vs)
 c5:w.cell? ⟨b,5,none⟩=some u
 hz:b < w.heap.size
theorem PBox.new (w:World) (op s:ByteArray) (num:Bool) (n:Int) (vs:ByteArray) (u:Value) (T:TypeId):PBox (w.alloc (.cells #[.string op,.string s,.bool num,.int .i64 n,.string vs,u] T)) w.heap.size op s num n vs u:=by
 constructor<;>simp [go_sem]
theorem PBox.grow {v w:World} {b:Nat} {op s:ByteArray} {num:Bool} {n:Int} {vs:ByteArray} {u:Value} (h:PBox v b op s num n vs u) (hw:Below v.heap.size v w):PBox w b op s num n vs u:=by
 obtain ⟨h0,h1,h2,h3,h4,h5,h6⟩:=h;exact ⟨by rw [hw.cell (p:=⟨b,0,none⟩) h6];exact h0,by rw [hw.cell (p:=⟨b,1,none⟩) h6];exact h1,by rw [hw.cell (p:=⟨b,2,none⟩) h6];exact h2,by rw [hw.cell (p:=⟨b,3,none⟩) h6];exact h3,by rw [hw.cell (p:=⟨b,4,none⟩) h6];exact h4,by rw [hw.cell (p:=⟨b,5,none⟩) h6];exact h5,Nat.lt_of_lt_of_le h6 hw.size⟩
end Go.Proofs.YtcbicdencgjfiaaGreatDoor
namespace Tryst
open Go Go.RowKit
structure RawKey (P:Program) (k:TypeId) (KS:Value->Prop):Prop where
 check:∀ (w:World) (em:Bool) {v:Value},KS v->(Instr.checkKey em 10000 k v).run P w=.ok () w
 find:∀ (w:World) {x:Value},KS x->∀ es:List MapEntry,(∀ e∈es,KS e.key)->
  ((Instr.findKey k x es).run P w=.ok none w/\∀ e∈es,e.key≠x)∨∃ j e,(Instr.findKey k x es).run P w=.ok (some (j,e.val)) w/\es[j]?=some e/\e.key=x
 stays:∀ (w:World) {v:Value},KS v->(Instr.keyThatStays v v).run P w=.ok v w
theorem RawKey.of_keyed {P:Program} {k:TypeId} (K:Maps.Keyed P k):RawKey P k (fun v=>∃ l,keyOf P k v=some l) where
 check w em:=by rintro v ⟨l,h⟩;exact K.check w em h
 find w:=by rintro x ⟨l,h⟩ es hes;exact K.find w h es hes
 stays w:=by rintro v ⟨l,h⟩;exact K.stays w h
theorem RawKey.sub {P:Program} {k:TypeId} {KS KS':Value->Prop} (K:RawKey P k KS) (h:∀ v,KS' v->KS v):RawKey P k KS' where
 check w em:=fun hv=>K.check w em (h _ hv)
 find w:=fun hx es hes=>K.find w (h _ hx) es (fun e he=>h _ (hes e he))
 stays w:=fun hv=>K.stays w (h _ hv)
def MapK {A:Type} (enc:A->Value) (ok:A->Prop) (w:World) (b n:Nat) (f:A->Option Value):Prop:=
 ∃ es clock,w.heap[b]?=some (.map es clock)/\es.size<=n/\(∀ e∈es.toList,∃ a,ok a/\e.key=enc a/\f a=some e.val)/\es.toList.Pairwise (fun x y=>x.key≠y.key)/\(∀ a v,f a=some v->ok a/\∃ e∈es.toList,e.key=enc a)
section
variable {A:Type} {enc:A->Value} {ok:A->Prop} {P:Program} {k e t:TypeId} {w w':World} {b n:Nat} {f:A->Option Value}
theorem MapK.lt (h:MapK enc ok w b n f):b < w.heap.size:=by
 obtain ⟨es,c,h1,_⟩:=h;exact (Array.getElem?_eq_some_iff.1 h1).1
theorem MapK.of_block (h:MapK enc ok w b n f) (hb:w'.heap[b]?=w.heap[b]?):MapK enc ok w' b n f:=by
 obtain ⟨es,c,h1,h2⟩:=h;exact ⟨es,c,hb.trans h1,h2⟩
theorem MapK.growB (h:MapK enc ok w b n f) {B:Nat} (hB:b < B) (hb:Below B w w'):MapK enc ok w' b n f:=h.of_block (hb.block b hB)
theorem MapK.grow (h:MapK enc ok w b n f) (hb:Below w.heap.size w w'):MapK enc ok w' b n f:=h.growB h.lt hb
theorem MapK.away (h:MapK enc ok w b n f) {c o:Nat} (hc:c≠b) (u:Value):MapK enc ok (w.setCell ⟨c,o,none⟩ u) b n f:=h.of_block (Below.heap_setCell _ _ _ _ (fun e=>hc e.symm))
theorem MapK.kept {row:Option Nat} (h:MapK enc ok w b n f) (hg:w.grownBy w' row) (hr:some b≠row):MapK enc ok w' b n f:=h.of_block (hg.block b h.lt hr)
theorem MapK.made (enc:A->Value) (ok:A->Prop) (w:World):MapK enc ok (w.alloc (.map #[] 0)) w.heap.size 0 (fun _=>none):=
 ⟨#[],0,(MapKept.heap_alloc w _).1,Nat.le_refl _,by simp,by simp,by simp⟩
theorem MapK.congr {f':A->Option Value} (h:MapK enc ok w b n f) (hf:∀ a,f a=f' a):MapK enc ok w b n f':=by
 obtain rfl:f=f':=funext hf;exact h
theorem MapK.mono {n':Nat} (h:MapK enc ok w b n f) (hn:n<=n'):MapK enc ok w b n' f:=by
 obtain ⟨es,c,h1,h2,h3⟩:=h;exact ⟨es,c,h1,Nat.le_trans h2 hn,h3⟩
variable (K:RawKey P k (fun v=>∃ a,ok a/\v=enc a)) (hi:∀ a a',enc a=enc a'→a=a')
include K hi
theorem MapK.look (h:MapK enc ok w b n f) (ht:P.underlying t=some (.map k e)) {z:Value} (hz:(zeroValue e).run P w=.ok z w) {a:A} (ha:ok a) (c:Bool) :
  (Instr.lookup t (.map (some b)) (enc a) c).run P w=.ok (if c then .tuple #[(f a).getD z,.bool (f a).isSome] else (f a).getD z) w:=by
 obtain ⟨es,cl,h1,h2,h3,hp,h4⟩:=h
 have hk:∀ e∈es.toList,∃ a,ok a/\e.key=enc a:=fun e he=>by
  obtain ⟨a,h5,h6,_⟩:=h3 e he;exact ⟨a,h5,h6⟩
 rcases K.find w ⟨a,ha,rfl⟩ es.toList hk with ⟨g1,g2⟩ | ⟨j,e0,g1,g2,g3⟩
 ·
  have hn:f a=none:=by
   cases hf:f a with
   | none=>rfl
   | some v=>
    obtain ⟨_,e,he,hke⟩:=h4 a v hf;exact absurd hke (g2 e he)
  rw [hn];simp [Instr.lookup,run_underlying ht,MapKept.run_getObj_map h1,K.check w _ ⟨a,ha,rfl⟩,g1,hz,Result.andThen]
 · obtain ⟨a',_,h6,h7⟩:=h3 e0 (List.mem_of_getElem? g2);obtain rfl:a'=a:=hi _ _ (h6.symm.trans g3);rw [h7];simp [Instr.lookup,run_underlying ht,MapKept.run_getObj_map h1,K.check w _ ⟨a',ha,rfl⟩,g1,Result.andThen]
theorem MapK.put (h:MapK enc ok w b n f) (ht:P.underlying t=some (.map k e)) [DecidableEq A] {a:A} (ha:ok a) (v:Value) :
  ∃ w',(Instr.mapUpdate t (.map (some b)) (enc a) v).run P w=.ok () w'/\MapK enc ok w' b (n+1) (fun x=>if x=a then some v else f x)/\w.grownBy w' (some b)/\w'.heap.size=w.heap.size:=by
 obtain ⟨es,cl,h1,h2,h3,hp,h4⟩:=h;have hlt:=(Array.getElem?_eq_some_iff.1 h1).1
 have hk:∀ e∈es.toList,∃ a,ok a/\e.key=enc a:=fun e he=>by
  obtain ⟨a,h5,h6,_⟩:=h3 e he;exact ⟨a,h5,h6⟩
 have grown:∀ o:Obj,w.grownBy (ChangeMaps.setBlock w b o) (some b):=fun o=>⟨rfl,rfl,rfl,by simp [ChangeMaps.setBlock],fun i _ hi=>ChangeMaps.heap_setBlock_other h1 o (fun e=>hi (by rw [e]))⟩
 have hsz:∀ o:Obj,(ChangeMaps.setBlock w b o).heap.size=w.heap.size:=fun o=>by simp [ChangeMaps.setBlock]
 rcases K.find w ⟨a,ha,rfl⟩ es.toList hk with ⟨g1,g2⟩ | ⟨j,e0,g1,g2,g3⟩
 ·
  refine ⟨ChangeMaps.setBlock w b (.map (es.push ⟨enc a,v,cl⟩) (cl+1)),by simp [Instr.mapUpdate,run_underlying ht,MapKept.run_getObj_map h1,K.check w false ⟨a,ha,rfl⟩,g1,MapKept.run_setObj_map _ h1,Result.andThen,ChangeMaps.setBlock],⟨es.push ⟨enc a,v,cl⟩,cl+1,ChangeMaps.heap_setBlock_same h1 _,by simp;omega,fun x hx=>?_,?_,fun x u hx=>?_⟩,grown _,hsz _⟩
  ·
   simp only [Array.toList_push,List.mem_append,List.mem_singleton] at hx
   rcases hx with hx | rfl
   · obtain ⟨y,y1,y2,y3⟩:=h3 x hx;refine ⟨y,y1,y2,?_⟩;exact (if_neg (fun e=>g2 x hx (by rw [y2,e]))).trans y3
   · exact ⟨a,ha,rfl,if_pos rfl⟩
  · rw [Array.toList_push,List.pairwise_append];refine ⟨hp,by simp,fun x hx y hy=>?_⟩;rw [List.mem_singleton] at hy;subst hy;exact g2 x hx
  ·
   by_cases hxa:x=a
   · subst hxa;exact ⟨ha,⟨enc x,v,cl⟩,by simp,rfl⟩
   ·
    replace hx:f x=some u:=(if_neg hxa).symm.trans hx
    obtain ⟨y1,e,y2,y3⟩:=h4 x u hx;exact ⟨y1,e,by simp [y2],y3⟩
 ·
  have hj:es[j]?=some e0:=by simpa using g2
  have hjl:j < es.toList.length:=(List.getElem?_eq_some_iff.1 g2).1;have hlist:(es.modify j (fun e'=>{ e' with key:=enc a,val:=v })).toList=es.toList.set j { e0 with key:=enc a,val:=v }:=by rw [Array.toList_modify,ChangeMaps.modify_eq_set _ _ _ _ g2]
  have hne:∀ x∈es.toList,x.key=enc a->x=e0:=fun x hx hxk=>by
   obtain ⟨i,hi',rfl⟩:=List.mem_iff_getElem.1 hx;obtain ⟨_,he0⟩:=List.getElem?_eq_some_iff.1 g2
   rcases Nat.lt_trichotomy i j with hij | hij | hij
   · exact absurd (hxk.trans (g3.symm.trans (by rw [he0]))) (List.pairwise_iff_getElem.1 hp i j hi' hjl hij)
   · subst hij;exact he0
   · exact absurd (((by rw [he0];exact g3):es.toList[j].key=enc a).trans hxk.symm) (List.pairwise_iff_getElem.1 hp j i hjl hi' hij)
  refine ⟨ChangeMaps.setBlock w b (.map (es.modify j (fun e'=>{ e' with key:=enc a,val:=v })) cl),?_,⟨_,cl,ChangeMaps.heap_setBlock_same h1 _,by simp;omega,fun x hx=>?_,?_,fun x u hx=>?_⟩,grown _,hsz _⟩
  · have hst:=K.stays w ⟨a,ha,rfl⟩;simp [Instr.mapUpdate,run_underlying ht,MapKept.run_getObj_map h1,K.check w false ⟨a,ha,rfl⟩,g1,MapKept.run_setObj_map _ h1,Result.andThen,ChangeMaps.setBlock,hj,g3,hst]
  ·
   rw [hlist] at hx;obtain ⟨i,hi',rfl⟩:=List.mem_iff_getElem.1 hx;rw [List.length_set] at hi'
   by_cases hij:j=i
   · subst hij;rw [List.getElem_set_self];exact ⟨a,ha,rfl,if_pos rfl⟩
   ·
    rw [List.getElem_set_ne hij];obtain ⟨y,y1,y2,y3⟩:=h3 _ (List.getElem_mem hi');refine ⟨y,y1,y2,?_⟩;refine (if_neg ?_).trans y3
    ·
     intro e;obtain ⟨_,he0⟩:=List.getElem?_eq_some_iff.1 g2;have hk2:es.toList[i].key=enc a:=by rw [y2,e]
     have hk3:es.toList[j].key=enc a:=by rw [he0];exact g3
     rcases Nat.lt_or_gt_of_ne hij with h | h
     · exact List.pairwise_iff_getElem.1 hp j i hjl hi' h (hk3.trans hk2.symm)
     · exact List.pairwise_iff_getElem.1 hp i j hi' hjl h (hk2.trans hk3.symm)
  ·
   rw [hlist];have:(es.toList.map (·.key)).Pairwise (·≠·):=List.pairwise_map.2 hp
   have h2:(es.toList.set j { e0 with key:=enc a,val:=v }).map (·.key)=es.toList.map (·.key):=by
    rw [List.map_set]
    apply List.ext_getElem
    · simp
    ·
     intro i q1 q2
     by_cases hij:j=i
     · subst hij;obtain ⟨_,he0⟩:=List.getElem?_eq_some_iff.1 g2;rw [List.getElem_set_self,List.getElem_map,he0];exact g3.symm
     · rw [List.getElem_set_ne hij]
   have h5:((es.toList.set j { e0 with key:=enc a,val:=v }).map (·.key)).Pairwise (·≠·):=by rw [h2];exact this
   exact List.pairwise_map.1 h5
  ·
   have self:∃ e∈(es.modify j (fun e'=>{ e' with key:=enc a,val:=v })).toList,e.key=enc a:=by
    rw [hlist];exact ⟨_,List.mem_set hjl _,rfl⟩
   by_cases hxa:x=a
   · subst hxa;exact ⟨ha,self⟩
   ·
    replace hx:f x=some u:=(if_neg hxa).symm.trans hx
    obtain ⟨y1,e,y2,y3⟩:=h4 x u hx;refine ⟨y1,e,?_,y3⟩;rw [hlist];obtain ⟨i,hi',rfl⟩:=List.mem_iff_getElem.1 y2
    have hij:j≠i:=fun q=>by
     subst q;obtain ⟨_,he0⟩:=List.getElem?_eq_some_iff.1 g2;exact hxa (hi _ _ (y3.symm.trans (by rw [he0];exact g3)))
    have hq:es.toList[i]=(es.toList.set j { e0 with key:=enc a,val:=v })[i]'(by rw [List.length_set];exact hi'):=by rw [List.getElem_set_ne hij]
    rw [hq];exact List.getElem_mem _
theorem jQq {ops:Array Oper} {rest:List Oper} {o:Oper} {a:Act} {Q:Exit->Act->World->Prop} (hg:o.guard=none) (m x:Operand) (c:Bool) (hop:o.op=Op.lookup t m x c)
  (h:MapK enc ok w b n f) (ht:P.underlying t=some (.map k e)) {z:Value} (hz:(zeroValue e).run P w=.ok z w) (hm:a.eval m=.map (some b)) {y:A} (hy:ok y) (hx:a.eval x=enc y)
  (hK:wpList P ops Q rest (a.put o.dst (if c then .tuple #[(f y).getD z,.bool (f y).isSome] else (f y).getD z)) w):wpList P ops Q (o :: rest) a w:=by
 refine wpList_plain hg fun K' hK'=>?_
 have hrun:=h.look K hi ht hz hy c;unfold Oper.wp;simp [execOp,hop,hm,hx,Result.andThen];rw [hrun];exact hK' _ _ hK
theorem zQe [DecidableEq A] {ops:Array Oper} {rest:List Oper} {o:Oper} {a:Act} {Q:Exit->Act->World->Prop} (hg:o.guard=none) (m x y:Operand) (hop:o.op=Op.mapUpdate t m x y∨o.op=Op.insert t m x y)
  (h:MapK enc ok w b n f) (ht:P.underlying t=some (.map k e)) (hm:a.eval m=.map (some b)) {u:A} (hu:ok u) (hx:a.eval x=enc u) {v:Value} (hy:a.eval y=v)
  (hK:∀ w',MapK enc ok w' b (n+1) (fun x=>if x=u then some v else f x)->w.grownBy w' (some b)->w'.heap.size=w.heap.size->wpList P ops Q rest (a.put o.dst undef) w'):wpList P ops Q (o :: rest) a w:=by
 refine wpList_plain hg fun K' hK'=>?_
 obtain ⟨w',hrun,h1,h2,h3⟩:=h.put K hi ht hu v;unfold Oper.wp
 rcases hop with hop | hop
 · simp [execOp,hop,hm,hx,hy,hrun,Result.andThen];exact hK' _ _ (hK w' h1 h2 h3)
 · simp [execOp,hop,hm,hx,hy,hrun,Result.andThen];exact hK' _ _ (hK w' h1 h2 h3)
end
end Tryst
namespace Go.Proofs.YtcbicdencgjfiaaGreatDoor
open Tryst
theorem jYX {A:Type} {enc:A->Value} {ok:A->Prop} {w:World} {b n:Nat} {f:A->Option Value} (h:MapK enc ok w b n f) {g:Nat} {cur:Array Value} {T:TypeId} {z:Nat × Nat} (hc:w.heap[g]?=some (.cells cur T z)):g≠b:=by
 rintro rfl;obtain ⟨es,c,h1,_⟩:=h;rw [h1] at hc;cases hc
end Go.Proofs.YtcbicdencgjfiaaGreatDoor
namespace Tryst
open Go Go.RowKit
noncomputable def least (R:Nat->Prop):Nat:=open Classical in if h:∃ m,R m/\∀ k,R k->m<=k then Classical.choose h else 0
