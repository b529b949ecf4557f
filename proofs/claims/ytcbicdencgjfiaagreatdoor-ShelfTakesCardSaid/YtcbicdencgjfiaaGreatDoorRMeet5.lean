import Derived.Test.YtcbicdencgjfiaaGreatDoorProg
import Derived.Deep.RegionWith
import Derived.Deep.Cut
import Derived.Maps.OwnSet
import Derived.Maps.Views
import Derived.StringKeys
import Derived.DeepKeys5
import Derived.IntWalk
import Derived.Test.YtcbicdencgjfiaaGreatDoorGlob5
import Derived.Test.YtcbicdencgjfiaaGreatDoorRowK
set_option linter.all false
set_option maxHeartbeats 20000000
set_option maxRecDepth 20000
namespace Go.Proofs.YtcbicdencgjfiaaGreatDoor
open Go.RowKit Tryst
theorem zYA (c:Nat) (hc:c < 256) (x:UInt8) (hx:x.toNat=c) :
  (97<=c/\c<=122/\Hid (qQE x=true))∨(97<=c/\¬ c<=122/\48<=c/\¬ c<=57/\((c:Int)==95)=false/\Hid (qQE x=false))∨(¬ 97<=c/\48<=c/\c<=57/\Hid (qQE x=true))∨(¬ 97<=c/\48<=c/\¬ c<=57/\((c:Int)==95)=true/\Hid (qQE x=true))∨(¬ 97<=c/\48<=c/\¬ c<=57/\((c:Int)==95)=false/\Hid (qQE x=false))∨(¬ 97<=c/\¬ 48<=c/\((c:Int)==95)=false/\Hid (qQE x=false)):=by
 have hp:qQE x=((decide (97<=c)&&decide (c<=122))||(decide (48<=c)&&decide (c<=57))||c==95):=by unfold qQE;rw [hx]
 unfold Hid;rw [hp]
 by_cases h1:97<=c
 ·
  by_cases h2:c<=122
  · exact .inl ⟨h1,h2,by simp [h1,h2]⟩
  · exact .inr (.inl ⟨h1,h2,by omega,by omega,by simp;omega,by simp [h2];omega⟩)
 ·
  by_cases h2:48<=c
  ·
   by_cases h3:c<=57
   · exact .inr (.inr (.inl ⟨h1,h2,h3,by simp [h2,h3]⟩))
   ·
    by_cases h4:c=95
    · exact .inr (.inr (.inr (.inl ⟨h1,h2,h3,by simp;omega,by simp [h4]⟩)))
    · exact .inr (.inr (.inr (.inr (.inl ⟨h1,h2,h3,by simp;omega,by simp [h1,h3,h4]⟩))))
  · exact .inr (.inr (.inr (.inr (.inr ⟨h1,h2,by simp;omega,by simp [h1,h2];omega⟩))))
def zYn (s:ByteArray) (i:Value):Prop:=∃ k:Nat,k<=s.size/\i=.int .i64 k/\Hid (∀ (j:Nat) (h:j < s.size),j < k->qQE s[j]=true)
set_option maxHeartbeats 1500000 in
theorem kYY (s:ByteArray) (hs:s.size<=1000000000) (w:World):Calls Tryz.prog 195 #[.string s] w fun e w'=>e=.returned (.bool (Z1 s.data.toList))/\w=w':=by
 go_enter Tryz.func195,Tryz.ntmps195;go_wp2_with fail
 go_loop [3] (fun i=>zYn s i) (fun i=>s.size - (intOf i).toNat)
 case atStart=>exact ⟨0,by omega,rfl,fun j _ h=>by omega⟩
 case round=>
  obtain ⟨k,hk,rfl,HA⟩:=hrel
  by_cases hlt:k < s.size
  ·
   obtain ⟨c,hc⟩:∃ c,s[k].toNat=c:=⟨_,rfl⟩;have hcl:c < 256:=hc ▸ s[k].toNat_lt
   have hbad:Hid (qQE s[k]=false->Z1 s.data.toList=false):=fun h=>by
    unfold Z1
    have:s.data.toList.all qQE=false:=by
     rw [List.all_eq_false];exact ⟨s[k],List.mem_of_getElem? (by rw [List.getElem?_eq_getElem (by simpa using hlt)];rfl),by rw [h];simp⟩
    rw [this,Bool.and_false]
   have hgood:Hid (qQE s[k]=true->∀ (j:Nat) (h:j < s.size),j < k+1->qQE s[j]=true):=fun h j hj hjk=>by
    by_cases e:j=k
    · subst e;exact h
    · exact HA.out j hj (by omega)
   rcases zYA c hcl s[k] hc with ⟨d1,d2,HP⟩ | ⟨d1,d2,d3,d4,d5,HP⟩ | ⟨d1,d2,d3,HP⟩ | ⟨d1,d2,d3,d4,HP⟩ | ⟨d1,d2,d3,d4,HP⟩ | ⟨d1,d2,d3,HP⟩
   ·
    have HG:=Zh (hgood.out HP.out);clear HA HP hbad hgood;go_wp2_with fail
    all_goals
     go_round
     case rel=>exact ⟨k+1,by omega,by go_num,HG.out⟩
     case measure=>simp [intOf]<;>omega
   ·
    have HG:=Zh (hbad.out HP.out);have z1:decide ((c:Int)<=122)=false:=by simp;omega
    have z2:decide ((c:Int)<=57)=false:=by simp;omega
    clear HA HP hbad hgood;go_wp2_with fail;go_ret;exact ⟨Qq HG.out.symm,rfl⟩
   ·
    have HG:=Zh (hgood.out HP.out);clear HA HP hbad hgood;go_wp2_with fail
    all_goals
     go_round
     case rel=>exact ⟨k+1,by omega,by go_num,HG.out⟩
     case measure=>simp [intOf]<;>omega
   ·
    have HG:=Zh (hgood.out HP.out);clear HA HP hbad hgood;go_wp2_with fail
    all_goals
     go_round
     case rel=>exact ⟨k+1,by omega,by go_num,HG.out⟩
     case measure=>simp [intOf]<;>omega
   ·
    have HG:=Zh (hbad.out HP.out);have z2:decide ((c:Int)<=57)=false:=by simp;omega
    clear HA HP hbad hgood;go_wp2_with fail;go_ret;exact ⟨Qq HG.out.symm,rfl⟩
   ·
    have HG:=Zh (hbad.out HP.out);have z2:decide ((48:Int)<=c)=false:=by simp;omega
    clear HA HP hbad hgood;go_wp2_with fail;go_ret;exact ⟨Qq HG.out.symm,rfl⟩
  ·
   have hall:s.data.toList.all qQE=true:=by
    rw [List.all_eq_true];intro x hx;obtain ⟨j,hj,rfl⟩:=List.getElem_of_mem hx;exact HA.out j (by simpa using hj) (by simp at hj;omega)
   have HP:Hid (Z1 s.data.toList=!s.data.toList.isEmpty):=by
    show Z1 s.data.toList=_;unfold Z1;rw [hall,Bool.and_true]
   clear hall HA;go_wp2_with fail;go_ret;refine ⟨Qq ?_,rfl⟩;rw [HP.out,<- Qp]
theorem strT:SliceOf Tryz.prog 40 9 1 16:=.mk' Tryz.underlying40 (z:=.string ⟨#[]⟩) (by kernel_rfl) rfl (by decide) (by decide)
def CutR (s:ByteArray) (w:World) (e:Ending) (w':World):Prop:=∃ v l,e=.returned v/\SOwn 9 w' w.heap.size v l/\l.map (fun x=>x.data.toList)=dots s.data.toList/\Below w.heap.size w w'
def vYc (s:ByteArray) (w:World) (v i:Value) (wr:World):Prop:=∃ (k:Nat) (l:List ByteArray),k<=s.size/\i=.int .i64 k/\Hid (SOwn 9 wr w.heap.size v l)/\Hid (l.map (fun x=>x.data.toList)=dots (s.data.toList.take k))/\0 < l.length/\l.length<=k+1/\(∀ x∈l,x.size<=k)/\Hid (Below w.heap.size w wr)/\w.heap.size<=wr.heap.size
set_option maxHeartbeats 1500000 in
theorem vY7 (s:ByteArray) (hs:s.size<=1500000) (w:World):Calls Tryz.prog 194 #[.string s] w fun e w'=>CutR s w e w':=by
 go_enter Tryz.func194,Tryz.ntmps194;go_wp2_with fail
 have HS0:Hid (SOwn 9 (w.alloc (.cells #[.string ⟨#[]⟩] 9)) w.heap.size (.slice (some ⟨w.heap.size,0,none⟩) 1 1) [⟨#[]⟩]):=by
  show World.ownsRow _ _ _ _ _ _ _;refine ⟨rfl,.inr ⟨w.heap.size,1,#[.string ⟨#[]⟩],rfl,Nat.le_refl _,?_,Nat.le_refl _,by unfold maxLen;omega,rfl,rfl⟩⟩;show (w.heap.push _)[w.heap.size]?=_;simp
 go_loopw [3,4] (fun v i wr=>vYc s w v i wr) (fun _ i _=>s.size - (intOf i).toNat)
 case atStart=>exact ⟨0,[⟨#[]⟩],by omega,rfl,HS0,rfl,by simp,by simp,fun x h=>by rw [List.mem_singleton] at h;subst h;exact Nat.le_refl 0,Qj _ (.refl _ _),by simp⟩
 case round=>
  clear HS0;obtain ⟨k,l,hk,rfl,HO,HD,hl0,hl1,hx,HB,hz⟩:=hrel;obtain ⟨wo,rfl⟩:∃ wo,wo=wr:=⟨_,rfl⟩
  by_cases hlt:k < s.size
  ·
   have htk:s.data.toList.take (k+1)=s.data.toList.take k++[s[k]]:=by
    rw [List.take_succ_eq_append_getElem (by simpa using hlt)];rfl
   have hsn:=zYd (s.data.toList.take k) s[k];rw [<- htk,<- HD.out] at hsn;obtain ⟨c,hc⟩:∃ c,s[k].toNat=c:=⟨_,rfl⟩;have hcl:c < 256:=hc ▸ s[k].toNat_lt;obtain ⟨g,cc,hv,hg1,hg2,hfz,hcell,hset⟩:=HO.out.row hl0;subst hv
   by_cases h46:c=46
   ·
    have e1:((c:Int)==46)=true:=by simp;omega
    have h46':s[k]=46:=UInt8.toNat_inj.1 (by rw [hc,h46];rfl);rw [if_pos h46'] at hsn
    have HN:Hid ((l++[(⟨#[]⟩:ByteArray)]).map (fun x=>x.data.toList)=dots (s.data.toList.take (k+1))):=by
     show _=_;rw [hsn,List.map_append];rfl
    have HX:Hid (∀ x∈l++[(⟨#[]⟩:ByteArray)],x.size<=k+1):=fun x hxx=>by
     rcases List.mem_append.1 hxx with h | h
     · have:=hx x h;omega
     · rw [List.mem_singleton] at h;subst h;exact Nat.zero_le _
    have HXo:=Zh hx;clear htk hsn h46' HD hx hfz hcell hset;go_wp2_with (at_builtin;refine Xw strT rfl _ _ rfl w.heap.size (.slice (some ⟨g,0,none⟩) l.length cc) l.length (l.map Value.string) rfl HO.out _ _ rfl rfl (by omega) hz ?_;intro v1 w1 hown1 hb1)
    have HO2:Hid (SOwn 9 w1 w.heap.size v1 (l++[⟨#[]⟩])):=by
     show World.ownsRow _ _ _ _ _ _ _;rw [List.length_append,List.map_append];exact hown1
    have HB2:=Zh (HB.out.trans hb1);have hz2:w.heap.size<=w1.heap.size:=by have:=hb1.size;omega
    clear hown1 hb1 HO HB;go_roundw
    case rel=>exact ⟨k+1,l++[⟨#[]⟩],by omega,by go_num,HO2,HN,by simp,by simp;omega,HX.out,HB2,hz2⟩
    case measure=>simp [intOf]<;>omega
   ·
    have e1:((c:Int)==46)=false:=by simp;omega
    have h46':¬ s[k]=46:=fun h=>h46 (by rw [<- hc,h];rfl)
    rw [if_neg h46'] at hsn;have hj:l.length - 1 < l.length:=by omega
    have c1:=hcell (l.length - 1) hj;have z1:(0:Int) < l.length:=by omega
    have z8:(1:Int)<=l.length:=by omega
    have z11:(0:Int)<=(k:Int)+1:=by omega
    have z12:(k:Int)<=(k:Int)+1:=by omega
    have z9:(k:Int)<=s.size:=by omega
    have z10:(k:Int)+1<=s.size:=by omega
    have z2:IntKind.i64.wrap ((l.length:Int) - 1)=(l.length:Int) - 1:=IntWalk.i64_in _ (by omega);have z3:(0:Int)<=(l.length:Int) - 1:=by omega
    have z4:((l.length:Int) - 1).toNat=l.length - 1:=by omega
    have z5:(l.length:Int) - 1 < l.length:=by omega
    have z6:IntKind.i64.wrap ((k:Int)+1)=(k:Int)+1:=IntWalk.i64_in _ (by omega);have z7:((k:Int)+1).toNat=k+1:=by omega
    obtain ⟨u,hu⟩:∃ u,l[l.length - 1]=u:=⟨_,rfl⟩;rw [hu] at c1;have hus:u.size<=k:=hx u (by rw [<- hu];exact List.getElem_mem hj);have hxs:(s.extract k (k+1)).size=1:=by simp [ByteArray.size_extract];omega
    have HN:Hid ((l.set (l.length - 1) (u++s.extract k (k+1))).map (fun x=>x.data.toList)=dots (s.data.toList.take (k+1))):=by
     show _=_;rw [hsn,List.map_set,List.length_map]
     congr 1
     rw [qJl,List.getD_eq_getElem?_getD,List.getElem?_map,List.getElem?_eq_getElem hj,hu];simp only [Option.map_some,Option.getD_some]
     congr 1
     rw [zQ7,htk,List.drop_left' (by simp;omega)]
    have HX:Hid (∀ x∈l.set (l.length - 1) (u++s.extract k (k+1)),x.size<=k+1):=fun x hxx=>by
     rcases List.mem_or_eq_of_mem_set hxx with h | h
     · have:=hx x h;omega
     · rw [h,ByteArray.size_append,hxs];omega
    have HSet:=Zh hset;have HFz:=Zh (hfz (l.length - 1));clear htk hsn h46' HD hx hcell hset hu hfz;go_wp2_with fail;refine Tryst2.wp_region_grows [.is (.slice (some ⟨g,0,none⟩) l.length cc),.is (.slice (some ⟨g,0,none⟩) l.length cc),.is (.int .i64 l.length),.is (.int .i64 ((l.length:Int) - 1)),.is (.pointer (some ⟨g,l.length - 1,none⟩)),.is (.string u),.is (.string s),.is (.int .i64 k),.is (.int .i64 k),.is (.int .i64 ((k:Int)+1)),.is (.string (s.extract k (k+1))),.is (.string (u++s.extract k (k+1))),.is (.pointer (some ⟨g,l.length - 1,none⟩))] (by kernel_rfl) (by kernel_rfl) ?obl ?fin
    case obl=>
     simp only [YA,YL,YO,YR,Op.operands,Call.operands]
     repeat' apply And.intro
     any_goals trivial
     all_goals (intro tv w' hg hold hd;(try simp at hold);obtain ⟨hcg,hfg,hsg⟩:=YG hg)
     all_goals first | (go_simp;done) | (go_simp;rw [if_neg (by omega)];exact ⟨.refl _,rfl⟩) | (obtain ⟨⟨g,hvg,hgg,hcell⟩,_⟩:=hd;have hcell0:=hcell 0 (by decide);simp at hcell0;go_simp;done) 
    case fin=>
     intro tv w' hg hR;simp only [YF,YL,YR] at hR;obtain ⟨hcg,hfg,hsg⟩:=YG hg;simp only [YP,YL,Act.put,hR];have hbw:=Tryst2.Grow.below hg (.refl wo.heap.size wo);have HO2:=Zh (HO.out.grow hbw);have KB:=Zh (HB.out.trans (hbw.mono hz));have hzw:w.heap.size<=w'.heap.size:=by omega
     have hfw:w'.frozen? ⟨g,l.length - 1,none⟩=false:=by rw [hfg _ _ hg2];exact HFz.out
     have hcw:w'.cell? ⟨g,l.length - 1,none⟩=some (.string u):=by rw [hcg _ _ hg2];exact c1
     have hgw:g < w'.heap.size:=by omega
     clear hg hR hcg hfg hsg hbw c1 HO HB HSet HFz;go_wp2_with fail;obtain ⟨g',cc',hv',_,_,_,_,hset'⟩:=HO2.out.row hl0;obtain ⟨rfl,rfl⟩:g=g'/\cc=cc':=by simpa using hv'
     have HO3:=Zh (hset' (l.length - 1) (u++s.extract k (k+1)));clear hset' hv' HO2;go_roundw
     case rel=>exact ⟨k+1,l.set (l.length - 1) (u++s.extract k (k+1)),by omega,by go_num,HO3,HN,by rw [List.length_set];exact hl0,by rw [List.length_set];omega,HX.out,bset _ hg1 KB.out,by simp;omega⟩
     case measure=>simp [intOf]<;>omega
  ·
   have hke:k=s.size:=by omega
   obtain ⟨a',c',hv',_⟩:=HO.out.strs;subst hv';go_wp2_with fail;go_ret;refine ⟨_,l,rfl,HO.out,?_,HB.out⟩;rw [HD.out,List.take_of_length_le (by simp;omega)]
def IsRel (l:List ByteArray) (i:Value):Prop:=∃ k:Nat,k<=l.length/\i=.int .i64 k/\Hid (∀ (j:Nat) (h:j < l.length),j < k->Z1 l[j].data.toList=true)
theorem kYf (l:List UInt8):(dots l).length<=l.length+1/\∀ p∈dots l,p.length<=l.length:=by
 induction l with
 | nil=>exact ⟨by simp [dots],fun p hp=>by simp [dots] at hp;subst hp;simp⟩
 | cons c l ih=>
  rw [qQZ]
  split
  ·
   exact ⟨by rw [List.length_cons,List.length_cons];omega,fun p hp=>by
    rcases List.mem_cons.1 hp with rfl | hp
    · simp
    · have:=ih.2 p hp;rw [List.length_cons];omega⟩
  ·
   cases hd:dots l with
   | nil=>exact absurd hd (kJ8 l)
   | cons q qs=>
    rw [hd] at ih;refine ⟨by simp at ih ⊢;omega,fun p hp=>?_⟩
    rcases List.mem_cons.1 hp with rfl | hp
    · have:=ih.2 q (by simp);simp;omega
    · have:=ih.2 p (by simp [hp]);simp;omega
set_option maxHeartbeats 1500000 in
theorem zYG (s:ByteArray) (hs:s.size<=1500000) (w:World):Calls Tryz.prog 145 #[.string s,.bool false] w fun e w'=>e=.returned (.bool (Yx s.data.toList))/\Below w.heap.size w w':=by
 go_enter Tryz.func145,Tryz.ntmps145;go_wp2_with fail;refine (vY7 s hs w).mono ?_;rintro e w1 ⟨v,l,rfl,ho,hd,hb1⟩
 have hlen:l.length<=s.size+1:=by
  have:=(kYf s.data.toList).1;rw [<- hd,List.length_map,Qx] at this;exact this
 have hsz:∀ x∈l,x.size<=s.size:=fun x hx=>by
  have:=(kYf s.data.toList).2 x.data.toList (by rw [<- hd];exact List.mem_map.2 ⟨x,hx,rfl⟩);rw [Qx,Qx] at this;exact this
 obtain ⟨a,c,rfl,hst,hsl,_⟩:=ho.strs;have HST:=Zh hst;have HD:=Zh hd;have KB:=Zh hb1;have HSZ:=Zh hsz;clear ho hst hd hb1 hsl hsz;go_wp2_with fail
 go_loop [6] (fun i=>IsRel l i) (fun i=>l.length - (intOf i).toNat)
 case atStart=>exact ⟨0,by omega,rfl,fun j _ h=>by omega⟩
 case round=>
  obtain ⟨k,hk,rfl,HA⟩:=hrel
  by_cases hlt:k < l.length
  ·
   obtain ⟨b,o,ha,hb⟩:=HST.out.head hlt;subst ha;obtain ⟨_,f0⟩:=HST.out.at hlt;have x1:(k:Int) < l.length:=by omega
   have x2:(0:Int)<=k:=by omega
   have hls:=HSZ.out l[k] (List.getElem_mem hlt);cases hp:Z1 l[k].data.toList with
   | true=>
    have HP:=Zh hp
    have HG:Hid (∀ (j:Nat) (h:j < l.length),j < k+1->Z1 l[j].data.toList=true):=fun j hj hjk=>by
     by_cases e:j=k
     · subst e;exact HP.out
     · exact HA.out j hj (by omega)
    clear hp HA;go_wp2_with fail;refine (kYY l[k] (by omega) _).mono ?_;rintro e w2 ⟨rfl,rfl⟩;rw [HP.out];go_wp2_with fail
    go_round
    case rel=>exact ⟨k+1,by omega,by go_num,HG.out⟩
    case measure=>simp [intOf]<;>omega
   | false=>
    have HP:=Zh hp
    have HG:Hid (Yx s.data.toList=false):=by
     show _=_;unfold Yx;rw [<- HD.out]
     have:(l.map (fun x=>x.data.toList)).all Z1=false:=by
      rw [List.all_eq_false];exact ⟨_,List.mem_map.2 ⟨l[k],List.getElem_mem hlt,rfl⟩,by rw [hp];simp⟩
     rw [this,Bool.and_false]
    clear hp HA;go_wp2_with fail;refine (kYY l[k] (by omega) _).mono ?_;rintro e w2 ⟨rfl,rfl⟩;rw [HP.out];go_wp2_with fail;go_ret;exact ⟨Qq HG.out.symm,KB.out⟩
  ·
   have HG:Hid (Yx s.data.toList=(decide (s.size<=40)&&decide (l.length<=8))):=by
    show _=_;unfold Yx;rw [<- HD.out]
    have:(l.map (fun x=>x.data.toList)).all Z1=true:=by
     rw [List.all_eq_true];intro x hx;obtain ⟨y,hy,rfl⟩:=List.mem_map.1 hx;obtain ⟨j,hj,rfl⟩:=List.getElem_of_mem hy;exact HA.out j hj (by omega)
    rw [this,Bool.and_true,Qx,List.length_map]
   clear HA
   by_cases h8:l.length<=8
   ·
    by_cases h40:s.size<=40
    ·
     have HR:Hid (Yx s.data.toList=true):=by show _=_;rw [HG.out,decide_eq_true h8,decide_eq_true h40];rfl
     go_wp2_with fail;go_ret;exact ⟨Qq (by rw [HR.out];simp;omega),KB.out⟩
    ·
     have HR:Hid (Yx s.data.toList=false):=by show _=_;rw [HG.out,decide_eq_false h40];rfl
     have z1:decide ((s.size:Int)<=40)=false:=by simp;omega
     go_wp2_with fail;go_ret;exact ⟨Qq HR.out.symm,KB.out⟩
   ·
    have HR:Hid (Yx s.data.toList=false):=by show _=_;rw [HG.out,decide_eq_false h8,Bool.and_false]
    have z1:decide ((l.length:Int)<=8)=false:=by simp;omega
    go_wp2_with fail;go_ret;exact ⟨Qq HR.out.symm,KB.out⟩
theorem Y2 (s:ByteArray) (hs:s.size<=1500000) (w:World):Calls Tryz.prog 84 #[.string s] w fun e w'=>e=.returned (.bool (Yx s.data.toList))/\Below w.heap.size w w':=by
 go_enter Tryz.func84,Tryz.ntmps84;go_wp2_with fail;refine (zYG s hs w).mono ?_;rintro e w1 ⟨rfl,hb1⟩;go_wp2_with fail;go_ret;exact ⟨rfl,hb1⟩
def zYb (s:ByteArray) (i:Value):Prop:=∃ k:Nat,k<=s.size/\i=.int .i64 k/\Hid (∀ (j:Nat) (h:j < s.size),j < k->s[j]≠46)
set_option maxHeartbeats 1500000 in
theorem J1 (s:ByteArray) (hs:s.size<=1500000) (w:World):Calls Tryz.prog 86 #[.string s] w fun e w'=>e=.returned (.bool (Q5 s.data.toList))/\Below w.heap.size w w':=by
 go_enter Tryz.func86,Tryz.ntmps86;go_wp2_with fail
 go_loop [3] (fun i=>zYb s i) (fun i=>s.size - (intOf i).toNat)
 case atStart=>exact ⟨0,by omega,rfl,fun j _ h=>by omega⟩
 case round=>
  obtain ⟨k,hk,rfl,HA⟩:=hrel
  by_cases hlt:k < s.size
  ·
   obtain ⟨c,hc⟩:∃ c,s[k].toNat=c:=⟨_,rfl⟩;have hcl:c < 256:=hc ▸ s[k].toNat_lt
   by_cases h46:c=46
   ·
    have e1:((c:Int)==46)=true:=by simp;omega
    have h46':s[k]=46:=UInt8.toNat_inj.1 (by rw [hc,h46];rfl)
    have HG:Hid (Q5 s.data.toList=false):=by
     show _=_;unfold Q5
     have:s.data.toList.contains 46=true:=by
      rw [List.contains_iff_mem];exact List.mem_of_getElem? (i:=k) (by rw [List.getElem?_eq_getElem (by simpa using hlt)];exact congrArg some h46')
     rw [this];simp
    clear HA h46';go_wp2_with fail;go_ret;exact ⟨Qq HG.out.symm,.refl _ _⟩
   ·
    have e1:((c:Int)==46)=false:=by simp;omega
    have HG:Hid (∀ (j:Nat) (h:j < s.size),j < k+1->s[j]≠46):=fun j hj hjk=>by
     by_cases e:j=k
     · subst e;exact fun h=>h46 (by rw [<- hc,h];rfl)
     · exact HA.out j hj (by omega)
    clear HA;go_wp2_with fail
    go_round
    case rel=>exact ⟨k+1,by omega,by go_num,HG.out⟩
    case measure=>simp [intOf]<;>omega
  ·
   have HG:Hid (Q5 s.data.toList=(decide (s.size<=16)&&Yx s.data.toList)):=by
    show _=_;unfold Q5
    have:s.data.toList.contains 46=false:=by
     rw [<- Bool.not_eq_true,List.contains_iff_mem];intro hm;obtain ⟨j,hj,e⟩:=List.getElem_of_mem hm;exact HA.out j (by simpa using hj) (by simp at hj;omega) e
    rw [this,Qx];simp
   clear HA;cases ht:Yx s.data.toList with
   | true=>
    have HT:=Zh ht
    by_cases h16:s.size<=16
    ·
     have HR:Hid (Q5 s.data.toList=true):=by show _=_;rw [HG.out,ht,decide_eq_true h16];rfl
     clear ht;go_wp2_with fail;refine (Y2 s hs _).mono ?_;rintro e w1 ⟨rfl,hb1⟩;rw [HT.out];have KB:=Zh hb1;clear hb1;go_wp2_with fail;go_ret;exact ⟨Qq (by rw [HR.out];simp;omega),KB.out⟩
    ·
     have HR:Hid (Q5 s.data.toList=false):=by show _=_;rw [HG.out,decide_eq_false h16];rfl
     have z1:decide ((s.size:Int)<=16)=false:=by simp;omega
     clear ht;go_wp2_with fail;refine (Y2 s hs _).mono ?_;rintro e w1 ⟨rfl,hb1⟩;rw [HT.out];have KB:=Zh hb1;clear hb1;go_wp2_with fail;go_ret;exact ⟨Qq HR.out.symm,KB.out⟩
   | false=>
    have HT:=Zh ht;have HR:Hid (Q5 s.data.toList=false):=by show _=_;rw [HG.out,ht,Bool.and_false]
    clear ht;go_wp2_with fail;refine (Y2 s hs _).mono ?_;rintro e w1 ⟨rfl,hb1⟩;rw [HT.out];have KB:=Zh hb1;clear hb1;go_wp2_with fail;go_ret;exact ⟨Qq HR.out.symm,KB.out⟩
end Go.Proofs.YtcbicdencgjfiaaGreatDoor
namespace Tryst
open Go Go.RowKit
structure RawKey (P:Program) (k:TypeId) (KS:Value->Prop):Prop where
 check:∀ (w:World) (em:Bool) {v:Value},KS v->(Instr.checkKey em 10000 k v).run P w=.ok () w
 find:∀ (w:World) {x:Value},KS x->∀ es:List MapEntry,(∀ e∈es,KS e.key)->
  ((Instr.findKey k x es).run P w=.ok none w/\∀ e∈es,e.key≠x)∨∃ j e,(Instr.findKey k x es).run P w=.ok (some (j,e.val)) w/\es[j]?=some e/\e.key=x
 stays:∀ (w:World) {v:Value},KS v->(Instr.keyThatStays v v).run P w=.ok v w
theorem RawKey.of_keyed {P:Program} {k:TypeId} (K:Maps.Keyed P k):RawKey P k (fun v=>∃ l,keyOf P k v=some l) where
 check w em:=by rintro v ⟨l,h⟩;exact K.check w em h
 find w:=by rintro x ⟨l,h⟩ es hes;exact K.find w h es hes
 stays w:=by rintro v ⟨l,h⟩;exact K.stays w h
theorem RawKey.sub {P:Program} {k:TypeId} {KS KS':Value->Prop} (K:RawKey P k KS) (h:∀ v,KS' v->KS v):RawKey P k KS' where
 check w em:=fun hv=>K.check w em (h _ hv)
 find w:=fun hx es hes=>K.find w (h _ hx) es (fun e he=>h _ (hes e he))
 stays w:=fun hv=>K.stays w (h _ hv)
def MapK {A:Type} (enc:A->Value) (ok:A->Prop) (w:World) (b n:Nat) (f:A->Option Value):Prop:=
 ∃ es clock,w.heap[b]?=some (.map es clock)/\es.size<=n/\(∀ e∈es.toList,∃ a,ok a/\e.key=enc a/\f a=some e.val)/\es.toList.Pairwise (fun x y=>x.key≠y.key)/\(∀ a v,f a=some v->ok a/\∃ e∈es.toList,e.key=enc a)
section
variable {A:Type} {enc:A->Value} {ok:A->Prop} {P:Program} {k e t:TypeId} {w w':World} {b n:Nat} {f:A->Option Value}
theorem MapK.lt (h:MapK enc ok w b n f):b < w.heap.size:=by
 obtain ⟨es,c,h1,_⟩:=h;exact (Array.getElem?_eq_some_iff.1 h1).1
theorem MapK.of_block (h:MapK enc ok w b n f) (hb:w'.heap[b]?=w.heap[b]?):MapK enc ok w' b n f:=by
 obtain ⟨es,c,h1,h2⟩:=h;exact ⟨es,c,hb.trans h1,h2⟩
theorem MapK.growB (h:MapK enc ok w b n f) {B:Nat} (hB:b < B) (hb:Below B w w'):MapK enc ok w' b n f:=h.of_block (hb.block b hB)
theorem MapK.grow (h:MapK enc ok w b n f) (hb:Below w.heap.size w w'):MapK enc ok w' b n f:=h.growB h.lt hb
theorem MapK.away (h:MapK enc ok w b n f) {c o:Nat} (hc:c≠b) (u:Value):MapK enc ok (w.setCell ⟨c,o,none⟩ u) b n f:=h.of_block (Below.heap_setCell _ _ _ _ (fun e=>hc e.symm))
theorem MapK.kept {row:Option Nat} (h:MapK enc ok w b n f) (hg:w.grownBy w' row) (hr:some b≠row):MapK enc ok w' b n f:=h.of_block (hg.block b h.lt hr)
theorem MapK.made (enc:A->Value) (ok:A->Prop) (w:World):MapK enc ok (w.alloc (.map #[] 0)) w.heap.size 0 (fun _=>none):=
 ⟨#[],0,(MapKept.heap_alloc w _).1,Nat.le_refl _,by simp,by simp,by simp⟩
theorem MapK.mono {n':Nat} (h:MapK enc ok w b n f) (hn:n<=n'):MapK enc ok w b n' f:=by
 obtain ⟨es,c,h1,h2,h3⟩:=h;exact ⟨es,c,h1,Nat.le_trans h2 hn,h3⟩
variable (K:RawKey P k (fun v=>∃ a,ok a/\v=enc a)) (hi:∀ a a',enc a=enc a'→a=a')
include K hi
theorem MapK.look (h:MapK enc ok w b n f) (ht:P.underlying t=some (.map k e)) {z:Value} (hz:(zeroValue e).run P w=.ok z w) {a:A} (ha:ok a) (c:Bool) :
  (Instr.lookup t (.map (some b)) (enc a) c).run P w=.ok (if c then .tuple #[(f a).getD z,.bool (f a).isSome] else (f a).getD z) w:=by
 obtain ⟨es,cl,h1,h2,h3,hp,h4⟩:=h
 have hk:∀ e∈es.toList,∃ a,ok a/\e.key=enc a:=fun e he=>by
  obtain ⟨a,h5,h6,_⟩:=h3 e he;exact ⟨a,h5,h6⟩
 rcases K.find w ⟨a,ha,rfl⟩ es.toList hk with ⟨g1,g2⟩ | ⟨j,e0,g1,g2,g3⟩
 ·
  have hn:f a=none:=by
   cases hf:f a with
   | none=>rfl
   | some v=>
    obtain ⟨_,e,he,hke⟩:=h4 a v hf;exact absurd hke (g2 e he)
  rw [hn];simp [Instr.lookup,run_underlying ht,MapKept.run_getObj_map h1,K.check w _ ⟨a,ha,rfl⟩,g1,hz,Result.andThen]
 · obtain ⟨a',_,h6,h7⟩:=h3 e0 (List.mem_of_getElem? g2);obtain rfl:a'=a:=hi _ _ (h6.symm.trans g3);rw [h7];simp [Instr.lookup,run_underlying ht,MapKept.run_getObj_map h1,K.check w _ ⟨a',ha,rfl⟩,g1,Result.andThen]
theorem MapK.put (h:MapK enc ok w b n f) (ht:P.underlying t=some (.map k e)) [DecidableEq A] {a:A} (ha:ok a) (v:Value) :
  ∃ w',(Instr.mapUpdate t (.map (some b)) (enc a) v).run P w=.ok () w'/\MapK enc ok w' b (n+1) (fun x=>if x=a then some v else f x)/\w.grownBy w' (some b)/\w'.heap.size=w.heap.size:=by
 obtain ⟨es,cl,h1,h2,h3,hp,h4⟩:=h;have hlt:=(Array.getElem?_eq_some_iff.1 h1).1
 have hk:∀ e∈es.toList,∃ a,ok a/\e.key=enc a:=fun e he=>by
  obtain ⟨a,h5,h6,_⟩:=h3 e he;exact ⟨a,h5,h6⟩
 have grown:∀ o:Obj,w.grownBy (ChangeMaps.setBlock w b o) (some b):=fun o=>⟨rfl,rfl,rfl,by simp [ChangeMaps.setBlock],fun i _ hi=>ChangeMaps.heap_setBlock_other h1 o (fun e=>hi (by rw [e]))⟩
 have hsz:∀ o:Obj,(ChangeMaps.setBlock w b o).heap.size=w.heap.size:=fun o=>by simp [ChangeMaps.setBlock]
 rcases K.find w ⟨a,ha,rfl⟩ es.toList hk with ⟨g1,g2⟩ | ⟨j,e0,g1,g2,g3⟩
 ·
  refine ⟨ChangeMaps.setBlock w b (.map (es.push ⟨enc a,v,cl⟩) (cl+1)),by simp [Instr.mapUpdate,run_underlying ht,MapKept.run_getObj_map h1,K.check w false ⟨a,ha,rfl⟩,g1,MapKept.run_setObj_map _ h1,Result.andThen,ChangeMaps.setBlock],⟨es.push ⟨enc a,v,cl⟩,cl+1,ChangeMaps.heap_setBlock_same h1 _,by simp;omega,fun x hx=>?_,?_,fun x u hx=>?_⟩,grown _,hsz _⟩
  ·
   simp only [Array.toList_push,List.mem_append,List.mem_singleton] at hx
   rcases hx with hx | rfl
   · obtain ⟨y,y1,y2,y3⟩:=h3 x hx;refine ⟨y,y1,y2,?_⟩;exact (if_neg (fun e=>g2 x hx (by rw [y2,e]))).trans y3
   · exact ⟨a,ha,rfl,if_pos rfl⟩
  · rw [Array.toList_push,List.pairwise_append];refine ⟨hp,by simp,fun x hx y hy=>?_⟩;rw [List.mem_singleton] at hy;subst hy;exact g2 x hx
  ·
   by_cases hxa:x=a
   · subst hxa;exact ⟨ha,⟨enc x,v,cl⟩,by simp,rfl⟩
   ·
    replace hx:f x=some u:=(if_neg hxa).symm.trans hx
    obtain ⟨y1,e,y2,y3⟩:=h4 x u hx;exact ⟨y1,e,by simp [y2],y3⟩
 ·
  have hj:es[j]?=some e0:=by simpa using g2
  have hjl:j < es.toList.length:=(List.getElem?_eq_some_iff.1 g2).1;have hlist:(es.modify j (fun e'=>{ e' with key:=enc a,val:=v })).toList=es.toList.set j { e0 with key:=enc a,val:=v }:=by rw [Array.toList_modify,ChangeMaps.modify_eq_set _ _ _ _ g2]
  have hne:∀ x∈es.toList,x.key=enc a->x=e0:=fun x hx hxk=>by
   obtain ⟨i,hi',rfl⟩:=List.mem_iff_getElem.1 hx;obtain ⟨_,he0⟩:=List.getElem?_eq_some_iff.1 g2
   rcases Nat.lt_trichotomy i j with hij | hij | hij
   · exact absurd (hxk.trans (g3.symm.trans (by rw [he0]))) (List.pairwise_iff_getElem.1 hp i j hi' hjl hij)
   · subst hij;exact he0
   · exact absurd (((by rw [he0];exact g3):es.toList[j].key=enc a).trans hxk.symm) (List.pairwise_iff_getElem.1 hp j i hjl hi' hij)
  refine ⟨ChangeMaps.setBlock w b (.map (es.modify j (fun e'=>{ e' with key:=enc a,val:=v })) cl),?_,⟨_,cl,ChangeMaps.heap_setBlock_same h1 _,by simp;omega,fun x hx=>?_,?_,fun x u hx=>?_⟩,grown _,hsz _⟩
  · have hst:=K.stays w ⟨a,ha,rfl⟩;simp [Instr.mapUpdate,run_underlying ht,MapKept.run_getObj_map h1,K.check w false ⟨a,ha,rfl⟩,g1,MapKept.run_setObj_map _ h1,Result.andThen,ChangeMaps.setBlock,hj,g3,hst]
  ·
   rw [hlist] at hx;obtain ⟨i,hi',rfl⟩:=List.mem_iff_getElem.1 hx;rw [List.length_set] at hi'
   by_cases hij:j=i
   · subst hij;rw [List.getElem_set_self];exact ⟨a,ha,rfl,if_pos rfl⟩
   ·
    rw [List.getElem_set_ne hij];obtain ⟨y,y1,y2,y3⟩:=h3 _ (List.getElem_mem hi');refine ⟨y,y1,y2,?_⟩;refine (if_neg ?_).trans y3
    ·
     intro e;obtain ⟨_,he0⟩:=List.getElem?_eq_some_iff.1 g2;have hk2:es.toList[i].key=enc a:=by rw [y2,e]
     have hk3:es.toList[j].key=enc a:=by rw [he0];exact g3
     rcases Nat.lt_or_gt_of_ne hij with h | h
     · exact List.pairwise_iff_getElem.1 hp j i hjl hi' h (hk3.trans hk2.symm)
     · exact List.pairwise_iff_getElem.1 hp i j hi' hjl h (hk2.trans hk3.symm)
  ·
   rw [hlist];have:(es.toList.map (·.key)).Pairwise (·≠·):=List.pairwise_map.2 hp
   have h2:(es.toList.set j { e0 with key:=enc a,val:=v }).map (·.key)=es.toList.map (·.key):=by
    rw [List.map_set]
    apply List.ext_getElem
    · simp
    ·
     intro i q1 q2
     by_cases hij:j=i
     · subst hij;obtain ⟨_,he0⟩:=List.getElem?_eq_some_iff.1 g2;rw [List.getElem_set_self,List.getElem_map,he0];exact g3.symm
     · rw [List.getElem_set_ne hij]
   have h5:((es.toList.set j { e0 with key:=enc a,val:=v }).map (·.key)).Pairwise (·≠·):=by rw [h2];exact this
   exact List.pairwise_map.1 h5
  ·
   have self:∃ e∈(es.modify j (fun e'=>{ e' with key:=enc a,val:=v })).toList,e.key=enc a:=by
    rw [hlist];exact ⟨_,List.mem_set hjl _,rfl⟩
   by_cases hxa:x=a
   · subst hxa;exact ⟨ha,self⟩
   ·
    replace hx:f x=some u:=(if_neg hxa).symm.trans hx
    obtain ⟨y1,e,y2,y3⟩:=h4 x u hx;refine ⟨y1,e,?_,y3⟩;rw [hlist];obtain ⟨i,hi',rfl⟩:=List.mem_iff_getElem.1 y2
    have hij:j≠i:=fun q=>by
     subst q;obtain ⟨_,he0⟩:=List.getElem?_eq_some_iff.1 g2;exact hxa (hi _ _ (y3.symm.trans (by rw [he0];exact g3)))
    have hq:es.toList[i]=(es.toList.set j { e0 with key:=enc a,val:=v })[i]'(by rw [List.length_set];exact hi'):=by rw [List.getElem_set_ne hij]
    rw [hq];exact List.getElem_mem _
theorem jQq {ops:Array Oper} {rest:List Oper} {o:Oper} {a:Act} {Q:Exit->Act->World->Prop} (hg:o.guard=none) (m x:Operand) (c:Bool) (hop:o.op=Op.lookup t m x c)
  (h:MapK enc ok w b n f) (ht:P.underlying t=some (.map k e)) {z:Value} (hz:(zeroValue e).run P w=.ok z w) (hm:a.eval m=.map (some b)) {y:A} (hy:ok y) (hx:a.eval x=enc y)
  (hK:wpList P ops Q rest (a.put o.dst (if c then .tuple #[(f y).getD z,.bool (f y).isSome] else (f y).getD z)) w):wpList P ops Q (o :: rest) a w:=by
 refine wpList_plain hg fun K' hK'=>?_
 have hrun:=h.look K hi ht hz hy c;unfold Oper.wp;simp [execOp,hop,hm,hx,Result.andThen];rw [hrun];exact hK' _ _ hK
theorem zQe [DecidableEq A] {ops:Array Oper} {rest:List Oper} {o:Oper} {a:Act} {Q:Exit->Act->World->Prop} (hg:o.guard=none) (m x y:Operand) (hop:o.op=Op.mapUpdate t m x y∨o.op=Op.insert t m x y)
  (h:MapK enc ok w b n f) (ht:P.underlying t=some (.map k e)) (hm:a.eval m=.map (some b)) {u:A} (hu:ok u) (hx:a.eval x=enc u) {v:Value} (hy:a.eval y=v)
  (hK:∀ w',MapK enc ok w' b (n+1) (fun x=>if x=u then some v else f x)->w.grownBy w' (some b)->w'.heap.size=w.heap.size->wpList P ops Q rest (a.put o.dst undef) w'):wpList P ops Q (o :: rest) a w:=by
 refine wpList_plain hg fun K' hK'=>?_
 obtain ⟨w',hrun,h1,h2,h3⟩:=h.put K hi ht hu v;unfold Oper.wp
 rcases hop with hop | hop
 · simp [execOp,hop,hm,hx,hy,hrun,Result.andThen];exact hK' _ _ (hK w' h1 h2 h3)
 · simp [execOp,hop,hm,hx,hy,hrun,Result.andThen];exact hK' _ _ (hK w' h1 h2 h3)
end
end Tryst
namespace Go.Proofs.YtcbicdencgjfiaaGreatDoor
open Tryst
end Go.Proofs.YtcbicdencgjfiaaGreatDoor
namespace Tryst
open Go Go.RowKit
noncomputable def least (R:Nat->Prop):Nat:=open Classical in if h:∃ m,R m/\∀ k,R k->m<=k then Classical.choose h else 0
end Tryst
namespace Go.Proofs.YtcbicdencgjfiaaGreatDoor
open Go.RowKit Tryst
def vYf (l:List ByteArray) (i:Value):Prop:=∃ k:Nat,k<=l.length/\i=.int .i64 k/\Hid (∀ (j:Nat) (h:j < l.length),j < k->Xb l[j].data.toList=true)
set_option maxHeartbeats 4000000 in
theorem zYa (s:ByteArray) (hs:s.size<=1500000) (w:World):Calls Tryz.prog 145 #[.string s,.bool true] w fun e w'=>e=.returned (.bool (Yz s.data.toList))/\Below w.heap.size w w':=by
 go_enter Tryz.func145,Tryz.ntmps145;go_wp2_with fail;refine (vY7 s hs w).mono ?_;rintro e w1 ⟨v,l,rfl,ho,hd,hb1⟩
 have hlen:l.length<=s.size+1:=by
  have:=(kYf s.data.toList).1;rw [<- hd,List.length_map,Qx] at this;exact this
 have hsz:∀ x∈l,x.size<=s.size:=fun x hx=>by
  have:=(kYf s.data.toList).2 x.data.toList (by rw [<- hd];exact List.mem_map.2 ⟨x,hx,rfl⟩);rw [Qx,Qx] at this;exact this
 obtain ⟨a,c,rfl,hst,hsl,_⟩:=ho.strs;have HST:=Zh hst;have HD:=Zh hd;have KB:=Zh hb1;have HSZ:=Zh hsz;clear ho hst hd hb1 hsl hsz;go_wp2_with fail
 go_loop [6] (fun i=>vYf l i) (fun i=>l.length - (intOf i).toNat)
 case atStart=>exact ⟨0,by omega,rfl,fun j _ h=>by omega⟩
 case round=>
  obtain ⟨k,hk,rfl,HA⟩:=hrel
  by_cases hlt:k < l.length
  ·
   obtain ⟨b,o,ha,hb⟩:=HST.out.head hlt;subst ha;obtain ⟨_,f0⟩:=HST.out.at hlt;have x1:(k:Int) < l.length:=by omega
   have x2:(0:Int)<=k:=by omega
   have hls:=HSZ.out l[k] (List.getElem_mem hlt);cases hp:Z1 l[k].data.toList with
   | true=>
    skip
    have HP:=Zh hp
    have HG:Hid (∀ (j:Nat) (h:j < l.length),j < k+1->Xb l[j].data.toList=true):=fun j hj hjk=>by
     by_cases e:j=k
     · subst e;unfold Xb;simp [HP.out]
     · exact HA.out j hj (by omega)
    clear hp HA;go_wp2_with fail;refine (kYY l[k] (by omega) _).mono ?_;rintro e w2 ⟨rfl,rfl⟩;rw [HP.out];go_wp2_with fail
    go_round
    case rel=>exact ⟨k+1,by omega,by go_num,HG.out⟩
    case measure=>simp [intOf]<;>omega
   | false=>
    by_cases h1:l[k].data.toList=[42]
    ·
     skip
     have z1:(l[k].toList==[42])=true:=by rw [Qp,h1];rfl
     have HP:=Zh hp
     have HG:Hid (∀ (j:Nat) (h:j < l.length),j < k+1->Xb l[j].data.toList=true):=fun j hj hjk=>by
      by_cases e:j=k
      · subst e;unfold Xb;simp [h1]
      · exact HA.out j hj (by omega)
     clear hp HA;go_wp2_with fail;refine (kYY l[k] (by omega) _).mono ?_;rintro e w2 ⟨rfl,rfl⟩;rw [HP.out];go_wp2_with fail
     go_round
     case rel=>exact ⟨k+1,by omega,by go_num,HG.out⟩
     case measure=>simp [intOf]<;>omega
    by_cases h2:l[k].data.toList=[42,42]
    ·
     skip
     have z1:(l[k].toList==[42])=false:=by rw [Qp];simpa using h1
     have z2:(l[k].toList==[42,42])=true:=by rw [Qp,h2];rfl
     have HP:=Zh hp
     have HG:Hid (∀ (j:Nat) (h:j < l.length),j < k+1->Xb l[j].data.toList=true):=fun j hj hjk=>by
      by_cases e:j=k
      · subst e;unfold Xb;simp [h2]
      · exact HA.out j hj (by omega)
     clear hp HA;go_wp2_with fail;refine (kYY l[k] (by omega) _).mono ?_;rintro e w2 ⟨rfl,rfl⟩;rw [HP.out];go_wp2_with fail
     go_round
     case rel=>exact ⟨k+1,by omega,by go_num,HG.out⟩
     case measure=>simp [intOf]<;>omega
    have HP:=Zh hp
    have HG:Hid (Yz s.data.toList=false):=by
     show _=_;unfold Yz;rw [<- HD.out]
     have:(l.map (fun x=>x.data.toList)).all Xb=false:=by
      rw [List.all_eq_false];exact ⟨_,List.mem_map.2 ⟨l[k],List.getElem_mem hlt,rfl⟩,by unfold Xb;rw [hp];simp [h1,h2]⟩
     rw [this,Bool.and_false]
    have z1:(l[k].toList==[42])=false:=by rw [Qp];simpa using h1
    have z2:(l[k].toList==[42,42])=false:=by rw [Qp];simpa using h2
    clear hp HA h1 h2;go_wp2_with fail;refine (kYY l[k] (by omega) _).mono ?_;rintro e w2 ⟨rfl,rfl⟩;rw [HP.out];go_wp2_with fail;go_ret;exact ⟨Qq HG.out.symm,KB.out⟩
  ·
   have HG:Hid (Yz s.data.toList=(decide (s.size<=40)&&decide (l.length<=8))):=by
    show _=_;unfold Yz;rw [<- HD.out]
    have:(l.map (fun x=>x.data.toList)).all Xb=true:=by
     rw [List.all_eq_true];intro x hx;obtain ⟨y,hy,rfl⟩:=List.mem_map.1 hx;obtain ⟨j,hj,rfl⟩:=List.getElem_of_mem hy;exact HA.out j hj (by omega)
    rw [this,Bool.and_true,Qx,List.length_map]
   clear HA
   by_cases h8:l.length<=8
   ·
    by_cases h40:s.size<=40
    ·
     have HR:Hid (Yz s.data.toList=true):=by show _=_;rw [HG.out,decide_eq_true h8,decide_eq_true h40];rfl
     go_wp2_with fail;go_ret;exact ⟨Qq (by rw [HR.out];simp;omega),KB.out⟩
    ·
     have HR:Hid (Yz s.data.toList=false):=by show _=_;rw [HG.out,decide_eq_false h40];rfl
     have z1:decide ((s.size:Int)<=40)=false:=by simp;omega
     go_wp2_with fail;go_ret;exact ⟨Qq HR.out.symm,KB.out⟩
   ·
    have HR:Hid (Yz s.data.toList=false):=by show _=_;rw [HG.out,decide_eq_false h8,Bool.and_false]
    have z1:decide ((l.length:Int)<=8)=false:=by simp;omega
    go_wp2_with fail;go_ret;exact ⟨Qq HR.out.symm,KB.out⟩
theorem zYM (s:ByteArray) (hs:s.size<=1500000) (w:World):Calls Tryz.prog 117 #[.string s] w fun e w'=>e=.returned (.bool (Yz s.data.toList))/\Below w.heap.size w w':=by
 go_enter Tryz.func117,Tryz.ntmps117;go_wp2_with fail;refine (zYa s hs w).mono ?_;rintro e w1 ⟨rfl,hb1⟩;go_wp2_with fail;go_ret;exact ⟨rfl,hb1⟩
