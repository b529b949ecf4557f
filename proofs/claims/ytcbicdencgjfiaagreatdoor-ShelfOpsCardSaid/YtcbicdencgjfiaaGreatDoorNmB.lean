/- The walks of ref02.Topic and ref04.Field. -/
import Derived.Test.YtcbicdencgjfiaaGreatDoorProg
import Derived.Deep.RegionWith
import Derived.Deep.Cut
import Derived.Test.YtcbicdencgjfiaaGreatDoorFldG
set_option linter.unusedVariables false
set_option linter.unusedSimpArgs false
namespace Go.Proofs.YtcbicdencgjfiaaGreatDoor
open Go.RowKit Tryst
set_option maxHeartbeats 400000
set_option maxRecDepth 20000
theorem partC_ways (c:Nat) (hc:c < 256) (x:UInt8) (hx:x.toNat=c) :
  (97≤c∧c≤122∧Hid (partC x=true))∨(97≤c∧¬ c≤122∧48≤c∧¬ c≤57∧((c:Int)==95)=false∧Hid (partC x=false))∨(¬ 97≤c∧48≤c∧c≤57∧Hid (partC x=true))∨(¬ 97≤c∧48≤c∧¬ c≤57∧((c:Int)==95)=true∧Hid (partC x=true))∨(¬ 97≤c∧48≤c∧¬ c≤57∧((c:Int)==95)=false∧Hid (partC x=false))∨(¬ 97≤c∧¬ 48≤c∧((c:Int)==95)=false∧Hid (partC x=false)):=by
 have hp:partC x=((decide (97≤c)&&decide (c≤122))||(decide (48≤c)&&decide (c≤57))||c==95):=by unfold partC;rw [hx]
 unfold Hid
 rw [hp]
 by_cases h1:97≤c
 ·
  by_cases h2:c≤122
  ·
   exact .inl ⟨h1,h2,by simp [h1,h2]⟩
  ·
   exact .inr (.inl ⟨h1,h2,by omega,by omega,by simp;omega,by simp [h2];omega⟩)
 ·
  by_cases h2:48≤c
  ·
   by_cases h3:c≤57
   ·
    exact .inr (.inr (.inl ⟨h1,h2,h3,by simp [h2,h3]⟩))
   ·
    by_cases h4:c=95
    ·
     exact .inr (.inr (.inr (.inl ⟨h1,h2,h3,by simp;omega,by simp [h4]⟩)))
    ·
     exact .inr (.inr (.inr (.inr (.inl ⟨h1,h2,h3,by simp;omega,by simp [h1,h3,h4]⟩))))
  ·
   exact .inr (.inr (.inr (.inr (.inr ⟨h1,h2,by simp;omega,by simp [h1,h2];omega⟩))))
def RPartRel (s:ByteArray) (i:Value):Prop:=∃ k:Nat,k≤s.size∧i=.int .i64 k∧Hid (∀ (j:Nat) (h:j < s.size),j < k→partC s[j]=true)
set_option maxHeartbeats 1000000 in
theorem rpart_c (s:ByteArray) (hs:s.size≤1000000000) (w:World):Calls Tryz.prog 195 #[.string s] w fun e w'=>e=.returned (.bool (partB s.data.toList))∧w=w':=by
 go_enter Tryz.func195,Tryz.ntmps195
 go_wp2_with fail
 go_loop [3] (fun i=>RPartRel s i) (fun i=>s.size - (intOf i).toNat)
 case atStart=>exact ⟨0,by omega,rfl,fun j _ h=>by omega⟩
 case round=>
  obtain ⟨k,hk,rfl,HA⟩:=hrel
  by_cases hlt:k < s.size
  ·
   obtain ⟨c,hc⟩:∃ c,s[k].toNat=c:=⟨_,rfl⟩
   have hcl:c < 256:=hc ▸ s[k].toNat_lt
   have hbad:Hid (partC s[k]=false→partB s.data.toList=false):=fun h=>by
    unfold partB
    have:s.data.toList.all partC=false:=by
     rw [List.all_eq_false]
     exact ⟨s[k],List.mem_of_getElem? (by rw [List.getElem?_eq_getElem (by simpa using hlt)];rfl),by rw [h];simp⟩
    rw [this,Bool.and_false]
   have hgood:Hid (partC s[k]=true→∀ (j:Nat) (h:j < s.size),j < k+1→partC s[j]=true):=fun h j hj hjk=>by
    by_cases e:j=k
    ·
     subst e;exact h
    ·
     exact HA.out j hj (by omega)
   rcases partC_ways c hcl s[k] hc with ⟨d1,d2,HP⟩ | ⟨d1,d2,d3,d4,d5,HP⟩ | ⟨d1,d2,d3,HP⟩ | ⟨d1,d2,d3,d4,HP⟩ | ⟨d1,d2,d3,d4,HP⟩ | ⟨d1,d2,d3,HP⟩
   ·
    have HG:=Lib.hid (hgood.out HP.out)
    clear HA HP hbad hgood
    go_wp2_with fail
    all_goals
     go_round
     case rel=>exact ⟨k+1,by omega,by go_num,HG.out⟩
     case measure=>simp [intOf]<;>omega
   ·
    have HG:=Lib.hid (hbad.out HP.out)
    have z1:decide ((c:Int)≤122)=false:=by simp;omega
    have z2:decide ((c:Int)≤57)=false:=by simp;omega
    clear HA HP hbad hgood
    go_wp2_with fail
    go_ret
    exact ⟨ret_bool HG.out.symm,rfl⟩
   ·
    have HG:=Lib.hid (hgood.out HP.out)
    clear HA HP hbad hgood
    go_wp2_with fail
    all_goals
     go_round
     case rel=>exact ⟨k+1,by omega,by go_num,HG.out⟩
     case measure=>simp [intOf]<;>omega
   ·
    have HG:=Lib.hid (hgood.out HP.out)
    clear HA HP hbad hgood
    go_wp2_with fail
    all_goals
     go_round
     case rel=>exact ⟨k+1,by omega,by go_num,HG.out⟩
     case measure=>simp [intOf]<;>omega
   ·
    have HG:=Lib.hid (hbad.out HP.out)
    have z2:decide ((c:Int)≤57)=false:=by simp;omega
    clear HA HP hbad hgood
    go_wp2_with fail
    go_ret
    exact ⟨ret_bool HG.out.symm,rfl⟩
   ·
    have HG:=Lib.hid (hbad.out HP.out)
    have z2:decide ((48:Int)≤c)=false:=by simp;omega
    clear HA HP hbad hgood
    go_wp2_with fail
    go_ret
    exact ⟨ret_bool HG.out.symm,rfl⟩
  ·
   have hall:s.data.toList.all partC=true:=by
    rw [List.all_eq_true]
    intro x hx
    obtain ⟨j,hj,rfl⟩:=List.getElem_of_mem hx
    exact HA.out j (by simpa using hj) (by simp at hj;omega)
   have HP:Hid (partB s.data.toList=!s.data.toList.isEmpty):=by
    show partB s.data.toList=_
    unfold partB;rw [hall,Bool.and_true]
   clear hall HA
   go_wp2_with fail
   go_ret
   refine ⟨ret_bool ?_,rfl⟩
   rw [HP.out,← str_toList]
theorem strT:SliceOf Tryz.prog 40 9 1 16:=.mk' Tryz.underlying40 (z:=.string ⟨#[]⟩) (by kernel_rfl) rfl (by decide) (by decide)
def CutR (s:ByteArray) (w:World) (e:Ending) (w':World):Prop:=∃ v l,e=.returned v∧SOwn 9 w' w.heap.size v l∧l.map (fun x=>x.data.toList)=dots s.data.toList∧Below w.heap.size w w'
def CutRel (s:ByteArray) (w:World) (v i:Value) (wr:World):Prop:=∃ (k:Nat) (l:List ByteArray),k≤s.size∧i=.int .i64 k∧Hid (SOwn 9 wr w.heap.size v l)∧Hid (l.map (fun x=>x.data.toList)=dots (s.data.toList.take k))∧0 < l.length∧l.length≤k+1∧(∀ x∈l,x.size≤k)∧Hid (Below w.heap.size w wr)∧w.heap.size≤wr.heap.size
set_option maxHeartbeats 1000000 in
theorem rcut_c (s:ByteArray) (hs:s.size≤1000000) (w:World):Calls Tryz.prog 194 #[.string s] w fun e w'=>CutR s w e w':=by
 go_enter Tryz.func194,Tryz.ntmps194
 go_wp2_with fail
 have HS0:Hid (SOwn 9 (w.alloc (.cells #[.string ⟨#[]⟩] 9)) w.heap.size (.slice (some ⟨w.heap.size,0,none⟩) 1 1) [⟨#[]⟩]):=by
  show World.ownsRow _ _ _ _ _ _ _
  refine ⟨rfl,.inr ⟨w.heap.size,1,#[.string ⟨#[]⟩],rfl,Nat.le_refl _,?_,Nat.le_refl _,by unfold maxLen;omega,rfl,rfl⟩⟩
  show (w.heap.push _)[w.heap.size]?=_;simp
 go_loopw [3,4] (fun v i wr=>CutRel s w v i wr) (fun _ i _=>s.size - (intOf i).toNat)
 case atStart=>exact ⟨0,[⟨#[]⟩],by omega,rfl,HS0,rfl,by simp,by simp,fun x h=>by rw [List.mem_singleton] at h;subst h;exact Nat.le_refl 0,balloc _ (.refl _ _),by simp⟩
 case round=>
  clear HS0
  obtain ⟨k,l,hk,rfl,HO,HD,hl0,hl1,hx,HB,hz⟩:=hrel
  obtain ⟨wo,rfl⟩:∃ wo,wo=wr:=⟨_,rfl⟩
  by_cases hlt:k < s.size
  ·
   have htk:s.data.toList.take (k+1)=s.data.toList.take k++[s[k]]:=by
    rw [List.take_succ_eq_append_getElem (by simpa using hlt)];rfl
   have hsn:=dots_snoc (s.data.toList.take k) s[k]
   rw [← htk,← HD.out] at hsn
   obtain ⟨c,hc⟩:∃ c,s[k].toNat=c:=⟨_,rfl⟩
   have hcl:c < 256:=hc ▸ s[k].toNat_lt
   obtain ⟨g,cc,hv,hg1,hg2,hfz,hcell,hset⟩:=HO.out.row hl0
   subst hv
   by_cases h46:c=46
   ·
    have e1:((c:Int)==46)=true:=by simp;omega
    have h46':s[k]=46:=UInt8.toNat_inj.1 (by rw [hc,h46];rfl)
    rw [if_pos h46'] at hsn
    have HN:Hid ((l++[(⟨#[]⟩:ByteArray)]).map (fun x=>x.data.toList)=dots (s.data.toList.take (k+1))):=by
     show _=_
     rw [hsn,List.map_append];rfl
    have HX:Hid (∀ x∈l++[(⟨#[]⟩:ByteArray)],x.size≤k+1):=fun x hxx=>by
     rcases List.mem_append.1 hxx with h | h
     ·
      have:=hx x h;omega
     ·
      rw [List.mem_singleton] at h;subst h;exact Nat.zero_le _
    have HXo:=Lib.hid hx
    clear htk hsn h46' HD hx hfz hcell hset
    go_wp2_with (at_builtin;refine wpList_app1 strT rfl _ _ rfl w.heap.size (.slice (some ⟨g,0,none⟩) l.length cc) l.length (l.map Value.string) rfl HO.out _ _ rfl rfl (by omega) hz ?_;intro v1 w1 hown1 hb1)
    have HO2:Hid (SOwn 9 w1 w.heap.size v1 (l++[⟨#[]⟩])):=by
     show World.ownsRow _ _ _ _ _ _ _
     rw [List.length_append,List.map_append];exact hown1
    have HB2:=Lib.hid (HB.out.trans hb1)
    have hz2:w.heap.size≤w1.heap.size:=by have:=hb1.size;omega
    clear hown1 hb1 HO HB
    go_roundw
    case rel=>exact ⟨k+1,l++[⟨#[]⟩],by omega,by go_num,HO2,HN,by simp,by simp;omega,HX.out,HB2,hz2⟩
    case measure=>simp [intOf]<;>omega
   ·
    have e1:((c:Int)==46)=false:=by simp;omega
    have h46':¬ s[k]=46:=fun h=>h46 (by rw [← hc,h];rfl)
    rw [if_neg h46'] at hsn
    have hj:l.length - 1 < l.length:=by omega
    have c1:=hcell (l.length - 1) hj
    have z1:(0:Int) < l.length:=by omega
    have z8:(1:Int)≤l.length:=by omega
    have z11:(0:Int)≤(k:Int)+1:=by omega
    have z12:(k:Int)≤(k:Int)+1:=by omega
    have z9:(k:Int)≤s.size:=by omega
    have z10:(k:Int)+1≤s.size:=by omega
    have z2:IntKind.i64.wrap ((l.length:Int) - 1)=(l.length:Int) - 1:=IntWalk.i64_in _ (by omega)
    have z3:(0:Int)≤(l.length:Int) - 1:=by omega
    have z4:((l.length:Int) - 1).toNat=l.length - 1:=by omega
    have z5:(l.length:Int) - 1 < l.length:=by omega
    have z6:IntKind.i64.wrap ((k:Int)+1)=(k:Int)+1:=IntWalk.i64_in _ (by omega)
    have z7:((k:Int)+1).toNat=k+1:=by omega
    obtain ⟨u,hu⟩:∃ u,l[l.length - 1]=u:=⟨_,rfl⟩
    rw [hu] at c1
    have hus:u.size≤k:=hx u (by rw [← hu];exact List.getElem_mem hj)
    have hxs:(s.extract k (k+1)).size=1:=by simp [ByteArray.size_extract];omega
    have HN:Hid ((l.set (l.length - 1) (u++s.extract k (k+1))).map (fun x=>x.data.toList)=dots (s.data.toList.take (k+1))):=by
     show _=_
     rw [hsn,List.map_set,List.length_map]
     congr 1
     rw [app_str,List.getD_eq_getElem?_getD,List.getElem?_map,List.getElem?_eq_getElem hj,hu]
     simp only [Option.map_some,Option.getD_some]
     congr 1
     rw [sub_str,htk,List.drop_left' (by simp;omega)]
    have HX:Hid (∀ x∈l.set (l.length - 1) (u++s.extract k (k+1)),x.size≤k+1):=fun x hxx=>by
     rcases List.mem_or_eq_of_mem_set hxx with h | h
     ·
      have:=hx x h;omega
     ·
      rw [h,ByteArray.size_append,hxs];omega
    have HSet:=Lib.hid hset
    have HFz:=Lib.hid (hfz (l.length - 1))
    clear htk hsn h46' HD hx hcell hset hu hfz
    go_wp2_with fail
    refine Tryst2.wp_region_grows [.is (.slice (some ⟨g,0,none⟩) l.length cc),.is (.slice (some ⟨g,0,none⟩) l.length cc),.is (.int .i64 l.length),.is (.int .i64 ((l.length:Int) - 1)),.is (.pointer (some ⟨g,l.length - 1,none⟩)),.is (.string u),.is (.string s),.is (.int .i64 k),.is (.int .i64 k),.is (.int .i64 ((k:Int)+1)),.is (.string (s.extract k (k+1))),.is (.string (u++s.extract k (k+1))),.is (.pointer (some ⟨g,l.length - 1,none⟩))] (by kernel_rfl) (by kernel_rfl) ?obl ?fin
    case obl=>
     simp only [YA,YL,YO,YR,Op.operands,Call.operands]
     repeat' apply And.intro
     any_goals trivial
     all_goals (intro tv w' hg hold hd;(try simp at hold);obtain ⟨hcg,hfg,hsg⟩:=YG hg)
     all_goals first | (go_simp;done) | (go_simp;rw [if_neg (by omega)];exact ⟨.refl _,rfl⟩) | (obtain ⟨⟨g,hvg,hgg,hcell⟩,_⟩:=hd;have hcell0:=hcell 0 (by decide);simp at hcell0;go_simp;done) 
    case fin=>
     intro tv w' hg hR
     simp only [YF,YL,YR] at hR
     obtain ⟨hcg,hfg,hsg⟩:=YG hg
     simp only [YP,YL,Act.put,hR]
     have hbw:=Tryst2.Grow.below hg (.refl wo.heap.size wo)
     have HO2:=Lib.hid (HO.out.grow hbw)
     have KB:=Lib.hid (HB.out.trans (hbw.mono hz))
     have hzw:w.heap.size≤w'.heap.size:=by omega
     have hfw:w'.frozen? ⟨g,l.length - 1,none⟩=false:=by rw [hfg _ _ hg2];exact HFz.out
     have hcw:w'.cell? ⟨g,l.length - 1,none⟩=some (.string u):=by rw [hcg _ _ hg2];exact c1
     have hgw:g < w'.heap.size:=by omega
     clear hg hR hcg hfg hsg hbw c1 HO HB HSet HFz
     go_wp2_with fail
     obtain ⟨g',cc',hv',_,_,_,_,hset'⟩:=HO2.out.row hl0
     obtain ⟨rfl,rfl⟩:g=g'∧cc=cc':=by simpa using hv'
     have HO3:=Lib.hid (hset' (l.length - 1) (u++s.extract k (k+1)))
     clear hset' hv' HO2
     go_roundw
     case rel=>exact ⟨k+1,l.set (l.length - 1) (u++s.extract k (k+1)),by omega,by go_num,HO3,HN,by rw [List.length_set];exact hl0,by rw [List.length_set];omega,HX.out,bset _ hg1 KB.out,by simp;omega⟩
     case measure=>simp [intOf]<;>omega
  ·
   have hke:k=s.size:=by omega
   obtain ⟨a',c',hv',_⟩:=HO.out.strs
   subst hv'
   go_wp2_with fail
   go_ret
   refine ⟨_,l,rfl,HO.out,?_,HB.out⟩
   rw [HD.out,List.take_of_length_le (by simp;omega)]
end Go.Proofs.YtcbicdencgjfiaaGreatDoor
namespace Go.Proofs.YtcbicdencgjfiaaGreatDoor
open Go.RowKit Tryst
set_option maxHeartbeats 400000
set_option maxRecDepth 20000
def IsRel (l:List ByteArray) (i:Value):Prop:=∃ k:Nat,k≤l.length∧i=.int .i64 k∧Hid (∀ (j:Nat) (h:j < l.length),j < k→partB l[j].data.toList=true)
theorem dots_len (l:List UInt8):(dots l).length≤l.length+1∧∀ p∈dots l,p.length≤l.length:=by
 induction l with
 | nil=>exact ⟨by simp [dots],fun p hp=>by simp [dots] at hp;subst hp;simp⟩
 | cons c l ih=>
  rw [dots_cons]
  split
  ·
   exact ⟨by rw [List.length_cons,List.length_cons];omega,fun p hp=>by
    rcases List.mem_cons.1 hp with rfl | hp
    ·
     simp
    ·
     have:=ih.2 p hp;rw [List.length_cons];omega⟩
  ·
   cases hd:dots l with
   | nil=>exact absurd hd (dots_ne l)
   | cons q qs=>
    rw [hd] at ih
    refine ⟨by simp at ih ⊢;omega,fun p hp=>?_⟩
    rcases List.mem_cons.1 hp with rfl | hp
    ·
     have:=ih.2 q (by simp);simp;omega
    ·
     have:=ih.2 p (by simp [hp]);simp;omega
set_option maxHeartbeats 1000000 in
theorem ristopic_c (s:ByteArray) (hs:s.size≤1000000) (w:World):Calls Tryz.prog 145 #[.string s,.bool false] w fun e w'=>e=.returned (.bool (topicB s.data.toList))∧Below w.heap.size w w':=by
 go_enter Tryz.func145,Tryz.ntmps145
 go_wp2_with fail
 refine (rcut_c s hs w).mono ?_
 rintro e w1 ⟨v,l,rfl,ho,hd,hb1⟩
 have hlen:l.length≤s.size+1:=by
  have:=(dots_len s.data.toList).1
  rw [← hd,List.length_map,len_str] at this
  exact this
 have hsz:∀ x∈l,x.size≤s.size:=fun x hx=>by
  have:=(dots_len s.data.toList).2 x.data.toList (by rw [← hd];exact List.mem_map.2 ⟨x,hx,rfl⟩)
  rw [len_str,len_str] at this
  exact this
 obtain ⟨a,c,rfl,hst,hsl,_⟩:=ho.strs
 have HST:=Lib.hid hst
 have HD:=Lib.hid hd
 have KB:=Lib.hid hb1
 have HSZ:=Lib.hid hsz
 clear ho hst hd hb1 hsl hsz
 go_wp2_with fail
 go_loop [6] (fun i=>IsRel l i) (fun i=>l.length - (intOf i).toNat)
 case atStart=>exact ⟨0,by omega,rfl,fun j _ h=>by omega⟩
 case round=>
  obtain ⟨k,hk,rfl,HA⟩:=hrel
  by_cases hlt:k < l.length
  ·
   obtain ⟨b,o,ha,hb⟩:=HST.out.head hlt
   subst ha
   obtain ⟨_,f0⟩:=HST.out.at hlt
   have x1:(k:Int) < l.length:=by omega
   have x2:(0:Int)≤k:=by omega
   have hls:=HSZ.out l[k] (List.getElem_mem hlt)
   cases hp:partB l[k].data.toList with
   | true=>
    have HP:=Lib.hid hp
    have HG:Hid (∀ (j:Nat) (h:j < l.length),j < k+1→partB l[j].data.toList=true):=fun j hj hjk=>by
     by_cases e:j=k
     ·
      subst e;exact HP.out
     ·
      exact HA.out j hj (by omega)
    clear hp HA
    go_wp2_with fail
    refine (rpart_c l[k] (by omega) _).mono ?_
    rintro e w2 ⟨rfl,rfl⟩
    rw [HP.out]
    go_wp2_with fail
    go_round
    case rel=>exact ⟨k+1,by omega,by go_num,HG.out⟩
    case measure=>simp [intOf]<;>omega
   | false=>
    have HP:=Lib.hid hp
    have HG:Hid (topicB s.data.toList=false):=by
     show _=_
     unfold topicB
     rw [← HD.out]
     have:(l.map (fun x=>x.data.toList)).all partB=false:=by
      rw [List.all_eq_false]
      exact ⟨_,List.mem_map.2 ⟨l[k],List.getElem_mem hlt,rfl⟩,by rw [hp];simp⟩
     rw [this,Bool.and_false]
    clear hp HA
    go_wp2_with fail
    refine (rpart_c l[k] (by omega) _).mono ?_
    rintro e w2 ⟨rfl,rfl⟩
    rw [HP.out]
    go_wp2_with fail
    go_ret
    exact ⟨ret_bool HG.out.symm,KB.out⟩
  ·
   have HG:Hid (topicB s.data.toList=(decide (s.size≤40)&&decide (l.length≤8))):=by
    show _=_
    unfold topicB
    rw [← HD.out]
    have:(l.map (fun x=>x.data.toList)).all partB=true:=by
     rw [List.all_eq_true]
     intro x hx
     obtain ⟨y,hy,rfl⟩:=List.mem_map.1 hx
     obtain ⟨j,hj,rfl⟩:=List.getElem_of_mem hy
     exact HA.out j hj (by omega)
    rw [this,Bool.and_true,len_str,List.length_map]
   clear HA
   by_cases h8:l.length≤8
   ·
    by_cases h40:s.size≤40
    ·
     have HR:Hid (topicB s.data.toList=true):=by show _=_;rw [HG.out,decide_eq_true h8,decide_eq_true h40];rfl
     go_wp2_with fail
     go_ret
     exact ⟨ret_bool (by rw [HR.out];simp;omega),KB.out⟩
    ·
     have HR:Hid (topicB s.data.toList=false):=by show _=_;rw [HG.out,decide_eq_false h40];rfl
     have z1:decide ((s.size:Int)≤40)=false:=by simp;omega
     go_wp2_with fail
     go_ret
     exact ⟨ret_bool HR.out.symm,KB.out⟩
   ·
    have HR:Hid (topicB s.data.toList=false):=by show _=_;rw [HG.out,decide_eq_false h8,Bool.and_false]
    have z1:decide ((l.length:Int)≤8)=false:=by simp;omega
    go_wp2_with fail
    go_ret
    exact ⟨ret_bool HR.out.symm,KB.out⟩
theorem rtopic_c (s:ByteArray) (hs:s.size≤1000000) (w:World):Calls Tryz.prog 84 #[.string s] w fun e w'=>e=.returned (.bool (topicB s.data.toList))∧Below w.heap.size w w':=by
 go_enter Tryz.func84,Tryz.ntmps84
 go_wp2_with fail
 refine (ristopic_c s hs w).mono ?_
 rintro e w1 ⟨rfl,hb1⟩
 go_wp2_with fail
 go_ret
 exact ⟨rfl,hb1⟩
def RFieldRel (s:ByteArray) (i:Value):Prop:=∃ k:Nat,k≤s.size∧i=.int .i64 k∧Hid (∀ (j:Nat) (h:j < s.size),j < k→s[j]≠46)
set_option maxHeartbeats 1000000 in
theorem rfield_c (s:ByteArray) (hs:s.size≤1000000) (w:World):Calls Tryz.prog 86 #[.string s] w fun e w'=>e=.returned (.bool (fieldB s.data.toList))∧Below w.heap.size w w':=by
 go_enter Tryz.func86,Tryz.ntmps86
 go_wp2_with fail
 go_loop [3] (fun i=>RFieldRel s i) (fun i=>s.size - (intOf i).toNat)
 case atStart=>exact ⟨0,by omega,rfl,fun j _ h=>by omega⟩
 case round=>
  obtain ⟨k,hk,rfl,HA⟩:=hrel
  by_cases hlt:k < s.size
  ·
   obtain ⟨c,hc⟩:∃ c,s[k].toNat=c:=⟨_,rfl⟩
   have hcl:c < 256:=hc ▸ s[k].toNat_lt
   by_cases h46:c=46
   ·
    have e1:((c:Int)==46)=true:=by simp;omega
    have h46':s[k]=46:=UInt8.toNat_inj.1 (by rw [hc,h46];rfl)
    have HG:Hid (fieldB s.data.toList=false):=by
     show _=_
     unfold fieldB
     have:s.data.toList.contains 46=true:=by
      rw [List.contains_iff_mem]
      exact List.mem_of_getElem? (i:=k) (by rw [List.getElem?_eq_getElem (by simpa using hlt)];exact congrArg some h46')
     rw [this];simp
    clear HA h46'
    go_wp2_with fail
    go_ret
    exact ⟨ret_bool HG.out.symm,.refl _ _⟩
   ·
    have e1:((c:Int)==46)=false:=by simp;omega
    have HG:Hid (∀ (j:Nat) (h:j < s.size),j < k+1→s[j]≠46):=fun j hj hjk=>by
     by_cases e:j=k
     ·
      subst e;exact fun h=>h46 (by rw [← hc,h];rfl)
     ·
      exact HA.out j hj (by omega)
    clear HA
    go_wp2_with fail
    go_round
    case rel=>exact ⟨k+1,by omega,by go_num,HG.out⟩
    case measure=>simp [intOf]<;>omega
  ·
   have HG:Hid (fieldB s.data.toList=(decide (s.size≤16)&&topicB s.data.toList)):=by
    show _=_
    unfold fieldB
    have:s.data.toList.contains 46=false:=by
     rw [← Bool.not_eq_true,List.contains_iff_mem]
     intro hm
     obtain ⟨j,hj,e⟩:=List.getElem_of_mem hm
     exact HA.out j (by simpa using hj) (by simp at hj;omega) e
    rw [this,len_str];simp
   clear HA
   cases ht:topicB s.data.toList with
   | true=>
    have HT:=Lib.hid ht
    by_cases h16:s.size≤16
    ·
     have HR:Hid (fieldB s.data.toList=true):=by show _=_;rw [HG.out,ht,decide_eq_true h16];rfl
     clear ht
     go_wp2_with fail
     refine (rtopic_c s hs _).mono ?_
     rintro e w1 ⟨rfl,hb1⟩
     rw [HT.out]
     have KB:=Lib.hid hb1
     clear hb1
     go_wp2_with fail
     go_ret
     exact ⟨ret_bool (by rw [HR.out];simp;omega),KB.out⟩
    ·
     have HR:Hid (fieldB s.data.toList=false):=by show _=_;rw [HG.out,decide_eq_false h16];rfl
     have z1:decide ((s.size:Int)≤16)=false:=by simp;omega
     clear ht
     go_wp2_with fail
     refine (rtopic_c s hs _).mono ?_
     rintro e w1 ⟨rfl,hb1⟩
     rw [HT.out]
     have KB:=Lib.hid hb1
     clear hb1
     go_wp2_with fail
     go_ret
     exact ⟨ret_bool HR.out.symm,KB.out⟩
   | false=>
    have HT:=Lib.hid ht
    have HR:Hid (fieldB s.data.toList=false):=by show _=_;rw [HG.out,ht,Bool.and_false]
    clear ht
    go_wp2_with fail
    refine (rtopic_c s hs _).mono ?_
    rintro e w1 ⟨rfl,hb1⟩
    rw [HT.out]
    have KB:=Lib.hid hb1
    clear hb1
    go_wp2_with fail
    go_ret
    exact ⟨ret_bool HR.out.symm,KB.out⟩
end Go.Proofs.YtcbicdencgjfiaaGreatDoor
