/- Maps by any keys; name.Meets. -/
import Derived.Maps.OwnSet
import Derived.Maps.Views
import Derived.StringKeys
import Derived.DeepKeys5
import Derived.IntWalk
import Derived.Test.YtcbicdencgjfiaaGreatDoorGlob5
import Derived.Test.YtcbicdencgjfiaaGreatDoorRowK
set_option linter.unusedVariables false
set_option linter.unusedSimpArgs false
namespace Tryst
open Go Go.RowKit
structure RawKey (P:Program) (k:TypeId) (KS:Value→Prop):Prop where
 check:∀ (w:World) (em:Bool) {v:Value},KS v→(Instr.checkKey em 10000 k v).run P w=.ok () w
 find:∀ (w:World) {x:Value},KS x→∀ es:List MapEntry,(∀ e∈es,KS e.key)→
  ((Instr.findKey k x es).run P w=.ok none w∧∀ e∈es,e.key≠x)∨∃ j e,(Instr.findKey k x es).run P w=.ok (some (j,e.val)) w∧es[j]?=some e∧e.key=x
 stays:∀ (w:World) {v:Value},KS v→(Instr.keyThatStays v v).run P w=.ok v w
theorem RawKey.sub {P:Program} {k:TypeId} {KS KS':Value→Prop} (K:RawKey P k KS) (h:∀ v,KS' v→KS v):RawKey P k KS' where
 check w em:=fun hv=>K.check w em (h _ hv)
 find w:=fun hx es hes=>K.find w (h _ hx) es (fun e he=>h _ (hes e he))
 stays w:=fun hv=>K.stays w (h _ hv)
theorem RawKey.of_equal {P:Program} {k:TypeId} {KS:Value→Prop} {fs:Array Field} (hu:P.underlying k=some (.struct fs)) (hc:∀ (w:World) (em:Bool) {v:Value},KS v→(Instr.checkKey em 10000 k v).run P w=.ok () w)
  (he:∀ (w:World) {a b:Value},KS a→KS b→∃ r:Bool,(Op.equal k a b).run P w=.ok r w∧(r=true↔a=b)) (hb:∀ {v:Value},KS v→Instr.sameBits 10000 v v=true):RawKey P k KS where
 check w em:=fun h=>hc w em h
 find w:=by
  intro x hx es hes
  have asking:∀ (l:List MapEntry) (i:Nat),(∀ e∈l,KS e.key)→((Instr.findAsking k x l i).run P w=.ok none w∧∀ e∈l,e.key≠x)∨∃ j e,(Instr.findAsking k x l i).run P w=.ok (some (i+j,e.val)) w∧l[j]?=some e∧e.key=x:=by
   intro l
   induction l with
   | nil=>exact fun i _=>.inl ⟨by simp [Instr.findAsking],by simp⟩
   | cons e l ih=>
    intro i h
    obtain ⟨r,hr,hi⟩:=he w hx (h e List.mem_cons_self)
    cases r with
    | true=>exact .inr ⟨0,e,by simp [Instr.findAsking,hr],rfl,(hi.1 rfl).symm⟩
    | false=>
     rcases ih (i+1) (fun y hy=>h y (List.mem_cons_of_mem _ hy)) with ⟨h1,h2⟩ | ⟨j,e',h1,h2,h3⟩
     ·
      refine .inl ⟨by simp [Instr.findAsking,hr,h1],fun y hy=>?_⟩
      rcases List.mem_cons.1 hy with rfl | hy
      ·
       intro q
       have:=hi.2 q.symm
       cases this
      ·
       exact h2 y hy
     ·
      exact .inr ⟨j+1,e',by simp [Instr.findAsking,hr,h1];omega,by simpa using h2,h3⟩
  have now:∀ (l:List MapEntry),Instr.findNow (.struct fs) x l 0=if l=[] then some none else none:=by
   intro l
   cases l with
   | nil=>rfl
   | cons e l=>
    unfold Instr.findNow
    have:Instr.sameNow (.struct fs) x e.key=none:=by unfold Instr.sameNow;rfl
    rw [this]
    rfl
  unfold Instr.findKey
  simp only [Sem.run_bind,run_underlying hu,Result.andThen_ok,now]
  by_cases hn:es=[]
  ·
   subst hn
   exact .inl ⟨by simp,by simp⟩
  ·
   rw [if_neg hn]
   simpa using asking es 0 hes
 stays w:=by
  intro v h
  simp [Instr.keyThatStays,hb h]
def MapK {A:Type} (enc:A→Value) (ok:A→Prop) (w:World) (b n:Nat) (f:A→Option Value):Prop:=
 ∃ es clock,w.heap[b]?=some (.map es clock)∧es.size≤n∧(∀ e∈es.toList,∃ a,ok a∧e.key=enc a∧f a=some e.val)∧es.toList.Pairwise (fun x y=>x.key≠y.key)∧(∀ a v,f a=some v→ok a∧∃ e∈es.toList,e.key=enc a)
section
variable {A:Type} {enc:A→Value} {ok:A→Prop} {P:Program} {k e t:TypeId} {w w':World} {b n:Nat} {f:A→Option Value}
theorem MapK.lt (h:MapK enc ok w b n f):b < w.heap.size:=by
 obtain ⟨es,c,h1,_⟩:=h
 exact (Array.getElem?_eq_some_iff.1 h1).1
theorem MapK.of_block (h:MapK enc ok w b n f) (hb:w'.heap[b]?=w.heap[b]?):MapK enc ok w' b n f:=by
 obtain ⟨es,c,h1,h2⟩:=h
 exact ⟨es,c,hb.trans h1,h2⟩
theorem MapK.growB (h:MapK enc ok w b n f) {B:Nat} (hB:b < B) (hb:Below B w w'):MapK enc ok w' b n f:=h.of_block (hb.block b hB)
theorem MapK.grow (h:MapK enc ok w b n f) (hb:Below w.heap.size w w'):MapK enc ok w' b n f:=h.growB h.lt hb
theorem MapK.away (h:MapK enc ok w b n f) {c o:Nat} (hc:c≠b) (u:Value):MapK enc ok (w.setCell ⟨c,o,none⟩ u) b n f:=h.of_block (Below.heap_setCell _ _ _ _ (fun e=>hc e.symm))
theorem MapK.kept {row:Option Nat} (h:MapK enc ok w b n f) (hg:w.grownBy w' row) (hr:some b≠row):MapK enc ok w' b n f:=h.of_block (hg.block b h.lt hr)
theorem MapK.made (enc:A→Value) (ok:A→Prop) (w:World):MapK enc ok (w.alloc (.map #[] 0)) w.heap.size 0 (fun _=>none):=
 ⟨#[],0,(MapKept.heap_alloc w _).1,Nat.le_refl _,by simp,by simp,by simp⟩
theorem MapK.congr {f':A→Option Value} (h:MapK enc ok w b n f) (hf:∀ a,f a=f' a):MapK enc ok w b n f':=by
 obtain rfl:f=f':=funext hf
 exact h
theorem MapK.mono {n':Nat} (h:MapK enc ok w b n f) (hn:n≤n'):MapK enc ok w b n' f:=by
 obtain ⟨es,c,h1,h2,h3⟩:=h
 exact ⟨es,c,h1,Nat.le_trans h2 hn,h3⟩
variable (K:RawKey P k (fun v=>∃ a,ok a∧v=enc a)) (hi:∀ a a',enc a=enc a'→a=a')
include K hi
theorem MapK.look (h:MapK enc ok w b n f) (ht:P.underlying t=some (.map k e)) {z:Value} (hz:(zeroValue e).run P w=.ok z w) {a:A} (ha:ok a) (c:Bool) :
  (Instr.lookup t (.map (some b)) (enc a) c).run P w=.ok (if c then .tuple #[(f a).getD z,.bool (f a).isSome] else (f a).getD z) w:=by
 obtain ⟨es,cl,h1,h2,h3,hp,h4⟩:=h
 have hk:∀ e∈es.toList,∃ a,ok a∧e.key=enc a:=fun e he=>by
  obtain ⟨a,h5,h6,_⟩:=h3 e he
  exact ⟨a,h5,h6⟩
 rcases K.find w ⟨a,ha,rfl⟩ es.toList hk with ⟨g1,g2⟩ | ⟨j,e0,g1,g2,g3⟩
 ·
  have hn:f a=none:=by
   cases hf:f a with
   | none=>rfl
   | some v=>
    obtain ⟨_,e,he,hke⟩:=h4 a v hf
    exact absurd hke (g2 e he)
  rw [hn]
  simp [Instr.lookup,run_underlying ht,MapKept.run_getObj_map h1,K.check w _ ⟨a,ha,rfl⟩,g1,hz,Result.andThen]
 ·
  obtain ⟨a',_,h6,h7⟩:=h3 e0 (List.mem_of_getElem? g2)
  obtain rfl:a'=a:=hi _ _ (h6.symm.trans g3)
  rw [h7]
  simp [Instr.lookup,run_underlying ht,MapKept.run_getObj_map h1,K.check w _ ⟨a',ha,rfl⟩,g1,Result.andThen]
theorem MapK.put (h:MapK enc ok w b n f) (ht:P.underlying t=some (.map k e)) [DecidableEq A] {a:A} (ha:ok a) (v:Value) :
  ∃ w',(Instr.mapUpdate t (.map (some b)) (enc a) v).run P w=.ok () w'∧MapK enc ok w' b (n+1) (fun x=>if x=a then some v else f x)∧w.grownBy w' (some b)∧w'.heap.size=w.heap.size:=by
 obtain ⟨es,cl,h1,h2,h3,hp,h4⟩:=h
 have hlt:=(Array.getElem?_eq_some_iff.1 h1).1
 have hk:∀ e∈es.toList,∃ a,ok a∧e.key=enc a:=fun e he=>by
  obtain ⟨a,h5,h6,_⟩:=h3 e he
  exact ⟨a,h5,h6⟩
 have grown:∀ o:Obj,w.grownBy (ChangeMaps.setBlock w b o) (some b):=fun o=>⟨rfl,rfl,rfl,by simp [ChangeMaps.setBlock],fun i _ hi=>ChangeMaps.heap_setBlock_other h1 o (fun e=>hi (by rw [e]))⟩
 have hsz:∀ o:Obj,(ChangeMaps.setBlock w b o).heap.size=w.heap.size:=fun o=>by simp [ChangeMaps.setBlock]
 rcases K.find w ⟨a,ha,rfl⟩ es.toList hk with ⟨g1,g2⟩ | ⟨j,e0,g1,g2,g3⟩
 ·
  refine ⟨ChangeMaps.setBlock w b (.map (es.push ⟨enc a,v,cl⟩) (cl+1)),by simp [Instr.mapUpdate,run_underlying ht,MapKept.run_getObj_map h1,K.check w false ⟨a,ha,rfl⟩,g1,MapKept.run_setObj_map _ h1,Result.andThen,ChangeMaps.setBlock],⟨es.push ⟨enc a,v,cl⟩,cl+1,ChangeMaps.heap_setBlock_same h1 _,by simp;omega,fun x hx=>?_,?_,fun x u hx=>?_⟩,grown _,hsz _⟩
  ·
   simp only [Array.toList_push,List.mem_append,List.mem_singleton] at hx
   rcases hx with hx | rfl
   ·
    obtain ⟨y,y1,y2,y3⟩:=h3 x hx
    refine ⟨y,y1,y2,?_⟩
    exact (if_neg (fun e=>g2 x hx (by rw [y2,e]))).trans y3
   ·
    exact ⟨a,ha,rfl,if_pos rfl⟩
  ·
   rw [Array.toList_push,List.pairwise_append]
   refine ⟨hp,by simp,fun x hx y hy=>?_⟩
   rw [List.mem_singleton] at hy
   subst hy
   exact g2 x hx
  ·
   by_cases hxa:x=a
   ·
    subst hxa
    exact ⟨ha,⟨enc x,v,cl⟩,by simp,rfl⟩
   ·
    replace hx:f x=some u:=(if_neg hxa).symm.trans hx
    obtain ⟨y1,e,y2,y3⟩:=h4 x u hx
    exact ⟨y1,e,by simp [y2],y3⟩
 ·
  have hj:es[j]?=some e0:=by simpa using g2
  have hjl:j < es.toList.length:=(List.getElem?_eq_some_iff.1 g2).1
  have hlist:(es.modify j (fun e'=>{ e' with key:=enc a,val:=v })).toList=es.toList.set j { e0 with key:=enc a,val:=v }:=by rw [Array.toList_modify,ChangeMaps.modify_eq_set _ _ _ _ g2]
  have hne:∀ x∈es.toList,x.key=enc a→x=e0:=fun x hx hxk=>by
   obtain ⟨i,hi',rfl⟩:=List.mem_iff_getElem.1 hx
   obtain ⟨_,he0⟩:=List.getElem?_eq_some_iff.1 g2
   rcases Nat.lt_trichotomy i j with hij | hij | hij
   ·
    exact absurd (hxk.trans (g3.symm.trans (by rw [he0]))) (List.pairwise_iff_getElem.1 hp i j hi' hjl hij)
   ·
    subst hij;exact he0
   ·
    exact absurd (((by rw [he0];exact g3):es.toList[j].key=enc a).trans hxk.symm) (List.pairwise_iff_getElem.1 hp j i hjl hi' hij)
  refine ⟨ChangeMaps.setBlock w b (.map (es.modify j (fun e'=>{ e' with key:=enc a,val:=v })) cl),?_,⟨_,cl,ChangeMaps.heap_setBlock_same h1 _,by simp;omega,fun x hx=>?_,?_,fun x u hx=>?_⟩,grown _,hsz _⟩
  ·
   have hst:=K.stays w ⟨a,ha,rfl⟩
   simp [Instr.mapUpdate,run_underlying ht,MapKept.run_getObj_map h1,K.check w false ⟨a,ha,rfl⟩,g1,MapKept.run_setObj_map _ h1,Result.andThen,ChangeMaps.setBlock,hj,g3,hst]
  ·
   rw [hlist] at hx
   obtain ⟨i,hi',rfl⟩:=List.mem_iff_getElem.1 hx
   rw [List.length_set] at hi'
   by_cases hij:j=i
   ·
    subst hij
    rw [List.getElem_set_self]
    exact ⟨a,ha,rfl,if_pos rfl⟩
   ·
    rw [List.getElem_set_ne hij]
    obtain ⟨y,y1,y2,y3⟩:=h3 _ (List.getElem_mem hi')
    refine ⟨y,y1,y2,?_⟩
    refine (if_neg ?_).trans y3
    ·
     intro e
     obtain ⟨_,he0⟩:=List.getElem?_eq_some_iff.1 g2
     have hk2:es.toList[i].key=enc a:=by rw [y2,e]
     have hk3:es.toList[j].key=enc a:=by rw [he0];exact g3
     rcases Nat.lt_or_gt_of_ne hij with h | h
     ·
      exact List.pairwise_iff_getElem.1 hp j i hjl hi' h (hk3.trans hk2.symm)
     ·
      exact List.pairwise_iff_getElem.1 hp i j hi' hjl h (hk2.trans hk3.symm)
  ·
   rw [hlist]
   have:(es.toList.map (·.key)).Pairwise (·≠·):=List.pairwise_map.2 hp
   have h2:(es.toList.set j { e0 with key:=enc a,val:=v }).map (·.key)=es.toList.map (·.key):=by
    rw [List.map_set]
    apply List.ext_getElem
    ·
     simp
    ·
     intro i q1 q2
     by_cases hij:j=i
     ·
      subst hij
      obtain ⟨_,he0⟩:=List.getElem?_eq_some_iff.1 g2
      rw [List.getElem_set_self,List.getElem_map,he0]
      exact g3.symm
     ·
      rw [List.getElem_set_ne hij]
   have h5:((es.toList.set j { e0 with key:=enc a,val:=v }).map (·.key)).Pairwise (·≠·):=by rw [h2];exact this
   exact List.pairwise_map.1 h5
  ·
   have self:∃ e∈(es.modify j (fun e'=>{ e' with key:=enc a,val:=v })).toList,e.key=enc a:=by
    rw [hlist]
    exact ⟨_,List.mem_set hjl _,rfl⟩
   by_cases hxa:x=a
   ·
    subst hxa
    exact ⟨ha,self⟩
   ·
    replace hx:f x=some u:=(if_neg hxa).symm.trans hx
    obtain ⟨y1,e,y2,y3⟩:=h4 x u hx
    refine ⟨y1,e,?_,y3⟩
    rw [hlist]
    obtain ⟨i,hi',rfl⟩:=List.mem_iff_getElem.1 y2
    have hij:j≠i:=fun q=>by
     subst q
     obtain ⟨_,he0⟩:=List.getElem?_eq_some_iff.1 g2
     exact hxa (hi _ _ (y3.symm.trans (by rw [he0];exact g3)))
    have hq:es.toList[i]=(es.toList.set j { e0 with key:=enc a,val:=v })[i]'(by rw [List.length_set];exact hi'):=by rw [List.getElem_set_ne hij]
    rw [hq]
    exact List.getElem_mem _
end
end Tryst
namespace Go.Proofs.YtcbicdencgjfiaaGreatDoor
open Tryst
set_option maxHeartbeats 400000
theorem map_ne {A:Type} {enc:A→Value} {ok:A→Prop} {w:World} {b n:Nat} {f:A→Option Value} (h:MapK enc ok w b n f) {g:Nat} {cur:Array Value} {T:TypeId} {z:Nat × Nat} (hc:w.heap[g]?=some (.cells cur T z)):g≠b:=by
 rintro rfl
 obtain ⟨es,c,h1,_⟩:=h
 rw [h1] at hc
 cases hc
theorem map_ne_cell {A:Type} {enc:A→Value} {ok:A→Prop} {w:World} {b n:Nat} {f:A→Option Value} (h:MapK enc ok w b n f) {g o:Nat} {u:Value} (hc:w.cell? ⟨g,o,none⟩=some u):g≠b:=by
 rintro rfl
 obtain ⟨es,c,h1,_⟩:=h
 simp [World.cell?,h1] at hc
end Go.Proofs.YtcbicdencgjfiaaGreatDoor
namespace Tryst
open Go Go.RowKit
theorem least_ex {R:Nat→Prop}:∀ (n:Nat),R n→∃ m,R m∧∀ k,R k→m≤k:=by
 intro n
 induction n using Nat.strongRecOn with
 | _ n ih=>
  intro hn
  by_cases h:∃ m,m < n∧R m
  ·
   obtain ⟨m,h1,h2⟩:=h
   exact ih m h1 h2
  ·
   exact ⟨n,hn,fun k hk=>Nat.le_of_not_lt fun hlt=>h ⟨k,hlt,hk⟩⟩
noncomputable def least (R:Nat→Prop):Nat:=open Classical in if h:∃ m,R m∧∀ k,R k→m≤k then Classical.choose h else 0
theorem least_spec {R:Nat→Prop} {n:Nat} (h:R n):R (least R)∧∀ k,R k→least R≤k:=by
 have hx:=least_ex n h
 unfold least
 rw [dif_pos hx]
 exact Classical.choose_spec hx
theorem own_shrink {e:TypeId} {size n cap g m:Nat} {w:World} {base:Nat} {xs:List Value} (h:w.ownsRow base e size (.slice (some ⟨g,0,none⟩) n cap) n xs) (hm:m≤n):w.ownsRow base e size (.slice (some ⟨g,0,none⟩) m cap) m (xs.take (m*size)):=by
 obtain ⟨h1,h2⟩:=h
 have hle:m*size≤n*size:=Nat.mul_le_mul_right size hm
 rcases h2 with ⟨h2,_⟩ | ⟨g',cap',cur,h2,h3,h4,h5,h6,h7,h8⟩
 ·
  cases h2
 ·
  cases h2
  refine ⟨by rw [List.length_take];omega,.inr ⟨g,cap,cur,rfl,h3,h4,by omega,h6,h7,?_⟩⟩
  rw [← h8,List.take_take,Nat.min_eq_left hle]
theorem flatten_take {k:Nat}:∀ {l:List (List Value)} (m:Nat),(∀ x∈l,x.length=k)→(l.take m).flatten=l.flatten.take (m*k)
 | [],m,_=>by simp
 | x :: l,0,_=>by simp
 | x :: l,m+1,h=>by
  have hx:=h x List.mem_cons_self
  have e1:x.take ((m+1)*k)=x:=List.take_of_length_le (by rw [Nat.add_mul];omega)
  have e2:(m+1)*k - x.length=m*k:=by rw [Nat.add_mul];omega
  rw [List.take_succ_cons,List.flatten_cons,List.flatten_cons,flatten_take m (fun y hy=>h y (List.mem_cons_of_mem _ hy)),List.take_append,e1,e2]
theorem ROwn.shrink {e:TypeId} {k g c:Nat} {w:World} {base:Nat} {l:List (List Value)} (h:ROwn e k w base (.slice (some ⟨g,0,none⟩) l.length c) l) (hl:∀ x∈l,x.length=k) {m:Nat} (hm:m≤l.length):ROwn e k w base (.slice (some ⟨g,0,none⟩) m c) (l.take m):=by
 have h1:=own_shrink (m:=m) h hm
 unfold ROwn
 rw [List.length_take,Nat.min_eq_left hm,flatten_take m hl]
 exact h1
end Tryst
