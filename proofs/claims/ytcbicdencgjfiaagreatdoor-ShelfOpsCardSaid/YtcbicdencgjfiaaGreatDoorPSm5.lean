/- Keys that hold addresses; pred.Same. -/
import Derived.Deep.CutRange
import Derived.LaidEql
import Derived.Test.YtcbicdencgjfiaaGreatDoorMeets5
import Derived.Test.YtcbicdencgjfiaaGreatDoorRNS5
set_option linter.unusedVariables false
set_option linter.unusedSimpArgs false
namespace Tryst
open Go Go.RowKit
structure RawKeyW (P:Program) (k:TypeId) (KS:Value→Prop) (w:World):Prop where
 check:∀ (em:Bool) {v:Value},KS v→(Instr.checkKey em 10000 k v).run P w=.ok () w
 find:∀ {x:Value},KS x→∀ es:List MapEntry,(∀ e∈es,KS e.key)→
  ((Instr.findKey k x es).run P w=.ok none w∧∀ e∈es,e.key≠x)∨∃ j e,(Instr.findKey k x es).run P w=.ok (some (j,e.val)) w∧es[j]?=some e∧e.key=x
 stays:∀ {v:Value},KS v→(Instr.keyThatStays v v).run P w=.ok v w
theorem RawKeyW.of_equal {P:Program} {k:TypeId} {KS:Value→Prop} {w:World} {fs:Array Field} (hu:P.underlying k=some (.struct fs)) (hc:∀ (em:Bool) {v:Value},KS v→(Instr.checkKey em 10000 k v).run P w=.ok () w)
  (he:∀ {a b:Value},KS a→KS b→∃ r:Bool,(Op.equal k a b).run P w=.ok r w∧(r=true↔a=b)) (hb:∀ {v:Value},KS v→Instr.sameBits 10000 v v=true):RawKeyW P k KS w where
 check em:=fun h=>hc em h
 find:=by
  intro x hx es hes
  have asking:∀ (l:List MapEntry) (i:Nat),(∀ e∈l,KS e.key)→((Instr.findAsking k x l i).run P w=.ok none w∧∀ e∈l,e.key≠x)∨∃ j e,(Instr.findAsking k x l i).run P w=.ok (some (i+j,e.val)) w∧l[j]?=some e∧e.key=x:=by
   intro l
   induction l with
   | nil=>exact fun i _=>.inl ⟨by simp [Instr.findAsking],by simp⟩
   | cons e l ih=>
    intro i h
    obtain ⟨r,hr,hi⟩:=he hx (h e List.mem_cons_self)
    cases r with
    | true=>exact .inr ⟨0,e,by simp [Instr.findAsking,hr],rfl,(hi.1 rfl).symm⟩
    | false=>
     rcases ih (i+1) (fun y hy=>h y (List.mem_cons_of_mem _ hy)) with ⟨h1,h2⟩ | ⟨j,e',h1,h2,h3⟩
     ·
      refine .inl ⟨by simp [Instr.findAsking,hr,h1],fun y hy=>?_⟩
      rcases List.mem_cons.1 hy with rfl | hy
      ·
       intro q
       have:=hi.2 q.symm
       cases this
      ·
       exact h2 y hy
     ·
      exact .inr ⟨j+1,e',by simp [Instr.findAsking,hr,h1];omega,by simpa using h2,h3⟩
  have now:∀ (l:List MapEntry),Instr.findNow (.struct fs) x l 0=if l=[] then some none else none:=by
   intro l
   cases l with
   | nil=>rfl
   | cons e l=>
    unfold Instr.findNow
    have:Instr.sameNow (.struct fs) x e.key=none:=by unfold Instr.sameNow;rfl
    rw [this]
    rfl
  unfold Instr.findKey
  simp only [Sem.run_bind,run_underlying hu,Result.andThen_ok,now]
  by_cases hn:es=[]
  ·
   subst hn
   exact .inl ⟨by simp,by simp⟩
  ·
   rw [if_neg hn]
   simpa using asking es 0 hes
 stays:=by
  intro v h
  simp [Instr.keyThatStays,hb h]
section
variable {A:Type} {enc:A→Value} {ok:A→Prop} {P:Program} {k e t:TypeId} {w w':World} {b n:Nat} {f:A→Option Value}
variable (K:RawKeyW P k (fun v=>∃ a,ok a∧v=enc a) w) (hi:∀ a a',enc a=enc a'→a=a')
include K hi
theorem MapK.lookW (h:MapK enc ok w b n f) (ht:P.underlying t=some (.map k e)) {z:Value} (hz:(zeroValue e).run P w=.ok z w) {a:A} (ha:ok a) (c:Bool) :
  (Instr.lookup t (.map (some b)) (enc a) c).run P w=.ok (if c then .tuple #[(f a).getD z,.bool (f a).isSome] else (f a).getD z) w:=by
 obtain ⟨es,cl,h1,h2,h3,hp,h4⟩:=h
 have hk:∀ e∈es.toList,∃ a,ok a∧e.key=enc a:=fun e he=>by
  obtain ⟨a,h5,h6,_⟩:=h3 e he
  exact ⟨a,h5,h6⟩
 rcases K.find ⟨a,ha,rfl⟩ es.toList hk with ⟨g1,g2⟩ | ⟨j,e0,g1,g2,g3⟩
 ·
  have hn:f a=none:=by
   cases hf:f a with
   | none=>rfl
   | some v=>
    obtain ⟨_,e,he,hke⟩:=h4 a v hf
    exact absurd hke (g2 e he)
  rw [hn]
  simp [Instr.lookup,run_underlying ht,MapKept.run_getObj_map h1,K.check _ ⟨a,ha,rfl⟩,g1,hz,Result.andThen]
 ·
  obtain ⟨a',_,h6,h7⟩:=h3 e0 (List.mem_of_getElem? g2)
  obtain rfl:a'=a:=hi _ _ (h6.symm.trans g3)
  rw [h7]
  simp [Instr.lookup,run_underlying ht,MapKept.run_getObj_map h1,K.check _ ⟨a',ha,rfl⟩,g1,Result.andThen]
theorem MapK.putW (h:MapK enc ok w b n f) (ht:P.underlying t=some (.map k e)) [DecidableEq A] {a:A} (ha:ok a) (v:Value) :
  ∃ w',(Instr.mapUpdate t (.map (some b)) (enc a) v).run P w=.ok () w'∧MapK enc ok w' b (n+1) (fun x=>if x=a then some v else f x)∧w.grownBy w' (some b)∧w'.heap.size=w.heap.size:=by
 obtain ⟨es,cl,h1,h2,h3,hp,h4⟩:=h
 have hlt:=(Array.getElem?_eq_some_iff.1 h1).1
 have hk:∀ e∈es.toList,∃ a,ok a∧e.key=enc a:=fun e he=>by
  obtain ⟨a,h5,h6,_⟩:=h3 e he
  exact ⟨a,h5,h6⟩
 have grown:∀ o:Obj,w.grownBy (ChangeMaps.setBlock w b o) (some b):=fun o=>⟨rfl,rfl,rfl,by simp [ChangeMaps.setBlock],fun i _ hi=>ChangeMaps.heap_setBlock_other h1 o (fun e=>hi (by rw [e]))⟩
 have hsz:∀ o:Obj,(ChangeMaps.setBlock w b o).heap.size=w.heap.size:=fun o=>by simp [ChangeMaps.setBlock]
 rcases K.find ⟨a,ha,rfl⟩ es.toList hk with ⟨g1,g2⟩ | ⟨j,e0,g1,g2,g3⟩
 ·
  refine ⟨ChangeMaps.setBlock w b (.map (es.push ⟨enc a,v,cl⟩) (cl+1)),by simp [Instr.mapUpdate,run_underlying ht,MapKept.run_getObj_map h1,K.check false ⟨a,ha,rfl⟩,g1,MapKept.run_setObj_map _ h1,Result.andThen,ChangeMaps.setBlock],⟨es.push ⟨enc a,v,cl⟩,cl+1,ChangeMaps.heap_setBlock_same h1 _,by simp;omega,fun x hx=>?_,?_,fun x u hx=>?_⟩,grown _,hsz _⟩
  ·
   simp only [Array.toList_push,List.mem_append,List.mem_singleton] at hx
   rcases hx with hx | rfl
   ·
    obtain ⟨y,y1,y2,y3⟩:=h3 x hx
    refine ⟨y,y1,y2,?_⟩
    exact (if_neg (fun e=>g2 x hx (by rw [y2,e]))).trans y3
   ·
    exact ⟨a,ha,rfl,if_pos rfl⟩
  ·
   rw [Array.toList_push,List.pairwise_append]
   refine ⟨hp,by simp,fun x hx y hy=>?_⟩
   rw [List.mem_singleton] at hy
   subst hy
   exact g2 x hx
  ·
   by_cases hxa:x=a
   ·
    subst hxa
    exact ⟨ha,⟨enc x,v,cl⟩,by simp,rfl⟩
   ·
    replace hx:f x=some u:=(if_neg hxa).symm.trans hx
    obtain ⟨y1,e,y2,y3⟩:=h4 x u hx
    exact ⟨y1,e,by simp [y2],y3⟩
 ·
  have hj:es[j]?=some e0:=by simpa using g2
  have hjl:j < es.toList.length:=(List.getElem?_eq_some_iff.1 g2).1
  have hlist:(es.modify j (fun e'=>{ e' with key:=enc a,val:=v })).toList=es.toList.set j { e0 with key:=enc a,val:=v }:=by rw [Array.toList_modify,ChangeMaps.modify_eq_set _ _ _ _ g2]
  have hne:∀ x∈es.toList,x.key=enc a→x=e0:=fun x hx hxk=>by
   obtain ⟨i,hi',rfl⟩:=List.mem_iff_getElem.1 hx
   obtain ⟨_,he0⟩:=List.getElem?_eq_some_iff.1 g2
   rcases Nat.lt_trichotomy i j with hij | hij | hij
   ·
    exact absurd (hxk.trans (g3.symm.trans (by rw [he0]))) (List.pairwise_iff_getElem.1 hp i j hi' hjl hij)
   ·
    subst hij;exact he0
   ·
    exact absurd (((by rw [he0];exact g3):es.toList[j].key=enc a).trans hxk.symm) (List.pairwise_iff_getElem.1 hp j i hjl hi' hij)
  refine ⟨ChangeMaps.setBlock w b (.map (es.modify j (fun e'=>{ e' with key:=enc a,val:=v })) cl),?_,⟨_,cl,ChangeMaps.heap_setBlock_same h1 _,by simp;omega,fun x hx=>?_,?_,fun x u hx=>?_⟩,grown _,hsz _⟩
  ·
   have hst:=K.stays ⟨a,ha,rfl⟩
   simp [Instr.mapUpdate,run_underlying ht,MapKept.run_getObj_map h1,K.check false ⟨a,ha,rfl⟩,g1,MapKept.run_setObj_map _ h1,Result.andThen,ChangeMaps.setBlock,hj,g3,hst]
  ·
   rw [hlist] at hx
   obtain ⟨i,hi',rfl⟩:=List.mem_iff_getElem.1 hx
   rw [List.length_set] at hi'
   by_cases hij:j=i
   ·
    subst hij
    rw [List.getElem_set_self]
    exact ⟨a,ha,rfl,if_pos rfl⟩
   ·
    rw [List.getElem_set_ne hij]
    obtain ⟨y,y1,y2,y3⟩:=h3 _ (List.getElem_mem hi')
    refine ⟨y,y1,y2,?_⟩
    refine (if_neg ?_).trans y3
    ·
     intro e
     obtain ⟨_,he0⟩:=List.getElem?_eq_some_iff.1 g2
     have hk2:es.toList[i].key=enc a:=by rw [y2,e]
     have hk3:es.toList[j].key=enc a:=by rw [he0];exact g3
     rcases Nat.lt_or_gt_of_ne hij with h | h
     ·
      exact List.pairwise_iff_getElem.1 hp j i hjl hi' h (hk3.trans hk2.symm)
     ·
      exact List.pairwise_iff_getElem.1 hp i j hi' hjl h (hk2.trans hk3.symm)
  ·
   rw [hlist]
   have:(es.toList.map (·.key)).Pairwise (·≠·):=List.pairwise_map.2 hp
   have h2:(es.toList.set j { e0 with key:=enc a,val:=v }).map (·.key)=es.toList.map (·.key):=by
    rw [List.map_set]
    apply List.ext_getElem
    ·
     simp
    ·
     intro i q1 q2
     by_cases hij:j=i
     ·
      subst hij
      obtain ⟨_,he0⟩:=List.getElem?_eq_some_iff.1 g2
      rw [List.getElem_set_self,List.getElem_map,he0]
      exact g3.symm
     ·
      rw [List.getElem_set_ne hij]
   have h5:((es.toList.set j { e0 with key:=enc a,val:=v }).map (·.key)).Pairwise (·≠·):=by rw [h2];exact this
   exact List.pairwise_map.1 h5
  ·
   have self:∃ e∈(es.modify j (fun e'=>{ e' with key:=enc a,val:=v })).toList,e.key=enc a:=by
    rw [hlist]
    exact ⟨_,List.mem_set hjl _,rfl⟩
   by_cases hxa:x=a
   ·
    subst hxa
    exact ⟨ha,self⟩
   ·
    replace hx:f x=some u:=(if_neg hxa).symm.trans hx
    obtain ⟨y1,e,y2,y3⟩:=h4 x u hx
    refine ⟨y1,e,?_,y3⟩
    rw [hlist]
    obtain ⟨i,hi',rfl⟩:=List.mem_iff_getElem.1 y2
    have hij:j≠i:=fun q=>by
     subst q
     obtain ⟨_,he0⟩:=List.getElem?_eq_some_iff.1 g2
     exact hxa (hi _ _ (y3.symm.trans (by rw [he0];exact g3)))
    have hq:es.toList[i]=(es.toList.set j { e0 with key:=enc a,val:=v })[i]'(by rw [List.length_set];exact hi'):=by rw [List.getElem_set_ne hij]
    rw [hq]
    exact List.getElem_mem _
theorem wpList_lookW {ops:Array Oper} {rest:List Oper} {o:Oper} {a:Act} {Q:Exit→Act→World→Prop} (hg:o.guard=none) (m x:Operand) (c:Bool) (hop:o.op=Op.lookup t m x c)
  (h:MapK enc ok w b n f) (ht:P.underlying t=some (.map k e)) {z:Value} (hz:(zeroValue e).run P w=.ok z w) (hm:a.eval m=.map (some b)) {y:A} (hy:ok y) (hx:a.eval x=enc y)
  (hK:wpList P ops Q rest (a.put o.dst (if c then .tuple #[(f y).getD z,.bool (f y).isSome] else (f y).getD z)) w):wpList P ops Q (o :: rest) a w:=by
 refine wpList_plain hg fun K' hK'=>?_
 have hrun:=h.lookW K hi ht hz hy c
 unfold Oper.wp
 simp [execOp,hop,hm,hx,Result.andThen]
 rw [hrun]
 exact hK' _ _ hK
theorem wpList_putW [DecidableEq A] {ops:Array Oper} {rest:List Oper} {o:Oper} {a:Act} {Q:Exit→Act→World→Prop} (hg:o.guard=none) (m x y:Operand) (hop:o.op=Op.mapUpdate t m x y∨o.op=Op.insert t m x y)
  (h:MapK enc ok w b n f) (ht:P.underlying t=some (.map k e)) (hm:a.eval m=.map (some b)) {u:A} (hu:ok u) (hx:a.eval x=enc u) {v:Value} (hy:a.eval y=v)
  (hK:∀ w',MapK enc ok w' b (n+1) (fun x=>if x=u then some v else f x)→w.grownBy w' (some b)→w'.heap.size=w.heap.size→wpList P ops Q rest (a.put o.dst undef) w'):wpList P ops Q (o :: rest) a w:=by
 refine wpList_plain hg fun K' hK'=>?_
 obtain ⟨w',hrun,h1,h2,h3⟩:=h.putW K hi ht hu v
 unfold Oper.wp
 rcases hop with hop | hop
 ·
  simp [execOp,hop,hm,hx,hy,hrun,Result.andThen]
  exact hK' _ _ (hK w' h1 h2 h3)
 ·
  simp [execOp,hop,hm,hx,hy,hrun,Result.andThen]
  exact hK' _ _ (hK w' h1 h2 h3)
end
end Tryst
namespace Go.Proofs.YtcbicdencgjfiaaGreatDoor
open Go.RowKit Tryst
set_option maxHeartbeats 400000
set_option maxRecDepth 20000
structure PK where
 a:Nat × Nat
 b:Nat × Nat
 n:Nat
deriving DecidableEq
def encP (k:PK):Value:=.agg #[.pointer (some ⟨k.a.1,k.a.2,none⟩),.pointer (some ⟨k.b.1,k.b.2,none⟩),.int .i64 (k.n:Int)]
def okP (w:World) (k:PK):Prop:=(∃ cs T,w.heap[k.a.1]?=some (.cells cs T (0,0)))∧∃ cs T,w.heap[k.b.1]?=some (.cells cs T (0,0))
theorem encP_inj (a b:PK) (h:encP a=encP b):a=b:=by
 obtain ⟨⟨a1,a2⟩,⟨a3,a4⟩,a5⟩:=a
 obtain ⟨⟨b1,b2⟩,⟨b3,b4⟩,b5⟩:=b
 simp only [encP,Value.agg.injEq,Array.mk.injEq,List.cons.injEq,Value.pointer.injEq,Option.some.injEq,Addr.mk.injEq,Value.int.injEq,true_and,and_true] at h
 obtain ⟨⟨rfl,rfl⟩,⟨rfl,rfl⟩,h5⟩:=h
 have:a5=b5:=by omega
 subst this
 rfl
theorem checkP (em:Bool) (a b:Option Addr) (n:Int) (w:World):(Instr.checkKey em 10000 250 (.agg #[.pointer a,.pointer b,.int .i64 n])).run Tryz.prog w=.ok () w:=by
 kernel_rfl
theorem structP:Tryz.prog.underlying 250=some (.struct (Tryz.prog.fieldsOf 250)):=by kernel_rfl
theorem sizeP (w:World):(sizeOf 123).run Tryz.prog w=.ok 6 w:=by kernel_rfl
theorem equal_ptr (d:Nat) {a b:Addr} {ca cb:Array Value} {ta tb:TypeId} (w:World) (ha:w.heap[a.block]?=some (.cells ca ta (0,0))) (hb:w.heap[b.block]?=some (.cells cb tb (0,0))) :
  (Op.equalIn (d+1) 248 (.pointer (some a)) (.pointer (some b))).run Tryz.prog w=.ok (a==b) w:=by
 by_cases h:a=b
 ·
  subst h
  simp [Op.equalIn,run_underlying Tryz.underlying248,Sem.run_bind,sizeP,run_sameAddr_same]
 ·
  simp [Op.equalIn,run_underlying Tryz.underlying248,Sem.run_bind,sizeP,run_sameAddr_other w h ha hb,h]
theorem equal_i (d:Nat) (a b:Int) (w:World):(Op.equalIn (d+1) 3 (.int .i64 a) (.int .i64 b)).run Tryz.prog w=.ok (a==b) w:=by
 simp [Op.equalIn,run_underlying Tryz.underlying3,Sem.run_bind]
theorem equalP (a b c d:Addr) (n m:Int) (w:World) (ha:∃ cs T,w.heap[a.block]?=some (.cells cs T (0,0))) (hb:∃ cs T,w.heap[b.block]?=some (.cells cs T (0,0))) (hc:∃ cs T,w.heap[c.block]?=some (.cells cs T (0,0))) (hd:∃ cs T,w.heap[d.block]?=some (.cells cs T (0,0))) :
  (Op.equal 250 (.agg #[.pointer (some a),.pointer (some b),.int .i64 n]) (.agg #[.pointer (some c),.pointer (some d),.int .i64 m])).run Tryz.prog w=.ok ((a==c)&&((b==d)&&(n==m))) w:=by
 obtain ⟨ca,ta,ha⟩:=ha
 obtain ⟨cb,tb,hb⟩:=hb
 obtain ⟨cc,tc,hc⟩:=hc
 obtain ⟨cd,td,hd⟩:=hd
 show (Op.equalIn 10000 250 _ _).run Tryz.prog w=_
 rw [run_equalIn_struct w 9999 250 _ _ structP (by kernel_rfl)]
 go_simp
 simp [equal_ptr 9998 w ha hc,equal_ptr 9998 w hb hd,equal_i 9998]
 by_cases h1:a=c<;>by_cases h2:b=d<;>by_cases h3:n=m<;>simp [h1,h2,h3]
theorem keyP (w:World):RawKeyW Tryz.prog 250 (fun v=>∃ k,okP w k∧v=encP k) w:=by
 refine .of_equal structP ?_ ?_ ?_
 ·
  rintro em v ⟨k,_,rfl⟩
  exact checkP em _ _ _ w
 ·
  rintro a b ⟨k,⟨h1,h2⟩,rfl⟩ ⟨u,⟨h3,h4⟩,rfl⟩
  refine ⟨_,equalP _ _ _ _ _ _ w h1 h2 h3 h4,?_⟩
  simp [encP]
 ·
  rintro v ⟨k,_,rfl⟩
  simp [encP,Instr.sameBits]
end Go.Proofs.YtcbicdencgjfiaaGreatDoor
namespace Tryst
open Go Go.RowKit
structure SIn (w:World) (M base:Nat) (s:SW) (W:World):Prop where
 ra:Row W s.a 6 (s.l.map PB.cells)
 rb:Row W s.b 6 (s.m.map PB.cells)
 la:∀ b o,s.a=some ⟨b,o,none⟩→b < base∧b≠M
 lb:∀ b o,s.b=some ⟨b,o,none⟩→b < base∧b≠M
 pa:∀ x∈s.l,PO w x
 pb:∀ x∈s.m,PO w x
 len:s.l.length≤10
theorem SIn.keep {w:World} {M base:Nat} {s:SW} {W W':World} (h:SIn w M base s W) (hk:∀ b,b < base→b≠M→W'.heap[b]?=W.heap[b]?) (hz:W.heap.size≤W'.heap.size):SIn w M base s W':=
 ⟨h.ra.block (fun b o e=>hk b (h.la b o e).1 (h.la b o e).2) hz,h.rb.block (fun b o e=>hk b (h.lb b o e).1 (h.lb b o e).2) hz,h.la,h.lb,h.pa,h.pb,h.len⟩
theorem RawKeyW.sub {P:Program} {k:TypeId} {KS KS':Value→Prop} {w:World} (K:RawKeyW P k KS w) (h:∀ v,KS' v→KS v):RawKeyW P k KS' w where
 check em:=fun hv=>K.check em (h _ hv)
 find:=fun hx es hes=>K.find (h _ hx) es (fun e he=>h _ (hes e he))
 stays:=fun hv=>K.stays (h _ hv)
def wkM:List SW→Nat
 | []=>0
 | s :: r=>nodesBL s.l+1+wkM r
theorem wkM_app:∀ l m:List SW,wkM (l++m)=wkM l+wkM m
 | [],m=>by simp [wkM]
 | s :: r,m=>by rw [List.cons_append,wkM,wkM,wkM_app r m];omega
theorem wkM_len:∀ l:List SW,l.length≤wkM l
 | []=>by simp
 | s :: r=>by rw [wkM,List.length_cons];have:=wkM_len r;omega
theorem SW.cells_len (l:List SW):∀ x∈l.map SW.cells,x.length=2:=by
 intro x hx
 obtain ⟨s,_,rfl⟩:=List.mem_map.1 hx
 rfl
theorem nodesBL_drop:∀ (l:List PB) (k:Nat) (h:k < l.length),nodesBL (l.drop k)=nodesB l[k]+nodesBL (l.drop (k+1))
 | x :: r,0,h=>by simp [nodesBL]
 | x :: r,k+1,h=>by
  have:=nodesBL_drop r k (by simpa using h)
  simpa using this
end Tryst
namespace Go.Proofs.YtcbicdencgjfiaaGreatDoor
open Go.RowKit Tryst
set_option maxHeartbeats 2000000
set_option maxRecDepth 20000
theorem pairT:SliceOf Tryz.prog 247 246 2 48:=.mk' Tryz.underlying247 (z:=.agg #[.slice none 0 0,.slice none 0 0]) (by kernel_rfl) rfl (by decide) (by decide)
def metF (met:PK→Bool):PK→Option Value:=fun k=>if met k=true then some (.agg #[]) else none
structure SS (w:World) (M base:Nat) (S Wk:List SW) (met:PK→Bool) (v:Value) (W:World):Prop where
 bel:Below w.heap.size w W
 hM:w.heap.size≤M
 hMb:M < base
 hbz:base≤W.heap.size
 map:∃ n,MapK encP (okP w) W M n (metF met)
 own:ROwn 246 2 W base v (Wk.map SW.cells)
 key:∀ k,met k=true→∃ s∈S,s.a=some ⟨k.a.1,k.a.2,none⟩∧s.b=some ⟨k.b.1,k.b.2,none⟩∧s.l.length=k.n
 rows:∀ s∈S,SIn w M base s W
section
variable {w W W':World} {M base:Nat} {S Wk:List SW} {met:PK→Bool} {v:Value}
theorem SS.grow (h:SS w M base S Wk met v W) (hb:Below W.heap.size W W'):SS w M base S Wk met v W':=
 ⟨bstep hb h.bel,h.hM,h.hMb,Nat.le_trans h.hbz hb.size,by obtain ⟨n,hn⟩:=h.map;exact ⟨n,hn.grow hb⟩,h.own.grow hb,h.key,fun s hs=>(h.rows s hs).keep (fun b hb1 _=>hb.block b (Nat.lt_of_lt_of_le hb1 h.hbz)) hb.size⟩
theorem okP_grow {k:PK} (h:okP w k) (hb:Below w.heap.size w W):okP W k:=by
 obtain ⟨⟨c1,t1,h1⟩,⟨c2,t2,h2⟩⟩:=h
 exact ⟨⟨c1,t1,(hb.block _ (Array.getElem?_eq_some_iff.1 h1).1).trans h1⟩,⟨c2,t2,(hb.block _ (Array.getElem?_eq_some_iff.1 h2).1).trans h2⟩⟩
theorem keyS (hb:Below w.heap.size w W):RawKeyW Tryz.prog 250 (fun v=>∃ k,okP w k∧v=encP k) W:=
 (keyP W).sub fun v ⟨k,hk,hv⟩=>⟨k,okP_grow hk hb,hv⟩
theorem SS.met_in (h:SS w M base S Wk met v W) {x y:PB} (hx:PO w x) (hy:PO w y) (hh:headB x y=true) (hlen:∀ s∈S,s.l.length=s.m.length) {b o b' o':Nat} (ha:x.a=some ⟨b,o,none⟩) (hb:y.a=some ⟨b',o',none⟩) (hm:met ⟨(b,o),(b',o'),x.l.length⟩=true):okB S x y:=by
 obtain ⟨s,hs,e1,e2,e3⟩:=h.key _ hm
 have R:=h.rows s hs
 obtain ⟨xo,xs,xn,xi,xv,xa,xc,xl⟩:=x
 obtain ⟨yo,ys,yn,yi,yv,ya,yc,yl⟩:=y
 obtain ⟨-,-,rx,px⟩:=PO.parts hx
 obtain ⟨-,-,ry,py⟩:=PO.parts hy
 have hl:=headB_len hh
 simp only [PB.a,PB.l] at ha hb hl e3
 subst ha hb
 have el:s.l=xl:=uniL (w:=W) s.l xl _ e3 (fun z hz=>((R.pa z hz).grow h.bel).mem) (fun z hz=>((px z hz).grow h.bel).mem) (by rw [← e1];exact R.ra) (rx.grow h.bel)
 have em:s.m=yl:=uniL (w:=W) s.m yl _ (by rw [← hlen s hs,e3,hl]) (fun z hz=>((R.pb z hz).grow h.bel).mem) (fun z hz=>((py z hz).grow h.bel).mem) (by rw [← e2];exact R.rb) (ry.grow h.bel)
 exact ⟨hh,.inr ⟨s,hs,el,em⟩⟩
def setP (met:PK→Bool) (k:PK):PK→Bool:=fun x=>decide (x=k)||met x
theorem SS.put (h:SS w M base S Wk met v W) (s:SW) (hs:SIn w M base s W) {k:PK} (e1:s.a=some ⟨k.a.1,k.a.2,none⟩) (e2:s.b=some ⟨k.b.1,k.b.2,none⟩) (e3:s.l.length=k.n) {n:Nat} (hm:MapK encP (okP w) W' M n (fun x=>if x=k then some (.agg #[]) else metF met x)) (hg:W.grownBy W' (some M)) (hz:W'.heap.size=W.heap.size):SS w M base (s :: S) Wk (setP met k) v W':=by
 have hb:∀ b,b < W.heap.size→b≠M→W'.heap[b]?=W.heap[b]?:=fun b h1 h2=>hg.block b h1 (by simpa using h2)
 obtain ⟨n0,h5⟩:=h.map
 refine ⟨h.bel.grown hg h.bel.size (fun j hj=>by cases hj;exact h.hM),h.hM,h.hMb,by rw [hz];exact h.hbz,⟨n,hm.congr fun x=>?_⟩,?_,?_,?_⟩
 ·
  unfold metF setP
  by_cases e:x=k
  ·
   simp [e]
  ·
   simp [e]
 ·
  refine own_stays h.own fun A m c hv=>?_
  obtain ⟨cur,hc⟩:=h.own.typed A m c hv
  exact hb _ (Array.getElem?_eq_some_iff.1 hc).1 (map_ne h5 hc)
 ·
  intro x hx
  unfold setP at hx
  rcases Bool.or_eq_true_iff.1 hx with hx | hx
  ·
   have:x=k:=by simpa using hx
   subst this
   exact ⟨s,List.mem_cons_self,e1,e2,e3⟩
  ·
   obtain ⟨t,ht,q⟩:=h.key x hx
   exact ⟨t,List.mem_cons_of_mem _ ht,q⟩
 ·
  intro t ht
  have hk:∀ b,b < base→b≠M→W'.heap[b]?=W.heap[b]?:=fun b h1 h2=>hb b (Nat.lt_of_lt_of_le h1 h.hbz) h2
  rcases List.mem_cons.1 ht with rfl | ht
  ·
   exact hs.keep hk (by omega)
  ·
   exact (h.rows t ht).keep hk (by omega)
theorem SS.app (h:SS w M base S Wk met v W) (s:SW) {v':Value} (ho:ROwn 246 2 W' base v' ((Wk++[s]).map SW.cells)) (hb:Below base W W'):SS w M base S (Wk++[s]) met v' W':=by
 refine ⟨h.bel.trans (hb.mono (Nat.le_trans h.hM (Nat.le_of_lt h.hMb))),h.hM,h.hMb,Nat.le_trans h.hbz hb.size,?_,ho,h.key,fun t ht=>(h.rows t ht).keep (fun b h1 _=>hb.block b h1) hb.size⟩
 obtain ⟨n,hn⟩:=h.map
 exact ⟨n,hn.growB h.hMb hb⟩
theorem SS.top {t:SW} (h:SS w M base S (Wk++[t]) met v W) :
  ∃ g c,v=.slice (some ⟨g,0,none⟩) (Wk.length+1) c∧W.cell? ⟨g,Wk.length*2,none⟩=some (.slice t.a t.l.length t.c)∧W.cell? ⟨g,Wk.length*2+1,none⟩=some (.slice t.b t.m.length t.d)∧g < W.heap.size∧Wk.length+1≤c∧SS w M base S Wk met (.slice (some ⟨g,0,none⟩) Wk.length c) W:=by
 have ho:=h.own
 have hlen:((Wk++[t]).map SW.cells).length=Wk.length+1:=by simp
 obtain ⟨g,c,rfl,hg1,hg2,_,hc,_⟩:=ho.block (SW.cells_len _) (by omega)
 have hi:Wk.length < ((Wk++[t]).map SW.cells).length:=by omega
 have hget:((Wk++[t]).map SW.cells)[Wk.length]=t.cells:=by simp
 have h0:=hc Wk.length hi 0 (by omega)
 have h1:=hc Wk.length hi 1 (by omega)
 rw [hget] at h0 h1
 have hcap:Wk.length+1≤c:=by
  rcases ho.2 with ⟨h2,_⟩ | ⟨g',cap',cur,h2,h3,h4,h5,_⟩
  ·
   cases h2
  ·
   simp only [Value.slice.injEq] at h2
   omega
 refine ⟨g,c,by rw [hlen],h0,h1,hg2,hcap,⟨h.bel,h.hM,h.hMb,h.hbz,h.map,?_,h.key,h.rows⟩⟩
 have h2:=ROwn.shrink (m:=Wk.length) ho (SW.cells_len _) (by omega)
 have h3:((Wk++[t]).map SW.cells).take Wk.length=Wk.map SW.cells:=by
  rw [← List.map_take,List.take_left]
 rw [h3] at h2
 exact h2
theorem part_in {x y:PB} (hx:PO w x) (hy:PO w y) (hb:Below w.heap.size w W) (h1:w.heap.size≤M) (h2:M < base):SIn w M base ⟨x.a,x.l,x.c,y.a,y.l,y.c⟩ W:=by
 have px:∀ b o,x.a=some ⟨b,o,none⟩→b < w.heap.size:=fun b o e=>(hx.plain e).1
 have py:∀ b o,y.a=some ⟨b,o,none⟩→b < w.heap.size:=fun b o e=>(hy.plain e).1
 obtain ⟨xo,xs,xn,xi,xv,xa,xc,xl⟩:=x
 obtain ⟨yo,ys,yn,yi,yv,ya,yc,yl⟩:=y
 obtain ⟨⟨-,-,-,lx⟩,-,rx,ex⟩:=PO.parts hx
 obtain ⟨-,-,ry,ey⟩:=PO.parts hy
 exact ⟨rx.grow hb,ry.grow hb,fun b o e=>by have:=px b o e;constructor<;>omega,fun b o e=>by have:=py b o e;constructor<;>omega,ex,ey,lx⟩
theorem part_ok {x y:PB} (hx:PO w x) (hy:PO w y) {b o b' o':Nat} (ha:x.a=some ⟨b,o,none⟩) (hb:y.a=some ⟨b',o',none⟩) (n:Nat):okP w ⟨(b,o),(b',o'),n⟩:=
 ⟨(hx.plain ha).2,(hy.plain hb).2⟩
end
theorem wpList_lookP {ops:Array Oper} {rest:List Oper} {o:Oper} {a:Act} {Q:Exit→Act→World→Prop} {w W:World} {M n:Nat} {met:PK→Bool} (hw:Below w.heap.size w W) (hg:o.guard=none) (m x:Operand) (hop:o.op=Op.lookup 245 m x true)
  (h:MapK encP (okP w) W M n (metF met)) (hm:a.eval m=.map (some M)) {k:PK} (hy:okP w k) (hx:a.eval x=encP k)
  (hK:wpList Tryz.prog ops Q rest (a.put o.dst (.tuple #[.agg #[],.bool (met k)])) W):wpList Tryz.prog ops Q (o :: rest) a W:=by
 refine wpList_lookW (keyS hw) encP_inj hg m x true hop h Tryz.underlying245 (z:=.agg #[]) (by kernel_rfl) hm hy hx ?_
 have e1:((metF met k).getD (.agg #[]))=.agg #[]:=by unfold metF;split<;>rfl
 have e2:(metF met k).isSome=met k:=by unfold metF;cases met k<;>rfl
 rw [if_pos rfl,e1,e2]
 exact hK
def PIn (w:World) (M base:Nat) (x y:PB) (t:SW) (N:Nat) (v i:Value) (wr:World):Prop:=
 ∃ (k:Nat) (S Wk:List SW) (met:PK→Bool),k≤t.l.length∧i=.int .i64 k∧Hid (SS w M base S Wk met v wr)∧Hid (SameJ x y S Wk t k)∧Hid (wkM Wk+nodesBL (t.l.drop k)≤N)
def POut (w:World) (M base:Nat) (x y:PB) (v:Value) (n:Nat) (wr:World):Prop:=
 ∃ (S Wk:List SW) (met:PK→Bool),Hid (SS w M base S Wk met v wr)∧Hid (SameI x y S Wk)∧wkM Wk=n∧n≤1000000
theorem SS.first (x0 x1:ByteArray) (x2:Bool) (x3:Int) (x4:ByteArray) (x5:Option Addr) (x6:Nat) (x7:List PB) (y0 y1:ByteArray) (y2:Bool) (y3:Int) (y4:ByteArray) (y5:Option Addr) (y6:Nat) (y7:List PB) (w:World) (hx:PO w (PB.mk x0 x1 x2 x3 x4 x5 x6 x7)) (hy:PO w (PB.mk y0 y1 y2 y3 y4 y5 y6 y7)) :
  SS w (w.heap.size+1+1) (w.heap.size+1+1+1+1+1) [⟨some ⟨w.heap.size+1+1+1,0,none⟩,[PB.mk x0 x1 x2 x3 x4 x5 x6 x7],1,some ⟨w.heap.size+1+1+1+1,0,none⟩,[PB.mk y0 y1 y2 y3 y4 y5 y6 y7],1⟩] [⟨some ⟨w.heap.size+1+1+1,0,none⟩,[PB.mk x0 x1 x2 x3 x4 x5 x6 x7],1,some ⟨w.heap.size+1+1+1+1,0,none⟩,[PB.mk y0 y1 y2 y3 y4 y5 y6 y7],1⟩] (fun _=>false) (.slice (some ⟨w.heap.size+1+1+1+1+1,0,none⟩) 1 1)
   ((((((w.alloc (.cells #[.string x0,.string x1,.bool x2,.int .i64 x3,.string x4,.slice x5 x7.length x6] 123)).alloc (.cells #[.string y0,.string y1,.bool y2,.int .i64 y3,.string y4,.slice y5 y7.length y6] 123)).alloc (.map #[] 0)).alloc (.cells #[.string x0,.string x1,.bool x2,.int .i64 x3,.string x4,.slice x5 x7.length x6] 123)).alloc (.cells #[.string y0,.string y1,.bool y2,.int .i64 y3,.string y4,.slice y5 y7.length y6] 123)).alloc (.cells #[.slice (some ⟨w.heap.size+1+1+1,0,none⟩) 1 1,.slice (some ⟨w.heap.size+1+1+1+1,0,none⟩) 1 1] 246)):=by
 refine ⟨balloc _ (balloc _ (balloc _ (balloc _ (balloc _ (balloc _ (.refl _ _)))))),by omega,by omega,by simp,⟨0,?_⟩,?_,?_,?_⟩
 ·
  have h:=MapK.made encP (okP w) ((w.alloc (.cells #[.string x0,.string x1,.bool x2,.int .i64 x3,.string x4,.slice x5 x7.length x6] 123)).alloc (.cells #[.string y0,.string y1,.bool y2,.int .i64 y3,.string y4,.slice y5 y7.length y6] 123))
  rw [show ((w.alloc (.cells #[.string x0,.string x1,.bool x2,.int .i64 x3,.string x4,.slice x5 x7.length x6] 123)).alloc (.cells #[.string y0,.string y1,.bool y2,.int .i64 y3,.string y4,.slice y5 y7.length y6] 123)).heap.size=w.heap.size+1+1 by simp] at h
  exact (h.grow (balloc _ (balloc _ (balloc _ (.refl _ _))))).congr fun x=>by simp [metF]
 ·
  refine ⟨rfl,.inr ⟨w.heap.size+1+1+1+1+1,1,#[.slice (some ⟨w.heap.size+1+1+1,0,none⟩) 1 1,.slice (some ⟨w.heap.size+1+1+1+1,0,none⟩) 1 1],rfl,Nat.le_refl _,?_,Nat.le_refl _,by unfold maxLen;omega,rfl,rfl⟩⟩
  show (Array.push _ _)[_]?=_
  rw [Array.getElem?_push,if_pos (by simp)]
 ·
  intro k hk
  cases hk
 ·
  intro s hs
  rw [List.mem_singleton] at hs
  subst hs
  refine ⟨?_,?_,fun b o e=>by cases e;constructor<;>omega,fun b o e=>by cases e;constructor<;>omega,fun x hx'=>by rw [List.mem_singleton] at hx';subst hx';exact hx,fun x hx'=>by rw [List.mem_singleton] at hx';subst hx';exact hy,by simp⟩
  ·
   intro i hi
   obtain rfl:i=0:=by simpa using hi
   refine ⟨_,0,rfl,by simp,fun j hj=>?_⟩
   have hj6:j=0∨j=1∨j=2∨j=3∨j=4∨j=5:=by omega
   rcases hj6 with rfl | rfl | rfl | rfl | rfl | rfl<;>simp [go_sem,PB.cells,PB.op,PB.s,PB.num,PB.n,PB.vs,PB.a,PB.c,PB.l]
  ·
   intro i hi
   obtain rfl:i=0:=by simpa using hi
   refine ⟨_,0,rfl,by simp,fun j hj=>?_⟩
   have hj6:j=0∨j=1∨j=2∨j=3∨j=4∨j=5:=by omega
   rcases hj6 with rfl | rfl | rfl | rfl | rfl | rfl<;>simp [go_sem,PB.cells,PB.op,PB.s,PB.num,PB.n,PB.vs,PB.a,PB.c,PB.l]
theorem psame_c (x y:PB) (hN:nodesB x≤100000) (w:World) (hx:PO w x) (hy:PO w y):Calls Tryz.prog 131 #[x.agg,y.agg] w fun e w'=>e=.returned (.bool (sameB x y))∧Below w.heap.size w w':=by
 have HX:=Lib.hid hx
 have HY:=Lib.hid hy
 have HN:=Lib.hid hN
 obtain ⟨R,hR⟩:∃ R,sameB x y=R:=⟨_,rfl⟩
 have HR:=Lib.hid hR
 rw [hR]
 clear hR hx hy hN
 have hmm:=@run_makeMap Tryz.prog
 obtain ⟨X,hX⟩:∃ X,x=X:=⟨_,rfl⟩
 obtain ⟨Y,hY⟩:∃ Y,y=Y:=⟨_,rfl⟩
 have HXX:=Lib.hid hX
 have HYY:=Lib.hid hY
 clear hX hY
 obtain ⟨x0,x1,x2,x3,x4,x5,x6,x7⟩:=x
 obtain ⟨y0,y1,y2,y3,y4,y5,y6,y7⟩:=y
 unfold PB.agg
 simp only [PB.op,PB.s,PB.num,PB.n,PB.vs,PB.a,PB.c,PB.l]
 go_enter Tryz.func131,Tryz.ntmps131
 go_upto_region 3 with fail
 have h0:=SS.first x0 x1 x2 x3 x4 x5 x6 x7 y0 y1 y2 y3 y4 y5 y6 y7 w HX.out HY.out
 refine wp_genC (fun v=>Hid (SS w (w.heap.size+1+1) (w.heap.size+1+1+1+1+1) [⟨some ⟨w.heap.size+1+1+1,0,none⟩,[PB.mk x0 x1 x2 x3 x4 x5 x6 x7],1,some ⟨w.heap.size+1+1+1+1,0,none⟩,[PB.mk y0 y1 y2 y3 y4 y5 y6 y7],1⟩] [⟨some ⟨w.heap.size+1+1+1,0,none⟩,[PB.mk x0 x1 x2 x3 x4 x5 x6 x7],1,some ⟨w.heap.size+1+1+1+1,0,none⟩,[PB.mk y0 y1 y2 y3 y4 y5 y6 y7],1⟩] (fun _=>false) (.slice (some ⟨w.heap.size+1+1+1+1+1,0,none⟩) 1 1) v)) h0 ?_
 clear h0 hmm
 rintro Z HZ
 generalize w.heap.size+1+1+1+1+1=base at HZ ⊢
 generalize w.heap.size+1+1+1+1=Q1 at HZ ⊢
 generalize w.heap.size+1+1+1=P1 at HZ ⊢
 generalize w.heap.size+1+1=M at HZ ⊢
 have HI0:=Lib.hid (SameI.first (p:=PB.mk x0 x1 x2 x3 x4 x5 x6 x7) (q:=PB.mk y0 y1 y2 y3 y4 y5 y6 y7) (some ⟨P1,0,none⟩) (some ⟨Q1,0,none⟩) 1 1)
 have HNB:Hid (wkM [⟨some ⟨P1,0,none⟩,[PB.mk x0 x1 x2 x3 x4 x5 x6 x7],1,some ⟨Q1,0,none⟩,[PB.mk y0 y1 y2 y3 y4 y5 y6 y7],1⟩]≤1000000):=by
  show _≤_
  have:=HN.out
  simp only [wkM,nodesBL]
  omega
 rw [HXX.out,HYY.out] at HZ HI0 HNB HR
 clear HN HX HY HXX HYY
 obtain ⟨S0,hS0⟩:∃ S:List SW,[⟨some ⟨P1,0,none⟩,[X],1,some ⟨Q1,0,none⟩,[Y],1⟩]=S:=⟨_,rfl⟩
 rw [hS0] at HZ HI0 HNB
 clear hS0
 go_loopw [6] (fun v wr=>∃ n,POut w M base X Y v n wr) (fun v wr=>least (fun n=>POut w M base X Y v n wr))
 case atStart=>exact ⟨_,S0,S0,_,HZ,HI0,rfl,HNB.out⟩
 case round=>
  clear HZ HI0 HNB
  obtain ⟨n0,hn0⟩:=hrel
  obtain ⟨hn1,hn2⟩:=least_spec (R:=fun n=>POut w M base X Y u6 n wr) hn0
  generalize hn3:least (fun n=>POut w M base X Y u6 n wr)=n at hn1 hn2 ⊢
  clear hn0 hn2
  obtain ⟨S,Wk,met,HS,HI,hn4,hn5⟩:=hn1
  have HFIN:Hid (∀ (v:Value) (W:World) (S' Wk':List SW) (met':PK→Bool),SS w M base S' Wk' met' v W→SameI X Y S' Wk'→wkM Wk' < n→(∃ n,POut w M base X Y v n W)∧least (fun n=>POut w M base X Y v n W) < n):=Lib.hid (fun v W S' Wk' met' h1 h2 h3=>by
   have h4:POut w M base X Y v (wkM Wk') W:=⟨S',Wk',met',h1,h2,rfl,by omega⟩
   exact ⟨⟨_,h4⟩,by have:=(least_spec (R:=fun n=>POut w M base X Y v n W) h4).2 _ h4;omega⟩)
  have HN3:=Lib.hid hn3
  clear hn3
  rcases List.eq_nil_or_concat Wk with rfl | ⟨W0,t,rfl⟩
  ·
   have ho:=HS.out.own
   obtain ⟨a,c,rfl,_⟩:=ho.row (SW.cells_len _) (by decide)
   have HL:=Lib.hid HI.out.last
   have HB:=Lib.hid HS.out.bel
   clear ho HS HI HFIN hn4
   simp only [List.map_nil,List.length_nil]
   go_wp2_with fail
   go_ret
   exact ⟨ret_bool (by rw [← HR.out,HL.out]),HB.out⟩
  ·
   rw [List.concat_eq_append] at HS HI hn4
   obtain ⟨g,c,rfl,c0,c1,hgz,hcap,hpop⟩:=HS.out.top
   have HPOP:=Lib.hid hpop
   have HJ:=Lib.hid HI.out.pop
   obtain ⟨m,hm⟩:∃ m,W0.length=m:=⟨_,rfl⟩
   rw [hm] at c0 c1 hcap HPOP HN3 ⊢
   have HM:=Lib.hid hm
   have hmn:m+1≤1000000:=by
    have:=wkM_len W0
    rw [wkM_app] at hn4
    simp only [wkM] at hn4
    omega
   have HN4:Hid (wkM W0+(nodesBL t.l+1)=n):=by
    show _=_
    rw [wkM_app] at hn4
    simp only [wkM] at hn4
    omega
   have y1:(0:Int) < (m:Int)+1:=by omega
   have y3:(m:Int) < (m:Int)+1:=by omega
   have y4:(0:Int)≤(m:Int):=by omega
   have y2:wrap64 (m:Int)=(m:Int):=IntWalk.wrap64_in _ (by omega)
   have HR0:=Lib.hid (HPOP.out.rows t HJ.out.mem)
   have HLEN:=Lib.hid (HJ.out.len t HJ.out.mem)
   have hl10:t.l.length≤10:=HR0.out.len
   have hlm:t.m.length=t.l.length:=HLEN.out.symm
   rw [hlm] at c1
   clear hpop hm hn4 HS HI hlm
   obtain ⟨wo,rfl⟩:∃ wo,wo=wr:=⟨_,rfl⟩
   go_upto_region 4 with fail
   refine Tryst2.wp_region_grows [.is (.slice (some ⟨g,0,none⟩) (m+1) c),.is (.slice (some ⟨g,0,none⟩) (m+1) c),.is (.int .i64 ((m:Int)+1)),.is (.int .i64 (m:Int)),.is (.pointer (some ⟨g,m*2,none⟩)),.is (.pointer (some ⟨g,m*2,none⟩)),.is (.slice t.a t.l.length t.c),.is (.slice (some ⟨g,0,none⟩) (m+1) c),.is (.slice (some ⟨g,0,none⟩) (m+1) c),.is (.int .i64 ((m:Int)+1)),.is (.int .i64 (m:Int)),.is (.pointer (some ⟨g,m*2,none⟩)),.is (.pointer (some ⟨g,m*2+1,none⟩)),.is (.slice t.b t.l.length t.d),.is (.slice t.a t.l.length t.c),.is (.slice t.b t.l.length t.d)] (by kernel_rfl) (by kernel_rfl) ?obl ?fin
   case obl=>
    simp only [YA,YL,YO,YR,Op.operands,Call.operands]
    repeat' apply And.intro
    any_goals trivial
    all_goals (intro tv w' hg hold hd;(try simp at hold);obtain ⟨hcg,hfg,hsg⟩:=YG hg)
    all_goals first | (go_simp;done) | (go_simp;rw [if_neg (by omega)];exact ⟨.refl _,rfl⟩) | (obtain ⟨⟨g,hvg,hgg,hcell⟩,_⟩:=hd;have hcell0:=hcell 0 (by decide);simp at hcell0;go_simp;done) | (go_simp;exact IntWalk.i64_in _ (by omega))
   case fin=>
    intro tv w' hg hR
    simp only [YF,YL,YR] at hR
    obtain ⟨hcg,hfg,hsg⟩:=YG hg
    simp only [YP,YL,Act.put,hR]
    have HP2:=Lib.hid (HPOP.out.grow (Tryst2.Grow.below hg (.refl wo.heap.size wo)))
    clear hg hR hcg hfg hsg c0 c1 hgz HPOP HR0
    go_upto_region 7 with fail
    obtain ⟨vg,hvg⟩:∃ v,Value.slice (some ⟨g,0,none⟩) m c=v:=⟨_,rfl⟩
    rw [hvg] at HP2 ⊢
    clear hvg
    go_loopw [6,46] (fun v i wr=>PIn w M base X Y t (wkM W0+nodesBL t.l) v i wr) (fun _ i _=>t.l.length - (intOf i).toNat)
    case atStart=>exact ⟨0,S,W0,met,by omega,rfl,HP2,HJ,by show _≤_;simp⟩
    case round=>
     obtain ⟨k,S2,Wk2,met2,hk,rfl,HS2,HJ2,HN2⟩:=hrel
     clear HP2 HJ
     obtain ⟨wi,rfl⟩:∃ wi,wi=wr:=⟨_,rfl⟩
     by_cases hlt:k < t.l.length
     ·
      have hlt':k < t.m.length:=by rw [← HLEN.out];exact hlt
      have HR2:=Lib.hid (HS2.out.rows t HJ2.out.mem)
      have ra:=HR2.out.ra
      have rb:=HR2.out.rb
      obtain ⟨b,o,ha,hbz⟩:=ra.head (i:=k) (by simpa using hlt)
      obtain ⟨b',o',ha',hbz'⟩:=rb.head (i:=k) (by simpa using hlt')
      rw [ha] at ra
      rw [ha'] at rb
      obtain ⟨_,hcs⟩:=ra.at (i:=k) (by simpa using hlt)
      obtain ⟨_,hcs'⟩:=rb.at (i:=k) (by simpa using hlt')
      simp only [List.getElem_map] at hcs hcs'
      have hp:t.l[k]?=some t.l[k]:=List.getElem?_eq_getElem hlt
      have hq:t.m[k]?=some t.m[k]:=List.getElem?_eq_getElem hlt'
      have hpp:=HR2.out.pa _ (List.getElem_mem hlt)
      have hqq:=HR2.out.pb _ (List.getElem_mem hlt')
      have hdr:=nodesBL_drop t.l k hlt
      obtain ⟨p,hpe⟩:∃ p,t.l[k]=p:=⟨_,rfl⟩
      obtain ⟨q,hqe⟩:∃ q,t.m[k]=q:=⟨_,rfl⟩
      rw [hpe] at hcs hp hpp hdr
      rw [hqe] at hcs' hq hqq
      rw [ha,ha']
      obtain ⟨p0,p1,p2,p3,p4,p5,p6,p7⟩:=p
      obtain ⟨q0,q1,q2,q3,q4,q5,q6,q7⟩:=q
      have e0:wi.cell? ⟨b,o+k*6,none⟩=some (.string p0):=hcs 0 (by omega)
      have e1:wi.cell? ⟨b,o+k*6+1,none⟩=some (.string p1):=hcs 1 (by omega)
      have e2:wi.cell? ⟨b,o+k*6+2,none⟩=some (.bool p2):=hcs 2 (by omega)
      have e3:wi.cell? ⟨b,o+k*6+3,none⟩=some (.int .i64 p3):=hcs 3 (by omega)
      have e4:wi.cell? ⟨b,o+k*6+4,none⟩=some (.string p4):=hcs 4 (by omega)
      have e5:wi.cell? ⟨b,o+k*6+5,none⟩=some (.slice p5 p7.length p6):=hcs 5 (by omega)
      have f0:wi.cell? ⟨b',o'+k*6,none⟩=some (.string q0):=hcs' 0 (by omega)
      have f1:wi.cell? ⟨b',o'+k*6+1,none⟩=some (.string q1):=hcs' 1 (by omega)
      have f2:wi.cell? ⟨b',o'+k*6+2,none⟩=some (.bool q2):=hcs' 2 (by omega)
      have f3:wi.cell? ⟨b',o'+k*6+3,none⟩=some (.int .i64 q3):=hcs' 3 (by omega)
      have f4:wi.cell? ⟨b',o'+k*6+4,none⟩=some (.string q4):=hcs' 4 (by omega)
      have f5:wi.cell? ⟨b',o'+k*6+5,none⟩=some (.slice q5 q7.length q6):=hcs' 5 (by omega)
      have z1:(k:Int) < t.l.length:=by omega
      have z2:(0:Int)≤k:=by omega
      have HGP:=Lib.hid hp
      have HGQ:=Lib.hid hq
      have HPP:=Lib.hid hpp
      have HQQ:=Lib.hid hqq
      have HND:Hid (wkM Wk2+(1+nodesBL p7+nodesBL (t.l.drop (k+1)))≤wkM W0+nodesBL t.l):=by
       show _≤_
       have h1:=HN2.out
       rw [hdr,nodesB_eq] at h1
       exact h1
      have HAA:=Lib.hid ha
      have HAB:=Lib.hid ha'
      clear hcs hcs' ra rb hp hq hpp hqq hpe hqe hdr ha ha' HN2 HR2
      go_upto_region 10 with fail
      have b2:=balloc (.cells #[.string q0,.string q1,.bool q2,.int .i64 q3,.string q4,.slice q5 q7.length q6] 123) (balloc (.cells #[.string p0,.string p1,.bool p2,.int .i64 p3,.string p4,.slice p5 p7.length p6] 123) (.refl wi.heap.size wi))
      refine wp_genC (fun v=>Hid (PBox v wi.heap.size p0 p1 p2 p3 p4 (.slice p5 p7.length p6))∧Hid (PBox v (wi.heap.size+1) q0 q1 q2 q3 q4 (.slice q5 q7.length q6))∧Hid (SS w M base S2 Wk2 met2 u6 v)) ⟨(PBox.new wi p0 p1 p2 p3 p4 (.slice p5 p7.length p6) 123).grow (balloc _ (.refl _ _)),?_,HS2.out.grow b2⟩ ?_
      ·
       have h:=PBox.new (wi.alloc (.cells #[.string p0,.string p1,.bool p2,.int .i64 p3,.string p4,.slice p5 p7.length p6] 123)) q0 q1 q2 q3 q4 (.slice q5 q7.length q6) 123
       exact Lib.hid (by simpa using h)
      clear b2 e0 e1 e2 e3 e4 e5 f0 f1 f2 f3 f4 f5 HS2 hbz hbz'
      rintro V ⟨HG,HH,HSV⟩
      generalize wi.heap.size+1=H at HH ⊢
      generalize wi.heap.size=G at HG ⊢
      obtain ⟨g0,g1,g2,g3,g4,g5,g6⟩:=HG.out
      obtain ⟨h0,h1,h2,h3,h4,h5,h6⟩:=HH.out
      have HBV:=Lib.hid HSV.out.bel
      have HFL:Hid (¬ (p0=q0∧p1=q1∧(p2=q2∧p3=q3∧p4=q4)∧p7.length=q7.length)→R=false):=Lib.hid (fun hne=>by
       rw [← HR.out]
       refine HJ2.out.fail HGP.out HGQ.out ?_
       cases e:headB (PB.mk p0 p1 p2 p3 p4 p5 p6 p7) (PB.mk q0 q1 q2 q3 q4 q5 q6 q7) with
       | false=>rfl
       | true=>
        refine absurd ?_ hne
        unfold headB at e
        simp only [PB.op,PB.s,PB.num,PB.n,PB.vs,PB.l,Bool.and_eq_true] at e
        exact ⟨of_decide_eq_true e.1,of_decide_eq_true e.2.1,⟨of_decide_eq_true e.2.2.1.1,of_decide_eq_true e.2.2.1.2.1,of_decide_eq_true e.2.2.1.2.2⟩,of_decide_eq_true e.2.2.2⟩)
      by_cases j1:p0=q0
      rotate_left
      ·
       have w1:=str_ne j1
       have HNO:=Lib.hid (HFL.out (fun h=>j1 h.1))
       clear j1 HFL
       go_wp2_with fail
       go_ret
       exact ⟨ret_bool HNO.out.symm,HBV.out⟩
      subst j1
      by_cases j1:p1=q1
      rotate_left
      ·
       have w1:=str_ne j1
       have HNO:=Lib.hid (HFL.out (fun h=>j1 h.2.1))
       clear j1 HFL
       go_wp2_with fail
       go_ret
       exact ⟨ret_bool HNO.out.symm,HBV.out⟩
      subst j1
      by_cases j1:p2=q2∧p3=q3∧p4=q4
      rotate_left
      ·
       have HNO:=Lib.hid (HFL.out (fun h=>j1 h.2.2.1))
       have HQ:=Lib.hid j1
       clear j1 HFL
       go_wp2_with fail
       all_goals first
        | (exfalso;exact HQ.out ⟨by assumption,by assumption,str_ext (by rw [← str_toList,← str_toList];assumption)⟩)
        | (go_ret;exact ⟨ret_bool HNO.out.symm,HBV.out⟩)
      obtain ⟨rfl,rfl,rfl⟩:=j1
      by_cases j1:p7.length=q7.length
      rotate_left
      ·
       have w1:¬ ((p7.length:Int)=q7.length):=by omega
       have HNO:=Lib.hid (HFL.out (fun h=>j1 h.2.2.2))
       clear j1 HFL
       go_wp2_with fail
       go_ret
       exact ⟨ret_bool HNO.out.symm,HBV.out⟩
      have HHD:Hid (headB (PB.mk p0 p1 p2 p3 p4 p5 p6 p7) (PB.mk p0 p1 p2 p3 p4 q5 q6 q7)=true):=by
       show _=_
       unfold headB
       simp only [PB.op,PB.s,PB.num,PB.n,PB.vs,PB.l,decide_true,Bool.true_and]
       exact decide_eq_true j1
      rw [← j1] at h5 HH
      have HJL:=Lib.hid j1
      clear j1 HFL
      by_cases j2:p7.length=0
      ·
       have w1:((p7.length:Int)==0)=true:=by rw [beq_iff_eq];omega
       have HST:=Lib.hid (HJ2.out.step HGP.out HGQ.out ⟨HHD.out,.inl (List.eq_nil_of_length_eq_zero j2)⟩)
       have HND2:Hid (wkM Wk2+nodesBL (t.l.drop (k+1))≤wkM W0+nodesBL t.l):=by
        show _≤_
        have:=HND.out
        omega
       clear j2 HJ2
       go_wp2_with fail
       go_roundw
       case rel=>exact ⟨k+1,S2,Wk2,met2,by omega,by go_num,HSV,HST,HND2⟩
       case measure=>simp [intOf]<;>omega
      ·
       have w1:((p7.length:Int)==0)=false:=by rw [beq_eq_false_iff_ne];omega
       obtain ⟨-,-,rx,-⟩:=PO.parts HPP.out
       obtain ⟨-,-,ry,-⟩:=PO.parts HQQ.out
       obtain ⟨pb,po,rfl,-⟩:=rx.head (i:=0) (by simp;omega)
       obtain ⟨qb,qo,rfl,-⟩:=ry.head (i:=0) (by simp;have:=HJL.out;omega)
       have HOK:=Lib.hid (part_ok HPP.out HQQ.out rfl rfl p7.length:okP w ⟨(pb,po),(qb,qo),p7.length⟩)
       have HPI:=Lib.hid (fun W (hb:Below w.heap.size w W)=>part_in (M:=M) (base:=base) HPP.out HQQ.out hb HSV.out.hM HSV.out.hMb)
       have w2:(0:Int) < (p7.length:Int):=by omega
       clear rx ry
       go_upto_region 13 with fail
       go_cut [12] from 87 to 96 (fun u wx=>∃ gb,u=.pointer (some ⟨gb,0,none⟩)∧Hid (wx.cell? ⟨gb,0,none⟩=some (.pointer (some ⟨pb,po,none⟩))∧wx.cell? ⟨gb,1,none⟩=some (.pointer (some ⟨qb,qo,none⟩))∧wx.cell? ⟨gb,2,none⟩=some (.int .i64 p7.length)∧gb < wx.heap.size)∧Hid (Below V.heap.size V wx))
       case first=>
        go_region
        all_goals
         go_wp2_with fail
         go_meet
         refine ⟨_,rfl,?_,?_⟩
         ·
          show _∧_
          refine ⟨?_,?_,?_,?_⟩<;>simp [go_sem]<;>omega
         ·
          show Below _ _ _
          repeat (first | with_reducible exact Below.refl _ _ | with_reducible apply bdrew | with_reducible refine balloc _ ?_)
       case rest=>
       obtain ⟨gb,rfl,HC,HBW⟩:=hcut
       have HSW:=Lib.hid (HSV.out.grow HBW.out)
       have HG2:=Lib.hid (HG.out.grow HBW.out)
       have HH2:=Lib.hid (HH.out.grow HBW.out)
       clear HSV HG HH HBW g0 g1 g2 g3 g4 g5 g6 h0 h1 h2 h3 h4 h5 h6 HBV
       obtain ⟨g0,g1,g2,g3,g4,g5,g6⟩:=HG2.out
       obtain ⟨h0,h1,h2,h3,h4,h5,h6⟩:=HH2.out
       obtain ⟨cc0,cc1,cc2,cc3⟩:=HC.out
       obtain ⟨n2,hmp⟩:=HSW.out.map
       have HMP:=Lib.hid hmp
       clear hmp
       go_upto_region 15 with (at_lookup;refine wpList_lookP HSW.out.bel rfl _ _ rfl HMP.out rfl HOK.out rfl ?_)
       refine wp_genC (fun v=>Hid (PBox v G p0 p1 p2 p3 p4 (.slice (some ⟨pb,po,none⟩) p7.length p6))∧Hid (PBox v H p0 p1 p2 p3 p4 (.slice (some ⟨qb,qo,none⟩) p7.length q6))∧Hid (v.cell? ⟨gb,0,none⟩=some (.pointer (some ⟨pb,po,none⟩))∧v.cell? ⟨gb,1,none⟩=some (.pointer (some ⟨qb,qo,none⟩))∧v.cell? ⟨gb,2,none⟩=some (.int .i64 p7.length)∧gb < v.heap.size)∧Hid (SS w M base S2 Wk2 met2 u6 v)) ⟨HG2.out.grow (balloc _ (.refl _ _)),HH2.out.grow (balloc _ (.refl _ _)),?_,HSW.out.grow (balloc _ (.refl _ _))⟩ ?_
       ·
        have hb:=balloc (.cells #[] 251) (.refl wc.heap.size wc)
        exact Lib.hid ⟨by rw [hb.cell (p:=⟨gb,0,none⟩) cc3];exact cc0,by rw [hb.cell (p:=⟨gb,1,none⟩) cc3];exact cc1,by rw [hb.cell (p:=⟨gb,2,none⟩) cc3];exact cc2,Nat.lt_of_lt_of_le cc3 hb.size⟩
       clear HG2 HH2 HC HSW HMP g0 g1 g2 g3 g4 g5 g6 h0 h1 h2 h3 h4 h5 h6 cc0 cc1 cc2 cc3
       rintro U ⟨HG,HH,HC,HSU⟩
       obtain ⟨g0,g1,g2,g3,g4,g5,g6⟩:=HG.out
       obtain ⟨h0,h1,h2,h3,h4,h5,h6⟩:=HH.out
       obtain ⟨cc0,cc1,cc2,cc3⟩:=HC.out
       cases hmet:met2 ⟨(pb,po),(qb,qo),p7.length⟩ with
       | true=>
        have HST:=Lib.hid (HJ2.out.step HGP.out HGQ.out (HSU.out.met_in HPP.out HQQ.out HHD.out HJ2.out.len rfl rfl hmet))
        have HND2:Hid (wkM Wk2+nodesBL (t.l.drop (k+1))≤wkM W0+nodesBL t.l):=by
         show _≤_
         have:=HND.out
         omega
        clear HJ2 hmet j2
        go_wp2_with fail
        go_roundw
        case rel=>exact ⟨k+1,S2,Wk2,met2,by omega,by go_num,HSU,HST,HND2⟩
        case measure=>simp [intOf]<;>omega
       | false=>
        clear hmet
        obtain ⟨n3,hmp⟩:=HSU.out.map
        have HMP:=Lib.hid hmp
        clear hmp
        go_upto_region 17 with (refine wpList_putW (keyS HSU.out.bel) encP_inj rfl _ _ _ (.inl rfl) HMP.out Tryz.underlying245 rfl HOK.out rfl (v:=.agg #[]) rfl ?_;intro Z2 hm2 hg2 hz2)
        have HSP:=Lib.hid (HSU.out.put ⟨some ⟨pb,po,none⟩,p7,p6,some ⟨qb,qo,none⟩,q7,q6⟩ (HPI.out U HSU.out.bel) (k:=⟨(pb,po),(qb,qo),p7.length⟩) rfl rfl rfl hm2 hg2 hz2)
        have hGM:G≠M:=map_ne_cell HMP.out g0
        have hHM:H≠M:=map_ne_cell HMP.out h0
        have k5:Z2.cell? ⟨G,5,none⟩=some (.slice (some ⟨pb,po,none⟩) p7.length p6):=(World.cell?_of_block (w:=U) (a:=⟨G,5,none⟩) (hg2.block G g6 (by simpa using hGM))).trans g5
        have l5:Z2.cell? ⟨H,5,none⟩=some (.slice (some ⟨qb,qo,none⟩) p7.length q6):=(World.cell?_of_block (w:=U) (a:=⟨H,5,none⟩) (hg2.block H h6 (by simpa using hHM))).trans h5
        have hbz2:base≤Z2.heap.size:=HSP.out.hbz
        have hwl:Wk2.length≤1000000:=by
         have h1:=wkM_len Wk2
         have h2:=HND.out
         have h3:=HN4.out
         omega
        have HO:=Lib.hid HSP.out.own
        have HPS:=Lib.hid (HJ2.out.push HGP.out HGQ.out HHD.out (some ⟨pb,po,none⟩) (some ⟨qb,qo,none⟩) p6 q6)
        have HND2:Hid (wkM (Wk2++[⟨some ⟨pb,po,none⟩,p7,p6,some ⟨qb,qo,none⟩,q7,q6⟩])+nodesBL (t.l.drop (k+1))≤wkM W0+nodesBL t.l):=by
         show _≤_
         have:=HND.out
         rw [wkM_app]
         simp only [wkM]
         omega
        clear hm2 hg2 hz2 hGM hHM HSU HMP HG HH HC g0 g1 g2 g3 g4 g5 g6 h0 h1 h2 h3 h4 h5 h6 cc0 cc1 cc2 cc3 HJ2 HND HPI HOK j2
        go_wp2_with (at_builtin;refine wpList_appR pairT rfl _ _ rfl base u6 (Wk2.map SW.cells) Wk2.length (by simp) rfl (HO.out.alloc _) [.slice (some ⟨pb,po,none⟩) p7.length p6,.slice (some ⟨qb,qo,none⟩) p7.length q6] rfl (by intro u hu;simp at hu;rcases hu with rfl | rfl<;>rfl) Z2.heap.size rfl (by intro j hj;rcases j with _ | _ | j<;>first | (simp [go_sem];done) | omega) (by omega) (by simp;omega) ?_;intro v3 Z3 ho3 hb3 hs3;obtain ⟨a3,c3,hv3,_⟩:=ho3.row (by intro x hx;rcases List.mem_append.1 hx with hx | hx;exact SW.cells_len _ x hx;rw [List.mem_singleton] at hx;subst hx;rfl) (by decide);subst hv3;have HO3:=Lib.hid ho3;have HB3:=Lib.hid hb3;clear ho3 hb3 hs3)
        have HAP:Hid (SS w M base (⟨some ⟨pb,po,none⟩,p7,p6,some ⟨qb,qo,none⟩,q7,q6⟩ :: S2) (Wk2++[⟨some ⟨pb,po,none⟩,p7,p6,some ⟨qb,qo,none⟩,q7,q6⟩]) (setP met2 ⟨(pb,po),(qb,qo),p7.length⟩) (.slice a3 (Wk2.map SW.cells++[[Value.slice (some ⟨pb,po,none⟩) p7.length p6,Value.slice (some ⟨qb,qo,none⟩) p7.length q6]]).length c3) Z3):=by
         refine (HSP.out.grow (balloc _ (.refl _ _))).app ⟨some ⟨pb,po,none⟩,p7,p6,some ⟨qb,qo,none⟩,q7,q6⟩ ?_ HB3.out
         have e:(Wk2++[(⟨some ⟨pb,po,none⟩,p7,p6,some ⟨qb,qo,none⟩,q7,q6⟩:SW)]).map SW.cells=Wk2.map SW.cells++[[Value.slice (some ⟨pb,po,none⟩) p7.length p6,Value.slice (some ⟨qb,qo,none⟩) p7.length q6]]:=by
          rw [List.map_append]
          show _++[[_,Value.slice _ q7.length _]]=_
          rw [← HJL.out]
         rw [e]
         exact HO3.out
        rw [show (Wk2.map SW.cells++[[Value.slice (some ⟨pb,po,none⟩) p7.length p6,Value.slice (some ⟨qb,qo,none⟩) p7.length q6]]).length=Wk2.length+1 by simp] at HAP
        clear HSP HO HO3 HB3
        go_roundw
        case rel=>exact ⟨k+1,_,_,_,by omega,by go_num,HAP,HPS,HND2⟩
        case measure=>simp [intOf]<;>omega
     ·
      have HI2:=Lib.hid (HJ2.out.stop (by omega))
      have hw2:wkM Wk2 < n:=by
       have h1:=HN2.out
       have h2:=HN4.out
       omega
      have HFF:=Lib.hid (HFIN.out _ _ _ _ _ HS2.out HI2.out hw2)
      clear HJ2 HN2 HI2 hw2
      go_wp2_with fail
      go_roundw
      case rel=>exact HFF.out.1
      case measure=>
       rw [HN3.out]
       exact HFF.out.2
end Go.Proofs.YtcbicdencgjfiaaGreatDoor
