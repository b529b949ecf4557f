import Derived.Test.YtcbicdencgjfiaaGreatDoorFewDB14
set_option linter.all false
set_option maxHeartbeats 4000000
set_option maxRecDepth 20000
namespace Tryst4
open Go Go.RowKit Tryst2
inductive Rsp where
 | is (v:Value)
 | own (p:Nat->Nat->Value->World->Prop)
 | box (T:TypeId) (n:Nat)
 | same (j:Nat)
 | dep (js:List Nat) (p:(Nat->Value)->Nat->Nat->Value->World->Prop)
 | put (k j:Nat) (T:TypeId) (n:Nat)
def cellsOf:Value->List Value
 | .agg a=>a.toList
 | v=>[v]
def val (dsts:List (Option Nat)) (tv:Nat->Value) (i:Nat):Value:=match (dsts[i]?).bind id with
 | some d=>tv d
 | none=>undef
structure Same (base lo hi:Nat) (x y:World):Prop where
 size:x.heap.size<=y.heap.size
 block:∀ b,(b < base∨(lo<=b/\b < hi))->b < x.heap.size->y.heap[b]?=x.heap[b]?
structure Only (g:Nat) (x y:World):Prop where
 os:y.os=x.os
 tape:y.tape=x.tape
 output:y.output=x.output
 size:y.heap.size=x.heap.size
 block:∀ b,b≠g->y.heap[b]?=x.heap[b]?
def mask (js:List Nat) (f:Nat->Value):Nat->Value:=fun k=>if js.contains k=true then f k else undef
theorem vQA {js:List Nat} {f g:Nat->Value} (h:∀ j∈js,f j=g j):mask js f=mask js g:=by
 funext k
 unfold mask
 by_cases hk:js.contains k=true
 · rw [if_pos hk,if_pos hk,h k (by simpa using hk)]
 · rw [if_neg hk,if_neg hk]
def Rsp.R (base:Nat) (dsts:List (Option Nat)) (tv:Nat->Value) (lo hi:Nat->Nat) (w:World) (i:Nat):Rsp->Prop
 | .is c=>val dsts tv i=c
 | .own p=>∃ w0,Same base (lo i) (hi i) w0 w/\p (lo i) (hi i) (val dsts tv i) w0
 | .box T n=>∃ g cs,val dsts tv i=.pointer (some ⟨g,0,none⟩)/\lo i<=g/\g < hi i/\w.heap[g]?=some (.cells cs T (0,0))/\cs.size=n
 | .same j=>val dsts tv i=val dsts tv j
 | .dep js p=>∃ w0,Same base (lo i) (hi i) w0 w/\p (mask js (val dsts tv)) (lo i) (hi i) (val dsts tv i) w0
 | .put k j T _=>∃ g,val dsts tv k=.pointer (some ⟨g,0,none⟩)/\lo k<=g/\g < hi k/\w.heap[g]?=some (.cells (cellsOf (val dsts tv j)).toArray T (0,0))
def Rsp.made (dsts:List (Option Nat)) (tv:Nat->Value) (w:World) (v:Value) (w':World):Rsp->Prop
 | .is c=>Grow w w'/\v=c
 | .own p=>Grow w w'/\p w.heap.size w'.heap.size v w'
 | .box T n=>Grow w w'/\∃ g cs,v=.pointer (some ⟨g,0,none⟩)/\w.heap.size<=g/\w'.heap[g]?=some (.cells cs T (0,0))/\cs.size=n
 | .same j=>Grow w w'/\v=val dsts tv j
 | .dep js p=>Grow w w'/\p (mask js (val dsts tv)) w.heap.size w'.heap.size v w'
 | .put k j T n=>∀ g,val dsts tv k=.pointer (some ⟨g,0,none⟩)->Only g w w'/\w'.heap[g]?=some (.cells (cellsOf (val dsts tv j)).toArray T (0,0))/\(cellsOf (val dsts tv j)).length=n
def depsS (base:Nat) (rs:List Rsp) (dsts:List (Option Nat)) (tv:Nat->Value) (lo hi:Nat->Nat) (w:World):List Nat->Prop
 | []=>True
 | j :: l=>(match rs[j]? with | some r=>r.R base dsts tv lo hi w j | none=>True)/\depsS base rs dsts tv lo hi w l
def Obl (P:Program) (a0:Act) (w0:World) (rs:List Rsp) (dsts:List (Option Nat)) (o:Oper) (r:Rsp):Prop:=
 ∀ (tv:Nat->Value) (lo hi:Nat->Nat) (w':World),Grow w0.drew w'→kQz (dsts.take rs.length) a0 tv (zQO o)->depsS w0.heap.size rs dsts tv lo hi w' (zQK o)->
  if K9 dsts tv o.guard=true then stepV P (fun v w''=>r.made dsts tv w' v w'') ((execOp (evOf tv) o).run P w') else r.made dsts tv w' undef w'
def AllObl (P:Program) (a0:Act) (w0:World) (rs:List Rsp) (dsts:List (Option Nat)):List Oper->List Rsp->Prop
 | o :: os,r :: l=>Obl P a0 w0 rs dsts o r/\AllObl P a0 w0 rs dsts os l
 | _,_=>True
def allT (base:Nat) (dsts:List (Option Nat)) (tv:Nat->Value) (lo hi:Nat->Nat) (w:World):Nat->List Rsp->Prop
 | k,r :: rs=>r.R base dsts tv lo hi w k/\allT base dsts tv lo hi w (k+1) rs
 | _,[]=>True
def qQv (o:Oper) (j:Nat):Bool:=(zQK o).contains j
def jYj (ops:Array Oper) (rs:List Rsp):Bool:=(List.range rs.length).all fun i=>match rs[i]?,ops[i]? with
 | some (.put k j T n),some o=>qQv o k&&qQv o j&&(match rs[k]? with | some (.box T' n')=>T'==T&&n'==n | _=>false)&&
  (List.range rs.length).all fun i'=>match rs[i']? with | some (.put k' _ _ _)=>i'==i||k' != k | _=>true
 | some (.same j),some o=>qQv o j&&o.dst.isSome
 | some (.dep js _),some o=>js.all (qQv o)&&o.dst.isSome
 | _,some o=>o.dst.isSome
 | _,_=>true
theorem AllObl.at {P:Program} {a0:Act} {w0:World} {rs:List Rsp} {dsts:List (Option Nat)}:∀ (os:List Oper) (l:List Rsp),AllObl P a0 w0 rs dsts os l->∀ (i:Nat) o r,os[i]?=some o->l[i]?=some r->Obl P a0 w0 rs dsts o r
 | [],_,_,i,o,r,ho,_=>by simp at ho
 | _ :: _,[],_,i,o,r,_,hr=>by simp at hr
 | x :: os,y :: l,h,i,o,r,ho,hr=>by
  cases i with
  | zero=>
   simp only [List.getElem?_cons_zero,Option.some.injEq] at ho hr;subst ho;subst hr;exact h.1
  | succ i=>exact AllObl.at os l h.2 i o r (by simpa using ho) (by simpa using hr)
theorem kJ6 {base:Nat} {dsts:List (Option Nat)} {tv:Nat->Value} {lo hi:Nat->Nat} {w:World}:∀ (rs:List Rsp) (k:Nat),(∀ (i:Nat) r,rs[i]?=some r->r.R base dsts tv lo hi w (k+i))->allT base dsts tv lo hi w k rs
 | [],_,_=>by unfold allT;trivial
 | r :: rs,k,h=>by
  refine ⟨h 0 r rfl,kJ6 rs (k+1) fun i r hr=>?_⟩;have:=h (i+1) r (by simpa using hr)
  rwa [show k+(i+1)=k+1+i by omega] at this
theorem xQk {base:Nat} {rs:List Rsp} {dsts:List (Option Nat)} {tv:Nat->Value} {lo hi:Nat->Nat} {w:World}:∀ (l:List Nat),(∀ j∈l,∀ r,rs[j]?=some r->r.R base dsts tv lo hi w j)->depsS base rs dsts tv lo hi w l
 | [],_=>trivial
 | j :: l,h=>by
  refine ⟨?_,xQk l fun j hj=>h j (by simp [hj])⟩;cases hr:rs[j]? with
  | none=>trivial
  | some r=>exact h j (by simp) r hr
theorem Rsp.R.keep {base:Nat} {dsts:List (Option Nat)} {tv tv':Nat->Value} {lo hi lo' hi':Nat->Nat} {w w':World} {i:Nat} {r:Rsp} (h:r.R base dsts tv lo hi w i)
  (hv:val dsts tv' i=val dsts tv i) (hl:lo' i=lo i/\hi' i=hi i) (hk:∀ k j T n,r=.put k j T n->val dsts tv' k=val dsts tv k/\val dsts tv' j=val dsts tv j/\lo' k=lo k/\hi' k=hi k/\∀ b,lo k<=b->b < hi k->b < w.heap.size->w'.heap[b]?=w.heap[b]?)
  (hs:∀ j,r=.same j->val dsts tv' j=val dsts tv j) (hd:∀ js p,r=.dep js p->∀ j∈js,val dsts tv' j=val dsts tv j) (hz:w.heap.size<=w'.heap.size) (hb:(∀ k j T n,r≠.put k j T n)->∀ b,b < base∨(lo i<=b/\b < hi i)->b < w.heap.size->w'.heap[b]?=w.heap[b]?):r.R base dsts tv' lo' hi' w' i:=by
 cases r with
 | is c=>exact hv.trans h
 | own p=>
  obtain ⟨w0,h1,h2⟩:=h;have hb:=hb (fun _ _ _ _ e=>by cases e);refine ⟨w0,?_,?_⟩
  · rw [hl.1,hl.2];exact ⟨Nat.le_trans h1.size hz,fun b hbb hlt=>(hb b hbb (Nat.lt_of_lt_of_le hlt h1.size)).trans (h1.block b hbb hlt)⟩
  · rw [hl.1,hl.2,hv];exact h2
 | box T n=>
  obtain ⟨g,cs,h1,h2,h3,h4,h5⟩:=h;have hb:=hb (fun _ _ _ _ e=>by cases e);exact ⟨g,cs,hv.trans h1,by rw [hl.1];exact h2,by rw [hl.2];exact h3,(hb g (.inr ⟨h2,h3⟩) (Array.getElem?_eq_some_iff.1 h4).1).trans h4,h5⟩
 | same j=>exact hv.trans (h.trans (hs j rfl).symm)
 | dep js p=>
  obtain ⟨w0,h1,h2⟩:=h;have hb:=hb (fun _ _ _ _ e=>by cases e);refine ⟨w0,?_,?_⟩
  · rw [hl.1,hl.2];exact ⟨Nat.le_trans h1.size hz,fun b hbb hlt=>(hb b hbb (Nat.lt_of_lt_of_le hlt h1.size)).trans (h1.block b hbb hlt)⟩
  · rw [hl.1,hl.2,hv,vQA (hd js p rfl)];exact h2
 | put k j T n=>
  obtain ⟨g,h1,h2,h3,h4⟩:=h;obtain ⟨q1,q2,q3,q4,q5⟩:=hk k j T n rfl;exact ⟨g,q1.trans h1,by rw [q3];exact h2,by rw [q4];exact h3,by rw [q2];exact (q5 g h2 h3 (Array.getElem?_eq_some_iff.1 h4).1).trans h4⟩
theorem wp_region_owns {P:Program} {ops:Array Oper} {Q:Exit->Act->World->Prop} {rid:Nat} {a0:Act} {w0:World} (rs:List Rsp)
    (hm:P.follows .mixedOrders=true) (hok:kQY ops rs.length a0.tmps.size=true) (hsp:jYj ops rs=true)
    (obl:AllObl P a0 w0 rs (dstL ops) ops.toList rs)
    (fin:∀ (tv:Nat->Value) (w':World) (lo hi:Nat->Nat),Grow w0.drew w'→allT w0.heap.size (dstL ops) tv lo hi w' 0 rs->(∀ i,i < rs.length->w0.heap.size<=lo i/\lo i<=hi i/\hi i<=w'.heap.size)->(∀ i j,i < rs.length->j < rs.length->i≠j->hi i<=lo j∨hi j<=lo i)->
      wpList P ops Q (ops.toList.drop rs.length) (Jv tv ((dstL ops).take rs.length) a0) w') :
    (Code.region rid ops true).wp P Q a0 w0:=by
  have hf:=DForm.of hok;obtain ⟨m,hmm⟩:∃ m,m=rs.length:=⟨_,rfl⟩
  have spec:∀ (i:Nat) r o,rs[i]?=some r->ops[i]?=some o->(match r with
      | .put k j T n=>qQv o k=true/\qQv o j=true/\rs[k]?=some (.box T n)/\∀ i' k' j' T' n',rs[i']?=some (.put k' j' T' n')->i'≠i->k'≠k
      | .same j=>qQv o j=true/\o.dst.isSome=true
      | .dep js _=>(∀ j∈js,qQv o j=true)/\o.dst.isSome=true
      | _=>o.dst.isSome=true):=fun i r o hr ho=>by
    have hi:=(List.getElem?_eq_some_iff.1 hr).1;have:=List.all_eq_true.1 hsp i (List.mem_range.2 hi);rw [hr,ho] at this;cases r with
    | put k j T n=>
      simp only [Bool.and_eq_true] at this;obtain ⟨⟨⟨h1,h2⟩,h3⟩,h4⟩:=this;refine ⟨h1,h2,?_,fun i' k' j' T' n' hr' hne=>?_⟩
      · cases hk:rs[k]? with
        | none=>rw [hk] at h3;cases h3
        | some q=>
          rw [hk] at h3;cases q with
          | box T' n'=>
            simp only [Bool.and_eq_true,beq_iff_eq] at h3;rw [h3.1,h3.2]
          | _=>cases h3
      · have:=List.all_eq_true.1 h4 i' (List.mem_range.2 (List.getElem?_eq_some_iff.1 hr').1)
        rw [hr'] at this;simp only [Bool.or_eq_true,beq_iff_eq,bne_iff_ne] at this;exact this.resolve_left hne
    | same j=>simpa using this
    | dep js p=>simpa [List.all_eq_true] using this
    | _=>simpa using this
  have waitsOf:∀ (o:Oper) j,qQv o j=true->∃ e∈o.after,Region.binds .any e=true/\e.on=j:=fun o j h=>by
    unfold qQv at h;rw [List.contains_iff_mem] at h;exact vJP h
  refine qQO m (fun done a w=>∃ lo hi:Nat->Nat,Below w0.heap.size w0.drew w/\(∀ (i:Nat) r,i < m->done i=true->rs[i]?=some r->r.R w0.heap.size (dstL ops) (fun t=>a.tmps.getD t undef) lo hi w i)/\
      (∀ i,i < m->done i=true->w0.heap.size<=lo i/\lo i<=hi i/\hi i<=w.heap.size)/\(∀ i j,i < m->j < m->i≠j->done i=true->done j=true->hi i<=lo j∨hi j<=lo i)) hm (by rw [hmm];exact hok)
    (fun done h=>⟨fun _=>0,fun _=>0,Below.refl _ _,fun i r him hd _=>(by rw [h i him] at hd;cases hd),fun i him hd=>(by rw [h i him] at hd;cases hd),fun i j him _ _ hd=>(by rw [h i him] at hd;cases hd)⟩) ?_ ?_
  · rintro i o done a w him ho hni edone hcl hh ⟨lo,hi,hB,hR,hL,hT⟩ done' hset
    obtain ⟨r,hri⟩:∃ r,rs[i]?=some r:=⟨rs[i]'(by omega),List.getElem?_eq_getElem (by omega)⟩;have hsi:=spec i r o hri ho
    have hobl:=AllObl.at _ _ obl i o r (by simpa using ho) hri (fun t=>a.tmps.getD t undef) lo hi w hB (by rw [<- hmm];exact hh.rest _)
      (xQk _ fun j hj r hr=>by
        obtain ⟨e,he,hbind,rfl⟩:=vJP hj;have hb:=hf.back i o ho e he hbind;exact hR _ r (by omega) (edone e he hbind) hr)
    have other:∀ (v:Value) (j:Nat),j < m->j≠i->val (dstL ops) (fun t=>(a.put o.dst v).tmps.getD t undef) j=val (dstL ops) (fun t=>a.tmps.getD t undef) j:=fun v j hjm hji=>by
      unfold val dstL;rw [List.getElem?_map,Array.getElem?_toList];cases hoj:ops[j]? with
      | none=>rfl
      | some oj=>
        simp only [Option.map_some,Option.bind_some,id];cases hod:oj.dst with
        | none=>rfl
        | some d=>exact zQy (by rw [<- hmm] at hf;exact hf) hh.size him hjm hji ho hoj hod v
    have own:∀ (v:Value),o.dst.isSome=true->val (dstL ops) (fun t=>(a.put o.dst v).tmps.getD t undef) i=v:=fun v hs=>by
      obtain ⟨d,hod⟩:=Option.isSome_iff_exists.1 hs;unfold val dstL;rw [List.getElem?_map,Array.getElem?_toList,ho];simp only [Option.map_some,Option.bind_some,id,hod];rw [qQW _ _ _ _ (by have:=hf.dst i o d ho hod;have:=hh.size;omega),if_pos rfl]
    have isdone:∀ (j:Nat) oj k,ops[j]?=some oj->done j=true->qQv oj k=true->done k=true/\k < j:=fun j oj k hoj hj hw=>by
      obtain ⟨e,he,hb,rfl⟩:=waitsOf oj k hw;exact ⟨hcl j oj hoj hj e he hb,hf.back j oj hoj e he hb⟩
    have opAt:∀ (j:Nat),j < m->∃ oj,ops[j]?=some oj:=fun j hj=>⟨ops[j]'(by have:=hf.le;omega),Array.getElem?_eq_getElem _⟩
    -- an operation that only makes memory
    have grew:∀ (v:Value) (w':World),Grow w w'→(∀ lo' hi':Nat->Nat,lo' i=w.heap.size->hi' i=w'.heap.size->r.R w0.heap.size (dstL ops) (fun t=>(a.put o.dst v).tmps.getD t undef) lo' hi' w' i)->
        ∃ lo hi:Nat->Nat,Below w0.heap.size w0.drew w'/\(∀ (i:Nat) r,i < m->done' i=true->rs[i]?=some r->r.R w0.heap.size (dstL ops) (fun t=>(a.put o.dst v).tmps.getD t undef) lo hi w' i)/\
          (∀ i,i < m->done' i=true->w0.heap.size<=lo i/\lo i<=hi i/\hi i<=w'.heap.size)/\(∀ i j,i < m->j < m->i≠j->done' i=true->done' j=true->hi i<=lo j∨hi j<=lo i):=fun v w' hg hnew=>by
      have hz:w.heap.size<=w'.heap.size:=hg.size;have hz0:w0.heap.size<=w.heap.size:=hB.size;refine ⟨fun j=>if j=i then w.heap.size else lo j,fun j=>if j=i then w'.heap.size else hi j,Below.trans hB (Below.mono hg hz0),fun j rj hjm hj hrj=>?_,fun j hjm hj=>?_,fun j k hjm hkm hjk hj hk=>?_⟩
      · by_cases e:j=i
        · subst e
          rw [hri] at hrj;obtain rfl:=Option.some.inj hrj;exact hnew _ _ (if_pos rfl) (if_pos rfl)
        · have hj':=((hset j).1 hj).resolve_left e
          obtain ⟨oj,hoj⟩:=opAt j hjm;have hsj:=spec j rj oj hrj hoj;refine (hR j rj hjm hj' hrj).keep (other v j hjm e) ⟨if_neg e,if_neg e⟩ (fun k j2 T n hE=>?_) (fun j2 hE=>?_) (fun js p hE j2 hm2=>?_) hz (fun _ b _ hlt=>hg.block b hlt)
          · subst hE
            obtain ⟨d1,l1⟩:=isdone j oj k hoj hj' hsj.1;obtain ⟨d2,l2⟩:=isdone j oj j2 hoj hj' hsj.2.1;have n1:k≠i:=fun e=>by rw [e,hni] at d1;cases d1
            have n2:j2≠i:=fun e=>by rw [e,hni] at d2;cases d2
            exact ⟨other v k (by omega) n1,other v j2 (by omega) n2,if_neg n1,if_neg n1,fun b _ _ hlt=>hg.block b hlt⟩
          · subst hE
            obtain ⟨d2,l2⟩:=isdone j oj j2 hoj hj' hsj.1;exact other v j2 (by omega) (fun e=>by rw [e,hni] at d2;cases d2)
          · subst hE
            obtain ⟨d2,l2⟩:=isdone j oj j2 hoj hj' (hsj.1 j2 hm2);exact other v j2 (by omega) (fun e=>by rw [e,hni] at d2;cases d2)
      · by_cases e:j=i
        · simp only [if_pos e];exact ⟨hz0,hz,Nat.le_refl _⟩
        · simp only [if_neg e]
          obtain ⟨q1,q2,q3⟩:=hL j hjm (((hset j).1 hj).resolve_left e);exact ⟨q1,q2,Nat.le_trans q3 hz⟩
      · by_cases e1:j=i
        · have e2:k≠i:=fun x=>hjk (e1.trans x.symm)
          simp only [if_pos e1,if_neg e2];exact .inr (hL k hkm (((hset k).1 hk).resolve_left e2)).2.2
        · have hj':=((hset j).1 hj).resolve_left e1
          by_cases e2:k=i
          · simp only [if_neg e1,if_pos e2]
            exact .inl (hL j hjm hj').2.2
          · simp only [if_neg e1,if_neg e2]
            exact hT j k hjm hkm hjk hj' (((hset k).1 hk).resolve_left e2)
    have next : ∀ v w', r.made (dstL ops) (fun t => a.tmps.getD t undef) w v w' -> ∃ lo hi : Nat -> Nat, Below w0.heap.size w0.drew w' /\ (∀ (i : Nat) r, i < m -> done' i = true -> rs[i]? = some r -> r.R w0.heap.size (dstL ops) (fun t => (a.put o.dst v).tmps.getD t undef) lo hi w' i) /\
          (∀ i,i < m->done' i=true->w0.heap.size<=lo i/\lo i<=hi i/\hi i<=w'.heap.size)/\(∀ i j,i < m->j < m->i≠j->done' i=true->done' j=true->hi i<=lo j∨hi j<=lo i):=fun v w' hmade=>by
      cases r with
      | is c=>exact grew v w' hmade.1 fun _ _ _ _=>(own v hsi).trans hmade.2
      | own p=>exact grew v w' hmade.1 fun lo' hi' h1 h2=>⟨w',⟨Nat.le_refl _,fun _ _ _=>rfl⟩,by rw [h1,h2,own v hsi];exact hmade.2⟩
      | box T n=>
        obtain ⟨hg,g,cs,h1,h2,h3,h4⟩:=hmade;exact grew v w' hg fun lo' hi' e1 e2=>⟨g,cs,(own v hsi).trans h1,by rw [e1];exact h2,by rw [e2];exact (Array.getElem?_eq_some_iff.1 h3).1,h3,h4⟩
      | same j=>
        obtain ⟨e,he,hb,rfl⟩:=waitsOf o j hsi.1;have hlt:=hf.back i o ho e he hb;exact grew v w' hmade.1 fun _ _ _ _=>(own v hsi.2).trans (hmade.2.trans (other v _ (by omega) (by omega)).symm)
      | dep js p=>
        refine grew v w' hmade.1 fun lo' hi' h1 h2=>⟨w',⟨Nat.le_refl _,fun _ _ _=>rfl⟩,?_⟩
        rw [h1,h2,own v hsi.2,vQA (g:=val (dstL ops) (fun t=>a.tmps.getD t undef)) (fun j hj=>?_)]
        · exact hmade.2
        · obtain ⟨e,he,hb,rfl⟩:=waitsOf o j (hsi.1 j hj)
          have hlt:=hf.back i o ho e he hb;exact other v _ (by omega) (by omega)
      | put k j T n=>
        obtain ⟨s1,s2,s3,s4⟩:=hsi;obtain ⟨e1,he1,hb1,hek⟩:=waitsOf o k s1;obtain ⟨e2,he2,hb2,hej⟩:=waitsOf o j s2;have lk:=hf.back i o ho e1 he1 hb1;have lj:=hf.back i o ho e2 he2 hb2;have dk:=edone e1 he1 hb1;rw [hek] at lk dk;rw [hej] at lj;obtain ⟨g,cs,g1,g2,g3,g4,g5⟩:=hR k _ (by omega) dk s3;obtain ⟨ho1,ho2,ho3⟩:=hmade g g1;obtain ⟨b1,b2,b3⟩:=hL k (by omega) dk;have hsz:=ho1.size;have hz0:w0.heap.size<=w.heap.size:=hB.size;refine ⟨fun j=>if j=i then w.heap.size else lo j,fun j=>if j=i then w'.heap.size else hi j,⟨ho1.os.trans hB.os,ho1.tape.trans hB.tape,ho1.output.trans hB.output,by rw [ho1.size];exact hB.size,fun b hb=>(ho1.block b (by omega)).trans (hB.block b hb)⟩,fun q rq hqm hq hrq=>?_,fun q hqm hq=>?_,fun q q2 hqm hqm2 hqq hq hq2=>?_⟩
        · by_cases e:q=i
          · subst e
            rw [hri] at hrq;obtain rfl:=Option.some.inj hrq;exact ⟨g,(other v k (by omega) (by omega)).trans g1,by simp only [if_neg (show k≠q by omega)];exact g2,by simp only [if_neg (show k≠q by omega)];exact g3,by rw [other v j (by omega) (by omega)];exact ho2⟩
          · have hq':=((hset q).1 hq).resolve_left e
            obtain ⟨oq,hoq⟩:=opAt q hqm;have hsq:=spec q rq oq hrq hoq
            by_cases eqk:q=k
            · subst eqk
              rw [s3] at hrq;obtain rfl:=Option.some.inj hrq;exact ⟨g,_,(other v q hqm e).trans g1,by simp only [if_neg e];exact g2,by simp only [if_neg e];exact g3,ho2,by simpa using ho3⟩
            · refine (hR q rq hqm hq' hrq).keep (other v q hqm e) ⟨if_neg e,if_neg e⟩ (fun k2 j2 T2 n2 hE=>?_) (fun j2 hE=>?_) (fun js p hE j2 hm2=>?_) (by omega) (fun hnp b hb hlt=>ho1.block b (fun hbg=>?_))
              · subst hE
                obtain ⟨d1,l1⟩:=isdone q oq k2 hoq hq' hsq.1;obtain ⟨d2,l2⟩:=isdone q oq j2 hoq hq' hsq.2.1;have m1:k2≠i:=fun e=>by rw [e,hni] at d1;cases d1
                have m2:j2≠i:=fun e=>by rw [e,hni] at d2;cases d2
                have nk:k2≠k:=s4 q k2 j2 T2 n2 hrq e;refine ⟨other v k2 (by omega) m1,other v j2 (by omega) m2,if_neg m1,if_neg m1,fun b hlo hhi hlt=>ho1.block b (fun hbg=>?_)⟩;have:=hT k2 k (by omega) (by omega) nk d1 dk;omega
              · subst hE
                obtain ⟨d2,l2⟩:=isdone q oq j2 hoq hq' hsq.1;exact other v j2 (by omega) (fun e=>by rw [e,hni] at d2;cases d2)
              · subst hE
                obtain ⟨d2,l2⟩:=isdone q oq j2 hoq hq' (hsq.1 j2 hm2);exact other v j2 (by omega) (fun e=>by rw [e,hni] at d2;cases d2)
              · have:=hT q k hqm (by omega) eqk hq' dk
                omega
        · by_cases e:q=i
          · simp only [if_pos e];omega
          · simp only [if_neg e]
            have:=hL q hqm (((hset q).1 hq).resolve_left e);omega
        · by_cases x1:q=i
          · have x2:q2≠i:=fun x=>hqq (x1.trans x.symm)
            simp only [if_pos x1,if_neg x2];exact .inr (hL q2 hqm2 (((hset q2).1 hq2).resolve_left x2)).2.2
          · have hq':=((hset q).1 hq).resolve_left x1
            by_cases x2:q2=i
            · simp only [if_neg x1,if_pos x2]
              exact .inl (hL q hqm hq').2.2
            · simp only [if_neg x1,if_neg x2]
              exact hT q q2 hqm hqm2 hqq hq' (((hset q2).1 hq2).resolve_left x2)
    split
    · rename_i hwt
      rw [if_pos hwt] at hobl;exact stepV.imp next hobl
    · rename_i hwt
      rw [if_neg hwt] at hobl;exact next _ _ hobl
  · rintro done a w hfull hh ⟨lo,hi,hB,hR,hL,hT⟩
    have h:=fin (fun t=>a.tmps.getD t undef) w lo hi hB (kJ6 _ _ fun i r hr=>by
      have hi':=(List.getElem?_eq_some_iff.1 hr).1;rw [Nat.zero_add];exact hR i r (by omega) (hfull i (by omega)) hr) (fun i hi'=>hL i (by omega) (hfull i (by omega))) (fun i j hi' hj' hij=>hT i j (by omega) (by omega) hij (hfull i (by omega)) (hfull j (by omega)))
    rw [<- hmm] at h hf;rw [<- hh.put hf] at h;exact h
end Tryst4
namespace Go.Proofs.YtcbicdencgjfiaaGreatDoor
open Go.RowKit Tryst
theorem qYD {W:World} {g n:Nat} {cs:Array Value} {T:TypeId} (h:W.heap[g]?=some (.cells cs T (0,0))) (hc:cs.size=n) {j:Nat} (hj:j < n):(∃ u,W.cell? ⟨g,j,none⟩=some u)/\W.frozen? ⟨g,j,none⟩=false:=by
 have h2:j < cs.size:=by omega
 constructor
 · exact ⟨cs[j],by simp [World.cell?,h,h2]⟩
 · simp [World.frozen?,h]
