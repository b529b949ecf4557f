import Derived.Test.YtcbicdencgjfiaaGreatDoorDraws
import Derived.Test.YtcbicdencgjfiaaGreatDoorOffU
set_option linter.all false
set_option maxHeartbeats 4000000
set_option maxRecDepth 20000
namespace Tryst2
open Go
section
variable {P:Program} {ops:Array Oper} {Q:Exit->Act->World->Prop}
def TWc (P:Program) (ops:Array Oper) (w0:World) (o:Oper) (a:Act) (v:Value):Prop:=
 if K9 (dstL ops) (fun t=>a.tmps.getD t undef) o.guard=true then ∀ w',Grow w0.drew w'→jQW P (fun u w''=>Grow w' w''/\u=v) ((execOp a.eval o).run P w') else v=undef
def TW (P:Program) (ops:Array Oper) (Q:Exit->Act->World->Prop) (w0:World) (rest:List Oper):List Oper->Act->Prop
 | [],a=>∀ w',Grow w0.drew w'→wpList P ops Q rest a w'
 | o :: os,a=>∃ v,TWc P ops w0 o a v/\TW P ops Q w0 rest os (a.put o.dst v)
theorem TW.skip {w0:World} {rest:List Oper} {o:Oper} {os:List Oper} {a:Act} (hg:K9 (dstL ops) (fun t=>a.tmps.getD t undef) o.guard=false) (h:TW P ops Q w0 rest os (a.put o.dst undef)):TW P ops Q w0 rest (o :: os) a:=
 ⟨undef,by unfold TWc;rw [if_neg (by rw [hg];decide)],h⟩
theorem TW.op {w0:World} {rest:List Oper} {o:Oper} {os:List Oper} {a:Act} (v:Value) (hs:∀ w',Grow w0.drew w'→jQW P (fun u w''=>Grow w' w''/\u=v) ((execOp a.eval o).run P w'))
  (hg:K9 (dstL ops) (fun t=>a.tmps.getD t undef) o.guard=true) (h:TW P ops Q w0 rest os (a.put o.dst v)):TW P ops Q w0 rest (o :: os) a:=
 ⟨v,by unfold TWc;rw [if_pos hg];exact hs,h⟩
theorem qQh {tv tv':Nat->Value}:∀ (l:List (Option Nat)) (a:Act),(∀ d,some d∈l->tv d=tv' d)->Jv tv l a=Jv tv' l a
 | [],_,_=>rfl
 | none :: l,a,h=>qQh l a (fun d hd=>h d (by simp [hd]))
 | some d :: l,a,h=>by
  show Jv tv l (a.put (some d) (tv d))=Jv tv' l (a.put (some d) (tv' d));rw [h d (by simp),qQh l _ (fun d hd=>h d (by simp [hd]))]
theorem TW.get {w0:World} {rest:List Oper}:∀ (os:List Oper) (a:Act),TW P ops Q w0 rest os a->(∀ (i j:Nat) o o' d,os[i]?=some o->os[j]?=some o'→o.dst=some d->o'.dst=some d->i=j)->
  ∃ tv:Nat->Value,(∀ (i:Nat) o,os[i]?=some o->∃ v,TWc P ops w0 o (Jv tv ((os.take i).map (·.dst)) a) v/\∀ d,o.dst=some d->v=tv d)/\
   ∀ w',Grow w0.drew w'→wpList P ops Q rest (Jv tv (os.map (·.dst)) a) w'
 | [],a,h,_=>⟨fun _=>undef,fun i o ho=>by simp at ho,h⟩
 | x :: os,a,⟨v,hc,h⟩,hd=>by
  obtain ⟨tv',h1,h2⟩:=TW.get os _ h (fun i j o o' d hi hj e1 e2=>by
   have:=hd (i+1) (j+1) o o' d (by simpa using hi) (by simpa using hj) e1 e2;omega)
  cases hx:x.dst with
  | none=>
   rw [hx] at h1 h2;refine ⟨tv',fun i o ho=>?_,fun w' hw=>?_⟩
   ·
    cases i with
    | zero=>
     simp only [List.getElem?_cons_zero,Option.some.injEq] at ho;subst ho;exact ⟨v,hc,fun d e=>by rw [hx] at e;cases e⟩
    | succ i=>
     have:=h1 i o (by simpa using ho)
     simpa [List.map_take,hx,Jv,Act.put] using this
   ·
    have:=h2 w' hw
    simpa [hx,Jv,Act.put] using this
  | some d=>
   rw [hx] at h1 h2
   have hno:∀ k,some k∈os.map (·.dst)->k≠d:=fun k hk e=>by
    subst e;obtain ⟨o',ho',e'⟩:=List.mem_map.1 hk;obtain ⟨j,hj⟩:=List.mem_iff_getElem?.1 ho';have:=hd 0 (j+1) x o' k (by simp) (by simpa using hj) hx e';omega
   have hcg:∀ (l:List Oper),(∀ y∈l,y∈os)->Jv (fun t=>if t=d then v else tv' t) (l.map (·.dst)) (a.put (some d) v)=Jv tv' (l.map (·.dst)) (a.put (some d) v):=fun l hl=>
    qQh _ _ (fun k hk=>by
     obtain ⟨y,hy,e⟩:=List.mem_map.1 hk;rw [if_neg (hno k (List.mem_map.2 ⟨y,hl y hy,e⟩))])
   refine ⟨fun t=>if t=d then v else tv' t,fun i o ho=>?_,fun w' hw=>?_⟩
   ·
    cases i with
    | zero=>
     simp only [List.getElem?_cons_zero,Option.some.injEq] at ho;subst ho;exact ⟨v,hc,fun k e=>by rw [hx] at e;cases e;simp⟩
    | succ i=>
     obtain ⟨u,k1,k2⟩:=h1 i o (by simpa using ho);have hmo:o∈os:=List.mem_iff_getElem?.2 ⟨i,by simpa using ho⟩;refine ⟨u,?_,fun k e=>?_⟩
     · rw [List.take_succ_cons,List.map_cons,hx];show TWc P ops w0 o (Jv _ _ (a.put (some d) (if d=d then v else tv' d))) u;rw [if_pos rfl,hcg _ (fun y hy=>List.mem_of_mem_take hy)];exact k1
     ·
      show u=if k=d then v else tv' k
      rw [if_neg (hno k (List.mem_map.2 ⟨o,hmo,e⟩))];exact k2 k e
   · rw [List.map_cons,hx];show wpList P ops Q rest (Jv _ _ (a.put (some d) (if d=d then v else tv' d))) w';rw [if_pos rfl,hcg _ (fun _ hy=>hy)];exact h2 w' hw
def zQD (ops:Array Oper) (m:Nat):Bool:=
 Region.noSelect ops&&(List.range m).all fun i=>match ops[i]? with
  | some o=>(zQO o).all fun t=>(List.range m).all fun j=>match ops[j]? with
   | some oj=>!(oj.dst==some t)||o.after.any fun e=>Region.binds .any e&&e.on==j
   | none=>true
  | none=>true
theorem zQD.spec {m:Nat} (h:zQD ops m=true) {i j:Nat} {o oj:Oper} {t:Nat} (hi:i < m) (hj:j < m) (ho:ops[i]?=some o) (hoj:ops[j]?=some oj) (ht:Operand.tmp t∈o.op.operands) (hd:oj.dst=some t) :
  ∃ e∈o.after,Region.binds .any e=true/\e.on=j:=by
 unfold zQD at h;simp only [Bool.and_eq_true,List.all_eq_true,List.mem_range] at h;have h1:=h.2 i hi;rw [ho] at h1;simp only [List.all_eq_true,List.mem_range] at h1;have h2:=h1 t (by unfold zQO;exact List.mem_filterMap.2 ⟨.tmp t,by simpa using ht,rfl⟩) j hj;rw [hoj] at h2;simp only [hd,beq_self_eq_true,Bool.not_true,Bool.false_or] at h2;obtain ⟨k,hk,hb⟩:=Array.any_eq_true.1 h2;simp only [Bool.and_eq_true,beq_iff_eq] at hb;exact ⟨_,Array.getElem_mem hk,hb⟩
theorem wp_region_text {rid:Nat} {a0:Act} {w0:World} (m:Nat) (hm:P.follows .mixedOrders=true) (hok:(kQY ops m a0.tmps.size&&zQD ops m)=true)
  (h:TW P ops Q w0 (ops.toList.drop m) (ops.toList.take m) a0):(Code.region rid ops true).wp P Q a0 w0:=by
 rw [Bool.and_eq_true] at hok;have hf:=DForm.of hok.1
 have hidx:∀ (i:Nat) o,i < m->ops[i]?=some o->(ops.toList.take m)[i]?=some o:=fun i o hi ho=>by
  rw [List.getElem?_take,if_pos hi];simpa using ho
 have hidx':∀ (i:Nat) o,(ops.toList.take m)[i]?=some o->i < m/\ops[i]?=some o:=fun i o ho=>by
  rw [List.getElem?_take] at ho
  split at ho
  · exact ⟨by assumption,by simpa using ho⟩
  · cases ho
 obtain ⟨tv,h1,h2⟩:=TW.get _ _ h (fun i j o o' d hi hj e1 e2=>by
  obtain ⟨a1,a2⟩:=hidx' i o hi;obtain ⟨b1,b2⟩:=hidx' j o' hj;exact hf.apart i j o o' d a1 b1 a2 b2 e1 e2)
 have hsz:∀ k d,some d∈((ops.toList.take m).take k).map (·.dst)->d < a0.tmps.size:=fun k d hd=>by
  obtain ⟨o,ho,e⟩:=List.mem_map.1 hd;obtain ⟨j,hj⟩:=List.mem_iff_getElem?.1 (List.mem_of_mem_take ho);exact hf.dst j o d (hidx' j o hj).2 e
 refine qQO m (fun done a w=>Grow w0.drew w/\∀ (i:Nat) o d,i < m->ops[i]?=some o->done i=true->o.dst=some d->a.tmps.getD d undef=tv d) hm hok.1
  (fun done hdone=>⟨Grow.refl _,fun i o d him _ hd=>by rw [hdone i him] at hd;cases hd⟩) ?_ ?_
 ·
  rintro i o done a w him ho hni edone _ hh ⟨hext,hr⟩ done' hset;obtain ⟨v,hc,hv⟩:=h1 i o (hidx i o him ho);obtain ⟨k1,k2,k3⟩:=jQV tv (((ops.toList.take m).take i).map (·.dst)) a0 (hsz i)
  have agree:∀ t,(∀ (j:Nat) oj,j < m->ops[j]?=some oj->oj.dst=some t->∃ e∈o.after,Region.binds .any e=true/\e.on=j)->
    a.tmps.getD t undef=(Jv tv (((ops.toList.take m).take i).map (·.dst)) a0).tmps.getD t undef:=fun t ht=>by
   rw [k3]
   by_cases hex:∃ (j:Nat) (oj:Oper),j < m/\ops[j]?=some oj/\oj.dst=some t
   · obtain ⟨j,oj,hj,hoj,hd⟩:=hex;obtain ⟨e,he,hb,rfl⟩:=ht j oj hj hoj hd;rw [if_pos (List.mem_map.2 ⟨oj,List.mem_iff_getElem?.2 ⟨e.on,by rw [List.getElem?_take,if_pos (hf.back i o ho e he hb)];exact hidx _ _ hj hoj⟩,hd⟩)];exact hr e.on oj t hj hoj (edone e he hb) hd
   ·
    rw [if_neg (fun hmem=>by
     obtain ⟨oj,hoj,hd⟩:=List.mem_map.1 hmem;obtain ⟨j,hj⟩:=List.mem_iff_getElem?.1 (List.mem_of_mem_take hoj);exact hex ⟨j,oj,(hidx' j oj hj).1,(hidx' j oj hj).2,hd⟩)]
    exact hh.hold t fun j oj hj hoj _ hd=>hex ⟨j,oj,hj,hoj,hd⟩
  have hE:execOp (evOf fun t=>a.tmps.getD t undef) o=execOp (Jv tv (((ops.toList.take m).take i).map (·.dst)) a0).eval o:=by
   rw [vQn];refine execOp_congr o (fun cs b=>Region.noSelect_spec (by have:=hok.2;unfold zQD at this;rw [Bool.and_eq_true] at this;exact this.1) i o cs b ho) fun x hx=>?_
   cases x with
   | tmp t=>exact agree t fun j oj hj hoj hd=>zQD.spec hok.2 him hj ho hoj hx hd
   | _=>rfl
  have hW:K9 (dstL ops) (fun t=>a.tmps.getD t undef) o.guard=K9 (dstL ops) (fun t=>(Jv tv (((ops.toList.take m).take i).map (·.dst)) a0).tmps.getD t undef) o.guard:=by
   cases hg:o.guard with
   | none=>rfl
   | some q=>
    obtain ⟨j,b⟩:=q;obtain ⟨e,he,hb,rfl⟩:=hf.guard i o j b ho hg;simp only [K9];cases hd:((dstL ops)[e.on]?).bind id with
    | none=>rfl
    | some d=>
     have hlt:=hf.back i o ho e he hb;show (zQI (a.tmps.getD d undef)==some b)=(zQI ((Jv tv (((ops.toList.take m).take i).map (·.dst)) a0).tmps.getD d undef)==some b);rw [agree d fun j oj hj hoj hdj=>?_]
     obtain ⟨oe,hoe,hde⟩:∃ oe:Oper,ops[e.on]?=some oe/\oe.dst=some d:=by
      unfold dstL at hd;rw [List.getElem?_map,Array.getElem?_toList] at hd;cases hx:ops[e.on]? with
      | none=>rw [hx] at hd;cases hd
      | some oe=>rw [hx] at hd;exact ⟨oe,rfl,hd⟩
     exact ⟨e,he,hb,(hf.apart j e.on oj oe d hj (by omega) hoj hoe hdj hde).symm⟩
  have next:∀ u w',Grow w w'/\u=v->Grow w0.drew w'/\∀ (i:Nat) o' d,i < m->ops[i]?=some o'→done' i=true->o'.dst=some d->(a.put o.dst u).tmps.getD d undef=tv d:=fun u w' ⟨hx,hu⟩=>by
   refine ⟨hext.trans hx,fun j oj d hjm hoj hj hod=>?_⟩
   by_cases e:j=i
   · subst e;rw [ho] at hoj;obtain rfl:=Option.some.inj hoj;rw [hod,qQW _ _ _ _ (by have:=hf.dst j o d ho hod;have:=hh.size;omega),if_pos rfl,hu];exact hv d hod
   · rw [zQy hf hh.size him hjm e ho hoj hod];exact hr j oj d hjm hoj (((hset j).1 hj).resolve_left e) hod
  unfold TWc at hc;rw [hW]
  split
  · rename_i hwt;rw [if_pos hwt] at hc;rw [hE];exact jQW.imp next (hc w hext)
  · rename_i hwt;rw [if_neg hwt] at hc;exact next _ _ ⟨Grow.refl _,hc.symm⟩
 ·
  rintro done a w hfull hh ⟨hext,hr⟩;obtain ⟨k1,k2,k3⟩:=jQV tv ((ops.toList.take m).map (·.dst)) a0 (by have:=hsz (ops.toList.take m).length;rwa [List.take_length] at this)
  have:a=Jv tv ((ops.toList.take m).map (·.dst)) a0:=by
   refine Act.ext_getD (by rw [k1,hh.defers]) (by rw [k2,hh.size]) fun t=>?_
   rw [k3]
   split
   · rename_i hmem;obtain ⟨oj,hoj,hd⟩:=List.mem_map.1 hmem;obtain ⟨j,hj⟩:=List.mem_iff_getElem?.1 hoj;obtain ⟨q1,q2⟩:=hidx' j oj hj;exact hr j oj t q1 q2 (hfull j q1) hd
   · rename_i hmem;exact hh.hold t fun j oj hj hoj _ hd=>hmem (List.mem_map.2 ⟨oj,List.mem_iff_getElem?.2 ⟨j,hidx j oj hj hoj⟩,hd⟩)
  rw [this];exact h2 w hext
end
end Tryst2
namespace Tryst
open Go Go.RowKit
def okK {α:Type} (f:Option α->α->Bool):Option α->List α->Bool
 | _,[]=>true
 | q,x :: r=>f q x&&okK f (some x) r
def Xq {α:Type} (l:List α):Nat->Option α
 | 0=>none
 | k+1=>l[k]?
theorem vQU {α:Type} {f:Option α->α->Bool} {l:List α} {k:Nat} (h:k < l.length):okK f (Xq l k) (l.drop k)=(f (Xq l k) l[k]&&okK f (Xq l (k+1)) (l.drop (k+1))):=by
 rw [List.drop_eq_getElem_cons h];show (_&&okK f (some l[k]) _)=_;rw [show Xq l (k+1)=some l[k] from List.getElem?_eq_getElem h]
theorem xQJ {α:Type} {f:Option α->α->Bool} {l:List α} {k:Nat} (h:l.length<=k):okK f (Xq l k) (l.drop k)=true:=by
 rw [List.drop_eq_nil_of_le h];rfl
structure LB where
 producer:ByteArray
 seq:Nat
 off:Int
def LB.cells (x:LB):List Value:=[.string x.producer,.int .u64 x.seq,.int .i64 x.off]
def kJA (x:LB):Bool:=Q5 x.producer.data.toList&&(decide (1<=x.seq)&&decide (0<=x.off))
def mayL (q:Option LB) (x:LB):Bool:=kJA x&&(match q with | none=>true | some p=>Kf p.producer x.producer)
def qJd (l:List LB):Bool:=okK mayL none l&&decide (l.length<=50)
structure LAt (w:World) (b o:Nat) (t:LB):Prop where
 c0:w.cell? ⟨b,o,none⟩=some (.string t.producer)
 c1:w.cell? ⟨b,o+1,none⟩=some (.int .u64 t.seq)
 c2:w.cell? ⟨b,o+2,none⟩=some (.int .i64 t.off)
abbrev qQF (w:World) (a:Option Addr) (l:List LB):Prop:=Row w a 3 (l.map LB.cells)
theorem qQF.at {w:World} {b o:Nat} {l:List LB} (h:qQF w (some ⟨b,o,none⟩) l) {i:Nat} (hi:i < l.length):b < w.heap.size/\LAt w b (o+i*3) l[i]:=by
 obtain ⟨h1,h2⟩:=Row.at h (i:=i) (by simpa using hi);simp only [List.getElem_map] at h2;exact ⟨h1,h2 0 (by omega),h2 1 (by omega),h2 2 (by omega)⟩
theorem qQF.hd {w:World} {a:Option Addr} {l:List LB} (h:qQF w a l) {i:Nat} (hi:i < l.length):∃ b o,a=some ⟨b,o,none⟩/\b < w.heap.size:=Row.head h (by simpa using hi)
def OkR {α:Type} (f:Option α->α->Bool) (w:World) (l:List α) (R:Bool) (i:Value) (wr:World):Prop:=∃ k:Nat,k<=l.length/\i=.int .i64 k/\Hid (R=okK f (Xq l k) (l.drop k))/\Hid (Below w.heap.size w wr)
end Tryst
namespace Go.Proofs.YtcbicdencgjfiaaGreatDoor
open Go.RowKit Tryst
theorem zYr (a:Option Addr) (c:Nat) (l:List LB) (hl:l.length<=1500000) (hs:∀ x∈l,x.producer.size<=1500000) (w:World) (hR:qQF w a l) :
  Calls Tryz.prog 35 #[.slice a l.length c] w fun e w'=>e=.returned (.bool (qJd l))/\Below w.heap.size w w':=by
 have HF:=Zh (fun W (hb:Below w.heap.size w W)=>hR.grow hb);have HC:=Zh (fun (k:Nat) (hk:k < l.length) W=>J1 l[k].producer (hs _ (List.getElem_mem hk)) W);obtain ⟨R,hRR⟩:∃ R,okK mayL none l=R:=⟨_,rfl⟩;unfold qJd;rw [hRR];have HR:Hid (R=okK mayL (Xq l 0) (l.drop 0)):=Zh (by rw [<- hRR];rfl);clear hR hRR hs;go_enter Tryz.func35,Tryz.ntmps35;go_wp2_with fail;go_loopw [3] (fun i wr=>OkR mayL w l R i wr) (fun i _=>l.length - (intOf i).toNat)
 case atStart=>exact ⟨0,by omega,rfl,HR,Zh (.refl _ _)⟩
 case round=>
  clear HR;obtain ⟨k,hk,rfl,HP,HW⟩:=hrel;obtain ⟨wo,rfl⟩:∃ wo,wo=wr:=⟨_,rfl⟩
  by_cases hlt:k < l.length
  ·
   have hrow:=HF.out wo HW.out;obtain ⟨b,o,ha,hb⟩:=qQF.hd hrow hlt;subst ha;obtain ⟨_,f0,f1,f2⟩:=qQF.at hrow hlt;have HST:Hid (R=(kJA l[k]&&(match Xq l k with | none=>true | some p=>Kf p.producer l[k].producer)&&okK mayL (Xq l (k+1)) (l.drop (k+1)))):=Zh (HP.out.trans (vQU hlt));have HCC:=Zh (HC.out k hlt);have HMY:Hid (kJA l[k]=(Q5 l[k].producer.data.toList&&(decide (1<=l[k].seq)&&decide (0<=l[k].off)))):=Zh rfl;have x1:(k:Int) < l.length:=by omega
   have x2:(0:Int)<=k:=by omega
   generalize kJA l[k]=my at HST HMY;generalize Q5 l[k].producer.data.toList=fb at HCC HMY;clear HP;go_upto_region 4 with fail
   by_cases hmy:my=true
   ·
    obtain ⟨rfl,h2,h3⟩:fb=true/\1<=l[k].seq/\0<=l[k].off:=by
     have:=HMY.out;rw [hmy] at this;simpa using this.symm
    subst hmy;have s1:((l[k].seq:Int)==0)=false:=by simp;omega
    have s2:¬ (l[k].off < 0):=by omega
    by_cases hk0:k=0
    ·
     subst hk0;have HN:Hid (R=okK mayL (Xq l (0+1)) (l.drop (0+1))):=Zh (HST.out.trans (by simp [Xq]));simp only [Nat.zero_mul,Nat.add_zero] at f0 f1 f2;clear HST HMY;refine Tryst2.wp_region_text 41 (by kernel_rfl) (by kernel_rfl) ?_
     iterate 41 ((first | refine Tryst2.TW.skip (by rfl) ?_ | (refine' Tryst2.TW.op _ ?_ (by rfl) ?_;rotate_left;focus (intro w' hg;obtain ⟨hcg,hfg,hsg⟩:=YG hg;first | (go_simp;done) | (go_simp;with_reducible rfl) | (go_simp;go_at_call 86;refine (HCC.out _).mono ?_;rintro e w5 ⟨rfl,hb5⟩;refine ⟨hb5,?_⟩;with_reducible rfl))));simp only [Act.put,List.setIfInBounds_toArray,List.set_cons_zero,List.set_cons_succ])
     intro w' hg;obtain ⟨hcg,hfg,hsg⟩:=YG hg
     try change wpList _ _ _ [] _ _
     have HB9:=Zh (Qk (Tryst2.Grow.below hg (.refl _ _)) HW.out);clear hg hcg hfg hsg;go_wp2_with fail;go_roundw
     case rel=>exact ⟨0+1,by omega,by go_num,HN,HB9⟩
     case measure=>simp [intOf]<;>omega
    ·
     obtain ⟨m,hm⟩:∃ m,k=m+1:=⟨k - 1,by omega⟩;have hlm:m < l.length:=by omega
     obtain ⟨_,g0,_,_⟩:=qQF.at hrow hlm;have y1:(0:Int) < (k:Int):=by omega
     have y6:0 < k:=by omega
     have y2:IntKind.i64.wrap ((k:Int) - 1)=(m:Int):=by rw [IntWalk.i64_in _ (by omega)];omega
     have y4:(m:Int) < (l.length:Int):=by omega
     have y5:(0:Int)<=(m:Int):=by omega
     have HS3:Hid (R=(Kf l[m].producer l[k].producer&&okK mayL (Xq l (k+1)) (l.drop (k+1)))):=Zh (by
      have:=HST.out;rw [show Xq l k=some l[m] by rw [hm];exact List.getElem?_eq_getElem hlm] at this
      simpa using this)
     clear hm hk0;have HGE:=geB l[m].producer l[k].producer;clear HST HMY;generalize Kf l[m].producer l[k].producer=lb at HS3 HGE;cases lb with
     | false=>
      have HN:Hid (R=false):=Zh (HS3.out.trans (Bool.false_and _));have hge:(!Op.bytesLess l[m].producer.toList l[k].producer.toList)=true:=HGE;clear HGE HS3;refine Tryst2.wp_region_text 41 (by kernel_rfl) (by kernel_rfl) ?_
      iterate 41 ((first | refine Tryst2.TW.skip (by rfl) ?_ | (refine' Tryst2.TW.op _ ?_ (by rfl) ?_;rotate_left;focus (intro w' hg;obtain ⟨hcg,hfg,hsg⟩:=YG hg;first | (go_simp;done) | (go_simp;with_reducible rfl) | (go_simp;go_at_call 86;refine (HCC.out _).mono ?_;rintro e w5 ⟨rfl,hb5⟩;refine ⟨hb5,?_⟩;with_reducible rfl))));simp only [Act.put,List.setIfInBounds_toArray,List.set_cons_zero,List.set_cons_succ])
      intro w' hg;obtain ⟨hcg,hfg,hsg⟩:=YG hg
      try change wpList _ _ _ [] _ _
      have HB9:=Zh (Qk (Tryst2.Grow.below hg (.refl _ _)) HW.out);clear hg hcg hfg hsg;go_wp2_with fail;go_ret;exact ⟨Qq (by rw [HN.out];rfl),HB9.out⟩
     | true=>
      have HN:Hid (R=okK mayL (Xq l (k+1)) (l.drop (k+1))):=Zh (HS3.out.trans (Bool.true_and _));have hge:(!Op.bytesLess l[m].producer.toList l[k].producer.toList)=false:=HGE;clear HGE HS3;refine Tryst2.wp_region_text 41 (by kernel_rfl) (by kernel_rfl) ?_
      iterate 41 ((first | refine Tryst2.TW.skip (by rfl) ?_ | (refine' Tryst2.TW.op _ ?_ (by rfl) ?_;rotate_left;focus (intro w' hg;obtain ⟨hcg,hfg,hsg⟩:=YG hg;first | (go_simp;done) | (go_simp;with_reducible rfl) | (go_simp;go_at_call 86;refine (HCC.out _).mono ?_;rintro e w5 ⟨rfl,hb5⟩;refine ⟨hb5,?_⟩;with_reducible rfl))));simp only [Act.put,List.setIfInBounds_toArray,List.set_cons_zero,List.set_cons_succ])
      intro w' hg;obtain ⟨hcg,hfg,hsg⟩:=YG hg
      try change wpList _ _ _ [] _ _
      have HB9:=Zh (Qk (Tryst2.Grow.below hg (.refl _ _)) HW.out);clear hg hcg hfg hsg;go_wp2_with fail;go_roundw
      case rel=>exact ⟨k+1,by omega,by go_num,HN,HB9⟩
      case measure=>simp [intOf]<;>omega
   ·
    have HN:Hid (R=false):=Zh (by rw [HST.out,show my=false by simpa using hmy];rfl);clear HST;cases fb with
    | false=>
     refine Tryst2.wp_region_text 41 (by kernel_rfl) (by kernel_rfl) ?_
     iterate 41 ((first | refine Tryst2.TW.skip (by rfl) ?_ | (refine' Tryst2.TW.op _ ?_ (by rfl) ?_;rotate_left;focus (intro w' hg;obtain ⟨hcg,hfg,hsg⟩:=YG hg;first | (go_simp;done) | (go_simp;with_reducible rfl) | (go_simp;go_at_call 86;refine (HCC.out _).mono ?_;rintro e w5 ⟨rfl,hb5⟩;refine ⟨hb5,?_⟩;with_reducible rfl))));simp only [Act.put,List.setIfInBounds_toArray,List.set_cons_zero,List.set_cons_succ])
     intro w' hg;obtain ⟨hcg,hfg,hsg⟩:=YG hg
     try change wpList _ _ _ [] _ _
     have HB9:=Zh (Qk (Tryst2.Grow.below hg (.refl _ _)) HW.out);clear hg hcg hfg hsg;go_wp2_with fail;go_ret;exact ⟨Qq (by rw [HN.out];rfl),HB9.out⟩
    | true=>
     by_cases h2:l[k].seq=0
     ·
      have s1:((l[k].seq:Int)==0)=true:=by simp [h2]
      refine Tryst2.wp_region_text 41 (by kernel_rfl) (by kernel_rfl) ?_
      iterate 41 ((first | refine Tryst2.TW.skip (by rfl) ?_ | (refine' Tryst2.TW.op _ ?_ (by rfl) ?_;rotate_left;focus (intro w' hg;obtain ⟨hcg,hfg,hsg⟩:=YG hg;first | (go_simp;done) | (go_simp;with_reducible rfl) | (go_simp;go_at_call 86;refine (HCC.out _).mono ?_;rintro e w5 ⟨rfl,hb5⟩;refine ⟨hb5,?_⟩;with_reducible rfl))));simp only [Act.put,List.setIfInBounds_toArray,List.set_cons_zero,List.set_cons_succ])
      intro w' hg;obtain ⟨hcg,hfg,hsg⟩:=YG hg
      try change wpList _ _ _ [] _ _
      have HB9:=Zh (Qk (Tryst2.Grow.below hg (.refl _ _)) HW.out);clear hg hcg hfg hsg;go_wp2_with fail;go_ret;exact ⟨Qq (by rw [HN.out];rfl),HB9.out⟩
     ·
      have s1:((l[k].seq:Int)==0)=false:=by simp [h2]
      have s2:l[k].off < 0:=by
       have:=HMY.out;simp only [Bool.true_and] at this;rw [decide_eq_true (show 1<=l[k].seq by omega),Bool.true_and] at this
       by_cases h3:0<=l[k].off
       · rw [decide_eq_true h3] at this;exact absurd this hmy
       · omega
      refine Tryst2.wp_region_text 41 (by kernel_rfl) (by kernel_rfl) ?_
      iterate 41 ((first | refine Tryst2.TW.skip (by rfl) ?_ | (refine' Tryst2.TW.op _ ?_ (by rfl) ?_;rotate_left;focus (intro w' hg;obtain ⟨hcg,hfg,hsg⟩:=YG hg;first | (go_simp;done) | (go_simp;with_reducible rfl) | (go_simp;go_at_call 86;refine (HCC.out _).mono ?_;rintro e w5 ⟨rfl,hb5⟩;refine ⟨hb5,?_⟩;with_reducible rfl))));simp only [Act.put,List.setIfInBounds_toArray,List.set_cons_zero,List.set_cons_succ])
      intro w' hg;obtain ⟨hcg,hfg,hsg⟩:=YG hg
      try change wpList _ _ _ [] _ _
      have HB9:=Zh (Qk (Tryst2.Grow.below hg (.refl _ _)) HW.out);clear hg hcg hfg hsg;go_wp2_with fail;go_ret;exact ⟨Qq (by rw [HN.out];rfl),HB9.out⟩
  ·
   have HN:=Zh (HP.out.trans (xQJ (by omega:l.length<=k)))
   have HLE:Hid (decide (l.length<=50)=decide ((l.length:Int)<=50)):=Zh (by
    by_cases h:l.length<=50
    · rw [decide_eq_true h,decide_eq_true (by omega)]
    · rw [decide_eq_false h,decide_eq_false (by omega)])
   go_wp2_with fail;go_ret;exact ⟨Qq (by rw [HN.out,Bool.true_and,HLE.out]),HW.out⟩
end Go.Proofs.YtcbicdencgjfiaaGreatDoor
namespace Go.Proofs.YtcbicdencgjfiaaGreatDoor
open Go.RowKit Tryst
theorem zJp (a:Option Addr) (c:Nat) (l:List LB) (hl:l.length<=1500000) (hs:∀ x∈l,x.producer.size<=1500000) (w:World) (hM:MaxW w) (hR:qQF w a l) :
  Calls Tryz.prog 69 #[.slice a l.length c] w fun e w'=>e=.returned (.int .i64 (errO (qJd l)))/\Below w.heap.size w w':=by
 have HF:=Zh (fun W (hb:Below w.heap.size w W)=>hR.grow hb);have HC:=Zh (fun (k:Nat) (hk:k < l.length) W (hb:Below w.heap.size w W)=>Xp l[k].producer (by have:=hs _ (List.getElem_mem hk);omega) W (hM.grow hb));obtain ⟨R,hRR⟩:∃ R,okK mayL none l=R:=⟨_,rfl⟩;unfold qJd;rw [hRR];have HR:Hid (R=okK mayL (Xq l 0) (l.drop 0)):=Zh (by rw [<- hRR];rfl);clear hR hRR hs hM
 by_cases h50:l.length<=50
 ·
  have y0:¬ (50:Int) < l.length:=by omega
  rw [decide_eq_true h50,Bool.and_true];go_enter Tryz.func69,Tryz.ntmps69;go_wp2_with fail;go_loopw [10] (fun i wr=>OkR mayL w l R i wr) (fun i _=>l.length - (intOf i).toNat)
  case atStart=>exact ⟨0,by omega,rfl,HR,Zh (.refl _ _)⟩
  case round=>
   clear HR;obtain ⟨k,hk,rfl,HP,HW⟩:=hrel;obtain ⟨wo,rfl⟩:∃ wo,wo=wr:=⟨_,rfl⟩
   by_cases hlt:k < l.length
   ·
    have hrow:=HF.out wo HW.out;obtain ⟨b,o,ha,hb⟩:=qQF.hd hrow hlt;subst ha;obtain ⟨_,f0,f1,f2⟩:=qQF.at hrow hlt;have HST:Hid (R=(kJA l[k]&&(match Xq l k with | none=>true | some p=>Kf p.producer l[k].producer)&&okK mayL (Xq l (k+1)) (l.drop (k+1)))):=Zh (HP.out.trans (vQU hlt));have HCC:=Zh (HC.out k hlt);have HMY:Hid (kJA l[k]=(Q5 l[k].producer.data.toList&&(decide (1<=l[k].seq)&&decide (0<=l[k].off)))):=Zh rfl;have x1:(k:Int) < l.length:=by omega
    have x2:(0:Int)<=k:=by omega
    have HBX:=Zh (Qj (.cells #[.string l[k].producer,.int .u64 l[k].seq,.int .i64 l[k].off] 104) (.refl wo.heap.size wo));have HK:=Zh (Qk HBX.out HW.out);generalize kJA l[k]=my at HST HMY;generalize Q5 l[k].producer.data.toList=fb at HCC HMY;clear HP;go_wp2_with fail;refine (HCC.out _ HK.out).mono ?_;rintro e w2 ⟨rfl,hb2⟩;have hz2:wo.heap.size < w2.heap.size:=by have:=hb2.size;simp at this;omega
    have e0:w2.cell? ⟨wo.heap.size,0,none⟩=some (.string l[k].producer):=(hb2.cell (p:=⟨wo.heap.size,0,none⟩) (by simp)).trans (by rw [World.cell?_alloc_new];rfl);have e1:w2.cell? ⟨wo.heap.size,1,none⟩=some (.int .u64 l[k].seq):=(hb2.cell (p:=⟨wo.heap.size,1,none⟩) (by simp)).trans (by rw [World.cell?_alloc_new];rfl);have e2:w2.cell? ⟨wo.heap.size,2,none⟩=some (.int .i64 l[k].off):=(hb2.cell (p:=⟨wo.heap.size,2,none⟩) (by simp)).trans (by rw [World.cell?_alloc_new];rfl);have HW2:=Zh (Qk hb2 HK.out);have hrow2:=HF.out w2 HW2.out;obtain ⟨hbz,g0,_,_⟩:=qQF.at hrow2 hlt;generalize wo.heap.size=E at e0 e1 e2 hz2 ⊢;clear hb2 HCC f0 f1 f2 HK HBX hrow
    by_cases hmy:my=true
    ·
     obtain ⟨rfl,h2,h3⟩:fb=true/\1<=l[k].seq/\0<=l[k].off:=by
      have:=HMY.out;rw [hmy] at this;simpa using this.symm
     subst hmy;have s1:¬ ((l[k].seq:Int) < 1):=by omega
     have s2:¬ (l[k].off < 0):=by omega
     go_upto_region 8 with fail
     by_cases hk0:k=0
     ·
      subst hk0;have HN:Hid (R=okK mayL (Xq l (0+1)) (l.drop (0+1))):=Zh (HST.out.trans (by simp [Xq]));clear HST HMY;refine Tryst2.wp_region_text 13 (by kernel_rfl) (by kernel_rfl) ?_
      iterate 13 ((first | refine Tryst2.TW.skip (by rfl) ?_ | (refine' Tryst2.TW.op _ ?_ (by rfl) ?_;rotate_left;focus (intro w' hg;obtain ⟨hcg,hfg,hsg⟩:=YG hg;first | (go_simp;done) | (go_simp;with_reducible rfl) )));simp only [Act.put,List.setIfInBounds_toArray,List.set_cons_zero,List.set_cons_succ])
      intro w' hg;obtain ⟨hcg,hfg,hsg⟩:=YG hg
      try change wpList _ _ _ [] _ _
      have HB9:=Zh (Qk (Tryst2.Grow.below hg (.refl _ _)) HW2.out);clear hg hcg hfg hsg;go_wp2_with fail;go_roundw
      case rel=>exact ⟨0+1,by omega,by go_num,HN,HB9⟩
      case measure=>simp [intOf]<;>omega
     ·
      obtain ⟨m,hm⟩:∃ m,k=m+1:=⟨k - 1,by omega⟩;have hlm:m < l.length:=by omega
      obtain ⟨_,g0,_,_⟩:=qQF.at hrow2 hlm;have y1:(0:Int) < (k:Int):=by omega
      have y6:0 < k:=by omega
      have y2:IntKind.i64.wrap ((k:Int) - 1)=(m:Int):=by rw [IntWalk.i64_in _ (by omega)];omega
      have y4:(m:Int) < (l.length:Int):=by omega
      have y5:(0:Int)<=(m:Int):=by omega
      have HS3:Hid (R=(Kf l[m].producer l[k].producer&&okK mayL (Xq l (k+1)) (l.drop (k+1)))):=Zh (by
       have:=HST.out;rw [show Xq l k=some l[m] by rw [hm];exact List.getElem?_eq_getElem hlm] at this
       simpa using this)
      clear hm hk0;have HGE:=geB l[m].producer l[k].producer;clear HST HMY;generalize Kf l[m].producer l[k].producer=lb at HS3 HGE;cases lb with
      | false=>
       have HN:Hid (R=false):=Zh (HS3.out.trans (Bool.false_and _));have hge:(!Op.bytesLess l[m].producer.toList l[k].producer.toList)=true:=HGE;clear HGE HS3;refine Tryst2.wp_region_text 13 (by kernel_rfl) (by kernel_rfl) ?_
       iterate 13 ((first | refine Tryst2.TW.skip (by rfl) ?_ | (refine' Tryst2.TW.op _ ?_ (by rfl) ?_;rotate_left;focus (intro w' hg;obtain ⟨hcg,hfg,hsg⟩:=YG hg;first | (go_simp;done) | (go_simp;with_reducible rfl) )));simp only [Act.put,List.setIfInBounds_toArray,List.set_cons_zero,List.set_cons_succ])
       intro w' hg;obtain ⟨hcg,hfg,hsg⟩:=YG hg
       try change wpList _ _ _ [] _ _
       have HB9:=Zh (Qk (Tryst2.Grow.below hg (.refl _ _)) HW2.out);clear hg hcg hfg hsg;go_wp2_with fail;go_ret;exact ⟨Qy (by rw [HN.out];rfl),HB9.out⟩
      | true=>
       have HN:Hid (R=okK mayL (Xq l (k+1)) (l.drop (k+1))):=Zh (HS3.out.trans (Bool.true_and _));have hge:(!Op.bytesLess l[m].producer.toList l[k].producer.toList)=false:=HGE;clear HGE HS3;refine Tryst2.wp_region_text 13 (by kernel_rfl) (by kernel_rfl) ?_
       iterate 13 ((first | refine Tryst2.TW.skip (by rfl) ?_ | (refine' Tryst2.TW.op _ ?_ (by rfl) ?_;rotate_left;focus (intro w' hg;obtain ⟨hcg,hfg,hsg⟩:=YG hg;first | (go_simp;done) | (go_simp;with_reducible rfl) )));simp only [Act.put,List.setIfInBounds_toArray,List.set_cons_zero,List.set_cons_succ])
       intro w' hg;obtain ⟨hcg,hfg,hsg⟩:=YG hg
       try change wpList _ _ _ [] _ _
       have HB9:=Zh (Qk (Tryst2.Grow.below hg (.refl _ _)) HW2.out);clear hg hcg hfg hsg;go_wp2_with fail;go_roundw
       case rel=>exact ⟨k+1,by omega,by go_num,HN,HB9⟩
       case measure=>simp [intOf]<;>omega
    ·
     have HN:Hid (R=false):=Zh (by rw [HST.out,show my=false by simpa using hmy];rfl);clear HST;cases fb with
     | false=>
      go_wp2_with fail;go_ret;exact ⟨Qy (by rw [HN.out];rfl),HW2.out⟩
     | true=>
      by_cases h2:l[k].seq=0
      ·
       have s1:((l[k].seq:Int) < 1):=by omega
       go_wp2_with fail;go_ret;exact ⟨Qy (by rw [HN.out];rfl),HW2.out⟩
      ·
       have s1:¬ ((l[k].seq:Int) < 1):=by omega
       have s2:l[k].off < 0:=by
        have:=HMY.out;simp only [Bool.true_and] at this;rw [decide_eq_true (show 1<=l[k].seq by omega),Bool.true_and] at this
        by_cases h3:0<=l[k].off
        · rw [decide_eq_true h3] at this;exact absurd this hmy
        · omega
       go_wp2_with fail;go_ret;exact ⟨Qy (by rw [HN.out];rfl),HW2.out⟩
   · have HN:=Zh (HP.out.trans (xQJ (by omega:l.length<=k)));go_wp2_with fail;go_ret;exact ⟨Qy (by rw [HN.out];rfl),HW.out⟩
 ·
  have y0:(50:Int) < l.length:=by omega
  rw [decide_eq_false h50,Bool.and_false];go_enter Tryz.func69,Tryz.ntmps69;go_wp2_with fail;go_ret;exact ⟨Qy rfl,.refl _ _⟩
