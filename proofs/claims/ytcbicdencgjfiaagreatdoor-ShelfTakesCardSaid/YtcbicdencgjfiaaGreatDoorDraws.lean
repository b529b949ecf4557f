import Derived.WalkKit
import Derived.WalkSpells
import Derived.WalkLawsBesides
import Derived.Lib.Hide
import Derived.MapKept
import Derived.Orders
import Derived.KernelRfl
set_option linter.all false
namespace Tryst
open Go Go.RowKit
theorem Yw {a b:Value} (h:a=b):Ending.returned a=.returned b:=by rw [h]
structure SliceOf (P:Program) (t e:TypeId) (size bytes:Nat):Prop where
 und:P.underlying t=some (.slice e)
 info:∃ i z,P.info? e=some i/\i.zero=some z/\i.size=size/\i.bytes=bytes/\z.cells.size=size
 pos:0 < size
 small:bytes<=65536
theorem SliceOf.mk' {P:Program} {t e:TypeId} {size bytes:Nat} {z:Value} (hu:P.underlying t=some (.slice e)) (hi:(P.info? e).map (fun i=>(i.zero,i.size,i.bytes))=some (some z,size,bytes)) (hz:z.cells.size=size) (hp:0 < size) (hb:bytes<=65536):SliceOf P t e size bytes:=by
 refine ⟨hu,?_,hp,hb⟩;cases h:P.info? e with
 | none=>rw [h] at hi;cases hi
 | some i=>
  rw [h] at hi;simp only [Option.map_some,Option.some.injEq,Prod.mk.injEq] at hi;exact ⟨i,z,rfl,hi.1,hi.2.1,hi.2.2,hz⟩
theorem vQ0 {P:Program} {w:World} {ops:Array Oper} {rest:List Oper} {o:Oper} {a:Act} {Q:Exit->Act->World->Prop} {t e:TypeId} {size bytes:Nat} (E:SliceOf P t e size bytes) (hgd:o.guard=none) (s x:Operand)
  (ho:o.op=.call { callee:=.builtin .append,args:=#[s,x],argTypes:=#[t,t] })
  (base:Nat) (v:Value) (n:Nat) (xs:List Value) (hs:a.eval s=v) (hown:w.ownsRow base e size v n xs)
  (ad:Addr) (m c:Nat) (news:List Value) (hx:a.eval x=.slice (some ad) m c) (hl:news.length=m*size) (hnews:∀ j u,news[j]?=some u->w.cell? (ad.add j)=some u) (h1:∀ u∈news,u.oneCell'=true)
  (hn:n+m<=1073741824) (hbase:base<=w.heap.size)
  (h:∀ v' w',w'.ownsRow base e size v' (n+m) (xs++news)->Below base w w'→(v'=.slice none 0 0↔v=.slice none 0 0/\m=0)->wpList P ops Q rest (a.put o.dst v') w'):wpList P ops Q (o :: rest) a w:=by
 obtain ⟨i,z,hi,hz,h2,h3,h4⟩:=E.info;refine wpList_append_own w hgd s x t ho base e i z size bytes E.und hi hz h2 h3 h4 E.pos v n xs hs hown ad m c news hx hl hnews h1 (by unfold maxLen;omega) ?_ hbase ?_
 ·
  have:=E.small
  calc (n+m)*bytes<=1073741824*65536:=Nat.mul_le_mul hn this
   _<=_:=by decide
 · intro v' w' ho' hg' hv';exact h v' w' ho' ((Below.refl base w).grown hg' hbase fun k hk=>(hown.lt k hk).1) hv'
theorem Xw {P:Program} {w:World} {ops:Array Oper} {rest:List Oper} {o:Oper} {a:Act} {Q:Exit->Act->World->Prop} {t e:TypeId} {bytes:Nat} (E:SliceOf P t e 1 bytes) (hgd:o.guard=none) (s x:Operand)
  (ho:o.op=.call { callee:=.builtin .append,args:=#[s,x],argTypes:=#[t,t] })
  (base:Nat) (v:Value) (n:Nat) (xs:List Value) (hs:a.eval s=v) (hown:w.ownsRow base e 1 v n xs)
  (u:Value) (e':TypeId) (hx:a.eval x=.slice (some ⟨w.heap.size,0,none⟩) 1 1) (h1:u.oneCell'=true)
  (hn:n+1<=1073741824) (hbase:base<=w.heap.size)
  (h:∀ v' w',w'.ownsRow base e 1 v' (n+1) (xs++[u])->Below base w w'→wpList P ops Q rest (a.put o.dst v') w'):wpList P ops Q (o :: rest) a (w.alloc (.cells #[u] e')):=by
 refine vQ0 E hgd s x ho base v n xs hs (hown.alloc _) ⟨w.heap.size,0,none⟩ 1 1 [u] hx rfl ?_ (by simpa using h1) hn (by simp;omega) ?_
 ·
  intro j y hj;cases j with
  | zero=>simp at hj;subst hj;rw [Addr.add_lit];exact World.cell?_alloc_new _ _ _ _
  | succ j=>simp at hj
 · intro v' w' h2 h3 _;exact h v' w' h2 (((Below.refl base w).alloc hbase _).trans h3)
def qQI (b:UInt8):Value:=.int .u8 (b.toNat:Int)
theorem kQj {P:Program} {w:World} {base:Nat} {e:TypeId} {v:Value} {n:Nat} {l:List UInt8} (src dst:TypeId) (hs:P.underlying src=some (.slice e)) (he:P.underlying e=some (.int .u8)) (hd:P.underlying dst=some .string)
  (h:w.ownsRow base e 1 v n (l.map qQI)):(convert src dst v).run P w=.ok (.string ⟨l.toArray⟩) w:=by
 have hl:l.length=n:=by simpa using h.1
 rcases h.2 with ⟨rfl,h0⟩ | ⟨g,cap,cur,rfl,_⟩
 · have:l=[]:=List.eq_nil_of_length_eq_zero (by omega);subst this;exact run_convert_bytes_nil w src e hs he 0 0 dst hd
 ·
  subst hl;refine run_convert_bytes_back w src dst e ⟨g,0,none⟩ cap l hs he hd fun j hj=>?_
  have hc:=h.cellAt j (by simpa using hj);rw [Addr.add_lit,Nat.zero_add,hc];simp [hj,qQI]
def qQC:Option Value->Option Int
 | some (.int .u8 x)=>some x
 | _=>none
theorem xQD (x:Int):qQC (some (.int .u8 x))=some x:=rfl
theorem conv1 (P:Program) (src e dst:TypeId) (hs:P.underlying src=some (.slice e)) (he:P.underlying e=some (.int .u8)) (hd:P.underlying dst=some .string) :
  ∀ (w:World) (g c:Nat),(qQC (w.cell? ⟨g,0,none⟩)).isSome=true->(convert src dst (.slice (some ⟨g,0,none⟩) 1 c)).run P w=.ok (.string ⟨[UInt8.ofNat ((qQC (w.cell? ⟨g,0,none⟩)).getD 0).toNat].toArray⟩) w:=by
 intro w g c h;cases hc:w.cell? ⟨g,0,none⟩ with
 | none=>rw [hc] at h;simp [qQC] at h
 | some v=>
  rw [hc] at h
  have:∃ x,v=.int .u8 x:=by
   unfold qQC at h
   split at h
   · rename_i x hx;exact ⟨x,by simpa using hx⟩
   · simp at h
  obtain ⟨x,rfl⟩:=this
  rw [run_convert_bytes_arg (P:=P) w src e hs he g 0 1 c [x] rfl (fun i hi=>by
   obtain rfl:i=0:=by omega
   simpa using hc) dst hd]
  simp [strOfNums,qQC]
theorem Z8 {W w1:World} (hb:Below W.heap.size W w1):(∀ b o,b < W.heap.size->w1.cell? ⟨b,o,none⟩=W.cell? ⟨b,o,none⟩)/\(∀ b o,b < W.heap.size->w1.frozen? ⟨b,o,none⟩=W.frozen? ⟨b,o,none⟩):=
 ⟨fun b o h=>hb.cell (p:=⟨b,o,none⟩) h,fun b o h=>hb.frozen (p:=⟨b,o,none⟩) h⟩
theorem Qk {w X w1:World} (hb:Below X.heap.size X w1) (h:Below w.heap.size w X):Below w.heap.size w w1:=h.trans (hb.mono h.size)
theorem Qj {w X:World} (o:Obj) (h:Below w.heap.size w X):Below w.heap.size w (X.alloc o):=h.alloc h.size o
theorem Y0 {w X:World} (h:Below w.heap.size w X):Below w.heap.size w X.drew:=h.drew
theorem bset {w X:World} {p:Addr} (u:Value) (hp:w.heap.size<=p.block) (h:Below w.heap.size w X):Below w.heap.size w (X.setCell p u):=h.setCell hp u
theorem jY4 {a b:List UInt8} (h:a=b):Ending.returned (.string ⟨a.toArray⟩)=.returned (.string ⟨b.toArray⟩):=by rw [h]
theorem Xk {a b:ByteArray} (h:a.data.toList=b.data.toList):a=b:=by
 apply ByteArray.ext;apply Array.ext';exact h
theorem zQ7 {s:ByteArray} {a b:Nat}:(s.extract a b).data.toList=(s.data.toList.take b).drop a:=by
 simp [ByteArray.data_extract,List.drop_take]
theorem qJl {a b:ByteArray}:(a++b).data.toList=a.data.toList++b.data.toList:=by
 simp [ByteArray.data_append]
theorem Jb (l:List UInt8):(ByteArray.mk l.toArray).data.toList=l:=by simp
theorem Qx (s:ByteArray):s.data.toList.length=s.size:=by simp
theorem Qp (b:ByteArray):b.toList=b.data.toList:=by
 have h:∀ (n i:Nat) (r:List UInt8),n+i=b.size->ByteArray.toList.loop b i r=r.reverse++b.data.toList.drop i:=by
  intro n
  induction n with
  | zero=>
   intro i r hi;unfold ByteArray.toList.loop;rw [if_neg (by omega),List.drop_eq_nil_of_le (by simp;omega),List.append_nil]
  | succ n ih=>
   intro i r hi;unfold ByteArray.toList.loop;have hlt:i < b.data.toList.length:=by simp;omega
   rw [if_pos (by omega),ih (i+1) _ (by omega),List.drop_eq_getElem_cons hlt]
   have e:b.get! i=b.data.toList[i]:=by
    simp only [ByteArray.get!];rw [getElem!_pos b.data i (by simpa using hlt)];simp
   simp [e]
 have:=h b.size 0 [] (by omega)
 simpa [ByteArray.toList] using this
theorem jYL {a b:ByteArray} (h:a.data.toList=b.data.toList):(a.toList==b.toList)=true:=by
 rw [Qp,Qp,h];simp
theorem jY9 {a b:ByteArray} (h:¬ a.data.toList=b.data.toList):(a.toList==b.toList)=false:=by
 rw [Qp,Qp];simpa using h
theorem Qq {a b:Bool} (h:a=b):Ending.returned (.bool a)=.returned (.bool b):=by rw [h]
theorem Qy {k:IntKind} {a b:Int} (h:a=b):Ending.returned (.int k a)=.returned (.int k b):=by rw [h]
theorem qQ6 (s:ByteArray):s.data.toList=[]↔s.size=0:=by
 rw [<- List.length_eq_zero_iff,Qx]
theorem Qz (X:World) (b o b' o':Nat) (v:Value):(X.setCell ⟨b,o,none⟩ v).cell? ⟨b',o',none⟩=if b=b'/\o=o' then (X.cell? ⟨b',o',none⟩).map (fun _=>v) else X.cell? ⟨b',o',none⟩:=by
 unfold World.setCell World.cell?;simp only [Array.getElem?_modify]
 by_cases hb:b=b'
 ·
  subst hb;rw [if_pos rfl];cases h:X.heap[b]? with
  | none=>simp
  | some ob=>
   cases ob with
   | cells c e f=>
    simp only [Option.map_some,Option.isSome_none,Bool.false_eq_true,if_false,true_and];rw [Array.getElem?_setIfInBounds]
    by_cases ho:o=o'
    ·
     subst ho;rw [if_pos rfl,if_pos rfl]
     by_cases hlt:o < c.size
     · simp [hlt]
     · simp [hlt]
    · rw [if_neg ho,if_neg ho]
   | _=>simp
 · rw [if_neg hb,if_neg (fun h=>hb h.1)]
theorem Qv (X:World) (b o b' o':Nat) (v:Value):(X.setCell ⟨b,o,none⟩ v).frozen? ⟨b',o',none⟩=X.frozen? ⟨b',o',none⟩:=by
 unfold World.setCell World.frozen?;simp only [Array.getElem?_modify]
 by_cases hb:b=b'
 ·
  subst hb;rw [if_pos rfl];cases h:X.heap[b]? with
  | none=>simp
  | some ob=>cases ob<;>simp
 · rw [if_neg hb]
end Tryst
namespace Tryst2
open Go Go.RowKit
def evOf (tv:Nat->Value):Operand->Value
 | .tmp t=>tv t
 | .const v=>v
 | .global g=>.pointer (some ⟨g,0,none⟩)
 | .func f=>.func (.func f) #[] #[]
@[go_sem] theorem evOf_tmp (tv:Nat->Value) (t:Nat):evOf tv (.tmp t)=tv t:=rfl
@[go_sem] theorem evOf_const (tv:Nat->Value) (v:Value):evOf tv (.const v)=v:=rfl
@[go_sem] theorem evOf_global (tv:Nat->Value) (g:Nat):evOf tv (.global g)=.pointer (some ⟨g,0,none⟩):=rfl
@[go_sem] theorem evOf_func (tv:Nat->Value) (f:Nat):evOf tv (.func f)=.func (.func f) #[] #[]:=rfl
def jQW (P:Program) (K:Value->World->Prop):Result Next->Prop
 | .ok (.value v) w'=>K v w'
 | .ok .skip w'=>K undef w'
 | .ok (.enter f args) w'=>Calls P f args w' fun e w''=>match e with | .returned v=>K v w'' | _=>False
 | _=>False
@[go_sem] theorem stepV_value (P:Program) (K:Value->World->Prop) (v:Value) (w:World):jQW P K (.ok (.value v) w)=K v w:=rfl
@[go_sem] theorem stepV_skip (P:Program) (K:Value->World->Prop) (w:World):jQW P K (.ok .skip w)=K undef w:=rfl
@[go_sem] theorem stepV_enter (P:Program) (K:Value->World->Prop) (f:FuncId) (args:Array Value) (w:World) :
  jQW P K (.ok (.enter f args) w)=Calls P f args w fun e w''=>match e with | .returned v=>K v w'' | _=>False:=rfl
def zQI:Value->Option Bool
 | .bool b=>some b
 | _=>none
def K9 (dsts:List (Option Nat)) (tv:Nat->Value):Option (Nat × Bool)->Bool
 | none=>true
 | some (j,want)=>match (dsts[j]?).bind id with | some d=>zQI (tv d)==some want | none=>none==some want
def dstL (ops:Array Oper):List (Option Nat):=ops.toList.map (·.dst)
def vQH (R:List (Value->World->Prop)) (dsts:List (Option Nat)) (tv:Nat->Value) (w:World):List Nat->Prop
 | []=>True
 | j :: l=>(match (dsts[j]?).bind id with | some d=>(R.getD j (fun _ _=>True)) (tv d) w | none=>True)/\vQH R dsts tv w l
def vQw (dsts:List (Option Nat)) (t:Nat):Bool:=dsts.contains (some t)
def zQO (o:Oper):List Nat:=o.op.operands.toList.filterMap fun | .tmp t=>some t | _=>none
def kQz (dsts:List (Option Nat)) (a0:Act) (tv:Nat->Value):List Nat->Prop
 | []=>True
 | t :: l=>(if vQw dsts t=true then True else tv t=a0.tmps.getD t undef)/\kQz dsts a0 tv l
theorem jJB {dsts:List (Option Nat)} {a0:Act} {tv:Nat->Value} (h:∀ t,vQw dsts t=false->tv t=a0.tmps.getD t undef):∀ l,kQz dsts a0 tv l
 | []=>trivial
 | t :: l=>by
  refine ⟨?_,jJB h l⟩
  split
  · trivial
  · rename_i hn;exact h t (by simpa using hn)
def zQK (o:Oper):List Nat:=o.after.toList.filterMap fun e=>if Region.binds .any e=true then some e.on else none
def Obl (P:Program) (a0:Act) (w0:World) (Ext:World->World->Prop) (R:List (Value->World->Prop)) (dsts:List (Option Nat)) (o:Oper) (Ri:Value->World->Prop):Prop:=
 ∀ (tv:Nat->Value) (w':World),Ext w0 w'→kQz (dsts.take R.length) a0 tv (zQO o)->vQH R dsts tv w' (zQK o)->
  if K9 dsts tv o.guard=true then jQW P (fun v w''=>Ext w' w''/\Ri v w'') ((execOp (evOf tv) o).run P w') else Ri undef w'
def vYj (P:Program) (a0:Act) (w0:World) (Ext:World->World->Prop) (R:List (Value->World->Prop)) (dsts:List (Option Nat)):List Oper->List (Value->World->Prop)->Prop
 | o :: os,r :: rs=>Obl P a0 w0 Ext R dsts o r/\vYj P a0 w0 Ext R dsts os rs
 | _,_=>True
def Jv (tv:Nat->Value):List (Option Nat)->Act->Act
 | [],a=>a
 | some d :: l,a=>Jv tv l (a.put (some d) (tv d))
 | none :: l,a=>Jv tv l a
def allR (R:List (Value->World->Prop)) (tv:Nat->Value) (w:World):List (Option Nat)->Prop
 | []=>True
 | d :: l=>(match d,R with | some d,r :: _=>r (tv d) w | _,_=>True)/\allR R.tail tv w l
def vQN (ops:Array Oper):Nat->Nat->Nat->Bool
 | 0,_,_=>false
 | fuel+1,i,j=>match ops[i]? with
  | some o=>o.after.any fun e=>Region.binds .any e&&(e.on==j||(decide (j < e.on)&&vQN ops fuel e.on j))
  | none=>false
inductive Reach (ops:Array Oper):Nat->Nat->Prop where
 | one {i j:Nat} {o:Oper} {e:Edge} (ho:ops[i]?=some o) (he:e∈o.after) (hb:Region.binds .any e=true) (hj:e.on=j):Reach ops i j
 | more {i j:Nat} {o:Oper} {e:Edge} (ho:ops[i]?=some o) (he:e∈o.after) (hb:Region.binds .any e=true) (h:Reach ops e.on j):Reach ops i j
theorem Reach.of {ops:Array Oper}:∀ (fuel i j:Nat),vQN ops fuel i j=true->Reach ops i j
 | 0,_,_,h=>by simp [vQN] at h
 | fuel+1,i,j,h=>by
  unfold vQN at h
  split at h
  ·
   rename_i o ho;obtain ⟨k,hk,h6⟩:=Array.any_eq_true.1 h;simp only [Bool.and_eq_true,Bool.or_eq_true,decide_eq_true_eq,beq_iff_eq] at h6;obtain ⟨hb,h7 | ⟨_,h7⟩⟩:=h6
   · exact .one ho (Array.getElem_mem hk) hb h7
   · exact .more ho (Array.getElem_mem hk) hb (Reach.of fuel _ _ h7)
  · cases h
def kQY (ops:Array Oper) (m N:Nat):Bool:=
 decide (m<=ops.size)&&
 ((List.range ops.size).all fun i=>match ops[i]? with
  | some o=>o.after.all (fun e=>!Region.binds .any e||decide (e.on < i))&&(match o.dst with | some d=>decide (d < N) | none=>true)&&
   (decide (i < m)||(List.range i).all fun j=>vQN ops 9 i j)&&
   (match o.guard with | some (j,_)=>o.after.any fun e=>Region.binds .any e&&e.on==j | none=>true)
  | none=>true)&&
 (List.range m).all fun i=>(List.range i).all fun j=>match (ops[i]?).bind (·.dst),(ops[j]?).bind (·.dst) with
  | some a,some b=>a != b
  | _,_=>true
structure DForm (ops:Array Oper) (m N:Nat):Prop where
 le:m<=ops.size
 back:∀ (i:Nat) (o:Oper),ops[i]?=some o->∀ e∈o.after,Region.binds .any e=true->e.on < i
 dst:∀ (i:Nat) (o:Oper) (d:Nat),ops[i]?=some o->o.dst=some d->d < N
 tail:∀ (i:Nat) (o:Oper),ops[i]?=some o->m<=i->∀ j,j < i->Reach ops i j
 guard:∀ (i:Nat) (o:Oper) (j:Nat) (b:Bool),ops[i]?=some o->o.guard=some (j,b)->∃ e∈o.after,Region.binds .any e=true/\e.on=j
 apart:∀ (i j:Nat) (oi oj:Oper) (d:Nat),i < m->j < m->ops[i]?=some oi->ops[j]?=some oj->oi.dst=some d->oj.dst=some d->i=j
theorem DForm.of {ops:Array Oper} {m N:Nat} (h:kQY ops m N=true):DForm ops m N:=by
 unfold kQY at h;simp only [Bool.and_eq_true,decide_eq_true_eq,List.all_eq_true,List.mem_range] at h;obtain ⟨⟨h1,h2⟩,h3⟩:=h
 have lt:∀ (i:Nat) (o:Oper),ops[i]?=some o->i < ops.size:=fun i o ho=>by
  rcases Nat.lt_or_ge i ops.size with h | h
  · exact h
  · simp [Array.getElem?_eq_none h] at ho
 refine ⟨h1,?_,?_,?_,?_,?_⟩
 ·
  intro i o ho e he hb;have:=h2 i (lt i o ho);rw [ho] at this;simp only [Bool.and_eq_true] at this;have h4:=Array.all_eq_true_iff_forall_mem.1 this.1.1.1 e he
  simpa [hb] using h4
 ·
  intro i o d ho hd;have:=h2 i (lt i o ho);rw [ho] at this;simp only [Bool.and_eq_true] at this;have h4:=this.1.1.2;rw [hd] at h4
  simpa using h4
 ·
  intro i o ho hm j hj;have:=h2 i (lt i o ho);rw [ho] at this;simp only [Bool.and_eq_true,Bool.or_eq_true,decide_eq_true_eq] at this
  rcases this.1.2 with h4 | h4
  · omega
  · have h5:=List.all_eq_true.1 h4 j (List.mem_range.2 hj);exact Reach.of _ _ _ h5
 · intro i o j b ho hg;have:=h2 i (lt i o ho);rw [ho] at this;simp only [Bool.and_eq_true] at this;have h4:=this.2;rw [hg] at h4;obtain ⟨k,hk,h6⟩:=Array.any_eq_true.1 h4;simp only [Bool.and_eq_true,beq_iff_eq] at h6;exact ⟨o.after[k],Array.getElem_mem hk,h6.1,h6.2⟩
 ·
  intro i j oi oj d hi hj hoi hoj hdi hdj
  have key:∀ (i j:Nat) (oi oj:Oper),i < m->ops[i]?=some oi->ops[j]?=some oj->oi.dst=some d->oj.dst=some d->¬ j < i:=by
   intro i j oi oj hi hoi hoj hdi hdj hlt;have:=h3 i hi j hlt;rw [hoi,hoj] at this;simp [hdi,hdj] at this
  have h4:=key i j oi oj hi hoi hoj hdi hdj;have h5:=key j i oj oi hj hoj hoi hdj hdi;omega
theorem qQW (a:Act) (d t:Nat) (v:Value) (h:d < a.tmps.size):(a.put (some d) v).tmps.getD t undef=if t=d then v else a.tmps.getD t undef:=by
 simp only [Act.put,Array.getD_eq_getD_getElem?,Array.getElem?_setIfInBounds]
 by_cases e:d=t
 · subst e;simp [h]
 · rw [if_neg e,if_neg (fun h=>e h.symm)]
theorem vQ7 (a:Act) (d:Option Nat) (v:Value):(a.put d v).tmps.size=a.tmps.size:=by
 cases d<;>simp [Act.put]
theorem vQK (a:Act) (d:Option Nat) (v:Value):(a.put d v).defers=a.defers:=by
 cases d<;>rfl
theorem Act.ext_getD {a b:Act} (h1:a.defers=b.defers) (h2:a.tmps.size=b.tmps.size) (h3:∀ t,a.tmps.getD t undef=b.tmps.getD t undef):a=b:=by
 obtain ⟨x,dx⟩:=a;obtain ⟨y,dy⟩:=b;simp only at h1 h2 h3;subst h1
 congr 1
 apply Array.ext h2
 intro i hi hj;have:=h3 i
 simpa [Array.getD_eq_getD_getElem?,hi,hj] using this
theorem jQV (tv:Nat->Value):∀ (l:List (Option Nat)) (a:Act),(∀ d,some d∈l->d < a.tmps.size)->
  (Jv tv l a).defers=a.defers/\(Jv tv l a).tmps.size=a.tmps.size/\∀ t,(Jv tv l a).tmps.getD t undef=if some t∈l then tv t else a.tmps.getD t undef
 | [],a,_=>by simp [Jv]
 | none :: l,a,h=>by
  have:=jQV tv l a (fun d hd=>h d (by simp [hd]))
  simpa [Jv] using this
 | some d :: l,a,h=>by
  have hd:d < a.tmps.size:=h d (by simp);obtain ⟨h1,h2,h3⟩:=jQV tv l (a.put (some d) (tv d)) (fun x hx=>by rw [vQ7];exact h x (by simp [hx]));refine ⟨by rw [Jv,h1,vQK],by rw [Jv,h2,vQ7],fun t=>?_⟩;rw [Jv,h3,qQW _ _ _ _ hd]
  by_cases e1:some t∈l
  · rw [if_pos e1,if_pos (by simp [e1])]
  ·
   by_cases e2:t=d
   · subst e2;simp [e1]
   · rw [if_neg e1,if_neg e2,if_neg (by simp [e1,e2])]
theorem vQn (a:Act):a.eval=evOf (fun t=>a.tmps.getD t undef):=by
 funext o;cases o<;>rfl
theorem xQS {R:List (Value->World->Prop)} {dsts:List (Option Nat)} {tv:Nat->Value} {w:World}:∀ (l:List Nat),
  (∀ j∈l,∀ d,dsts[j]?=some (some d)->(R.getD j (fun _ _=>True)) (tv d) w)->vQH R dsts tv w l
 | [],_=>trivial
 | j :: l,h=>by
  refine ⟨?_,xQS l fun j hj=>h j (by simp [hj])⟩;cases hd:dsts[j]? with
  | none=>trivial
  | some x=>
   cases x with
   | none=>trivial
   | some d=>exact h j (by simp) d hd
theorem qJe {tv:Nat->Value} {w:World}:∀ (l:List (Option Nat)) (R:List (Value->World->Prop)),
  (∀ (i:Nat) d r,l[i]?=some (some d)->R[i]?=some r->r (tv d) w)->allR R tv w l
 | [],_,_=>trivial
 | d :: l,R,h=>by
  refine ⟨?_,qJe l R.tail fun i d r hd hr=>h (i+1) d r (by simpa using hd) (by cases R<;>simp_all)⟩;cases d with
  | none=>trivial
  | some d=>
   cases R with
   | nil=>trivial
   | cons r R=>exact h 0 d r rfl rfl
theorem vYj.at {P:Program} {a0:Act} {w0:World} {Ext:World->World->Prop} {R:List (Value->World->Prop)} {dsts:List (Option Nat)}:∀ (os:List Oper) (rs:List (Value->World->Prop)),
  vYj P a0 w0 Ext R dsts os rs->∀ (i:Nat) o r,os[i]?=some o->rs[i]?=some r->Obl P a0 w0 Ext R dsts o r
 | [],_,_,i,o,r,ho,_=>by simp at ho
 | _ :: _,[],_,i,o,r,_,hr=>by simp at hr
 | x :: os,y :: rs,h,i,o,r,ho,hr=>by
  cases i with
  | zero=>
   simp only [List.getElem?_cons_zero,Option.some.injEq] at ho hr;subst ho;subst hr;exact h.1
  | succ i=>exact vYj.at os rs h.2 i o r (by simpa using ho) (by simpa using hr)
section
variable {P:Program} {ops:Array Oper} {Q:Exit->Act->World->Prop}
theorem Reach.lt {m N:Nat} (hf:DForm ops m N) {i j:Nat} (h:Reach ops i j):j < i:=by
 induction h with
 | one ho he hb hj=>have:=hf.back _ _ ho _ he hb;omega
 | more ho he hb _ ih=>have:=hf.back _ _ ho _ he hb;omega
def vJl (ops:Array Oper) (listed:Array Bool):Prop:=∀ (i:Nat) o,ops[i]?=some o->listed.getD i true=true->∀ e∈o.after,Region.binds .any e=true->listed.getD e.on true=true
theorem Reach.listed {listed:Array Bool} (hc:vJl ops listed) {i j:Nat} (h:Reach ops i j) (hi:listed.getD i true=true):listed.getD j true=true:=by
 induction h with
 | one ho he hb hj=>rw [<- hj];exact hc _ _ ho hi _ he hb
 | more ho he hb _ ih=>exact ih (hc _ _ ho hi _ he hb)
theorem zQw {m N:Nat} (hf:DForm ops m N):∀ (fuel k:Nat) (listed:Array Bool) (a:Act) (w:World),m<=k->k<=ops.size->ops.size<=k+fuel->
  listed.size=ops.size->(∀ i,i < ops.size->(listed.getD i true=true↔i < k))->wpList P ops Q (ops.toList.drop k) a w->wpAny P .any ops Q fuel listed a w:=by
 intro fuel
 induction fuel with
 | zero=>
  intro k listed a w hm hk hfu hs hl h;obtain rfl:k=ops.size:=by omega
  rw [List.drop_of_length_le (by simp)] at h;refine ⟨?_,h⟩;rw [List.eq_nil_iff_forall_not_mem];intro i hi;obtain ⟨h1,o,ho,_⟩:=mem_ready.1 hi
  have hlt:i < ops.size:=by
   rcases Nat.lt_or_ge i ops.size with h | h
   · exact h
   · simp [Array.getElem?_eq_none h] at ho
  have:=(hl i hlt).2 hlt;rw [this] at h1;cases h1
 | succ fuel ih=>
  intro k listed a w hm hk hfu hs hl h;refine ⟨fun hr=>?_,fun i hi=>?_⟩
  ·
   by_cases hke:k=ops.size
   · subst hke;rw [List.drop_of_length_le (by simp)] at h;exact h
   ·
    exfalso;have hklt:k < ops.size:=by omega
    have hmem:k∈Region.ready .any ops listed:=by
     refine mem_ready.2 ⟨?_,ops[k],Array.getElem?_eq_getElem hklt,fun e he hbd=>?_⟩
     ·
      by_cases hx:listed.getD k true=true
      · have:=(hl k hklt).1 hx;omega
      · simpa using hx
     ·
      have hb:=hf.back k ops[k] (Array.getElem?_eq_getElem hklt) e he hbd;have:=(hl e.on (by omega)).2 hb;rw [Array.getD_eq_getD_getElem?] at this ⊢;rw [Array.getElem?_eq_getElem (by omega)] at this ⊢
      simpa using this
    rw [hr] at hmem;cases hmem
  ·
   obtain ⟨h1,o,ho,hall⟩:=mem_ready.1 hi
   have hlt:i < ops.size:=by
    rcases Nat.lt_or_ge i ops.size with h | h
    · exact h
    · simp [Array.getElem?_eq_none h] at ho
   have hik:k<=i:=by
    rcases Nat.lt_or_ge i k with h | h
    · have:=(hl i hlt).2 h;rw [this] at h1;cases h1
    · exact h
   have hki:¬ k < i:=fun hlt'=>by
    have hreach:=hf.tail i o ho (by omega) k hlt'
    have key:∀ e∈o.after,Region.binds .any e=true->e.on < k:=fun e he hb=>by
     have h2:=hall e he hb;have h4:=hf.back i o ho e he hb
     exact (hl e.on (by omega)).1 (by
      rw [Array.getD_eq_getD_getElem?] at h2 ⊢;rw [Array.getElem?_eq_getElem (by omega)] at h2 ⊢
      simpa using h2)
    cases hreach with
    | one ho' he hb hj=>
     rw [ho] at ho';obtain rfl:=Option.some.inj ho';have:=key _ he hb;omega
    | more ho' he hb hr=>
     rw [ho] at ho';obtain rfl:=Option.some.inj ho';have h5:=key _ he hb;have h6:=hr.lt hf;omega
   obtain rfl:i=k:=by omega
   have hol:ops.toList[i]?=some o:=by simpa using ho
   have hdrop:ops.toList.drop i=o :: ops.toList.drop (i+1):=by
    have hlen:i < ops.toList.length:=by simpa using hlt
    rw [List.drop_eq_getElem_cons hlen]
    congr 1
    rw [List.getElem?_eq_getElem hlen] at hol;exact Option.some.inj hol
   rw [hdrop] at h
   have next:∀ a w,wpList P ops Q (ops.toList.drop (i+1)) a w->wpAny P .any ops Q fuel (listed.setIfInBounds i true) a w:=fun a w h=>by
    refine ih (i+1) _ a w (by omega) (by omega) (by omega) (by simp [hs]) (fun j hj=>?_) h;have:=hl j hj;rw [Array.getD_eq_getD_getElem?,Array.getElem?_setIfInBounds];rw [Array.getD_eq_getD_getElem?] at this
    by_cases e:i=j
    · subst e;rw [if_pos rfl,if_pos (by omega)];simp
    · rw [if_neg e,this];omega
   unfold wpOp;simp only [ho];simp only [wpList] at h
   split
   · rename_i hw;rw [if_pos hw] at h;exact h.imp (Oper.wp_mono next) id
   · rename_i hw;rw [if_neg hw] at h;exact next _ _ h
theorem xQv (listed:Array Bool) (i:Nat) (hi:i < listed.size) (h:listed.getD i true=false) :
  (listed.setIfInBounds i true).toList.countP (fun b=>!b)+1=listed.toList.countP (fun b=>!b):=by
 have e:listed.toList[i]'(by simpa using hi)=false:=by
  rw [Array.getD_eq_getD_getElem?,Array.getElem?_eq_getElem hi] at h
  simpa using h
 rw [Array.toList_setIfInBounds,List.countP_set (by simpa using hi),e];have hpos:0 < listed.toList.countP (fun b=>!b):=List.countP_pos_iff.2 ⟨false,by rw [<- e];exact List.getElem_mem _,rfl⟩;simp only [Bool.not_false,if_true,Bool.not_true,Bool.false_eq_true,if_false];omega
structure Held (ops:Array Oper) (m:Nat) (a0:Act) (done:Nat->Bool) (a:Act):Prop where
 defers:a.defers=a0.defers
 size:a.tmps.size=a0.tmps.size
 hold:∀ t,(∀ (i:Nat) o,i < m->ops[i]?=some o->done i=true->o.dst≠some t)->a.tmps.getD t undef=a0.tmps.getD t undef
theorem qQO {rid:Nat} {a0:Act} {w0:World} (m:Nat) (J:(Nat->Bool)->Act->World->Prop)
  (hm:P.follows .mixedOrders=true) (hok:kQY ops m a0.tmps.size=true)
  (init:∀ done:Nat->Bool,(∀ i,i < m->done i=false)->J done a0 w0.drew)
  (step:∀ (i:Nat) (o:Oper) (done:Nat->Bool) (a:Act) (w:World),i < m->ops[i]?=some o->done i=false->(∀ e∈o.after,Region.binds .any e=true->done e.on=true)->
   (∀ (j:Nat) oj,ops[j]?=some oj->done j=true->∀ e∈oj.after,Region.binds .any e=true->done e.on=true)->Held ops m a0 done a->J done a w->
   ∀ done':Nat->Bool,(∀ j,done' j=true↔(j=i∨done j=true))->
   if K9 (dstL ops) (fun t=>a.tmps.getD t undef) o.guard=true then jQW P (fun v w'=>J done' (a.put o.dst v) w') ((execOp (evOf fun t=>a.tmps.getD t undef) o).run P w) else J done' (a.put o.dst undef) w)
  (fin:∀ (done:Nat->Bool) (a:Act) (w:World),(∀ i,i < m->done i=true)->Held ops m a0 done a->J done a w->wpList P ops Q (ops.toList.drop m) a w) :
  (Code.region rid ops true).wp P Q a0 w0:=by
 have hf:=DForm.of hok;refine wp_region_any hm ?_
 -- the state while the drawn part is carried out
 have main:∀ (fuel:Nat) (listed:Array Bool) (a:Act) (w:World),listed.size=ops.size->listed.toList.countP (fun b=>!b)<=fuel->
   (∀ i,m<=i->i < ops.size->listed.getD i true=true->False)->vJl ops listed->Held ops m a0 (fun i=>listed.getD i true) a->J (fun i=>listed.getD i true) a w->
   wpAny P .any ops Q fuel listed a w:=by
  intro fuel
  induction fuel with
  | zero=>
   intro listed a w hs hc htl hcl hh hJ
   have hall:∀ i,i < ops.size->listed.getD i true=true:=fun i hi=>by
    have h0:listed.toList.countP (fun b=>!b)=0:=by omega
    rw [List.countP_eq_zero] at h0;have:=h0 (listed[i]'(by omega)) (by simp);rw [Array.getD_eq_getD_getElem?,Array.getElem?_eq_getElem (by omega)]
    simpa using this
   have hmn:m=ops.size:=by
    have:=hf.le
    rcases Nat.lt_or_ge m ops.size with h | h
    · exact (htl m (Nat.le_refl _) h (hall m h)).elim
    · omega
   have h:=fin _ a w (fun i him=>hall i (by omega)) hh hJ;exact zQw hf 0 m listed a w (Nat.le_refl _) hf.le (by omega) hs (fun i hi=>⟨fun _=>by omega,fun _=>hall i hi⟩) h
  | succ fuel ih=>
   intro listed a w hs hc htl hcl hh hJ
   by_cases hfull:∀ i,i < m->listed.getD i true=true
   ·
    have h:=fin _ a w hfull hh hJ
    have hcount:ops.size<=m+(fuel+1):=by
     have e1:listed.toList.countP (fun b=>!b)=(listed.toList.take m).countP (fun b=>!b)+(listed.toList.drop m).countP (fun b=>!b):=by
      rw [<- List.countP_append,List.take_append_drop]
     have e2:(listed.toList.drop m).countP (fun b=>!b)=(listed.toList.drop m).length:=by
      rw [List.countP_eq_length];intro b hb;obtain ⟨j,hj⟩:=List.mem_iff_getElem?.1 hb;rw [List.getElem?_drop,Array.getElem?_toList] at hj;cases b with
      | false=>rfl
      | true=>
       have hlt:m+j < listed.size:=by
        rcases Nat.lt_or_ge (m+j) listed.size with h | h
        · exact h
        · simp [Array.getElem?_eq_none h] at hj
       exact (htl (m+j) (by omega) (by omega) (by rw [Array.getD_eq_getD_getElem?,hj];rfl)).elim
     rw [e1,e2] at hc;simp at hc;omega
    exact zQw hf (fuel+1) m listed a w (Nat.le_refl _) hf.le hcount hs (fun i hi=>⟨fun hx=>by
     rcases Nat.lt_or_ge i m with h | h
     · exact h
     · exact (htl i h hi hx).elim,fun hx=>hfull i hx⟩) h
   ·
    refine ⟨fun hready=>?_,fun i hi=>?_⟩
    ·
     -- the first that is not listed may come up
     exfalso
     have hex:∃ i,i < m/\listed.getD i true=false:=by
      refine Classical.byContradiction fun hno=>hfull fun i hi=>?_
      cases hx:listed.getD i true with
      | true=>rfl
      | false=>exact (hno ⟨i,hi,hx⟩).elim
     have least:∀ n,(∀ k,k < n->¬ (k < m/\listed.getD k true=false))∨∃ i,(i < m/\listed.getD i true=false)/\∀ k,k < i->¬ (k < m/\listed.getD k true=false):=by
      intro n
      induction n with
      | zero=>exact .inl fun k hk=>by omega
      | succ n ihn=>
       rcases ihn with h | h
       ·
        by_cases hn:n < m/\listed.getD n true=false
        · exact .inr ⟨n,hn,h⟩
        ·
         refine .inl fun k hk=>?_
         by_cases e:k=n
         · subst e;exact hn
         · exact h k (by omega)
       · exact .inr h
     obtain ⟨i0,hi0⟩:=hex
     rcases least (i0+1) with h | ⟨i,⟨him,hil⟩,hmin⟩
     · exact h i0 (by omega) hi0
     ·
      have hlt:i < ops.size:=Nat.lt_of_lt_of_le him hf.le
      have hmem:i∈Region.ready .any ops listed:=by
       refine mem_ready.2 ⟨hil,ops[i],Array.getElem?_eq_getElem hlt,fun e he hbd=>?_⟩;have hb:=hf.back i ops[i] (Array.getElem?_eq_getElem hlt) e he hbd;have h2:=hmin e.on hb
       have h3:listed.getD e.on true=true:=by
        cases hx:listed.getD e.on true with
        | true=>rfl
        | false=>exact (h2 ⟨by omega,hx⟩).elim
       rw [Array.getD_eq_getD_getElem?] at h3 ⊢;rw [Array.getElem?_eq_getElem (by omega)] at h3 ⊢
       simpa using h3
      rw [hready] at hmem;cases hmem
    ·
     obtain ⟨hil,o,ho,hall⟩:=mem_ready.1 hi
     have hlt:i < ops.size:=by
      rcases Nat.lt_or_ge i ops.size with h | h
      · exact h
      · simp [Array.getElem?_eq_none h] at ho
     have edone:∀ e∈o.after,Region.binds .any e=true->listed.getD e.on true=true:=fun e he hbind=>by
      have h2:=hall e he hbind;have hb:=hf.back i o ho e he hbind;rw [Array.getD_eq_getD_getElem?] at h2 ⊢;rw [Array.getElem?_eq_getElem (by omega)] at h2 ⊢
      simpa using h2
     have him:i < m:=by
      rcases Nat.lt_or_ge i m with h | h
      · exact h
      ·
       exfalso;refine hfull fun j hj=>?_
       have hreach:=hf.tail i o ho h j (by omega);cases hreach with
       | one ho' he hb hj=>
        rw [ho] at ho';obtain rfl:=Option.some.inj ho';rw [<- hj];exact edone _ he hb
       | more ho' he hb hr=>
        rw [ho] at ho';obtain rfl:=Option.some.inj ho';exact hr.listed hcl (edone _ he hb)
     have hset:∀ j,(listed.setIfInBounds i true).getD j true=true↔(j=i∨listed.getD j true=true):=fun j=>by
      rw [Array.getD_eq_getD_getElem?,Array.getElem?_setIfInBounds,Array.getD_eq_getD_getElem?]
      by_cases e:i=j
      · subst e;rw [if_pos rfl,if_pos (by omega)];simp
      · rw [if_neg e];exact ⟨.inr,fun h=>h.resolve_left fun h'=>e h'.symm⟩
     have hobl:=step i o _ a w him ho hil edone hcl hh hJ (fun j=>(listed.setIfInBounds i true).getD j true) hset;have hsz:=hh.size
     have hw:K9 (dstL ops) (fun t=>a.tmps.getD t undef) o.guard=Region.wanted o (yielded ops a.tmps):=by
      unfold Region.wanted K9;cases hg:o.guard with
      | none=>rfl
      | some jb=>
       obtain ⟨j,b⟩:=jb;simp only [yielded];obtain ⟨e,he,hbd,hej⟩:=hf.guard i o j b ho hg;have hb:=hf.back i o ho e he hbd;have hjlt:j < ops.size:=by omega
       have hx:(dstL ops)[j]?=some ops[j].dst:=by
        unfold dstL;simp [hjlt]
       rw [hx,Array.getElem?_eq_getElem hjlt];cases hjd:ops[j].dst with
       | none=>simp [hjd]
       | some d=>
        have hdl:=hf.dst j ops[j] d (Array.getElem?_eq_getElem hjlt) hjd;simp only [Option.bind_some,_root_.id,hjd];rw [Array.getElem?_eq_getElem (by omega),Array.getD_eq_getD_getElem?,Array.getElem?_eq_getElem (by omega)];simp only [Option.getD_some];cases a.tmps[d]'(by omega)<;>rfl
     have next:∀ v w',J (fun j=>(listed.setIfInBounds i true).getD j true) (a.put o.dst v) w'→wpAny P .any ops Q fuel (listed.setIfInBounds i true) (a.put o.dst v) w':=fun v w' hx=>by
      refine ih _ _ _ (by simp [hs]) ?_ ?_ ?_ ⟨by rw [vQK,hh.defers],by rw [vQ7,hh.size],?_⟩ hx
      · have:=xQv listed i (by omega) hil;omega
      ·
       intro j hmj hjl hj
       rcases (hset j).1 hj with h | h
       · omega
       · exact htl j hmj hjl h
      ·
       intro j oj hoj hj e he hbind
       rcases (hset j).1 hj with h | h
       · subst h;rw [ho] at hoj;obtain rfl:=Option.some.inj hoj;exact (hset _).2 (.inr (edone e he hbind))
       · exact (hset _).2 (.inr (hcl j oj hoj h e he hbind))
      ·
       intro t ht;have h1:=hh.hold t fun j oj hjm hoj hj=>ht j oj hjm hoj ((hset j).2 (.inr hj))
       have h2:=ht i o him ho ((hset i).2 (.inl rfl));cases hod:o.dst with
       | none=>exact h1
       | some d=>
        rw [qQW _ _ _ _ (by have:=hf.dst i o d ho hod;omega),if_neg (fun e=>h2 (by rw [hod,e]))];exact h1
     unfold wpOp;simp only [ho];rw [<- hw]
     split
     ·
      rename_i hwt;rw [if_pos hwt] at hobl;refine .inl ?_;unfold Oper.wp;rw [vQn];generalize (execOp (evOf fun t=>a.tmps.getD t undef) o).run P w=res at hobl ⊢;cases res with
      | ok n w'=>
       cases n<;>simp only [jQW,Oper.upon] at hobl ⊢
       · exact next _ _ hobl
       · exact next _ _ hobl
       ·
        refine hobl.mono fun e w'' he=>?_
        cases e with
        | returned v=>exact next _ _ he
        | panicked c=>exact he.elim
        | outgrown=>exact he.elim
      | halt x w'=>exact hobl.elim
     · rename_i hwt;rw [if_neg hwt] at hobl;exact next _ _ hobl
 have h0:∀ i,i < ops.size->(Array.replicate ops.size false).getD i true=false:=fun i hi=>by
  rw [Array.getD_eq_getD_getElem?,Array.getElem?_eq_getElem (by simpa using hi)];simp
 exact main ops.size (Array.replicate ops.size false) a0 w0.drew (by simp) (Nat.le_trans List.countP_le_length (by simp)) (fun i _ hi hx=>by
   rw [h0 i hi] at hx;cases hx)
  (fun i o ho hx=>by
   rw [h0 i (Array.getElem?_eq_some_iff.1 ho).1] at hx;cases hx)
  ⟨rfl,rfl,fun t _=>rfl⟩ (init _ fun i hi=>h0 i (Nat.lt_of_lt_of_le hi hf.le))
theorem jQW.imp {P:Program} {K K':Value->World->Prop} (h:∀ v w,K v w->K' v w) {r:Result Next} (hr:jQW P K r):jQW P K' r:=by
 cases r with
 | ok n w'=>
  cases n<;>simp only [jQW] at hr ⊢
  · exact h _ _ hr
  · exact h _ _ hr
  ·
   refine hr.mono fun e w'' he=>?_
   cases e with
   | returned v=>exact h _ _ he
   | panicked c=>exact he.elim
   | outgrown=>exact he.elim
 | halt x w'=>exact hr.elim
theorem Held.put {m:Nat} {a0 a:Act} {done:Nat->Bool} (hf:DForm ops m a0.tmps.size) (hh:Held ops m a0 done a):a=Jv (fun t=>a.tmps.getD t undef) ((dstL ops).take m) a0:=by
 have hdst:∀ i d,(dstL ops)[i]?=some (some d)↔∃ o:Oper,ops[i]?=some o/\o.dst=some d:=fun i d=>by
  unfold dstL;rw [List.getElem?_map,Option.map_eq_some_iff,Array.getElem?_toList]
 obtain ⟨p1,p2,p3⟩:=jQV (fun t=>a.tmps.getD t undef) ((dstL ops).take m) a0 (fun d hdm=>by
  obtain ⟨i,hi⟩:=List.mem_iff_getElem?.1 hdm;rw [List.getElem?_take] at hi
  split at hi
  · obtain ⟨o,ho,hod⟩:=(hdst i d).1 hi;exact hf.dst i o d ho hod
  · cases hi)
 refine Act.ext_getD (by rw [p1,hh.defers]) (by rw [p2,hh.size]) fun t=>?_
 rw [p3]
 split
 · rfl
 ·
  rename_i ht;refine hh.hold t fun i o him ho _ hod=>ht ?_
  refine List.mem_iff_getElem?.2 ⟨i,?_⟩;rw [List.getElem?_take,if_pos him];exact (hdst i t).2 ⟨o,ho,hod⟩
theorem Held.rest {m:Nat} {a0 a:Act} {done:Nat->Bool} (hh:Held ops m a0 done a) (l:List Nat):kQz ((dstL ops).take m) a0 (fun t=>a.tmps.getD t undef) l:=
 jJB (fun t ht=>by
  refine hh.hold t fun j oj hjm hoj _ hod=>?_
  have:vQw ((dstL ops).take m) t=true:=by
   unfold vQw;rw [List.contains_iff_mem];exact List.mem_iff_getElem?.2 ⟨j,by rw [List.getElem?_take,if_pos hjm];unfold dstL;rw [List.getElem?_map,Array.getElem?_toList,hoj];exact congrArg some hod⟩
  rw [this] at ht;cases ht) l
theorem depOf {o:Oper} {j:Nat} (hj:j∈zQK o):∃ e∈o.after,Region.binds .any e=true/\e.on=j:=by
 obtain ⟨e,he,hje⟩:=List.mem_filterMap.1 hj;cases hbb:Region.binds .any e with
 | false=>rw [hbb] at hje;cases hje
 | true=>
  rw [if_pos hbb] at hje;exact ⟨e,by simpa using he,hbb,Option.some.inj hje⟩
theorem zQy {m i j:Nat} {a0 a:Act} {oi oj:Oper} {d:Nat} (hf:DForm ops m a0.tmps.size) (hs:a.tmps.size=a0.tmps.size) (hi:i < m) (hj:j < m) (hij:j≠i) (hoi:ops[i]?=some oi) (hoj:ops[j]?=some oj) (hd:oj.dst=some d) (v:Value):(a.put oi.dst v).tmps.getD d undef=a.tmps.getD d undef:=by
 cases hod:oi.dst with
 | none=>rfl
 | some di=>
  rw [qQW _ _ _ _ (by have:=hf.dst i oi di hoi hod;omega),if_neg];intro e;subst e;exact hij (hf.apart j i oj oi _ hj hi hoj hoi hd hod)
theorem zQh {rid:Nat} {a0:Act} {w0:World} (m:Nat) (R:List (Value->World->Prop)) (Ext:World->World->Prop)
  (hm:P.follows .mixedOrders=true) (hok:kQY ops m a0.tmps.size=true) (hR:R.length=m)
  (refl:∀ x,Ext x x) (trans:∀ x y,Ext w0.drew x->Ext x y->Ext w0.drew y)
  (stable:∀ (i:Nat) r,R[i]?=some r->∀ v x y,Ext x y->r v x->r v y)
  (obl:vYj P a0 w0.drew Ext R (dstL ops) (ops.toList.take m) R)
  (fin:∀ (tv:Nat->Value) (w':World),Ext w0.drew w'→allR R tv w' ((dstL ops).take m)->wpList P ops Q (ops.toList.drop m) (Jv tv ((dstL ops).take m) a0) w') :
  (Code.region rid ops true).wp P Q a0 w0:=by
 have hf:=DForm.of hok
 refine qQO m (fun done a w=>Ext w0.drew w/\∀ (i:Nat) o d r,i < m->ops[i]?=some o->done i=true->o.dst=some d->R[i]?=some r->r (a.tmps.getD d undef) w) hm hok
  (fun done h=>⟨refl _,fun i o d r him _ hd=>by rw [h i him] at hd;cases hd⟩) ?_ ?_
 ·
  rintro i o done a w him ho hni edone _ hh ⟨hext,hr⟩ done' hset;obtain ⟨r,hri⟩:∃ r,R[i]?=some r:=⟨R[i]'(by omega),List.getElem?_eq_getElem (by omega)⟩
  have hobl:=vYj.at _ _ obl i o r (by rw [List.getElem?_take,if_pos him];simpa using ho) hri (fun t=>a.tmps.getD t undef) w hext (by rw [hR];exact hh.rest _)
   (xQS _ fun j hj d hjd=>by
    obtain ⟨e,he,hbind,rfl⟩:=depOf hj
    obtain ⟨oj,hoj,hod⟩:∃ o:Oper,ops[e.on]?=some o/\o.dst=some d:=by
     unfold dstL at hjd
     rwa [List.getElem?_map,Option.map_eq_some_iff,Array.getElem?_toList] at hjd
    have hb:=hf.back i o ho e he hbind;have hx:R[e.on]?=some (R[e.on]'(by omega)):=List.getElem?_eq_getElem (by omega);have:=hr e.on oj d _ (by omega) hoj (edone e he hbind) hod hx
    simpa [List.getD,hx] using this)
  have next:∀ v w',Ext w w'/\r v w'→Ext w0.drew w'/\∀ (i:Nat) o' d r,i < m->ops[i]?=some o'→done' i=true->o'.dst=some d->R[i]?=some r->r ((a.put o.dst v).tmps.getD d undef) w':=fun v w' ⟨hx,hrv⟩=>by
   refine ⟨trans _ _ hext hx,fun j oj d rj hjm hoj hj hod hrj=>?_⟩
   by_cases e:j=i
   · subst e;rw [ho] at hoj;obtain rfl:=Option.some.inj hoj;rw [hri] at hrj;obtain rfl:=Option.some.inj hrj;rw [hod,qQW _ _ _ _ (by have:=hf.dst j o d ho hod;have:=hh.size;omega),if_pos rfl];exact hrv
   · rw [zQy hf hh.size him hjm e ho hoj hod];exact stable j rj hrj _ _ _ hx (hr j oj d rj hjm hoj (((hset j).1 hj).resolve_left e) hod hrj)
  split
  · rename_i hwt;rw [if_pos hwt] at hobl;exact jQW.imp next hobl
  · rename_i hwt;rw [if_neg hwt] at hobl;exact next _ _ ⟨refl _,hobl⟩
 ·
  rintro done a w hfull hh ⟨hext,hr⟩
  have h:=fin (fun t=>a.tmps.getD t undef) w hext (qJe _ _ fun i d r hid hri=>by
   rw [List.getElem?_take] at hid
   split at hid
   ·
    rename_i him
    obtain ⟨o,ho,hod⟩:∃ o:Oper,ops[i]?=some o/\o.dst=some d:=by
     unfold dstL at hid
     rwa [List.getElem?_map,Option.map_eq_some_iff,Array.getElem?_toList] at hid
    exact hr i o d r him ho (hfull i him) hod hri
   · cases hid)
  rw [<- hh.put hf] at h;exact h
end
def Grow (w w':World):Prop:=Below w.heap.size w w'
theorem Grow.refl (w:World):Grow w w:=Below.refl _ _
theorem Grow.trans {a b c:World} (h:Grow a b) (k:Grow b c):Grow a c:=Below.trans h (Below.mono k h.size)
inductive Rsp where
 | is (v:Value)
 | cells (cs:List Value)
 | any (p:Value->World->Prop)
def Rsp.pred:Rsp->Value->World->Prop
 | .is c=>fun v _=>v=c
 | .cells cs=>fun v w=>∃ g,v=.slice (some ⟨g,0,none⟩) cs.length cs.length/\g < w.heap.size/\∀ i,i < cs.length->w.cell? ⟨g,i,none⟩=cs[i]?
 | .any p=>fun v w=>∃ w0,Grow w0 w/\p v w0
theorem Rsp.stable (r:Rsp) (v:Value) (x y:World) (h:Grow x y) (hr:r.pred v x):r.pred v y:=by
 cases r with
 | is c=>exact hr
 | cells cs=>
  obtain ⟨g,h1,h2,h3⟩:=hr;exact ⟨g,h1,Nat.lt_of_lt_of_le h2 h.size,fun i hi=>(h.cell (p:=⟨g,i,none⟩) h2).trans (h3 i hi)⟩
 | any p=>
  obtain ⟨w0,h1,h2⟩:=hr;exact ⟨w0,h1.trans h,h2⟩
@[go_sem] theorem Grow.self (w:World):Grow w w=True:=eq_true (Grow.refl w)
theorem Grow.alloc {a w:World} (h:Grow a w) (o:Obj):Grow a (w.alloc o):=Below.alloc h h.size o
theorem wp_region_grows {P:Program} {ops:Array Oper} {Q:Exit->Act->World->Prop} {rid:Nat} {a0:Act} {w0:World} (rs:List Rsp)
  (hm:P.follows .mixedOrders=true) (hok:kQY ops rs.length a0.tmps.size=true)
  (obl:vYj P a0 w0.drew Grow (rs.map Rsp.pred) (dstL ops) (ops.toList.take rs.length) (rs.map Rsp.pred))
  (fin:∀ (tv:Nat->Value) (w':World),Grow w0.drew w'→allR (rs.map Rsp.pred) tv w' ((dstL ops).take rs.length)->
   wpList P ops Q (ops.toList.drop rs.length) (Jv tv ((dstL ops).take rs.length) a0) w') :
  (Code.region rid ops true).wp P Q a0 w0:=
 zQh rs.length (rs.map Rsp.pred) Grow hm hok (by simp) Grow.refl (fun _ _ h k=>h.trans k)
  (fun i r hr v x y hx hv=>by
   rw [List.getElem?_map,Option.map_eq_some_iff] at hr;obtain ⟨q,_,rfl⟩:=hr;exact q.stable v x y hx hv) obl fin
theorem Grow.le {w w':World} (h:Grow w.drew w'):w.heap.size<=w'.heap.size:=h.size
theorem Grow.cells {w w':World} (h:Grow w.drew w'):(∀ b o,b < w.heap.size->w'.cell? ⟨b,o,none⟩=w.cell? ⟨b,o,none⟩)/\(∀ b o,b < w.heap.size->w'.frozen? ⟨b,o,none⟩=w.frozen? ⟨b,o,none⟩):=
 ⟨fun b o k=>(h.cell (p:=⟨b,o,none⟩) k).trans rfl,fun b o k=>(h.frozen (p:=⟨b,o,none⟩) k).trans rfl⟩
@[go_sem] theorem Grow.self_alloc (w:World) (o:Obj):Grow w (w.alloc o)=True:=eq_true ((Grow.refl w).alloc o)
theorem Grow.below {w X w':World} (hg:Grow X.drew w') (h:Below w.heap.size w X):Below w.heap.size w w':=h.drew.trans (Below.mono hg h.size)
@[go_sem] theorem boolOf_bool (b:Bool):zQI (.bool b)=some b:=rfl
end Tryst2
namespace Tryst3
open Go Go.RowKit
structure Ext (g:Nat) (C:Obj) (x y:World):Prop where
 os:y.os=x.os
 tape:y.tape=x.tape
 output:y.output=x.output
 size:x.heap.size<=y.heap.size
 block:∀ k,k < x.heap.size->k≠g->y.heap[k]?=x.heap[k]?
 row:y.heap[g]?=x.heap[g]?∨y.heap[g]?=some C
theorem Ext.refl (g:Nat) (C:Obj) (x:World):Ext g C x x:=⟨rfl,rfl,rfl,Nat.le_refl _,fun _ _ _=>rfl,.inl rfl⟩
@[go_sem] theorem Ext.refl_iff (g:Nat) (C:Obj) (x:World):Ext g C x x=True:=eq_true (Ext.refl g C x)
theorem Ext.trans {g:Nat} {C:Obj} {x y z:World} (h:Ext g C x y) (k:Ext g C y z):Ext g C x z:=
 ⟨k.os.trans h.os,k.tape.trans h.tape,k.output.trans h.output,Nat.le_trans h.size k.size,fun i hi hg=>(k.block i (Nat.lt_of_lt_of_le hi h.size) hg).trans (h.block i hi hg),by
  rcases k.row with e | e
  ·
   rcases h.row with f | f
   · exact .inl (e.trans f)
   · exact .inr (e.trans f)
  · exact .inr e⟩
theorem Ext.alloc (g:Nat) (C:Obj) (x:World) (hg:g < x.heap.size) (o:Obj):Ext g C x (x.alloc o):=
 ⟨rfl,rfl,rfl,by simp,fun k hk _=>Below.heap_alloc _ _ _ hk,.inl (Below.heap_alloc _ _ _ hg)⟩
theorem Ext.below {g:Nat} {C:Obj} {x y:World} (h:Ext g C x y) {B:Nat} (hB:B<=g) (hx:B<=x.heap.size):Below B x y:=
 ⟨h.os,h.tape,h.output,h.size,fun k hk=>h.block k (by omega) (by omega)⟩
theorem Ext.cell {g:Nat} {C:Obj} {x y:World} (h:Ext g C x y) {b:Nat} (hb:b < x.heap.size) (hg:b≠g) (o:Nat):y.cell? ⟨b,o,none⟩=x.cell? ⟨b,o,none⟩:=World.cell?_of_block (w:=x) (a:=⟨b,o,none⟩) (h.block b hb hg)
theorem Ext.frozen {g:Nat} {C:Obj} {x y:World} (h:Ext g C x y) {b:Nat} (hb:b < x.heap.size) (hg:b≠g) (o:Nat):y.frozen? ⟨b,o,none⟩=x.frozen? ⟨b,o,none⟩:=World.frozen?_of_block (w:=x) (a:=⟨b,o,none⟩) (h.block b hb hg)
inductive Rsp where
 | is (v:Value)
 | any (p:Value->World->Prop)
def Rsp.pred (g:Nat) (C:Obj):Rsp->Value->World->Prop
 | .is c=>fun v _=>v=c
 | .any p=>fun v w=>∃ w0,Ext g C w0 w/\p v w0
theorem Rsp.stable (g:Nat) (C:Obj) (r:Rsp) (v:Value) (x y:World) (h:Ext g C x y) (hr:r.pred g C v x):r.pred g C v y:=by
 cases r with
 | is c=>exact hr
 | any p=>obtain ⟨w0,h1,h2⟩:=hr;exact ⟨w0,h1.trans h,h2⟩
end Tryst3
namespace Tryst
open Go Go.RowKit Tryst2
theorem YL:(∀ {α β:Type} (f:α->β) (a:α) (l:List α),List.map f (a :: l)=f a :: List.map f l)/\(∀ {α β:Type} (f:α->β),List.map f []=[])/\(∀ {α:Type} (n:Nat) (a:α) (l:List α),List.take (n+1) (a :: l)=a :: List.take n l)/\(∀ {α:Type} (l:List α),List.take 0 l=[])/\
  (∀ {α:Type} (a:α) (l:List α),(a :: l).length=l.length+1)/\(∀ {α:Type},([]:List α).length=0)/\(∀ {α:Type} (l:List α),l.toArray.toList=l)/\(∀ ops:Array Oper,dstL ops=ops.toList.map (·.dst)):=
 ⟨fun _ _ _=>List.map_cons ..,fun _=>List.map_nil,fun _ _ _=>List.take_succ_cons,fun _=>List.take_zero,fun _ _=>List.length_cons,List.length_nil,fun _=>List.toList_toArray,fun _=>rfl⟩
theorem YO:(∀ n,Region.binds .any ⟨n,.data⟩=true)/\(∀ n,Region.binds .any ⟨n,.chain⟩=true)/\(∀ n,Region.binds .any ⟨n,.phase⟩=true)/\(∀ n,Region.binds .any ⟨n,.guard⟩=true)/\(∀ n d,Region.binds .any ⟨n,.textOnly d⟩=false)/\(∀ n d,Region.binds .any ⟨n,.gcOnly d⟩=false)/\
  ((false=true)=False)/\(∀ {α:Type} {_:Decidable False} (t e:α),(if False then t else e)=e)/\(∀ {α:Type} {_:Decidable True} (t e:α),(if True then t else e)=t)/\
  (∀ {α β:Type} (f:α->Option β) (a:α) (l:List α),List.filterMap f (a :: l)=match f a with | none=>List.filterMap f l | some b=>b :: List.filterMap f l)/\(∀ {α β:Type} (f:α->Option β),List.filterMap f []=[])/\
  (∀ dsts tv,K9 dsts tv none=true)/\(∀ dsts tv j want,K9 dsts tv (some (j,want))=(match (dsts[j]?).bind id with | some d=>zQI (tv d)==some want | none=>none==some want))/\
  (∀ {α β:Type} (f:α->β) (l:List α),(List.map f l).length=l.length)/\(∀ {α:Type} (a:α) (l:List α),(a :: l)[0]?=some a)/\(∀ {α:Type} (a:α) (l:List α) (n:Nat),(a :: l)[n+1]?=l[n]?)/\
  (∀ {α β:Type} (a:α) (f:α->Option β),(some a).bind f=f a)/\(∀ {α:Type} (a:α) (l:List α) (d:α),(a :: l).getD 0 d=a)/\(∀ {α:Type} (a:α) (l:List α) (n:Nat) (d:α),(a :: l).getD (n+1) d=l.getD n d)/\(∀ {α:Type} (a:α),id a=a)/\
  (∀ dsts t,vQw dsts t=dsts.contains (some t))/\(∀ o,zQO o=o.op.operands.toList.filterMap fun | .tmp t=>some t | _=>none)/\(∀ o,zQK o=o.after.toList.filterMap fun e=>if Region.binds .any e=true then some e.on else none)/\
  (∀ dsts a0 tv,kQz dsts a0 tv []=True)/\(∀ dsts a0 tv t l,kQz dsts a0 tv (t :: l)=((if vQw dsts t=true then True else tv t=a0.tmps.getD t undef)/\kQz dsts a0 tv l)):=
 ⟨fun _=>rfl,fun _=>rfl,fun _=>rfl,fun _=>rfl,fun _ _=>rfl,fun _ _=>rfl,by simp,fun _ _=>if_neg (fun h=>h),fun _ _=>if_pos trivial,fun f a l=>by cases h:f a<;>simp [List.filterMap_cons,h],fun _=>rfl,fun _ _=>rfl,fun _ _ _ _=>rfl,fun _ _=>List.length_map ..,fun _ _=>rfl,fun _ _ _=>rfl,fun _ _=>rfl,fun _ _ _=>rfl,fun _ _ _ _=>rfl,fun _=>rfl,fun _ _=>rfl,fun _=>rfl,fun _=>rfl,fun _ _ _=>rfl,fun _ _ _ _ _=>rfl⟩
theorem YA:(∀ P a0 w0 Ext R dsts o os r rs,vYj P a0 w0 Ext R dsts (o :: os) (r :: rs)=(Obl P a0 w0 Ext R dsts o r/\vYj P a0 w0 Ext R dsts os rs))/\(∀ P a0 w0 Ext R dsts rs,vYj P a0 w0 Ext R dsts [] rs=True)/\
  (∀ P a0 w0 Ext R dsts o r,Obl P a0 w0 Ext R dsts o r=∀ (tv:Nat->Value) (w':World),Ext w0 w'→kQz (dsts.take R.length) a0 tv (zQO o)->vQH R dsts tv w' (zQK o)->
   if K9 dsts tv o.guard=true then jQW P (fun v w''=>Ext w' w''/\r v w'') ((execOp (evOf tv) o).run P w') else r undef w')/\
  (∀ R dsts tv w,vQH R dsts tv w []=True)/\(∀ R dsts tv w j l,vQH R dsts tv w (j :: l)=((match (dsts[j]?).bind id with | some d=>(R.getD j (fun _ _=>True)) (tv d) w | none=>True)/\vQH R dsts tv w l)):=
 ⟨fun _ _ _ _ _ _ _ _ _ _=>rfl,fun _ _ _ _ _ _ rs=>by cases rs<;>rfl,fun _ _ _ _ _ _ _ _=>rfl,fun _ _ _ _=>rfl,fun _ _ _ _ _ _=>rfl⟩
theorem YR:(∀ c v w,Rsp.pred (.is c) v w=(v=c))/\(∀ cs v w,Rsp.pred (.cells cs) v w=∃ g,v=.slice (some ⟨g,0,none⟩) cs.length cs.length/\g < w.heap.size/\∀ i,i < cs.length->w.cell? ⟨g,i,none⟩=cs[i]?)/\(∀ p v w,Rsp.pred (.any p) v w=∃ w0,Grow w0 w/\p v w0):=
 ⟨fun _ _ _=>rfl,fun _ _ _=>rfl,fun _ _ _=>rfl⟩
theorem YF:(∀ R tv w,allR R tv w []=True)/\(∀ R tv w d l,allR R tv w (d :: l)=((match d,R with | some d,r :: _=>r (tv d) w | _,_=>True)/\allR R.tail tv w l))/\(∀ {α:Type} (a:α) (l:List α),(a :: l).tail=l):=
 ⟨fun _ _ _=>rfl,fun _ _ _ _ _=>rfl,fun _ _=>rfl⟩
theorem YP:(∀ tv a,Jv tv [] a=a)/\(∀ tv d l a,Jv tv (some d :: l) a=Jv tv l (a.put (some d) (tv d)))/\(∀ tv l a,Jv tv (none :: l) a=Jv tv l a)/\(∀ {α:Type} (n:Nat) (a:α) (l:List α),List.drop (n+1) (a :: l)=List.drop n l)/\(∀ {α:Type} (l:List α),List.drop 0 l=l)/\
  (∀ {α:Type} (l:List α) (i:Nat) (a:α),l.toArray.setIfInBounds i a=(l.set i a).toArray)/\(∀ {α:Type} (a b:α) (l:List α),(a :: l).set 0 b=b :: l)/\(∀ {α:Type} (a b:α) (l:List α) (n:Nat),(a :: l).set (n+1) b=a :: l.set n b):=
 ⟨fun _ _=>rfl,fun _ _ _ _=>rfl,fun _ _ _=>rfl,fun _ _ _=>rfl,fun _=>rfl,fun l i a=>List.setIfInBounds_toArray l i a,fun _ _ _=>rfl,fun _ _ _ _=>rfl⟩
theorem YG {w w':World} (h:Tryst2.Grow w.drew w'):(∀ b o,b < w.heap.size->w'.cell? ⟨b,o,none⟩=w.cell? ⟨b,o,none⟩)/\(∀ b o,b < w.heap.size->w'.frozen? ⟨b,o,none⟩=w.frozen? ⟨b,o,none⟩)/\w.heap.size<=w'.heap.size:=⟨(Tryst2.Grow.cells h).1,(Tryst2.Grow.cells h).2,Tryst2.Grow.le h⟩
