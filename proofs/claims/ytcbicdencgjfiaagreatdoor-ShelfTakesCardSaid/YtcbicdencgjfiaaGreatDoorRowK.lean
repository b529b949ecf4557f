import Derived.Test.YtcbicdencgjfiaaGreatDoorDraws
import Derived.Test.YtcbicdencgjfiaaGreatDoorFacts
set_option linter.all false
set_option maxHeartbeats 400000
namespace Tryst
open Go Go.RowKit
structure FB where
 name:ByteArray
 num:Bool
 n:Int
 s:ByteArray
def FB.fld (f:FB):Fld:=⟨f.name.data.toList,⟨f.num,f.n,f.s.data.toList⟩⟩
def FB.zero:FB:=⟨⟨#[]⟩,false,0,⟨#[]⟩⟩
theorem FB.ext' {a b:FB} (h:a.fld=b.fld):a=b:=by
 obtain ⟨an,ab,ai,aq⟩:=a;obtain ⟨bn,bb,bi,bs⟩:=b;simp only [FB.fld,Fld.mk.injEq,V.mk.injEq] at h;obtain ⟨h1,rfl,rfl,h2⟩:=h;rw [Xk h1,Xk h2]
structure FAt (w:World) (b o:Nat) (f:FB):Prop where
 c0:w.cell? ⟨b,o,none⟩=some (.string f.name)
 c1:w.cell? ⟨b,o+1,none⟩=some (.bool f.num)
 c2:w.cell? ⟨b,o+2,none⟩=some (.int .i64 f.n)
 c3:w.cell? ⟨b,o+3,none⟩=some (.string f.s)
def Flds (w:World) (a:Option Addr) (l:List FB):Prop:=∀ (i:Nat) (h:i < l.length),∃ b o,a=some ⟨b,o,none⟩/\b < w.heap.size/\FAt w b (o+i*4) l[i]
theorem FAt.grow {v w:World} {b o:Nat} {f:FB} (h:FAt v b o f) (hb:b < v.heap.size) (hw:Below v.heap.size v w):FAt w b o f:=by
 obtain ⟨h1,h2,h3,h4⟩:=h;exact ⟨by rw [hw.cell (p:=⟨b,o,none⟩) hb];exact h1,by rw [hw.cell (p:=⟨b,o+1,none⟩) hb];exact h2,by rw [hw.cell (p:=⟨b,o+2,none⟩) hb];exact h3,by rw [hw.cell (p:=⟨b,o+3,none⟩) hb];exact h4⟩
theorem Flds.grow {v w:World} {a:Option Addr} {l:List FB} (h:Flds v a l) (hw:Below v.heap.size v w):Flds w a l:=by
 intro i hi;obtain ⟨b,o,h1,h2,h3⟩:=h i hi;exact ⟨b,o,h1,Nat.lt_of_lt_of_le h2 hw.size,h3.grow h2 hw⟩
theorem Flds.nil (w:World) (a:Option Addr):Flds w a []:=fun i h=>absurd h (Nat.not_lt_zero i)
theorem Flds.head {w:World} {a:Option Addr} {l:List FB} (h:Flds w a l) {i:Nat} (hi:i < l.length):∃ b o,a=some ⟨b,o,none⟩/\b < w.heap.size:=by
 obtain ⟨b,o,h1,h2,_⟩:=h i hi;exact ⟨b,o,h1,h2⟩
theorem Flds.at {w:World} {b o:Nat} {l:List FB} (h:Flds w (some ⟨b,o,none⟩) l) {i:Nat} (hi:i < l.length):b < w.heap.size/\FAt w b (o+i*4) l[i]:=by
 obtain ⟨b',o',h1,h2,h3⟩:=h i hi;simp only [Option.some.injEq,Addr.mk.injEq,and_true] at h1;obtain ⟨rfl,rfl⟩:=h1;exact ⟨h2,h3⟩
def FB.cells (f:FB):List Value:=[.string f.name,.bool f.num,.int .i64 f.n,.string f.s]
theorem kQ3 (l:List FB):(l.flatMap FB.cells).length=l.length*4:=by
 induction l with
 | nil=>rfl
 | cons f l ih=>rw [List.flatMap_cons,List.length_append,ih,List.length_cons];simp [FB.cells];omega
theorem xQA:∀ (l:List FB) (i:Nat) (h:i < l.length) (j:Nat),j < 4->(l.flatMap FB.cells)[i*4+j]?=l[i].cells[j]?
 | f :: l,0,h,j,hj=>by
  rw [List.flatMap_cons,List.getElem?_append_left (by simp [FB.cells];omega)];simp
 | f :: l,i+1,h,j,hj=>by
  rw [List.flatMap_cons,List.getElem?_append_right (by simp [FB.cells];omega)];have:=xQA l i (by simpa using h) j hj;rw [List.getElem_cons_succ,<- this]
  congr 1
  simp [FB.cells];omega
structure Sl (a:Option Addr) (c n:Nat):Prop where
 cap:n<=c
 spot:∀ A,a=some A->A.spot=none
 zero:a=none->c=0
def FOwn (e:TypeId) (w:World) (base:Nat) (v:Value) (l:List FB):Prop:=w.ownsRow base e 4 v l.length (l.flatMap FB.cells)
theorem FOwn.nil (e:TypeId) (w:World) (base:Nat):FOwn e w base (.slice none 0 0) []:=World.ownsRow_nil w base e 4
theorem FOwn.flds {e:TypeId} {w:World} {base:Nat} {v:Value} {l:List FB} (h:FOwn e w base v l):∃ a c,v=.slice a l.length c/\Flds w a l/\(∀ b o,a=some ⟨b,o,none⟩->base<=b/\b < w.heap.size)/\(a=none->c=0)/\Sl a c l.length:=by
 have h0:=h
 rcases h.2 with ⟨rfl,hn⟩ | ⟨g,cap,cur,rfl,hg,hh,hcap,_⟩
 · have:l=[]:=List.eq_nil_of_length_eq_zero hn;subst this;exact ⟨none,0,rfl,Flds.nil _ _,fun b o h=>(by cases h),fun _=>rfl,⟨Nat.le_refl _,fun A h=>(by cases h),fun _=>rfl⟩⟩
 ·
  have hlt:g < w.heap.size:=(h.lt g rfl).2;refine ⟨some ⟨g,0,none⟩,cap,rfl,?_,fun b o h=>(by cases h;exact ⟨hg,hlt⟩),fun h=>(by cases h),⟨hcap,fun A h=>(by cases h;rfl),fun h=>(by cases h)⟩⟩;intro i hi;refine ⟨g,0,rfl,hlt,?_⟩;rw [Nat.zero_add]
  have hc:∀ j,j < 4->w.cell? ⟨g,i*4+j,none⟩=l[i].cells[j]?:=fun j hj=>by
   rw [h0.cellAt (i*4+j) (by omega),xQA l i hi j hj]
  exact ⟨hc 0 (by omega),hc 1 (by omega),hc 2 (by omega),hc 3 (by omega)⟩
theorem kQr {e:TypeId} {size n:Nat} {w w':World} {base:Nat} {v:Value} {xs:List Value} (h:w.ownsRow base e size v n xs) (hb:Below w.heap.size w w'):w'.ownsRow base e size v n xs:=by
 refine ⟨h.1,?_⟩
 rcases h.2 with h2 | ⟨g,cap,cur,h1,h2,h3,h4⟩
 · exact .inl h2
 · have hlt:g < w.heap.size:=(h.lt g (by rw [h1];rfl)).2;exact .inr ⟨g,cap,cur,h1,h2,(hb.block g hlt).trans h3,h4⟩
theorem FOwn.grow {e:TypeId} {w w':World} {base:Nat} {v:Value} {l:List FB} (h:FOwn e w base v l) (hb:Below w.heap.size w w'):FOwn e w' base v l:=kQr h hb
theorem zY4 {P:Program} {w:World} {ops:Array Oper} {rest:List Oper} {o:Oper} {a:Act} {Q:Exit->Act->World->Prop} {t e:TypeId} {bytes:Nat} (E:SliceOf P t e 4 bytes) (hgd:o.guard=none) (s x:Operand)
  (ho:o.op=.call { callee:=.builtin .append,args:=#[s,x],argTypes:=#[t,t] })
  (base:Nat) (v:Value) (l:List FB) (hs:a.eval s=v) (hown:FOwn e w base v l) (f:FB)
  (g:Nat) (hx:a.eval x=.slice (some ⟨g,0,none⟩) 1 1) (hf:FAt w g 0 f)
  (hn:l.length+1<=1073741824) (hbase:base<=w.heap.size)
  (h:∀ a' c' w',FOwn e w' base (.slice a' (l.length+1) c') (l++[f])->Below base w w'→wpList P ops Q rest (a.put o.dst (.slice a' (l.length+1) c')) w'):wpList P ops Q (o :: rest) a w:=by
 refine vQ0 E hgd s x ho base v l.length (l.flatMap FB.cells) hs hown ⟨g,0,none⟩ 1 1 f.cells hx rfl ?_ ?_ hn hbase ?_
 ·
  intro j u hj;rw [Addr.add_lit,Nat.zero_add];obtain ⟨h0,h1,h2,h3⟩:=hf
  match j with
  | 0=>simp [FB.cells] at hj;subst hj;exact h0
  | 1=>simp [FB.cells] at hj;subst hj;exact h1
  | 2=>simp [FB.cells] at hj;subst hj;exact h2
  | 3=>simp [FB.cells] at hj;subst hj;exact h3
  | j+4=>simp [FB.cells] at hj
 ·
  intro u hu;simp [FB.cells] at hu
  rcases hu with rfl | rfl | rfl | rfl<;>rfl
 ·
  intro v' w' ho' hb' _
  have ho2:FOwn e w' base v' (l++[f]):=by
   unfold FOwn;rw [List.flatMap_append,List.length_append]
   simpa using ho'
  obtain ⟨a',c',rfl,_⟩:=ho2.flds;rw [List.length_append] at ho2 ⊢;exact h a' c' w' ho2 hb'
theorem Flds.drew {w:World} {a:Option Addr} {l:List FB} (h:Flds w a l):Flds w.drew a l:=fun i hi=>by
 obtain ⟨b,o,h1,h2,h3⟩:=h i hi;exact ⟨b,o,h1,h2,⟨h3.c0,h3.c1,h3.c2,h3.c3⟩⟩
structure EAt (w:World) (b:Nat) (t p:ByteArray) (q:Int) (v:Value):Prop where
 c0:w.cell? ⟨b,0,none⟩=some (.string t)
 c1:w.cell? ⟨b,1,none⟩=some (.string p)
 c2:w.cell? ⟨b,2,none⟩=some (.int .u64 q)
 c3:w.cell? ⟨b,3,none⟩=some v
 f0:w.frozen? ⟨b,0,none⟩=false
 f1:w.frozen? ⟨b,1,none⟩=false
 f2:w.frozen? ⟨b,2,none⟩=false
 f3:w.frozen? ⟨b,3,none⟩=false
theorem EAt.of {w:World} {b:Nat} {t p:ByteArray} {q:Int} {v:Value} {T:TypeId} (h:w.heap[b]?=some (.cells #[.string t,.string p,.int .u64 q,v] T (0,0))):EAt w b t p q v:=by
 constructor<;>simp [World.cell?,World.frozen?,h]
theorem EAt.grow {v w:World} {b:Nat} {t p:ByteArray} {q:Int} {u:Value} (h:EAt v b t p q u) (hb:b < v.heap.size) (hw:Below v.heap.size v w):EAt w b t p q u:=by
 obtain ⟨h1,h2,h3,h4,g1,g2,g3,g4⟩:=h
 exact ⟨by rw [hw.cell (p:=⟨b,0,none⟩) hb];exact h1,by rw [hw.cell (p:=⟨b,1,none⟩) hb];exact h2,by rw [hw.cell (p:=⟨b,2,none⟩) hb];exact h3,by rw [hw.cell (p:=⟨b,3,none⟩) hb];exact h4,
  by rw [hw.frozen (p:=⟨b,0,none⟩) hb];exact g1,by rw [hw.frozen (p:=⟨b,1,none⟩) hb];exact g2,by rw [hw.frozen (p:=⟨b,2,none⟩) hb];exact g3,by rw [hw.frozen (p:=⟨b,3,none⟩) hb];exact g4⟩
theorem EAt.growB {v w:World} {b B:Nat} {t p:ByteArray} {q:Int} {u:Value} (h:EAt v b t p q u) (hb:b < B) (hw:Below B v w):EAt w b t p q u:=by
 obtain ⟨h1,h2,h3,h4,g1,g2,g3,g4⟩:=h
 exact ⟨by rw [hw.cell (p:=⟨b,0,none⟩) hb];exact h1,by rw [hw.cell (p:=⟨b,1,none⟩) hb];exact h2,by rw [hw.cell (p:=⟨b,2,none⟩) hb];exact h3,by rw [hw.cell (p:=⟨b,3,none⟩) hb];exact h4,
  by rw [hw.frozen (p:=⟨b,0,none⟩) hb];exact g1,by rw [hw.frozen (p:=⟨b,1,none⟩) hb];exact g2,by rw [hw.frozen (p:=⟨b,2,none⟩) hb];exact g3,by rw [hw.frozen (p:=⟨b,3,none⟩) hb];exact g4⟩
theorem FOwn.set {e:TypeId} {w:World} {base:Nat} {v:Value} {l:List FB} (h:FOwn e w base v l) {b o:Nat} (hb:b < base) (u:Value):FOwn e (w.setCell ⟨b,o,none⟩ u) base v l:=ownsRow_setCell_below h (a:=⟨b,o,none⟩) hb u
theorem FOwn.alloc {e:TypeId} {w:World} {base:Nat} {v:Value} {l:List FB} (h:FOwn e w base v l) (o:Obj):FOwn e (w.alloc o) base v l:=World.ownsRow.alloc h o
theorem Qg {C:Code} {P:Program} {Q:Exit->Act->World->Prop} {a:Act} {W:World} (F:World->Prop) (h:F W) (k:∀ w1,F w1->C.wp P Q a w1):C.wp P Q a W:=k W h
theorem EAt.set3 {w:World} {b:Nat} {t p:ByteArray} {q:Int} {u v:Value} (h:EAt w b t p q u):EAt (w.setCell ⟨b,3,none⟩ v) b t p q v:=by
 obtain ⟨h1,h2,h3,h4,g1,g2,g3,g4⟩:=h
 constructor<;>simp [Qz,Qv,h1,h2,h3,h4,g1,g2,g3,g4]
def Strs (w:World) (a:Option Addr) (l:List ByteArray):Prop:=∀ (i:Nat) (h:i < l.length),∃ b o,a=some ⟨b,o,none⟩/\b < w.heap.size/\w.cell? ⟨b,o+i,none⟩=some (.string l[i])
theorem Strs.grow {v w:World} {a:Option Addr} {l:List ByteArray} (h:Strs v a l) (hw:Below v.heap.size v w):Strs w a l:=by
 intro i hi;obtain ⟨b,o,h1,h2,h3⟩:=h i hi;exact ⟨b,o,h1,Nat.lt_of_lt_of_le h2 hw.size,by rw [hw.cell (p:=⟨b,o+i,none⟩) h2];exact h3⟩
theorem Strs.nil (w:World) (a:Option Addr):Strs w a []:=fun i h=>absurd h (Nat.not_lt_zero i)
theorem Strs.head {w:World} {a:Option Addr} {l:List ByteArray} (h:Strs w a l) {i:Nat} (hi:i < l.length):∃ b o,a=some ⟨b,o,none⟩/\b < w.heap.size:=by
 obtain ⟨b,o,h1,h2,_⟩:=h i hi;exact ⟨b,o,h1,h2⟩
theorem Strs.at {w:World} {b o:Nat} {l:List ByteArray} (h:Strs w (some ⟨b,o,none⟩) l) {i:Nat} (hi:i < l.length):b < w.heap.size/\w.cell? ⟨b,o+i,none⟩=some (.string l[i]):=by
 obtain ⟨b',o',h1,h2,h3⟩:=h i hi;simp only [Option.some.injEq,Addr.mk.injEq,and_true] at h1;obtain ⟨rfl,rfl⟩:=h1;exact ⟨h2,h3⟩
def SOwn (e:TypeId) (w:World) (base:Nat) (v:Value) (l:List ByteArray):Prop:=w.ownsRow base e 1 v l.length (l.map Value.string)
theorem SOwn.nil (e:TypeId) (w:World) (base:Nat):SOwn e w base (.slice none 0 0) []:=World.ownsRow_nil w base e 1
theorem SOwn.grow {e:TypeId} {w w':World} {base:Nat} {v:Value} {l:List ByteArray} (h:SOwn e w base v l) (hb:Below w.heap.size w w'):SOwn e w' base v l:=kQr h hb
theorem SOwn.strs {e:TypeId} {w:World} {base:Nat} {v:Value} {l:List ByteArray} (h:SOwn e w base v l):∃ a c,v=.slice a l.length c/\Strs w a l/\Sl a c l.length/\(∀ b o,a=some ⟨b,o,none⟩->base<=b/\b < w.heap.size):=by
 have h0:=h
 rcases h.2 with ⟨rfl,hn⟩ | ⟨g,cap,cur,rfl,hg,hh,hcap,_⟩
 · have:l=[]:=List.eq_nil_of_length_eq_zero hn;subst this;exact ⟨none,0,rfl,Strs.nil _ _,⟨Nat.le_refl _,fun A h=>(by cases h),fun _=>rfl⟩,fun b o h=>(by cases h)⟩
 · have hlt:g < w.heap.size:=(h.lt g rfl).2;refine ⟨some ⟨g,0,none⟩,cap,rfl,?_,⟨hcap,fun A h=>(by cases h;rfl),fun h=>(by cases h)⟩,fun b o h=>(by cases h;exact ⟨hg,hlt⟩)⟩;intro i hi;refine ⟨g,0,rfl,hlt,?_⟩;rw [Nat.zero_add,h0.cellAt i (by omega)];simp [hi]
theorem SOwn.row {e:TypeId} {w:World} {base:Nat} {v:Value} {l:List ByteArray} (h:SOwn e w base v l) (h0:0 < l.length):∃ g c,v=.slice (some ⟨g,0,none⟩) l.length c/\base<=g/\g < w.heap.size/\(∀ j,w.frozen? ⟨g,j,none⟩=false)/\(∀ (j:Nat) (h:j < l.length),w.cell? ⟨g,j,none⟩=some (.string l[j]))/\
  ∀ (j:Nat) (s:ByteArray),SOwn e (w.setCell ⟨g,j,none⟩ (.string s)) base v (l.set j s):=by
 have h1:=h
 rcases h.2 with ⟨_,hn⟩ | ⟨g,cap,cur,rfl,hg,_⟩
 · omega
 ·
  refine ⟨g,cap,rfl,hg,(h1.lt g rfl).2,fun j=>World.ownsRow.frozenAt h1 j,fun j hj=>?_,fun j s=>?_⟩
  · rw [h1.cellAt j (by omega)];simp [hj]
  · unfold SOwn;rw [List.length_set,List.map_set];exact (World.ownsRow.stored h1 j (.string s)).1
theorem zYd (l:List UInt8) (c:UInt8):dots (l++[c])=if c=46 then dots l++[[]] else (dots l).set ((dots l).length - 1) ((dots l).getD ((dots l).length - 1) []++[c]):=by
 induction l with
 | nil=>
  rw [List.nil_append,qQZ]
  split
  · rfl
  · rfl
 | cons b l ih=>
  rw [List.cons_append,qQZ,ih,qQZ]
  by_cases hc:c=46
  ·
   rw [if_pos hc,if_pos hc]
   by_cases hb:b=46
   · rw [if_pos hb,if_pos hb];rfl
   ·
    rw [if_neg hb,if_neg hb];cases hd:dots l with
    | nil=>exact absurd hd (kJ8 l)
    | cons p ps=>rfl
  ·
   rw [if_neg hc,if_neg hc]
   by_cases hb:b=46
   ·
    rw [if_pos hb,if_pos hb];cases hd:dots l with
    | nil=>exact absurd hd (kJ8 l)
    | cons p ps=>simp
   ·
    rw [if_neg hb,if_neg hb];cases hd:dots l with
    | nil=>exact absurd hd (kJ8 l)
    | cons p ps=>
     cases ps with
     | nil=>simp
     | cons q qs=>simp
def setB:List FB->FB->List FB
 | [],_=>[]
 | x :: r,f=>if x.name.data.toList=f.name.data.toList then f :: r else x :: setB r f
theorem FOwn.row {e:TypeId} {w:World} {base:Nat} {a:Option Addr} {c:Nat} {l:List FB} (h:FOwn e w base (.slice a l.length c) l) (h0:0 < l.length):∃ g,a=some ⟨g,0,none⟩/\base<=g/\g < w.heap.size/\∀ j,w.frozen? ⟨g,j,none⟩=false:=by
 have h1:=h
 rcases h.2 with ⟨_,hn⟩ | ⟨g,cap,cur,hv,hg,_⟩
 · omega
 · cases hv;exact ⟨g,rfl,hg,(h1.lt g rfl).2,fun j=>World.ownsRow.frozenAt h1 j⟩
theorem Flds.set {w:World} {b o:Nat} {l:List FB} (h:Flds w (some ⟨b,o,none⟩) l) {c j:Nat} (hc:c≠b) (u:Value):Flds (w.setCell ⟨c,j,none⟩ u) (some ⟨b,o,none⟩) l:=by
 intro i hi;obtain ⟨hb,f0,f1,f2,f3⟩:=h.at hi;refine ⟨b,o,rfl,by simpa using hb,?_⟩
 constructor<;>(rw [Qz,if_neg (fun h=>hc h.1)];assumption)
theorem Flds.growB {v w:World} {b o B:Nat} {l:List FB} (h:Flds v (some ⟨b,o,none⟩) l) (hb:b < B) (hw:Below B v w):Flds w (some ⟨b,o,none⟩) l:=by
 intro i hi;obtain ⟨h1,h2⟩:=h.at hi;obtain ⟨f0,f1,f2,f3⟩:=h2;exact ⟨b,o,rfl,Nat.lt_of_lt_of_le h1 hw.size,by rw [hw.cell (p:=⟨b,o+i*4,none⟩) hb];exact f0,by rw [hw.cell (p:=⟨b,o+i*4+1,none⟩) hb];exact f1,by rw [hw.cell (p:=⟨b,o+i*4+2,none⟩) hb];exact f2,by rw [hw.cell (p:=⟨b,o+i*4+3,none⟩) hb];exact f3⟩
theorem FAt.new (f:FB) (w:World) (T:TypeId):FAt (w.alloc (.cells #[.string f.name,.bool f.num,.int .i64 f.n,.string f.s] T)) w.heap.size 0 f:=by constructor<;>simp [go_sem]
def Away (v:Value) (k:Nat):Prop:=∀ a n c,v=.slice (some a) n c->a.block≠k
theorem Away.of {e:TypeId} {w:World} {base:Nat} {v:Value} {l:List FB} (h:FOwn e w base v l) {k:Nat} (hk:w.heap.size<=k):Away v k:=by
 intro a n c hv;have:=(h.lt a.block (by rw [hv];rfl)).2;omega
theorem FAt.of_block {w w':World} {g o:Nat} {f:FB} (h:FAt w g o f) (hb:w'.heap[g]?=w.heap[g]?):FAt w' g o f:=by
 obtain ⟨h0,h1,h2,h3⟩:=h;exact ⟨by rw [World.cell?_of_block (w:=w) (a:=⟨g,o,none⟩) hb];exact h0,by rw [World.cell?_of_block (w:=w) (a:=⟨g,o+1,none⟩) hb];exact h1,by rw [World.cell?_of_block (w:=w) (a:=⟨g,o+2,none⟩) hb];exact h2,by rw [World.cell?_of_block (w:=w) (a:=⟨g,o+3,none⟩) hb];exact h3⟩
end Tryst
namespace Tryst3
open Go Go.RowKit Tryst
theorem Ext.ev {g:Nat} {C:Obj} {x y:World} (h:Ext g C x y) {b:Nat} {t p:ByteArray} {q:Int} {v:Value} (e:EAt x b t p q v) (hb:b < x.heap.size) (hn:b≠g):EAt y b t p q v:=by
 obtain ⟨h1,h2,h3,h4,g1,g2,g3,g4⟩:=e;exact ⟨by rw [h.cell hb hn];exact h1,by rw [h.cell hb hn];exact h2,by rw [h.cell hb hn];exact h3,by rw [h.cell hb hn];exact h4,by rw [h.frozen hb hn];exact g1,by rw [h.frozen hb hn];exact g2,by rw [h.frozen hb hn];exact g3,by rw [h.frozen hb hn];exact g4⟩
theorem Ext.fat {g:Nat} {C:Obj} {x y:World} (h:Ext g C x y) {b o:Nat} {f:FB} (e:FAt x b o f) (hb:b < x.heap.size) (hn:b≠g):FAt y b o f:=by
 obtain ⟨h1,h2,h3,h4⟩:=e;exact ⟨by rw [h.cell hb hn];exact h1,by rw [h.cell hb hn];exact h2,by rw [h.cell hb hn];exact h3,by rw [h.cell hb hn];exact h4⟩
theorem Ext.flds {g:Nat} {C:Obj} {x y:World} (h:Ext g C x y) {b o:Nat} {l:List FB} (e:Flds x (some ⟨b,o,none⟩) l) (hn:b≠g):Flds y (some ⟨b,o,none⟩) l:=by
 intro i hi;obtain ⟨hb,hf⟩:=e.at hi;exact ⟨b,o,rfl,Nat.lt_of_lt_of_le hb h.size,h.fat hf hb hn⟩
end Tryst3
namespace Tryst
open Go Go.Lib
structure Tp where
 name:ByteArray
 first:Int
 log:List ByteArray
theorem Tp.ext' {a b:Tp} (h1:a.name=b.name) (h2:a.first=b.first) (h3:a.log=b.log):a=b:=by cases a;cases b;simp_all
def ofB (s n:ByteArray):Bool:=decide ((qQB s.data.toList).2.2=0)&&(decide ((qQB s.data.toList).2.1=s.size)&&decide ((qQB s.data.toList).1.topic=n.data.toList))
def tMay (t:Tp):Bool:=Yx t.name.data.toList&&(decide (0<=t.first)&&(decide (t.log.length<=100)&&(decide (t.first<=1099511627775 - t.log.length)&&t.log.all (fun s=>ofB s t.name))))
def Kf (a b:ByteArray):Bool:=Op.bytesLess a.data.toList b.data.toList
def okT:Option ByteArray->List Tp->Bool
 | _,[]=>true
 | p,t :: r=>tMay t&&((match p with | none=>true | some q=>Kf q t.name)&&okT (some t.name) r)
def jQo (l:List Tp):Bool:=decide (l.length<=20)&&okT none l
theorem jJ7 {p:Option ByteArray} {t:Tp} {r:List Tp}:okT p (t :: r)=true↔tMay t=true/\(∀ q,p=some q->Kf q t.name=true)/\okT (some t.name) r=true:=by
 have e:okT p (t :: r)=(tMay t&&((match p with | none=>true | some q=>Kf q t.name)&&okT (some t.name) r)):=by cases p<;>rfl
 rw [e];cases p with
 | none=>simp
 | some q=>simp
def isT (n:ByteArray) (t:Tp):Bool:=decide (t.name.data.toList=n.data.toList)
def zQZ (l:List Tp) (n:ByteArray):Option Nat:=l.findIdx? (isT n)
theorem xQM {l:List Tp} {p:Option ByteArray} (h:okT p l=true):∀ t∈l,tMay t=true:=by
 induction l generalizing p with
 | nil=>intro t ht;cases ht
 | cons x r ih=>
  rw [jJ7] at h;intro t ht
  rcases List.mem_cons.1 ht with rfl | ht
  · exact h.1
  · exact ih h.2.2 t ht
theorem zYI {l:List Tp} {n:ByteArray} {i:Nat} (h:zQZ l n=some i):∃ hi:i < l.length,l[i].name=n:=by
 unfold zQZ at h;rw [List.findIdx?_eq_some_iff_getElem] at h;obtain ⟨hi,h1,_⟩:=h;exact ⟨hi,Xk (by simpa [isT] using h1)⟩
end Tryst
namespace Tryst
open Go Go.Lib
structure OB where
 topic:ByteArray
 next:Int
def oMay (x:OB):Bool:=Yx x.topic.data.toList&&decide (0<=x.next)
def okO:Option ByteArray->List OB->Bool
 | _,[]=>true
 | p,t :: r=>oMay t&&((match p with | none=>true | some q=>Kf q t.topic)&&okO (some t.topic) r)
def vQ9 (l:List OB):Bool:=decide (l.length<=20)&&okO none l
theorem vY8 {p:Option ByteArray} {t:OB} {r:List OB}:okO p (t :: r)=true↔oMay t=true/\(∀ q,p=some q->Kf q t.topic=true)/\okO (some t.topic) r=true:=by
 have e:okO p (t :: r)=(oMay t&&((match p with | none=>true | some q=>Kf q t.topic)&&okO (some t.topic) r)):=by cases p<;>rfl
 rw [e];cases p with
 | none=>simp
 | some q=>simp
def isO (n:ByteArray) (t:OB):Bool:=decide (t.topic.data.toList=n.data.toList)
theorem vYY {l:List OB} {p:Option ByteArray} (h:okO p l=true):∀ t∈l,oMay t=true:=by
 induction l generalizing p with
 | nil=>intro t ht;cases ht
 | cons x r ih=>
  rw [vY8] at h;intro t ht
  rcases List.mem_cons.1 ht with rfl | ht
  · exact h.1
  · exact ih h.2.2 t ht
end Tryst
namespace Tryst
open Go Go.Lib
section
variable {want:ByteArray->Bool} {T:List Tp} (hT:jQo T=true)
include hT
end
end Tryst
namespace Tryst
open Go Go.RowKit
def Row (w:World) (a:Option Addr) (k:Nat) (l:List (List Value)):Prop:=
 ∀ (i:Nat) (h:i < l.length),∃ b o,a=some ⟨b,o,none⟩/\b < w.heap.size/\∀ j,j < k->w.cell? ⟨b,o+i*k+j,none⟩=l[i][j]?
theorem Row.grow {v w:World} {a:Option Addr} {k:Nat} {l:List (List Value)} (h:Row v a k l) (hw:Below v.heap.size v w):Row w a k l:=by
 intro i hi;obtain ⟨b,o,h1,h2,h3⟩:=h i hi;exact ⟨b,o,h1,Nat.lt_of_lt_of_le h2 hw.size,fun j hj=>by rw [hw.cell (p:=⟨b,o+i*k+j,none⟩) h2];exact h3 j hj⟩
theorem Row.nil (w:World) (a:Option Addr) (k:Nat):Row w a k []:=fun i h=>absurd h (Nat.not_lt_zero i)
theorem Row.head {w:World} {a:Option Addr} {k:Nat} {l:List (List Value)} (h:Row w a k l) {i:Nat} (hi:i < l.length):∃ b o,a=some ⟨b,o,none⟩/\b < w.heap.size:=by
 obtain ⟨b,o,h1,h2,_⟩:=h i hi;exact ⟨b,o,h1,h2⟩
theorem Row.at {w:World} {b o k:Nat} {l:List (List Value)} (h:Row w (some ⟨b,o,none⟩) k l) {i:Nat} (hi:i < l.length):b < w.heap.size/\∀ j,j < k->w.cell? ⟨b,o+i*k+j,none⟩=l[i][j]?:=by
 obtain ⟨b',o',h1,h2,h3⟩:=h i hi;simp only [Option.some.injEq,Addr.mk.injEq,and_true] at h1;obtain ⟨rfl,rfl⟩:=h1;exact ⟨h2,h3⟩
theorem Row.away {w:World} {a:Option Addr} {k:Nat} {l:List (List Value)} (h:Row w a k l) {c j:Nat} (hc:∀ b o,a=some ⟨b,o,none⟩->c≠b) (u:Value):Row (w.setCell ⟨c,j,none⟩ u) a k l:=by
 intro i hi;obtain ⟨b,o,h1,h2,h3⟩:=h i hi;exact ⟨b,o,h1,by simpa using h2,fun m hm=>by rw [Qz,if_neg (fun e=>hc b o h1 e.1)];exact h3 m hm⟩
theorem Row.drop {w:World} {b o k:Nat} {l:List (List Value)} (h:Row w (some ⟨b,o,none⟩) k l) (m:Nat):Row w (some ⟨b,o+m*k,none⟩) k (l.drop m):=by
 intro i hi;rw [List.length_drop] at hi;obtain ⟨h2,h3⟩:=h.at (i:=m+i) (by omega);refine ⟨b,o+m*k,rfl,h2,fun j hj=>?_⟩;rw [List.getElem_drop,<- h3 j hj]
 congr 2
 rw [Nat.add_mul];omega
theorem Row.take {w:World} {a:Option Addr} {k:Nat} {l:List (List Value)} (h:Row w a k l) (m:Nat):Row w a k (l.take m):=by
 intro i hi;rw [List.length_take] at hi;obtain ⟨b,o,h1,h2,h3⟩:=h i (by omega);exact ⟨b,o,h1,h2,fun j hj=>by rw [List.getElem_take];exact h3 j hj⟩
theorem qQx {k:Nat}:∀ {l:List (List Value)},(∀ x∈l,x.length=k)->l.flatten.length=l.length*k
 | [],_=>by simp
 | x :: l,h=>by
  rw [List.flatten_cons,List.length_append,qQx (fun y hy=>h y (List.mem_cons_of_mem _ hy)),h x List.mem_cons_self,List.length_cons,Nat.add_mul];omega
theorem qQn {k:Nat}:∀ {l:List (List Value)},(∀ x∈l,x.length=k)->∀ (i:Nat) (h:i < l.length) (j:Nat),j < k->l.flatten[i*k+j]?=l[i][j]?
 | x :: l,hl,0,h,j,hj=>by
  rw [List.flatten_cons,List.getElem?_append_left (by have:=hl x List.mem_cons_self;omega)];simp
 | x :: l,hl,i+1,h,j,hj=>by
  have hx:=hl x List.mem_cons_self;rw [List.flatten_cons,List.getElem?_append_right (by rw [hx,Nat.add_mul];omega),hx];have:=qQn (fun y hy=>hl y (List.mem_cons_of_mem _ hy)) i (by simpa using h) j hj;rw [List.getElem_cons_succ,<- this]
  congr 1
  rw [Nat.add_mul];omega
theorem zQd {k:Nat}:∀ {l:List (List Value)},(∀ x∈l,x.length=k)->∀ (i:Nat) (h:i < l.length) (j:Nat),j < k->∀ u,(l.set i (l[i].set j u)).flatten=l.flatten.set (i*k+j) u
 | x :: l,hl,0,h,j,hj,u=>by
  have hx:=hl x List.mem_cons_self;simp only [List.set_cons_zero,List.getElem_cons_zero,List.flatten_cons,Nat.zero_mul,Nat.zero_add];rw [List.set_append_left _ _ (by omega)]
 | x :: l,hl,i+1,h,j,hj,u=>by
  have hx:=hl x List.mem_cons_self;have:=zQd (fun y hy=>hl y (List.mem_cons_of_mem _ hy)) i (by simpa using h) j hj u;rw [List.set_cons_succ,List.getElem_cons_succ,List.flatten_cons,this,List.flatten_cons,List.set_append_right _ _ (by rw [hx,Nat.add_mul];omega),hx]
  congr 2
  rw [Nat.add_mul];omega
theorem Row.cells {w:World} {b o k:Nat} {l:List (List Value)} (h:Row w (some ⟨b,o,none⟩) k l) (hl:∀ x∈l,x.length=k) (hk:0 < k):∀ (j:Nat) u,l.flatten[j]?=some u->w.cell? ((⟨b,o,none⟩:Addr).add j)=some u:=by
 intro j u hj;have hjl:j < l.length*k:=by rw [<- qQx hl];exact (List.getElem?_eq_some_iff.1 hj).1
 have hi:j / k < l.length:=Nat.div_lt_of_lt_mul (by rw [Nat.mul_comm];exact hjl);have hm:j % k < k:=Nat.mod_lt _ hk;have e:=qQn hl (j / k) hi (j % k) hm;have hd:j / k*k+j % k=j:=by rw [Nat.mul_comm];exact Nat.div_add_mod j k
 rw [hd,hj] at e;rw [Addr.add_lit,e,<- (h.at hi).2 (j % k) hm]
 congr 2
 omega
def ROwn (e:TypeId) (k:Nat) (w:World) (base:Nat) (v:Value) (l:List (List Value)):Prop:=w.ownsRow base e k v l.length l.flatten
theorem ROwn.nil (e:TypeId) (k:Nat) (w:World) (base:Nat):ROwn e k w base (.slice none 0 0) []:=World.ownsRow_nil w base e k
theorem ROwn.grow {e:TypeId} {k:Nat} {w w':World} {base:Nat} {v:Value} {l:List (List Value)} (h:ROwn e k w base v l) (hb:Below w.heap.size w w'):ROwn e k w' base v l:=kQr h hb
theorem ROwn.alloc {e:TypeId} {k:Nat} {w:World} {base:Nat} {v:Value} {l:List (List Value)} (h:ROwn e k w base v l) (o:Obj):ROwn e k (w.alloc o) base v l:=World.ownsRow.alloc h o
theorem ROwn.below {e:TypeId} {k:Nat} {w:World} {base:Nat} {v:Value} {l:List (List Value)} (h:ROwn e k w base v l) {b o:Nat} (hb:b < base) (u:Value):ROwn e k (w.setCell ⟨b,o,none⟩ u) base v l:=ownsRow_setCell_below h (a:=⟨b,o,none⟩) hb u
theorem ROwn.lower {e:TypeId} {k:Nat} {w:World} {base base':Nat} {v:Value} {l:List (List Value)} (h:ROwn e k w base v l) (hb:base'<=base):ROwn e k w base' v l:=by
 refine ⟨h.1,?_⟩
 rcases h.2 with h2 | ⟨g,cap,cur,h1,h2,h3,h4⟩
 · exact .inl h2
 · exact .inr ⟨g,cap,cur,h1,by omega,h3,h4⟩
theorem ROwn.row {e:TypeId} {k:Nat} {w:World} {base:Nat} {v:Value} {l:List (List Value)} (h:ROwn e k w base v l) (hl:∀ x∈l,x.length=k) (hk:0 < k) :
  ∃ a c,v=.slice a l.length c/\Row w a k l/\Sl a c l.length/\(∀ b o,a=some ⟨b,o,none⟩->base<=b/\b < w.heap.size/\o=0):=by
 have h0:=h
 rcases h.2 with ⟨rfl,hn⟩ | ⟨g,cap,cur,rfl,hg,hh,hcap,_⟩
 · have:l=[]:=List.eq_nil_of_length_eq_zero hn;subst this;exact ⟨none,0,rfl,Row.nil _ _ _,⟨Nat.le_refl _,fun A h=>(by cases h),fun _=>rfl⟩,fun b o h=>(by cases h)⟩
 ·
  have hlt:g < w.heap.size:=(h.lt g rfl).2;refine ⟨some ⟨g,0,none⟩,cap,rfl,?_,⟨hcap,fun A h=>(by cases h;rfl),fun h=>(by cases h)⟩,fun b o h=>(by cases h;exact ⟨hg,hlt,rfl⟩)⟩;intro i hi;refine ⟨g,0,rfl,hlt,fun j hj=>?_⟩;rw [Nat.zero_add]
  have h5:i*k+j < l.length*k:=by
   have:(i+1)*k<=l.length*k:=Nat.mul_le_mul_right k hi;rw [Nat.add_mul] at this;omega
  rw [h0.cellAt (i*k+j) h5,qQn hl i hi j hj]
theorem ROwn.block {e:TypeId} {k:Nat} {w:World} {base:Nat} {v:Value} {l:List (List Value)} (h:ROwn e k w base v l) (hl:∀ x∈l,x.length=k) (h0:0 < l.length) :
  ∃ g c,v=.slice (some ⟨g,0,none⟩) l.length c/\base<=g/\g < w.heap.size/\(∀ j,w.frozen? ⟨g,j,none⟩=false)/\
   (∀ (i:Nat) (hi:i < l.length) (j:Nat),j < k->w.cell? ⟨g,i*k+j,none⟩=l[i][j]?)/\
   ∀ (i:Nat) (hi:i < l.length) (j:Nat),j < k->∀ u,ROwn e k (w.setCell ⟨g,i*k+j,none⟩ u) base v (l.set i (l[i].set j u)):=by
 have h1:=h
 rcases h.2 with ⟨_,hn⟩ | ⟨g,cap,cur,rfl,hg,_⟩
 · omega
 ·
  refine ⟨g,cap,rfl,hg,(h1.lt g rfl).2,fun j=>World.ownsRow.frozenAt h1 j,fun i hi j hj=>?_,fun i hi j hj u=>?_⟩
  ·
   have h5:i*k+j < l.length*k:=by
    have:(i+1)*k<=l.length*k:=Nat.mul_le_mul_right k hi;rw [Nat.add_mul] at this;omega
   rw [h1.cellAt (i*k+j) h5,qQn hl i hi j hj]
  · unfold ROwn;rw [List.length_set,zQd hl i hi j hj u];exact (World.ownsRow.stored h1 (i*k+j) u).1
theorem Kq {P:Program} {w:World} {ops:Array Oper} {rest:List Oper} {o:Oper} {a:Act} {Q:Exit->Act->World->Prop} {t e:TypeId} {k bytes:Nat} (E:SliceOf P t e k bytes) (hgd:o.guard=none) (s x:Operand)
  (ho:o.op=.call { callee:=.builtin .append,args:=#[s,x],argTypes:=#[t,t] })
  (base:Nat) (v:Value) (l:List (List Value)) (n:Nat) (hln:l.length=n) (hs:a.eval s=v) (hown:ROwn e k w base v l) (f:List Value) (hfk:f.length=k) (h1:∀ u∈f,u.oneCell'=true)
  (g:Nat) (hx:a.eval x=.slice (some ⟨g,0,none⟩) 1 1) (hf:∀ j,j < k->w.cell? ⟨g,j,none⟩=f[j]?)
  (hn:n+1<=1073741824) (hbase:base<=w.heap.size)
  (h:∀ v' w',ROwn e k w' base v' (l++[f])->Below base w w'→(∀ k,k < w.heap.size->Away v k->w'.heap[k]?=w.heap[k]?)->wpList P ops Q rest (a.put o.dst v') w'):wpList P ops Q (o :: rest) a w:=by
 subst hln;obtain ⟨i,z,hi,hz,h2,h3,h4⟩:=E.info;have hown':w.ownsRow base e k v l.length l.flatten:=hown;refine wpList_append_own w hgd s x t ho base e i z k bytes E.und hi hz h2 h3 h4 E.pos v l.length l.flatten hs hown' ⟨g,0,none⟩ 1 1 f hx (by omega) ?_ h1 (by unfold maxLen;omega) ?_ hbase ?_
 · intro j u hj;rw [Addr.add_lit,Nat.zero_add];rw [hf j (by rw [<- hfk];exact (List.getElem?_eq_some_iff.1 hj).1)];exact hj
 ·
  have:=E.small
  calc (l.length+1)*bytes<=1073741824*65536:=Nat.mul_le_mul hn this
   _<=_:=by decide
 ·
  intro v' w' ho' hg' _
  have ho2:ROwn e k w' base v' (l++[f]):=by
   unfold ROwn;rw [List.flatten_append,List.length_append]
   simpa using ho'
  refine h v' w' ho2 ((Below.refl base w).grown hg' hbase fun k hk=>(hown'.lt k hk).1) fun k hk ha=>hg'.block k hk fun hc=>?_
  cases v with
  | slice a0 n c=>
   cases a0 with
   | none=>simp [Value.ownBlock] at hc
   | some A=>simp [Value.ownBlock] at hc;exact ha A n c rfl hc.symm
  | _=>simp [Value.ownBlock] at hc
theorem jQN {e:TypeId} {size n:Nat} {w w':World} {base:Nat} {v:Value} {xs:List Value} (h:w.ownsRow base e size v n xs) (hb:∀ A n c,v=.slice (some A) n c->w'.heap[A.block]?=w.heap[A.block]?):w'.ownsRow base e size v n xs:=by
 refine ⟨h.1,?_⟩
 rcases h.2 with h2 | ⟨g,cap,cur,h1,h2,h3,h4⟩
 · exact .inl h2
 · exact .inr ⟨g,cap,cur,h1,h2,(hb _ _ _ h1).trans h3,h4⟩
theorem xQN {P:Program} {w:World} {ops:Array Oper} {rest:List Oper} {o:Oper} {a:Act} {Q:Exit->Act->World->Prop} {t e:TypeId} {k bytes:Nat} (E:SliceOf P t e k bytes) (hgd:o.guard=none) (s x:Operand)
  (ho:o.op=.call { callee:=.builtin .append,args:=#[s,x],argTypes:=#[t,t] })
  (base:Nat) (v:Value) (l:List (List Value)) (n:Nat) (hln:l.length=n) (hs:a.eval s=v) (hown:ROwn e k w base v l) (r:List (List Value)) (m:Nat) (hm:r.length=m) (hr:∀ x∈r,x.length=k) (h1:∀ x∈r,∀ u∈x,u.oneCell'=true)
  (b i c:Nat) (hx:a.eval x=.slice (some ⟨b,i,none⟩) m c) (hf:Row w (some ⟨b,i,none⟩) k r)
  (hn:n+m<=1073741824) (hbase:base<=w.heap.size)
  (h:∀ v' w',ROwn e k w' base v' (l++r)->Below base w w'→wpList P ops Q rest (a.put o.dst v') w'):wpList P ops Q (o :: rest) a w:=by
 subst hln hm;obtain ⟨_,_,_,_,_,_,_⟩:=E.info;refine vQ0 E hgd s x ho base v l.length l.flatten hs hown ⟨b,i,none⟩ r.length c r.flatten hx (qQx hr) (hf.cells hr E.pos) ?_ hn hbase ?_
 · intro u hu;obtain ⟨x,hx,hux⟩:=List.mem_flatten.1 hu;exact h1 x hx u hux
 · intro v' w' h2 h3 _;refine h v' w' ?_ h3;unfold ROwn;rw [List.flatten_append,List.length_append];exact h2
theorem zQ9 {w:World} {a:Option Addr} {l:List ByteArray}:Strs w a l↔Row w a 1 (l.map fun s=>[Value.string s]):=by
 constructor
 ·
  intro h i hi;rw [List.length_map] at hi;obtain ⟨b,o,h1,h2,h3⟩:=h i hi;refine ⟨b,o,h1,h2,fun j hj=>?_⟩;have:j=0:=by omega
  subst this
  simpa using h3
 ·
  intro h i hi;obtain ⟨b,o,h1,h2,h3⟩:=h i (by simpa using hi);refine ⟨b,o,h1,h2,?_⟩;have:=h3 0 (by omega)
  simpa using this
theorem Strs.drop {w:World} {b o:Nat} {l:List ByteArray} (h:Strs w (some ⟨b,o,none⟩) l) (m:Nat):Strs w (some ⟨b,o+m,none⟩) (l.drop m):=by
 intro i hi;rw [List.length_drop] at hi;obtain ⟨h2,h3⟩:=h.at (i:=m+i) (by omega);refine ⟨b,o+m,rfl,h2,?_⟩;rw [List.getElem_drop,<- h3,Nat.add_assoc]
theorem Strs.take {w:World} {a:Option Addr} {l:List ByteArray} (h:Strs w a l) (m:Nat):Strs w a (l.take m):=by
 intro i hi;rw [List.length_take] at hi;obtain ⟨b,o,h1,h2,h3⟩:=h i (by omega);exact ⟨b,o,h1,h2,by rw [List.getElem_take];exact h3⟩
theorem Strs.away {w:World} {a:Option Addr} {l:List ByteArray} (h:Strs w a l) {c j:Nat} (hc:∀ b o,a=some ⟨b,o,none⟩->c≠b) (u:Value):Strs (w.setCell ⟨c,j,none⟩ u) a l:=by
 intro i hi;obtain ⟨b,o,h1,h2,h3⟩:=h i hi;exact ⟨b,o,h1,by simpa using h2,by rw [Qz,if_neg (fun e=>hc b o h1 e.1)];exact h3⟩
structure TB where
 name:ByteArray
 first:Int
 la:Option Addr
 log:List ByteArray
 lc:Nat
def TB.cells (t:TB):List Value:=[.string t.name,.int .i64 t.first,.slice t.la t.log.length t.lc]
theorem TB.cells_len (l:List TB):∀ x∈l.map TB.cells,x.length=3:=by
 intro x hx;obtain ⟨t,_,rfl⟩:=List.mem_map.1 hx;rfl
theorem TB.cells_one (l:List TB):∀ x∈l.map TB.cells,∀ u∈x,u.oneCell'=true:=by
 intro x hx u hu;obtain ⟨t,_,rfl⟩:=List.mem_map.1 hx;simp [TB.cells] at hu
 rcases hu with rfl | rfl | rfl<;>rfl
def TB.tp (t:TB):Tp:=⟨t.name,t.first,t.log⟩
def vQT (w:World) (l:List TB):Prop:=∀ t∈l,Strs w t.la t.log/\Sl t.la t.lc t.log.length
theorem vQT.grow {v w:World} {l:List TB} (h:vQT v l) (hw:Below v.heap.size v w):vQT w l:=fun t ht=>⟨(h t ht).1.grow hw,(h t ht).2⟩
def Tops (w:World) (a:Option Addr) (l:List TB):Prop:=Row w a 3 (l.map TB.cells)/\vQT w l
theorem Tops.grow {v w:World} {a:Option Addr} {l:List TB} (h:Tops v a l) (hw:Below v.heap.size v w):Tops w a l:=⟨h.1.grow hw,h.2.grow hw⟩
theorem Tops.nil (w:World) (a:Option Addr):Tops w a []:=⟨Row.nil _ _ _,fun t h=>by cases h⟩
structure TAt (w:World) (b o:Nat) (t:TB):Prop where
 c0:w.cell? ⟨b,o,none⟩=some (.string t.name)
 c1:w.cell? ⟨b,o+1,none⟩=some (.int .i64 t.first)
 c2:w.cell? ⟨b,o+2,none⟩=some (.slice t.la t.log.length t.lc)
theorem Tops.head {w:World} {a:Option Addr} {l:List TB} (h:Tops w a l) {i:Nat} (hi:i < l.length):∃ b o,a=some ⟨b,o,none⟩/\b < w.heap.size:=h.1.head (by simpa using hi)
theorem Tops.at {w:World} {b o:Nat} {l:List TB} (h:Tops w (some ⟨b,o,none⟩) l) {i:Nat} (hi:i < l.length):b < w.heap.size/\TAt w b (o+i*3) l[i]/\Strs w l[i].la l[i].log/\Sl l[i].la l[i].lc l[i].log.length:=by
 obtain ⟨h1,h2⟩:=h.1.at (i:=i) (by simpa using hi);simp only [List.getElem_map] at h2;exact ⟨h1,⟨h2 0 (by omega),h2 1 (by omega),h2 2 (by omega)⟩,h.2 _ (List.getElem_mem hi)⟩
