import Derived.Test.YtcbicdencgjfiaaGreatDoorDraws
import Derived.Test.YtcbicdencgjfiaaGreatDoorFacts
set_option linter.all false
namespace Tryst
open Go Go.RowKit
structure FB where
 name:ByteArray
 num:Bool
 n:Int
 s:ByteArray
def FB.fld (f:FB):Fld:=⟨f.name.data.toList,⟨f.num,f.n,f.s.data.toList⟩⟩
def FB.zero:FB:=⟨⟨#[]⟩,false,0,⟨#[]⟩⟩
theorem FB.ext' {a b:FB} (h:a.fld=b.fld):a=b:=by
 obtain ⟨an,ab,ai,as⟩:=a;obtain ⟨bn,bb,bi,bs⟩:=b;simp only [FB.fld,Fld.mk.injEq,V.mk.injEq] at h;obtain ⟨h1,rfl,rfl,h2⟩:=h;rw [Xk h1,Xk h2]
structure FAt (w:World) (b o:Nat) (f:FB):Prop where
 c0:w.cell? ⟨b,o,none⟩=some (.string f.name)
 c1:w.cell? ⟨b,o+1,none⟩=some (.bool f.num)
 c2:w.cell? ⟨b,o+2,none⟩=some (.int .i64 f.n)
 c3:w.cell? ⟨b,o+3,none⟩=some (.string f.s)
def Flds (w:World) (a:Option Addr) (l:List FB):Prop:=∀ (i:Nat) (h:i < l.length),∃ b o,a=some ⟨b,o,none⟩/\b < w.heap.size/\FAt w b (o+i*4) l[i]
theorem FAt.grow {v w:World} {b o:Nat} {f:FB} (h:FAt v b o f) (hb:b < v.heap.size) (hw:Below v.heap.size v w):FAt w b o f:=by
 obtain ⟨h1,h2,h3,h4⟩:=h;exact ⟨by rw [hw.cell (p:=⟨b,o,none⟩) hb];exact h1,by rw [hw.cell (p:=⟨b,o+1,none⟩) hb];exact h2,by rw [hw.cell (p:=⟨b,o+2,none⟩) hb];exact h3,by rw [hw.cell (p:=⟨b,o+3,none⟩) hb];exact h4⟩
theorem Flds.grow {v w:World} {a:Option Addr} {l:List FB} (h:Flds v a l) (hw:Below v.heap.size v w):Flds w a l:=by
 intro i hi;obtain ⟨b,o,h1,h2,h3⟩:=h i hi;exact ⟨b,o,h1,Nat.lt_of_lt_of_le h2 hw.size,h3.grow h2 hw⟩
theorem Flds.nil (w:World) (a:Option Addr):Flds w a []:=fun i h=>absurd h (Nat.not_lt_zero i)
theorem Flds.head {w:World} {a:Option Addr} {l:List FB} (h:Flds w a l) {i:Nat} (hi:i < l.length):∃ b o,a=some ⟨b,o,none⟩/\b < w.heap.size:=by
 obtain ⟨b,o,h1,h2,_⟩:=h i hi;exact ⟨b,o,h1,h2⟩
theorem Flds.at {w:World} {b o:Nat} {l:List FB} (h:Flds w (some ⟨b,o,none⟩) l) {i:Nat} (hi:i < l.length):b < w.heap.size/\FAt w b (o+i*4) l[i]:=by
 obtain ⟨b',o',h1,h2,h3⟩:=h i hi;simp only [Option.some.injEq,Addr.mk.injEq,and_true] at h1;obtain ⟨rfl,rfl⟩:=h1;exact ⟨h2,h3⟩
def vQ6 (l:List FB) (n:ByteArray):Option FB:=l.find? (fun f=>decide (f.name.data.toList=n.data.toList))
theorem jJt (f:FB) (l:List FB) (n:ByteArray):vQ6 (f :: l) n=if f.name.data.toList=n.data.toList then some f else vQ6 l n:=by
 unfold vQ6;rw [List.find?_cons]
 by_cases h:f.name.data.toList=n.data.toList
 · rw [if_pos h,decide_eq_true h]
 · rw [if_neg h,decide_eq_false h]
def FB.cells (f:FB):List Value:=[.string f.name,.bool f.num,.int .i64 f.n,.string f.s]
theorem kQ3 (l:List FB):(l.flatMap FB.cells).length=l.length*4:=by
 induction l with
 | nil=>rfl
 | cons f l ih=>rw [List.flatMap_cons,List.length_append,ih,List.length_cons];simp [FB.cells];omega
theorem xQA:∀ (l:List FB) (i:Nat) (h:i < l.length) (j:Nat),j < 4->(l.flatMap FB.cells)[i*4+j]?=l[i].cells[j]?
 | f :: l,0,h,j,hj=>by
  rw [List.flatMap_cons,List.getElem?_append_left (by simp [FB.cells];omega)];simp
 | f :: l,i+1,h,j,hj=>by
  rw [List.flatMap_cons,List.getElem?_append_right (by simp [FB.cells];omega)];have:=xQA l i (by simpa using h) j hj;rw [List.getElem_cons_succ,<- this]
  congr 1
  simp [FB.cells];omega
structure Sl (a:Option Addr) (c n:Nat):Prop where
 cap:n<=c
 spot:∀ A,a=some A->A.spot=none
 zero:a=none->c=0
def FOwn (e:TypeId) (w:World) (base:Nat) (v:Value) (l:List FB):Prop:=w.ownsRow base e 4 v l.length (l.flatMap FB.cells)
theorem FOwn.nil (e:TypeId) (w:World) (base:Nat):FOwn e w base (.slice none 0 0) []:=World.ownsRow_nil w base e 4
theorem FOwn.flds {e:TypeId} {w:World} {base:Nat} {v:Value} {l:List FB} (h:FOwn e w base v l):∃ a c,v=.slice a l.length c/\Flds w a l/\(∀ b o,a=some ⟨b,o,none⟩->base<=b/\b < w.heap.size)/\(a=none->c=0)/\Sl a c l.length:=by
 have h0:=h
 rcases h.2 with ⟨rfl,hn⟩ | ⟨g,cap,cur,rfl,hg,hh,hcap,_⟩
 · have:l=[]:=List.eq_nil_of_length_eq_zero hn;subst this;exact ⟨none,0,rfl,Flds.nil _ _,fun b o h=>(by cases h),fun _=>rfl,⟨Nat.le_refl _,fun A h=>(by cases h),fun _=>rfl⟩⟩
 ·
  have hlt:g < w.heap.size:=(h.lt g rfl).2;refine ⟨some ⟨g,0,none⟩,cap,rfl,?_,fun b o h=>(by cases h;exact ⟨hg,hlt⟩),fun h=>(by cases h),⟨hcap,fun A h=>(by cases h;rfl),fun h=>(by cases h)⟩⟩;intro i hi;refine ⟨g,0,rfl,hlt,?_⟩;rw [Nat.zero_add]
  have hc:∀ j,j < 4->w.cell? ⟨g,i*4+j,none⟩=l[i].cells[j]?:=fun j hj=>by
   rw [h0.cellAt (i*4+j) (by omega),xQA l i hi j hj]
  exact ⟨hc 0 (by omega),hc 1 (by omega),hc 2 (by omega),hc 3 (by omega)⟩
theorem kQr {e:TypeId} {size n:Nat} {w w':World} {base:Nat} {v:Value} {xs:List Value} (h:w.ownsRow base e size v n xs) (hb:Below w.heap.size w w'):w'.ownsRow base e size v n xs:=by
 refine ⟨h.1,?_⟩
 rcases h.2 with h2 | ⟨g,cap,cur,h1,h2,h3,h4⟩
 · exact .inl h2
 · have hlt:g < w.heap.size:=(h.lt g (by rw [h1];rfl)).2;exact .inr ⟨g,cap,cur,h1,h2,(hb.block g hlt).trans h3,h4⟩
theorem FOwn.grow {e:TypeId} {w w':World} {base:Nat} {v:Value} {l:List FB} (h:FOwn e w base v l) (hb:Below w.heap.size w w'):FOwn e w' base v l:=kQr h hb
theorem Flds.drew {w:World} {a:Option Addr} {l:List FB} (h:Flds w a l):Flds w.drew a l:=fun i hi=>by
 obtain ⟨b,o,h1,h2,h3⟩:=h i hi;exact ⟨b,o,h1,h2,⟨h3.c0,h3.c1,h3.c2,h3.c3⟩⟩
def qQk (B:Nat) (T:TypeId) (cs:List Value) (v:Value) (w:World):Prop:=∃ g,v=.pointer (some ⟨g,0,none⟩)/\B<=g/\w.heap[g]?=some (.cells cs.toArray T (0,0))
def OneF (f:FB) (v:Value) (w:World):Prop:=∃ g,v=.slice (some ⟨g,0,none⟩) 1 1/\g < w.heap.size/\FAt w g 0 f
theorem qJJ (B:Nat) (T:TypeId) (cs:List Value) (w:World) (h:B<=w.heap.size):Tryst2.Grow w (w.alloc (.cells cs.toArray T))/\∃ w0,Tryst2.Grow w0 (w.alloc (.cells cs.toArray T))/\qQk B T cs (.pointer (some ⟨w.heap.size,0,none⟩)) w0:=
 ⟨Tryst2.Grow.alloc (Tryst2.Grow.refl _) _,_,Tryst2.Grow.refl _,_,rfl,h,by show (w.heap.push _)[w.heap.size]?=_;simp⟩
theorem OneF.at {f:FB} {v:Value} {w':World} (h:∃ w0,Tryst2.Grow w0 w'/\OneF f v w0):∃ g,v=.slice (some ⟨g,0,none⟩) 1 1/\g < w'.heap.size/\FAt w' g 0 f:=by
 obtain ⟨w0,hg,g,h1,h2,h3⟩:=h;exact ⟨g,h1,Nat.lt_of_lt_of_le h2 hg.size,h3.grow h2 hg⟩
theorem qQk.at {B:Nat} {T:TypeId} {cs:List Value} {v:Value} {w':World} (h:∃ w0,Tryst2.Grow w0 w'/\qQk B T cs v w0):∃ g,v=.pointer (some ⟨g,0,none⟩)/\B<=g/\g < w'.heap.size/\w'.heap[g]?=some (.cells cs.toArray T (0,0)):=by
 obtain ⟨w0,hg,g,h1,h2,h3⟩:=h;have hlt:g < w0.heap.size:=(Array.getElem?_eq_some_iff.1 h3).1;exact ⟨g,h1,h2,Nat.lt_of_lt_of_le hlt hg.size,(hg.block g hlt).trans h3⟩
structure EAt (w:World) (b:Nat) (t p:ByteArray) (q:Int) (v:Value):Prop where
 c0:w.cell? ⟨b,0,none⟩=some (.string t)
 c1:w.cell? ⟨b,1,none⟩=some (.string p)
 c2:w.cell? ⟨b,2,none⟩=some (.int .u64 q)
 c3:w.cell? ⟨b,3,none⟩=some v
 f0:w.frozen? ⟨b,0,none⟩=false
 f1:w.frozen? ⟨b,1,none⟩=false
 f2:w.frozen? ⟨b,2,none⟩=false
 f3:w.frozen? ⟨b,3,none⟩=false
theorem EAt.of {w:World} {b:Nat} {t p:ByteArray} {q:Int} {v:Value} {T:TypeId} (h:w.heap[b]?=some (.cells #[.string t,.string p,.int .u64 q,v] T (0,0))):EAt w b t p q v:=by
 constructor<;>simp [World.cell?,World.frozen?,h]
theorem EAt.grow {v w:World} {b:Nat} {t p:ByteArray} {q:Int} {u:Value} (h:EAt v b t p q u) (hb:b < v.heap.size) (hw:Below v.heap.size v w):EAt w b t p q u:=by
 obtain ⟨h1,h2,h3,h4,g1,g2,g3,g4⟩:=h
 exact ⟨by rw [hw.cell (p:=⟨b,0,none⟩) hb];exact h1,by rw [hw.cell (p:=⟨b,1,none⟩) hb];exact h2,by rw [hw.cell (p:=⟨b,2,none⟩) hb];exact h3,by rw [hw.cell (p:=⟨b,3,none⟩) hb];exact h4,
  by rw [hw.frozen (p:=⟨b,0,none⟩) hb];exact g1,by rw [hw.frozen (p:=⟨b,1,none⟩) hb];exact g2,by rw [hw.frozen (p:=⟨b,2,none⟩) hb];exact g3,by rw [hw.frozen (p:=⟨b,3,none⟩) hb];exact g4⟩
theorem EAt.growB {v w:World} {b B:Nat} {t p:ByteArray} {q:Int} {u:Value} (h:EAt v b t p q u) (hb:b < B) (hw:Below B v w):EAt w b t p q u:=by
 obtain ⟨h1,h2,h3,h4,g1,g2,g3,g4⟩:=h
 exact ⟨by rw [hw.cell (p:=⟨b,0,none⟩) hb];exact h1,by rw [hw.cell (p:=⟨b,1,none⟩) hb];exact h2,by rw [hw.cell (p:=⟨b,2,none⟩) hb];exact h3,by rw [hw.cell (p:=⟨b,3,none⟩) hb];exact h4,
  by rw [hw.frozen (p:=⟨b,0,none⟩) hb];exact g1,by rw [hw.frozen (p:=⟨b,1,none⟩) hb];exact g2,by rw [hw.frozen (p:=⟨b,2,none⟩) hb];exact g3,by rw [hw.frozen (p:=⟨b,3,none⟩) hb];exact g4⟩
theorem FOwn.set {e:TypeId} {w:World} {base:Nat} {v:Value} {l:List FB} (h:FOwn e w base v l) {b o:Nat} (hb:b < base) (u:Value):FOwn e (w.setCell ⟨b,o,none⟩ u) base v l:=ownsRow_setCell_below h (a:=⟨b,o,none⟩) hb u
theorem FOwn.alloc {e:TypeId} {w:World} {base:Nat} {v:Value} {l:List FB} (h:FOwn e w base v l) (o:Obj):FOwn e (w.alloc o) base v l:=World.ownsRow.alloc h o
theorem Qg {C:Code} {P:Program} {Q:Exit->Act->World->Prop} {a:Act} {W:World} (F:World->Prop) (h:F W) (k:∀ w1,F w1->C.wp P Q a w1):C.wp P Q a W:=k W h
theorem EAt.set3 {w:World} {b:Nat} {t p:ByteArray} {q:Int} {u v:Value} (h:EAt w b t p q u):EAt (w.setCell ⟨b,3,none⟩ v) b t p q v:=by
 obtain ⟨h1,h2,h3,h4,g1,g2,g3,g4⟩:=h
 constructor<;>simp [Qz,Qv,h1,h2,h3,h4,g1,g2,g3,g4]
def Strs (w:World) (a:Option Addr) (l:List ByteArray):Prop:=∀ (i:Nat) (h:i < l.length),∃ b o,a=some ⟨b,o,none⟩/\b < w.heap.size/\w.cell? ⟨b,o+i,none⟩=some (.string l[i])
theorem Strs.grow {v w:World} {a:Option Addr} {l:List ByteArray} (h:Strs v a l) (hw:Below v.heap.size v w):Strs w a l:=by
 intro i hi;obtain ⟨b,o,h1,h2,h3⟩:=h i hi;exact ⟨b,o,h1,Nat.lt_of_lt_of_le h2 hw.size,by rw [hw.cell (p:=⟨b,o+i,none⟩) h2];exact h3⟩
theorem Strs.nil (w:World) (a:Option Addr):Strs w a []:=fun i h=>absurd h (Nat.not_lt_zero i)
theorem Strs.head {w:World} {a:Option Addr} {l:List ByteArray} (h:Strs w a l) {i:Nat} (hi:i < l.length):∃ b o,a=some ⟨b,o,none⟩/\b < w.heap.size:=by
 obtain ⟨b,o,h1,h2,_⟩:=h i hi;exact ⟨b,o,h1,h2⟩
theorem Strs.at {w:World} {b o:Nat} {l:List ByteArray} (h:Strs w (some ⟨b,o,none⟩) l) {i:Nat} (hi:i < l.length):b < w.heap.size/\w.cell? ⟨b,o+i,none⟩=some (.string l[i]):=by
 obtain ⟨b',o',h1,h2,h3⟩:=h i hi;simp only [Option.some.injEq,Addr.mk.injEq,and_true] at h1;obtain ⟨rfl,rfl⟩:=h1;exact ⟨h2,h3⟩
def SOwn (e:TypeId) (w:World) (base:Nat) (v:Value) (l:List ByteArray):Prop:=w.ownsRow base e 1 v l.length (l.map Value.string)
theorem SOwn.nil (e:TypeId) (w:World) (base:Nat):SOwn e w base (.slice none 0 0) []:=World.ownsRow_nil w base e 1
theorem SOwn.grow {e:TypeId} {w w':World} {base:Nat} {v:Value} {l:List ByteArray} (h:SOwn e w base v l) (hb:Below w.heap.size w w'):SOwn e w' base v l:=kQr h hb
theorem SOwn.strs {e:TypeId} {w:World} {base:Nat} {v:Value} {l:List ByteArray} (h:SOwn e w base v l):∃ a c,v=.slice a l.length c/\Strs w a l/\Sl a c l.length/\(∀ b o,a=some ⟨b,o,none⟩->base<=b/\b < w.heap.size):=by
 have h0:=h
 rcases h.2 with ⟨rfl,hn⟩ | ⟨g,cap,cur,rfl,hg,hh,hcap,_⟩
 · have:l=[]:=List.eq_nil_of_length_eq_zero hn;subst this;exact ⟨none,0,rfl,Strs.nil _ _,⟨Nat.le_refl _,fun A h=>(by cases h),fun _=>rfl⟩,fun b o h=>(by cases h)⟩
 · have hlt:g < w.heap.size:=(h.lt g rfl).2;refine ⟨some ⟨g,0,none⟩,cap,rfl,?_,⟨hcap,fun A h=>(by cases h;rfl),fun h=>(by cases h)⟩,fun b o h=>(by cases h;exact ⟨hg,hlt⟩)⟩;intro i hi;refine ⟨g,0,rfl,hlt,?_⟩;rw [Nat.zero_add,h0.cellAt i (by omega)];simp [hi]
theorem SOwn.row {e:TypeId} {w:World} {base:Nat} {v:Value} {l:List ByteArray} (h:SOwn e w base v l) (h0:0 < l.length):∃ g c,v=.slice (some ⟨g,0,none⟩) l.length c/\base<=g/\g < w.heap.size/\(∀ j,w.frozen? ⟨g,j,none⟩=false)/\(∀ (j:Nat) (h:j < l.length),w.cell? ⟨g,j,none⟩=some (.string l[j]))/\
  ∀ (j:Nat) (s:ByteArray),SOwn e (w.setCell ⟨g,j,none⟩ (.string s)) base v (l.set j s):=by
 have h1:=h
 rcases h.2 with ⟨_,hn⟩ | ⟨g,cap,cur,rfl,hg,_⟩
 · omega
 ·
  refine ⟨g,cap,rfl,hg,(h1.lt g rfl).2,fun j=>World.ownsRow.frozenAt h1 j,fun j hj=>?_,fun j s=>?_⟩
  · rw [h1.cellAt j (by omega)];simp [hj]
  · unfold SOwn;rw [List.length_set,List.map_set];exact (World.ownsRow.stored h1 j (.string s)).1
def setB:List FB->FB->List FB
 | [],_=>[]
 | x :: r,f=>if x.name.data.toList=f.name.data.toList then f :: r else x :: setB r f
def insB:List FB->FB->List FB
 | [],f=>[f]
 | x :: r,f=>if Op.bytesLess f.name.data.toList x.name.data.toList=true then f :: x :: r else x :: insB r f
def putB (l:List FB) (f:FB):List FB:=if (vQ6 l f.name).isSome=true then setB l f else insB l f
theorem vQg (x:FB) (r:List FB) (f:FB):setB (x :: r) f=if x.name.data.toList=f.name.data.toList then f :: r else x :: setB r f:=rfl
theorem vQe (x:FB) (r:List FB) (f:FB):insB (x :: r) f=if Op.bytesLess f.name.data.toList x.name.data.toList=true then f :: x :: r else x :: insB r f:=rfl
theorem FOwn.row {e:TypeId} {w:World} {base:Nat} {a:Option Addr} {c:Nat} {l:List FB} (h:FOwn e w base (.slice a l.length c) l) (h0:0 < l.length):∃ g,a=some ⟨g,0,none⟩/\base<=g/\g < w.heap.size/\∀ j,w.frozen? ⟨g,j,none⟩=false:=by
 have h1:=h
 rcases h.2 with ⟨_,hn⟩ | ⟨g,cap,cur,hv,hg,_⟩
 · omega
 · cases hv;exact ⟨g,rfl,hg,(h1.lt g rfl).2,fun j=>World.ownsRow.frozenAt h1 j⟩
theorem Flds.set {w:World} {b o:Nat} {l:List FB} (h:Flds w (some ⟨b,o,none⟩) l) {c j:Nat} (hc:c≠b) (u:Value):Flds (w.setCell ⟨c,j,none⟩ u) (some ⟨b,o,none⟩) l:=by
 intro i hi;obtain ⟨hb,f0,f1,f2,f3⟩:=h.at hi;refine ⟨b,o,rfl,by simpa using hb,?_⟩
 constructor<;>(rw [Qz,if_neg (fun h=>hc h.1)];assumption)
structure PutW (w X:World) (t p:ByteArray) (q:Int) (v:Value) (f:FB):Prop where
 e:EAt X w.heap.size t p q v
 z:EAt X (w.heap.size+1+1+1) ⟨#[]⟩ ⟨#[]⟩ 0 (.slice none 0 0)
 fa:FAt X (w.heap.size+1+1+1+1) 0 f
 n:X.cell? ⟨w.heap.size+1,0,none⟩=some (.string f.name)
 b:Below w.heap.size w X
 size:w.heap.size+5<=X.heap.size
theorem PutW.new (w:World) (t p:ByteArray) (q:Int) (v:Value) (f:FB) (T1 T2 T3 T4 T5:TypeId) :
  PutW w (((((w.alloc (.cells #[.string t,.string p,.int .u64 q,v] T1)).alloc (.cells #[.string f.name] T2)).alloc (.cells #[.bool f.num,.int .i64 f.n,.string f.s] T3)).alloc (.cells #[.string ⟨#[]⟩,.string ⟨#[]⟩,.int .u64 0,.slice none 0 0] T4)).alloc (.cells #[.string f.name,.bool f.num,.int .i64 f.n,.string f.s] T5)) t p q v f:=by
 refine ⟨?_,?_,?_,?_,Qj _ (Qj _ (Qj _ (Qj _ (Qj _ (.refl _ _))))),by simp⟩
 · constructor<;>simp [go_sem]
 · constructor<;>simp [go_sem]
 · constructor<;>simp [go_sem]
 · simp [go_sem]
theorem PutW.grow {w X Y:World} {t p:ByteArray} {q:Int} {v:Value} {f:FB} (h:PutW w X t p q v f) (hb:Below X.heap.size X Y):PutW w Y t p q v f:=by
 have hs:=h.size;have hs2:=hb.size;refine ⟨h.e.grow (by omega) hb,h.z.grow (by omega) hb,h.fa.grow (by omega) hb,?_,Qk hb h.b,by omega⟩;rw [hb.cell (p:=⟨w.heap.size+1,0,none⟩) (by show w.heap.size+1 < _;omega)];exact h.n
theorem Flds.growB {v w:World} {b o B:Nat} {l:List FB} (h:Flds v (some ⟨b,o,none⟩) l) (hb:b < B) (hw:Below B v w):Flds w (some ⟨b,o,none⟩) l:=by
 intro i hi;obtain ⟨h1,h2⟩:=h.at hi;obtain ⟨f0,f1,f2,f3⟩:=h2;exact ⟨b,o,rfl,Nat.lt_of_lt_of_le h1 hw.size,by rw [hw.cell (p:=⟨b,o+i*4,none⟩) hb];exact f0,by rw [hw.cell (p:=⟨b,o+i*4+1,none⟩) hb];exact f1,by rw [hw.cell (p:=⟨b,o+i*4+2,none⟩) hb];exact f2,by rw [hw.cell (p:=⟨b,o+i*4+3,none⟩) hb];exact f3⟩
theorem FAt.new (f:FB) (w:World) (T:TypeId):FAt (w.alloc (.cells #[.string f.name,.bool f.num,.int .i64 f.n,.string f.s] T)) w.heap.size 0 f:=by constructor<;>simp [go_sem]
def Away (v:Value) (k:Nat):Prop:=∀ a n c,v=.slice (some a) n c->a.block≠k
theorem Away.of {e:TypeId} {w:World} {base:Nat} {v:Value} {l:List FB} (h:FOwn e w base v l) {k:Nat} (hk:w.heap.size<=k):Away v k:=by
 intro a n c hv;have:=(h.lt a.block (by rw [hv];rfl)).2;omega
theorem FAt.of_block {w w':World} {g o:Nat} {f:FB} (h:FAt w g o f) (hb:w'.heap[g]?=w.heap[g]?):FAt w' g o f:=by
 obtain ⟨h0,h1,h2,h3⟩:=h;exact ⟨by rw [World.cell?_of_block (w:=w) (a:=⟨g,o,none⟩) hb];exact h0,by rw [World.cell?_of_block (w:=w) (a:=⟨g,o+1,none⟩) hb];exact h1,by rw [World.cell?_of_block (w:=w) (a:=⟨g,o+2,none⟩) hb];exact h2,by rw [World.cell?_of_block (w:=w) (a:=⟨g,o+3,none⟩) hb];exact h3⟩
end Tryst
namespace Tryst3
open Go Go.RowKit Tryst
def rowC (e:TypeId) (r:List FB) (M:Array Value):Obj:=.cells (r.flatMap FB.cells++M.toList.drop (r.length*4)).toArray e (0,0)
def jYI (e:TypeId) (g cap:Nat) (r:List FB) (M:Array Value) (v:Value) (w:World):Prop:=v=.slice (some ⟨g,0,none⟩) r.length cap/\w.heap[g]?=some (rowC e r M)
theorem jYI.at {e:TypeId} {g cap:Nat} {r:List FB} {M:Array Value} {v:Value} {w':World} (h:∃ w0,Ext g (rowC e r M) w0 w'/\jYI e g cap r M v w0) :
  v=.slice (some ⟨g,0,none⟩) r.length cap/\w'.heap[g]?=some (rowC e r M):=by
 obtain ⟨w0,h1,h2,h3⟩:=h;refine ⟨h2,?_⟩
 rcases h1.row with k | k
 · rw [k];exact h3
 · exact k
def OneG (g:Nat) (f:FB) (v:Value) (w:World):Prop:=∃ g2,v=.slice (some ⟨g2,0,none⟩) 1 1/\g2≠g/\g2 < w.heap.size/\FAt w g2 0 f
theorem OneG.at {g:Nat} {C:Obj} {f:FB} {v:Value} {w':World} (h:∃ w0,Ext g C w0 w'/\OneG g f v w0):∃ g2,v=.slice (some ⟨g2,0,none⟩) 1 1/\g2 < w'.heap.size/\FAt w' g2 0 f:=by
 obtain ⟨w0,hx,g2,h1,h2,h3,h4⟩:=h;obtain ⟨c0,c1,c2,c3⟩:=h4;exact ⟨g2,h1,Nat.lt_of_lt_of_le h3 hx.size,by rw [hx.cell h3 h2];exact c0,by rw [hx.cell h3 h2];exact c1,by rw [hx.cell h3 h2];exact c2,by rw [hx.cell h3 h2];exact c3⟩
theorem Ext.ev {g:Nat} {C:Obj} {x y:World} (h:Ext g C x y) {b:Nat} {t p:ByteArray} {q:Int} {v:Value} (e:EAt x b t p q v) (hb:b < x.heap.size) (hn:b≠g):EAt y b t p q v:=by
 obtain ⟨h1,h2,h3,h4,g1,g2,g3,g4⟩:=e;exact ⟨by rw [h.cell hb hn];exact h1,by rw [h.cell hb hn];exact h2,by rw [h.cell hb hn];exact h3,by rw [h.cell hb hn];exact h4,by rw [h.frozen hb hn];exact g1,by rw [h.frozen hb hn];exact g2,by rw [h.frozen hb hn];exact g3,by rw [h.frozen hb hn];exact g4⟩
theorem Ext.fat {g:Nat} {C:Obj} {x y:World} (h:Ext g C x y) {b o:Nat} {f:FB} (e:FAt x b o f) (hb:b < x.heap.size) (hn:b≠g):FAt y b o f:=by
 obtain ⟨h1,h2,h3,h4⟩:=e;exact ⟨by rw [h.cell hb hn];exact h1,by rw [h.cell hb hn];exact h2,by rw [h.cell hb hn];exact h3,by rw [h.cell hb hn];exact h4⟩
theorem Ext.flds {g:Nat} {C:Obj} {x y:World} (h:Ext g C x y) {b o:Nat} {l:List FB} (e:Flds x (some ⟨b,o,none⟩) l) (hn:b≠g):Flds y (some ⟨b,o,none⟩) l:=by
 intro i hi;obtain ⟨hb,hf⟩:=e.at hi;exact ⟨b,o,rfl,Nat.lt_of_lt_of_le hb h.size,h.fat hf hb hn⟩
