import Derived.Lib.SplitLaws
import Derived.Test.YtcbicdencgjfiaaGreatDoorDraws
import Derived.Test.YtcbicdencgjfiaaGreatDoorFacts
import Derived.Test.YtcbicdencgjfiaaGreatDoorNmA
import Derived.Test.YtcbicdencgjfiaaGreatDoorNumV
set_option linter.all false
set_option maxHeartbeats 400000
set_option maxRecDepth 20000
namespace Tryst
open Go Go.RowKit
structure FB where
 name:ByteArray
 num:Bool
 n:Int
 s:ByteArray
def FB.fld (f:FB):Fld:=⟨f.name.data.toList,⟨f.num,f.n,f.s.data.toList⟩⟩
def FB.zero:FB:=⟨⟨#[]⟩,false,0,⟨#[]⟩⟩
theorem FB.ext' {a b:FB} (h:a.fld=b.fld):a=b:=by
 obtain ⟨an,ab,ai,aq⟩:=a;obtain ⟨bn,bb,bi,bs⟩:=b;simp only [FB.fld,Fld.mk.injEq,V.mk.injEq] at h;obtain ⟨h1,rfl,rfl,h2⟩:=h;rw [Xk h1,Xk h2]
structure FAt (w:World) (b o:Nat) (f:FB):Prop where
 c0:w.cell? ⟨b,o,none⟩=some (.string f.name)
 c1:w.cell? ⟨b,o+1,none⟩=some (.bool f.num)
 c2:w.cell? ⟨b,o+2,none⟩=some (.int .i64 f.n)
 c3:w.cell? ⟨b,o+3,none⟩=some (.string f.s)
def Flds (w:World) (a:Option Addr) (l:List FB):Prop:=∀ (i:Nat) (h:i < l.length),∃ b o,a=some ⟨b,o,none⟩/\b < w.heap.size/\FAt w b (o+i*4) l[i]
theorem FAt.grow {v w:World} {b o:Nat} {f:FB} (h:FAt v b o f) (hb:b < v.heap.size) (hw:Below v.heap.size v w):FAt w b o f:=by
 obtain ⟨h1,h2,h3,h4⟩:=h;exact ⟨by rw [hw.cell (p:=⟨b,o,none⟩) hb];exact h1,by rw [hw.cell (p:=⟨b,o+1,none⟩) hb];exact h2,by rw [hw.cell (p:=⟨b,o+2,none⟩) hb];exact h3,by rw [hw.cell (p:=⟨b,o+3,none⟩) hb];exact h4⟩
theorem Flds.grow {v w:World} {a:Option Addr} {l:List FB} (h:Flds v a l) (hw:Below v.heap.size v w):Flds w a l:=by
 intro i hi;obtain ⟨b,o,h1,h2,h3⟩:=h i hi;exact ⟨b,o,h1,Nat.lt_of_lt_of_le h2 hw.size,h3.grow h2 hw⟩
theorem Flds.nil (w:World) (a:Option Addr):Flds w a []:=fun i h=>absurd h (Nat.not_lt_zero i)
theorem Flds.head {w:World} {a:Option Addr} {l:List FB} (h:Flds w a l) {i:Nat} (hi:i < l.length):∃ b o,a=some ⟨b,o,none⟩/\b < w.heap.size:=by
 obtain ⟨b,o,h1,h2,_⟩:=h i hi;exact ⟨b,o,h1,h2⟩
theorem Flds.at {w:World} {b o:Nat} {l:List FB} (h:Flds w (some ⟨b,o,none⟩) l) {i:Nat} (hi:i < l.length):b < w.heap.size/\FAt w b (o+i*4) l[i]:=by
 obtain ⟨b',o',h1,h2,h3⟩:=h i hi;simp only [Option.some.injEq,Addr.mk.injEq,and_true] at h1;obtain ⟨rfl,rfl⟩:=h1;exact ⟨h2,h3⟩
def FB.cells (f:FB):List Value:=[.string f.name,.bool f.num,.int .i64 f.n,.string f.s]
theorem xQA:∀ (l:List FB) (i:Nat) (h:i < l.length) (j:Nat),j < 4->(l.flatMap FB.cells)[i*4+j]?=l[i].cells[j]?
 | f :: l,0,h,j,hj=>by
  rw [List.flatMap_cons,List.getElem?_append_left (by simp [FB.cells];omega)];simp
 | f :: l,i+1,h,j,hj=>by
  rw [List.flatMap_cons,List.getElem?_append_right (by simp [FB.cells];omega)];have:=xQA l i (by simpa using h) j hj;rw [List.getElem_cons_succ,<- this]
  congr 1
  simp [FB.cells];omega
structure Sl (a:Option Addr) (c n:Nat):Prop where
 cap:n<=c
 spot:∀ A,a=some A->A.spot=none
 zero:a=none->c=0
def FOwn (e:TypeId) (w:World) (base:Nat) (v:Value) (l:List FB):Prop:=w.ownsRow base e 4 v l.length (l.flatMap FB.cells)
theorem FOwn.nil (e:TypeId) (w:World) (base:Nat):FOwn e w base (.slice none 0 0) []:=World.ownsRow_nil w base e 4
theorem kQr {e:TypeId} {size n:Nat} {w w':World} {base:Nat} {v:Value} {xs:List Value} (h:w.ownsRow base e size v n xs) (hb:Below w.heap.size w w'):w'.ownsRow base e size v n xs:=by
 refine ⟨h.1,?_⟩
 rcases h.2 with h2 | ⟨g,cap,cur,h1,h2,h3,h4⟩
 · exact .inl h2
 · have hlt:g < w.heap.size:=(h.lt g (by rw [h1];rfl)).2;exact .inr ⟨g,cap,cur,h1,h2,(hb.block g hlt).trans h3,h4⟩
theorem FOwn.grow {e:TypeId} {w w':World} {base:Nat} {v:Value} {l:List FB} (h:FOwn e w base v l) (hb:Below w.heap.size w w'):FOwn e w' base v l:=kQr h hb
theorem Flds.drew {w:World} {a:Option Addr} {l:List FB} (h:Flds w a l):Flds w.drew a l:=fun i hi=>by
 obtain ⟨b,o,h1,h2,h3⟩:=h i hi;exact ⟨b,o,h1,h2,⟨h3.c0,h3.c1,h3.c2,h3.c3⟩⟩
def qQk (B:Nat) (T:TypeId) (cs:List Value) (v:Value) (w:World):Prop:=∃ g,v=.pointer (some ⟨g,0,none⟩)/\B<=g/\w.heap[g]?=some (.cells cs.toArray T (0,0))
theorem qJJ (B:Nat) (T:TypeId) (cs:List Value) (w:World) (h:B<=w.heap.size):Tryst2.Grow w (w.alloc (.cells cs.toArray T))/\∃ w0,Tryst2.Grow w0 (w.alloc (.cells cs.toArray T))/\qQk B T cs (.pointer (some ⟨w.heap.size,0,none⟩)) w0:=
 ⟨Tryst2.Grow.alloc (Tryst2.Grow.refl _) _,_,Tryst2.Grow.refl _,_,rfl,h,by show (w.heap.push _)[w.heap.size]?=_;simp⟩
theorem qQk.at {B:Nat} {T:TypeId} {cs:List Value} {v:Value} {w':World} (h:∃ w0,Tryst2.Grow w0 w'/\qQk B T cs v w0):∃ g,v=.pointer (some ⟨g,0,none⟩)/\B<=g/\g < w'.heap.size/\w'.heap[g]?=some (.cells cs.toArray T (0,0)):=by
 obtain ⟨w0,hg,g,h1,h2,h3⟩:=h;have hlt:g < w0.heap.size:=(Array.getElem?_eq_some_iff.1 h3).1;exact ⟨g,h1,h2,Nat.lt_of_lt_of_le hlt hg.size,(hg.block g hlt).trans h3⟩
structure EAt (w:World) (b:Nat) (t p:ByteArray) (q:Int) (v:Value):Prop where
 c0:w.cell? ⟨b,0,none⟩=some (.string t)
 c1:w.cell? ⟨b,1,none⟩=some (.string p)
 c2:w.cell? ⟨b,2,none⟩=some (.int .u64 q)
 c3:w.cell? ⟨b,3,none⟩=some v
 f0:w.frozen? ⟨b,0,none⟩=false
 f1:w.frozen? ⟨b,1,none⟩=false
 f2:w.frozen? ⟨b,2,none⟩=false
 f3:w.frozen? ⟨b,3,none⟩=false
theorem EAt.of {w:World} {b:Nat} {t p:ByteArray} {q:Int} {v:Value} {T:TypeId} (h:w.heap[b]?=some (.cells #[.string t,.string p,.int .u64 q,v] T (0,0))):EAt w b t p q v:=by
 constructor<;>simp [World.cell?,World.frozen?,h]
theorem EAt.grow {v w:World} {b:Nat} {t p:ByteArray} {q:Int} {u:Value} (h:EAt v b t p q u) (hb:b < v.heap.size) (hw:Below v.heap.size v w):EAt w b t p q u:=by
 obtain ⟨h1,h2,h3,h4,g1,g2,g3,g4⟩:=h
 exact ⟨by rw [hw.cell (p:=⟨b,0,none⟩) hb];exact h1,by rw [hw.cell (p:=⟨b,1,none⟩) hb];exact h2,by rw [hw.cell (p:=⟨b,2,none⟩) hb];exact h3,by rw [hw.cell (p:=⟨b,3,none⟩) hb];exact h4,
  by rw [hw.frozen (p:=⟨b,0,none⟩) hb];exact g1,by rw [hw.frozen (p:=⟨b,1,none⟩) hb];exact g2,by rw [hw.frozen (p:=⟨b,2,none⟩) hb];exact g3,by rw [hw.frozen (p:=⟨b,3,none⟩) hb];exact g4⟩
theorem EAt.growB {v w:World} {b B:Nat} {t p:ByteArray} {q:Int} {u:Value} (h:EAt v b t p q u) (hb:b < B) (hw:Below B v w):EAt w b t p q u:=by
 obtain ⟨h1,h2,h3,h4,g1,g2,g3,g4⟩:=h
 exact ⟨by rw [hw.cell (p:=⟨b,0,none⟩) hb];exact h1,by rw [hw.cell (p:=⟨b,1,none⟩) hb];exact h2,by rw [hw.cell (p:=⟨b,2,none⟩) hb];exact h3,by rw [hw.cell (p:=⟨b,3,none⟩) hb];exact h4,
  by rw [hw.frozen (p:=⟨b,0,none⟩) hb];exact g1,by rw [hw.frozen (p:=⟨b,1,none⟩) hb];exact g2,by rw [hw.frozen (p:=⟨b,2,none⟩) hb];exact g3,by rw [hw.frozen (p:=⟨b,3,none⟩) hb];exact g4⟩
theorem FOwn.set {e:TypeId} {w:World} {base:Nat} {v:Value} {l:List FB} (h:FOwn e w base v l) {b o:Nat} (hb:b < base) (u:Value):FOwn e (w.setCell ⟨b,o,none⟩ u) base v l:=ownsRow_setCell_below h (a:=⟨b,o,none⟩) hb u
theorem FOwn.alloc {e:TypeId} {w:World} {base:Nat} {v:Value} {l:List FB} (h:FOwn e w base v l) (o:Obj):FOwn e (w.alloc o) base v l:=World.ownsRow.alloc h o
theorem Qg {C:Code} {P:Program} {Q:Exit->Act->World->Prop} {a:Act} {W:World} (F:World->Prop) (h:F W) (k:∀ w1,F w1->C.wp P Q a w1):C.wp P Q a W:=k W h
theorem EAt.set3 {w:World} {b:Nat} {t p:ByteArray} {q:Int} {u v:Value} (h:EAt w b t p q u):EAt (w.setCell ⟨b,3,none⟩ v) b t p q v:=by
 obtain ⟨h1,h2,h3,h4,g1,g2,g3,g4⟩:=h
 constructor<;>simp [Qz,Qv,h1,h2,h3,h4,g1,g2,g3,g4]
def Strs (w:World) (a:Option Addr) (l:List ByteArray):Prop:=∀ (i:Nat) (h:i < l.length),∃ b o,a=some ⟨b,o,none⟩/\b < w.heap.size/\w.cell? ⟨b,o+i,none⟩=some (.string l[i])
theorem Strs.grow {v w:World} {a:Option Addr} {l:List ByteArray} (h:Strs v a l) (hw:Below v.heap.size v w):Strs w a l:=by
 intro i hi;obtain ⟨b,o,h1,h2,h3⟩:=h i hi;exact ⟨b,o,h1,Nat.lt_of_lt_of_le h2 hw.size,by rw [hw.cell (p:=⟨b,o+i,none⟩) h2];exact h3⟩
theorem Strs.nil (w:World) (a:Option Addr):Strs w a []:=fun i h=>absurd h (Nat.not_lt_zero i)
theorem Strs.head {w:World} {a:Option Addr} {l:List ByteArray} (h:Strs w a l) {i:Nat} (hi:i < l.length):∃ b o,a=some ⟨b,o,none⟩/\b < w.heap.size:=by
 obtain ⟨b,o,h1,h2,_⟩:=h i hi;exact ⟨b,o,h1,h2⟩
theorem Strs.at {w:World} {b o:Nat} {l:List ByteArray} (h:Strs w (some ⟨b,o,none⟩) l) {i:Nat} (hi:i < l.length):b < w.heap.size/\w.cell? ⟨b,o+i,none⟩=some (.string l[i]):=by
 obtain ⟨b',o',h1,h2,h3⟩:=h i hi;simp only [Option.some.injEq,Addr.mk.injEq,and_true] at h1;obtain ⟨rfl,rfl⟩:=h1;exact ⟨h2,h3⟩
def SOwn (e:TypeId) (w:World) (base:Nat) (v:Value) (l:List ByteArray):Prop:=w.ownsRow base e 1 v l.length (l.map Value.string)
theorem SOwn.nil (e:TypeId) (w:World) (base:Nat):SOwn e w base (.slice none 0 0) []:=World.ownsRow_nil w base e 1
theorem SOwn.grow {e:TypeId} {w w':World} {base:Nat} {v:Value} {l:List ByteArray} (h:SOwn e w base v l) (hb:Below w.heap.size w w'):SOwn e w' base v l:=kQr h hb
theorem SOwn.strs {e:TypeId} {w:World} {base:Nat} {v:Value} {l:List ByteArray} (h:SOwn e w base v l):∃ a c,v=.slice a l.length c/\Strs w a l/\Sl a c l.length/\(∀ b o,a=some ⟨b,o,none⟩->base<=b/\b < w.heap.size):=by
 have h0:=h
 rcases h.2 with ⟨rfl,hn⟩ | ⟨g,cap,cur,rfl,hg,hh,hcap,_⟩
 · have:l=[]:=List.eq_nil_of_length_eq_zero hn;subst this;exact ⟨none,0,rfl,Strs.nil _ _,⟨Nat.le_refl _,fun A h=>(by cases h),fun _=>rfl⟩,fun b o h=>(by cases h)⟩
 · have hlt:g < w.heap.size:=(h.lt g rfl).2;refine ⟨some ⟨g,0,none⟩,cap,rfl,?_,⟨hcap,fun A h=>(by cases h;rfl),fun h=>(by cases h)⟩,fun b o h=>(by cases h;exact ⟨hg,hlt⟩)⟩;intro i hi;refine ⟨g,0,rfl,hlt,?_⟩;rw [Nat.zero_add,h0.cellAt i (by omega)];simp [hi]
theorem SOwn.row {e:TypeId} {w:World} {base:Nat} {v:Value} {l:List ByteArray} (h:SOwn e w base v l) (h0:0 < l.length):∃ g c,v=.slice (some ⟨g,0,none⟩) l.length c/\base<=g/\g < w.heap.size/\(∀ j,w.frozen? ⟨g,j,none⟩=false)/\(∀ (j:Nat) (h:j < l.length),w.cell? ⟨g,j,none⟩=some (.string l[j]))/\
  ∀ (j:Nat) (s:ByteArray),SOwn e (w.setCell ⟨g,j,none⟩ (.string s)) base v (l.set j s):=by
 have h1:=h
 rcases h.2 with ⟨_,hn⟩ | ⟨g,cap,cur,rfl,hg,_⟩
 · omega
 ·
  refine ⟨g,cap,rfl,hg,(h1.lt g rfl).2,fun j=>World.ownsRow.frozenAt h1 j,fun j hj=>?_,fun j s=>?_⟩
  · rw [h1.cellAt j (by omega)];simp [hj]
  · unfold SOwn;rw [List.length_set,List.map_set];exact (World.ownsRow.stored h1 j (.string s)).1
theorem FOwn.row {e:TypeId} {w:World} {base:Nat} {a:Option Addr} {c:Nat} {l:List FB} (h:FOwn e w base (.slice a l.length c) l) (h0:0 < l.length):∃ g,a=some ⟨g,0,none⟩/\base<=g/\g < w.heap.size/\∀ j,w.frozen? ⟨g,j,none⟩=false:=by
 have h1:=h
 rcases h.2 with ⟨_,hn⟩ | ⟨g,cap,cur,hv,hg,_⟩
 · omega
 · cases hv;exact ⟨g,rfl,hg,(h1.lt g rfl).2,fun j=>World.ownsRow.frozenAt h1 j⟩
theorem Flds.set {w:World} {b o:Nat} {l:List FB} (h:Flds w (some ⟨b,o,none⟩) l) {c j:Nat} (hc:c≠b) (u:Value):Flds (w.setCell ⟨c,j,none⟩ u) (some ⟨b,o,none⟩) l:=by
 intro i hi;obtain ⟨hb,f0,f1,f2,f3⟩:=h.at hi;refine ⟨b,o,rfl,by simpa using hb,?_⟩
 constructor<;>(rw [Qz,if_neg (fun h=>hc h.1)];assumption)
theorem Flds.growB {v w:World} {b o B:Nat} {l:List FB} (h:Flds v (some ⟨b,o,none⟩) l) (hb:b < B) (hw:Below B v w):Flds w (some ⟨b,o,none⟩) l:=by
 intro i hi;obtain ⟨h1,h2⟩:=h.at hi;obtain ⟨f0,f1,f2,f3⟩:=h2;exact ⟨b,o,rfl,Nat.lt_of_lt_of_le h1 hw.size,by rw [hw.cell (p:=⟨b,o+i*4,none⟩) hb];exact f0,by rw [hw.cell (p:=⟨b,o+i*4+1,none⟩) hb];exact f1,by rw [hw.cell (p:=⟨b,o+i*4+2,none⟩) hb];exact f2,by rw [hw.cell (p:=⟨b,o+i*4+3,none⟩) hb];exact f3⟩
theorem FAt.new (f:FB) (w:World) (T:TypeId):FAt (w.alloc (.cells #[.string f.name,.bool f.num,.int .i64 f.n,.string f.s] T)) w.heap.size 0 f:=by constructor<;>simp [go_sem]
def Away (v:Value) (k:Nat):Prop:=∀ a n c,v=.slice (some a) n c->a.block≠k
theorem Away.of {e:TypeId} {w:World} {base:Nat} {v:Value} {l:List FB} (h:FOwn e w base v l) {k:Nat} (hk:w.heap.size<=k):Away v k:=by
 intro a n c hv;have:=(h.lt a.block (by rw [hv];rfl)).2;omega
theorem FAt.of_block {w w':World} {g o:Nat} {f:FB} (h:FAt w g o f) (hb:w'.heap[g]?=w.heap[g]?):FAt w' g o f:=by
 obtain ⟨h0,h1,h2,h3⟩:=h;exact ⟨by rw [World.cell?_of_block (w:=w) (a:=⟨g,o,none⟩) hb];exact h0,by rw [World.cell?_of_block (w:=w) (a:=⟨g,o+1,none⟩) hb];exact h1,by rw [World.cell?_of_block (w:=w) (a:=⟨g,o+2,none⟩) hb];exact h2,by rw [World.cell?_of_block (w:=w) (a:=⟨g,o+3,none⟩) hb];exact h3⟩
end Tryst
namespace Tryst3
open Go Go.RowKit Tryst
theorem Ext.ev {g:Nat} {C:Obj} {x y:World} (h:Ext g C x y) {b:Nat} {t p:ByteArray} {q:Int} {v:Value} (e:EAt x b t p q v) (hb:b < x.heap.size) (hn:b≠g):EAt y b t p q v:=by
 obtain ⟨h1,h2,h3,h4,g1,g2,g3,g4⟩:=e;exact ⟨by rw [h.cell hb hn];exact h1,by rw [h.cell hb hn];exact h2,by rw [h.cell hb hn];exact h3,by rw [h.cell hb hn];exact h4,by rw [h.frozen hb hn];exact g1,by rw [h.frozen hb hn];exact g2,by rw [h.frozen hb hn];exact g3,by rw [h.frozen hb hn];exact g4⟩
end Tryst3
namespace Tryst
open Go Go.Lib
inductive Pr where
 | mk (op s:ByteArray) (num:Bool) (n:Int) (vs:ByteArray) (l:List Pr)
namespace Pr
def op:Pr->ByteArray | mk o _ _ _ _ _=>o
def s:Pr->ByteArray | mk _ s _ _ _ _=>s
def num:Pr->Bool | mk _ _ b _ _ _=>b
def n:Pr->Int | mk _ _ _ n _ _=>n
def vs:Pr->ByteArray | mk _ _ _ _ v _=>v
def l:Pr->List Pr | mk _ _ _ _ _ l=>l
def v (p:Pr):V:=⟨p.num,p.n,p.vs.data.toList⟩
def zero:Pr:=mk ⟨#[]⟩ ⟨#[]⟩ false 0 ⟨#[]⟩ []
end Pr
def Xb (p:List UInt8):Bool:=decide (p=[42])||(decide (p=[42,42])||Z1 p)
def Yz (s:List UInt8):Bool:=decide (s.length<=40)&&decide ((dots s).length<=8)&&(dots s).all Xb
inductive Opk where
 | all | topic | has | eq | lt | not | and | or
def Opk.text:Opk->ByteArray
 | .all=>⟨#[97,108,108]⟩
 | .topic=>⟨#[116,111,112,105,99]⟩
 | .has=>⟨#[104,97,115]⟩
 | .eq=>⟨#[101,113]⟩
 | .lt=>⟨#[108,116]⟩
 | .not=>⟨#[110,111,116]⟩
 | .and=>⟨#[97,110,100]⟩
 | .or=>⟨#[111,114]⟩
def opk (o:ByteArray):Option Opk:=
 if o.data.toList=[97,108,108] then some .all
 else if o.data.toList=[116,111,112,105,99] then some .topic
 else if o.data.toList=[104,97,115] then some .has
 else if o.data.toList=[101,113] then some .eq
 else if o.data.toList=[108,116] then some .lt
 else if o.data.toList=[110,111,116] then some .not
 else if o.data.toList=[97,110,100] then some .and
 else if o.data.toList=[111,114] then some .or
 else none
theorem jJM (o:ByteArray):(∃ k:Opk,o=k.text)∨(opk o=none/\(o.toList==[97,108,108])=false/\(o.toList==[116,111,112,105,99])=false/\(o.toList==[104,97,115])=false/\(o.toList==[101,113])=false/\(o.toList==[108,116])=false/\(o.toList==[110,111,116])=false/\(o.toList==[97,110,100])=false/\(o.toList==[111,114])=false):=by
 have key:∀ (k:Opk) (l:List UInt8),k.text.data.toList=l->o.data.toList=l->∃ k:Opk,o=k.text:=fun k l h1 h2=>⟨k,Xk (h2.trans h1.symm)⟩
 by_cases h1:o.data.toList=[97,108,108]
 · exact .inl (key .all _ rfl h1)
 by_cases h2:o.data.toList=[116,111,112,105,99]
 · exact .inl (key .topic _ rfl h2)
 by_cases h3:o.data.toList=[104,97,115]
 · exact .inl (key .has _ rfl h3)
 by_cases h4:o.data.toList=[101,113]
 · exact .inl (key .eq _ rfl h4)
 by_cases h5:o.data.toList=[108,116]
 · exact .inl (key .lt _ rfl h5)
 by_cases h6:o.data.toList=[110,111,116]
 · exact .inl (key .not _ rfl h6)
 by_cases h7:o.data.toList=[97,110,100]
 · exact .inl (key .and _ rfl h7)
 by_cases h8:o.data.toList=[111,114]
 · exact .inl (key .or _ rfl h8)
 refine .inr ⟨by simp only [opk,h1,h2,h3,h4,h5,h6,h7,h8,if_false],?_,?_,?_,?_,?_,?_,?_,?_⟩<;>rw [Qp]<;>simp [*]
theorem xQi (k:Opk):opk k.text=some k:=by cases k<;>rfl
def noV (num:Bool) (n:Int) (vs:ByteArray):Bool:=!num&&(decide (n=0)&&decide (vs.size=0))
def Z6 (op s:ByteArray) (num:Bool) (n:Int) (vs:ByteArray) (len:Nat):Bool:=
 match opk op with
 | none=>false
 | some .all=>decide (s.size=0)&&(noV num n vs&&decide (len=0))
 | some .topic=>Yz s.data.toList&&(noV num n vs&&decide (len=0))
 | some .has=>Q5 s.data.toList&&(noV num n vs&&decide (len=0))
 | some .eq=>Q5 s.data.toList&&(Go.Proofs.YtcbicdencgjfiaaGreatDoor.V.mayB ⟨num,n,vs.data.toList⟩&&decide (len=0))
 | some .lt=>Q5 s.data.toList&&(Go.Proofs.YtcbicdencgjfiaaGreatDoor.V.mayB ⟨num,n,vs.data.toList⟩&&decide (len=0))
 | some .not=>decide (s.size=0)&&(noV num n vs&&decide (len=1))
 | some .and=>decide (s.size=0)&&(noV num n vs&&decide (len=2))
 | some .or=>decide (s.size=0)&&(noV num n vs&&decide (len=2))
def Jj (k:Opk) (s:ByteArray) (num:Bool) (n:Int) (vs:ByteArray) (len:Nat):Bool:=
 match k with
 | .all=>decide (s.size=0)&&(noV num n vs&&decide (len=0))
 | .topic=>Yz s.data.toList&&(noV num n vs&&decide (len=0))
 | .has=>Q5 s.data.toList&&(noV num n vs&&decide (len=0))
 | .eq=>Q5 s.data.toList&&(Go.Proofs.YtcbicdencgjfiaaGreatDoor.V.mayB ⟨num,n,vs.data.toList⟩&&decide (len=0))
 | .lt=>Q5 s.data.toList&&(Go.Proofs.YtcbicdencgjfiaaGreatDoor.V.mayB ⟨num,n,vs.data.toList⟩&&decide (len=0))
 | .not=>decide (s.size=0)&&(noV num n vs&&decide (len=1))
 | .and=>decide (s.size=0)&&(noV num n vs&&decide (len=2))
 | .or=>decide (s.size=0)&&(noV num n vs&&decide (len=2))
theorem Yf (k:Opk) (s:ByteArray) (num:Bool) (n:Int) (vs:ByteArray) (len:Nat):Z6 k.text s num n vs len=Jj k s num n vs len:=by
 unfold Z6;rw [xQi];cases k<;>rfl
mutual
def X9:Pr->Nat->Nat->(Nat × Bool) × Nat
 | .mk op s num n vs l,room,nodes=>
  if room=0∨40 < nodes+1∨Z6 op s num n vs l.length=false then ((1,false),nodes+1)
  else match jQI l (room - 1) (nodes+1) 0 with
   | ((d,true),m)=>((d+1,true),m)
   | ((_,false),m)=>((1,false),m)
def jQI:List Pr->Nat->Nat->Nat->(Nat × Bool) × Nat
 | [],_,nodes,d=>((d,true),nodes)
 | q :: r,room,nodes,d=>match X9 q room nodes with
  | ((b,true),m)=>jQI r room m (max d b)
  | ((_,false),m)=>((0,false),m)
end
def mayP (p:Pr):Bool:=(X9 p 8 0).1.2&&decide ((X9 p 8 0).1.1<=8)
end Tryst
namespace Tryst
open Go
section
variable {g t:List (List UInt8)}
end
open Go.Lib
mutual
def Kg:Pr->Nat->Bool
 | .mk op s num n vs l,room=>decide (room≠0)&&(Z6 op s num n vs l.length&&jQL l (room - 1))
def jQL:List Pr->Nat->Bool
 | [],_=>true
 | q :: r,room=>Kg q room&&jQL r room
end
mutual
def Q9:Pr->Nat
 | .mk _ _ _ _ _ l=>1+J3 l
def J3:List Pr->Nat
 | []=>0
 | q :: r=>Q9 q+J3 r
end
mutual
theorem xQz:∀ (p:Pr) (room k:Nat),(X9 p room k).1.2=(Kg p room&&decide (k+Q9 p<=40))/\((X9 p room k).1.2=true->(X9 p room k).2=k+Q9 p/\(X9 p room k).1.1<=room)
 | .mk op s num n vs l,room,k=>by
  rw [X9,Kg,Q9]
  by_cases h:room=0∨40 < k+1∨Z6 op s num n vs l.length=false
  ·
   rw [if_pos h];refine ⟨?_,fun e=>by cases e⟩
   rcases h with h | h | h
   · simp [h]
   ·
    have:¬ (k+(1+J3 l)<=40):=by omega
    simp [this]
   · simp [h]
  ·
   rw [if_neg h];have h1:room≠0:=fun e=>h (.inl e)
   have h2:k+1<=40:=by
    have:=fun e=>h (.inr (.inl e))
    omega
   have h3:Z6 op s num n vs l.length=true:=by
    cases e:Z6 op s num n vs l.length with
    | false=>exact absurd (.inr (.inr e)) h
    | true=>rfl
   obtain ⟨e1,e2⟩:=jJc l (room - 1) (k+1) 0 h2 (Nat.zero_le _);rw [h3];have hk:k+(1+J3 l)=k+1+J3 l:=by omega
   rw [hk]
   rcases hd:jQI l (room - 1) (k+1) 0 with ⟨⟨d,b⟩,m⟩
   rw [hd] at e1 e2;cases b with
   | true=>
    obtain ⟨e3,e4⟩:=e2 rfl;refine ⟨?_,fun _=>⟨e3,?_⟩⟩
    · show true=_;simp only [h1,ne_eq,not_false_eq_true,decide_true,Bool.true_and];exact e1
    · show d+1<=room;have e4:d<=room - 1:=e4;omega
   | false=>
    refine ⟨?_,fun e=>by cases e⟩;show false=_;simp only [h1,ne_eq,not_false_eq_true,decide_true,Bool.true_and];exact e1
theorem jJc:∀ (l:List Pr) (room k d:Nat),k<=40->d<=room->(jQI l room k d).1.2=(jQL l room&&decide (k+J3 l<=40))/\((jQI l room k d).1.2=true->(jQI l room k d).2=k+J3 l/\(jQI l room k d).1.1<=room)
 | [],room,k,d,hk,hd=>by
  rw [jQI,jQL,J3];exact ⟨by simp [hk],fun _=>⟨rfl,hd⟩⟩
 | q :: r,room,k,d,hk,hd=>by
  rw [jQI,jQL,J3];obtain ⟨e1,e2⟩:=xQz q room k
  rcases hq:X9 q room k with ⟨⟨b,ok⟩,m⟩
  rw [hq] at e1 e2;cases ok with
  | true=>
   obtain ⟨rfl,e4⟩:=e2 rfl;have e1:true=(Kg q room&&decide (k+Q9 q<=40)):=e1;have e5:=e1.symm;rw [Bool.and_eq_true,decide_eq_true_eq] at e5;have e4:b<=room:=e4;obtain ⟨f1,f2⟩:=jJc r room (k+Q9 q) (max d b) e5.2 (by omega);have hn:k+(Q9 q+J3 r)=k+Q9 q+J3 r:=by omega
   rw [hn,e5.1,Bool.true_and];exact ⟨f1,f2⟩
  | false=>
   refine ⟨?_,fun e=>by cases e⟩;show false=_;have e1:false=(Kg q room&&decide (k+Q9 q<=40)):=e1
   rcases Bool.and_eq_false_iff.1 e1.symm with e | e
   · rw [e];rfl
   ·
    have:¬ (k+(Q9 q+J3 r)<=40):=by
     simp only [decide_eq_false_iff_not] at e;omega
    simp [this]
end
theorem qQi (p:Pr):mayP p=(Kg p 8&&decide (Q9 p<=40)):=by
 obtain ⟨h1,h2⟩:=xQz p 8 0;unfold mayP;rw [Nat.zero_add] at h1;cases hb:(X9 p 8 0).1.2 with
 | false=>rw [<- h1,hb];rfl
 | true=>
  rw [<- h1,hb];have:=(h2 hb).2;simp [this]
end Tryst
namespace Go.Proofs.YtcbicdencgjfiaaGreatDoor
open Go.RowKit Tryst
theorem qJY (u:ByteArray) (hs:u.size<=1000000000) (w:World):Calls Tryz.prog 177 #[.string u] w fun e w'=>e=.returned (.bool (Xb u.data.toList))/\Below w.heap.size w w':=by
 by_cases h1:u.data.toList=[42]
 ·
  have e1:(u.toList==[42])=true:=by rw [Qp,h1];rfl
  have HT:Hid (Xb u.data.toList=true):=by show Xb _=true;unfold Xb;rw [h1];rfl
  clear h1;go_enter Tryz.func177,Tryz.ntmps177;go_wp2_with fail;go_ret;exact ⟨Qq HT.out.symm,.refl _ _⟩
 ·
  have e1:(u.toList==[42])=false:=by rw [Qp];simpa using h1
  by_cases h2:u.data.toList=[42,42]
  ·
   have e2:(u.toList==[42,42])=true:=by rw [Qp,h2];rfl
   have HT:Hid (Xb u.data.toList=true):=by show Xb _=true;unfold Xb;rw [h2];rfl
   clear h1 h2;go_enter Tryz.func177,Tryz.ntmps177;go_wp2_with fail;go_ret;exact ⟨Qq HT.out.symm,.refl _ _⟩
  ·
   have e2:(u.toList==[42,42])=false:=by rw [Qp];simpa using h2
   have HT:Hid (Xb u.data.toList=Z1 u.data.toList):=by
    show Xb _=_;unfold Xb;rw [decide_eq_false h1,decide_eq_false h2];rfl
   clear h1 h2;go_enter Tryz.func177,Tryz.ntmps177;go_wp2_with fail;refine (qJ3 u hs _).mono ?_;rintro e w1 ⟨rfl,hb1⟩;go_wp2_with fail;go_ret;exact ⟨Qq HT.out.symm,hb1⟩
end Go.Proofs.YtcbicdencgjfiaaGreatDoor
namespace Tryst
def jQv (k:Nat) (s:List UInt8):Bool:=decide ((dots s).length<=k)&&(dots s).all Xb
theorem qJ9 {k:Nat} {s:List UInt8} (h:46 ∉ s):jQv (k+1) s=Xb s:=by
 unfold jQv;rw [vQf s h];simp
theorem kJO {k:Nat} {p r:List UInt8} (h:46 ∉ p):jQv (k+1) (p++46 :: r)=(Xb p&&jQv k r):=by
 unfold jQv;rw [jJa p r h];simp only [List.length_cons,List.all_cons,Nat.add_le_add_iff_right];cases Xb p<;>simp
theorem jJp (s:List UInt8):jQv 0 s=false:=by
 unfold jQv;have:=List.length_pos_iff.2 (kJ8 s);rw [decide_eq_false (by omega)];rfl
theorem zJl (s:List UInt8):Yz s=(decide (s.length<=40)&&jQv 8 s):=by
 unfold Yz jQv;rw [Bool.and_assoc]
end Tryst
namespace Go.Proofs.YtcbicdencgjfiaaGreatDoor
open Go.RowKit Tryst
def xJ5 (s:ByteArray) (w:World) (t i:Value) (wr:World):Prop:=∃ (k:Nat) (u:ByteArray),k<=8/\t=.string u/\i=.int .i64 k/\u.size<=s.size/\Hid (jQv 8 s.data.toList=jQv (8 - k) u.data.toList)/\Hid (Below w.heap.size w wr)
theorem jYY (s:ByteArray) (hs:s.size<=1000000000) (w:World) (hM:MaxW w) :
  Calls Tryz.prog 176 #[.string s,.func (.func 177) #[] #[]] w fun e w'=>e=.returned (.bool (Yz s.data.toList))/\Below w.heap.size w w':=by
 have HM:=Zh hM;clear hM;have hte:=zJl s.data.toList;rw [Qx] at hte
 by_cases h40:40 < s.size
 ·
  have HT:Hid (Yz s.data.toList=false):=by
   show Yz s.data.toList=false;rw [hte,decide_eq_false (by omega)];rfl
  clear hte;go_enter Tryz.func176,Tryz.ntmps176;go_wp2_with fail;go_ret;exact ⟨Qq HT.out.symm,.refl _ _⟩
 ·
  have HT:Hid (Yz s.data.toList=jQv 8 s.data.toList):=by
   show Yz s.data.toList=_;rw [hte,decide_eq_true (by omega)];rfl
  clear hte;go_enter Tryz.func176,Tryz.ntmps176;go_wp2_with fail;go_loopw [0,11] (fun t i wr=>xJ5 s w t i wr) (fun _ i _=>8 - (intOf i).toNat)
  case atStart=>exact ⟨0,s,by omega,rfl,rfl,Nat.le_refl _,rfl,.refl _ _⟩
  case round=>
   obtain ⟨k,u,hk,rfl,rfl,hu,HA,HB⟩:=hrel;obtain ⟨wo,rfl⟩:∃ wo,wo=wr:=⟨_,rfl⟩
   by_cases hlt:k < 8
   ·
    rcases jJQ u (by omega) wo (HM.out.grow HB.out) with ⟨hno,hc⟩ | ⟨p,r,e1,e2,hc⟩
    ·
     have HC:=Zh hc
     have HF:Hid (Yz s.data.toList=Xb u.data.toList):=by
      show Yz s.data.toList=_;rw [HT.out,HA.out,show 8 - k=(7 - k)+1 by omega,qJ9 hno]
     clear hc hno HA;go_wp2_with fail;refine HC.out.mono ?_;rintro e w1 ⟨rfl,hb1⟩;go_wp2_with fail;refine (qJY u (by omega) _).mono ?_;rintro e w2 ⟨rfl,hb2⟩;have KB:=Zh ((HB.out.trans (hb1.mono HB.out.size)).trans (hb2.mono (Nat.le_trans HB.out.size hb1.size)));clear hb1 hb2;cases hpb:Xb u.data.toList with
     | true=>
      have HP:=Zh hpb;clear hpb;go_wp2_with fail;go_ret;exact ⟨Qq (by rw [HF.out,HP.out]),KB.out⟩
     | false=>
      have HP:=Zh hpb;clear hpb;go_wp2_with fail;go_ret;exact ⟨Qq (by rw [HF.out,HP.out]),KB.out⟩
    ·
     have HC:=Zh hc
     have hsz:p.size+1+r.size=u.size:=by
      have:=congrArg List.length e1;rw [List.length_append,List.length_cons,Qx,Qx,Qx] at this;omega
     have hps:p.size<=1000000000:=by omega
     have hrs:r.size<=s.size:=by omega
     have HF:Hid (Yz s.data.toList=(Xb p.data.toList&&jQv (8 - (k+1)) r.data.toList)):=by
      show Yz s.data.toList=_;rw [HT.out,HA.out,show 8 - k=(8 - (k+1))+1 by omega,e1,kJO e2]
     have HA2:Hid (Xb p.data.toList=true->jQv 8 s.data.toList=jQv (8 - (k+1)) r.data.toList):=fun h=>by
      rw [<- HT.out,HF.out,h,Bool.true_and]
     clear hc HA e1 e2 hsz;go_wp2_with fail;refine HC.out.mono ?_;rintro e w1 ⟨rfl,hb1⟩;go_wp2_with fail;refine (qJY p hps _).mono ?_;rintro e w2 ⟨rfl,hb2⟩;have KB:=Zh ((HB.out.trans (hb1.mono HB.out.size)).trans (hb2.mono (Nat.le_trans HB.out.size hb1.size)));clear hb1 hb2 HB;cases hpb:Xb p.data.toList with
     | true=>
      have HP:=Zh (HA2.out hpb);clear hpb HA2 HF;go_wp2_with fail;go_roundw
      case rel=>exact ⟨k+1,r,by omega,rfl,by go_num,hrs,HP,KB⟩
      case measure=>simp [intOf]<;>omega
     | false=>
      have HP:Hid (Yz s.data.toList=false):=by
       show Yz s.data.toList=false;rw [HF.out,hpb,Bool.false_and]
      clear hpb HA2 HF;go_wp2_with fail;go_ret;exact ⟨Qq HP.out.symm,KB.out⟩
   ·
    have HP:Hid (Yz s.data.toList=false):=by
     show Yz s.data.toList=false;rw [HT.out,HA.out,show 8 - k=0 by omega,jJp]
    clear HA HT;go_wp2_with fail;go_ret;exact ⟨Qq HP.out.symm,HB.out⟩
theorem zJP (s:ByteArray) (hs:s.size<=1000000000) (w:World) (hM:MaxW w):Calls Tryz.prog 125 #[.string s] w fun e w'=>e=.returned (.bool (Yz s.data.toList))/\Below w.heap.size w w':=by
 go_enter Tryz.func125,Tryz.ntmps125;go_wp2_with fail;refine (jYY s hs _ hM).mono ?_;rintro e w1 ⟨rfl,hb1⟩;go_wp2_with fail;go_ret;exact ⟨rfl,hb1⟩
structure PBox (w:World) (b:Nat) (op s:ByteArray) (num:Bool) (n:Int) (vs:ByteArray) (u:Value):Prop where
 c0:w.cell? ⟨b,0,none⟩=some (.string op)
 c1:w.cell? ⟨b,1,none⟩=some (.string s)
 c2:w.cell? ⟨b,2,none⟩=some (.bool num)
 c3:w.cell? ⟨b,3,none⟩=some (.int .i64 n)
 c4:w.cell? ⟨b,4,none⟩=some (.string vs)
 c5:w.cell? ⟨b,5,none⟩=some u
 hz:b < w.heap.size
theorem PBox.new (w:World) (op s:ByteArray) (num:Bool) (n:Int) (vs:ByteArray) (u:Value) (T:TypeId):PBox (w.alloc (.cells #[.string op,.string s,.bool num,.int .i64 n,.string vs,u] T)) w.heap.size op s num n vs u:=by
 constructor<;>simp [go_sem]
theorem PBox.grow {v w:World} {b:Nat} {op s:ByteArray} {num:Bool} {n:Int} {vs:ByteArray} {u:Value} (h:PBox v b op s num n vs u) (hw:Below v.heap.size v w):PBox w b op s num n vs u:=by
 obtain ⟨h0,h1,h2,h3,h4,h5,h6⟩:=h;exact ⟨by rw [hw.cell (p:=⟨b,0,none⟩) h6];exact h0,by rw [hw.cell (p:=⟨b,1,none⟩) h6];exact h1,by rw [hw.cell (p:=⟨b,2,none⟩) h6];exact h2,by rw [hw.cell (p:=⟨b,3,none⟩) h6];exact h3,by rw [hw.cell (p:=⟨b,4,none⟩) h6];exact h4,by rw [hw.cell (p:=⟨b,5,none⟩) h6];exact h5,Nat.lt_of_lt_of_le h6 hw.size⟩
