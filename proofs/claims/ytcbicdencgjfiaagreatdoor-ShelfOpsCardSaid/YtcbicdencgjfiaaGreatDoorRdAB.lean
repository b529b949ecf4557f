/- joined: the reader of an event. -/
import Derived.Deep.RegionHeld3
import Derived.Test.YtcbicdencgjfiaaGreatDoorPutU
set_option linter.unusedVariables false
set_option linter.unusedSimpArgs false
namespace Tryst
open Go Go.RowKit
structure RAt (w:World) (g:Nat) (s:ByteArray) (a e:Nat):Prop where
 c0:w.cell? ⟨g,0,none⟩=some (.string s)
 c1:w.cell? ⟨g,1,none⟩=some (.int .i64 a)
 c2:w.cell? ⟨g,2,none⟩=some (.int .i64 e)
 f1:w.frozen? ⟨g,1,none⟩=false
 f2:w.frozen? ⟨g,2,none⟩=false
 hz:g < w.heap.size
structure Only (g:Nat) (w w':World):Prop where
 below:Below g w w'
 keep:∀ k,k < w.heap.size→k≠g→w'.heap[k]?=w.heap[k]?
theorem Only.refl (g:Nat) (w:World):Only g w w:=⟨.refl _ _,fun _ _ _=>rfl⟩
theorem Only.trans {g:Nat} {u v w:World} (h:Only g u v) (k:Only g v w):Only g u w:=
 ⟨h.below.trans k.below,fun i hi hg=>(k.keep i (Nat.lt_of_lt_of_le hi h.below.size) hg).trans (h.keep i hi hg)⟩
theorem Only.drew {g:Nat} {u v:World} (h:Only g u v):Only g u v.drew:=⟨h.below.drew,h.keep⟩
theorem Only.set {g:Nat} {u v:World} (h:Only g u v) (o:Nat) (x:Value):Only g u (v.setCell ⟨g,o,none⟩ x):=
 ⟨h.below.setCell (p:=⟨g,o,none⟩) (Nat.le_refl _) x,fun k hk hg=>by
  rw [Below.heap_setCell _ _ _ _ (fun e=>hg e)];exact h.keep k hk hg⟩
theorem Only.ofBelow {g:Nat} {u v:World} (hg:g < u.heap.size) (h:Below u.heap.size u v):Only g u v:=⟨h.mono (Nat.le_of_lt hg),fun k hk _=>h.block k hk⟩
theorem RAt.grow {v w:World} {g:Nat} {s:ByteArray} {a e:Nat} (h:RAt v g s a e) (hb:Below v.heap.size v w):RAt w g s a e:=by
 obtain ⟨h0,h1,h2,h3,h4,h5⟩:=h
 exact ⟨by rw [hb.cell (p:=⟨g,0,none⟩) h5];exact h0,by rw [hb.cell (p:=⟨g,1,none⟩) h5];exact h1,by rw [hb.cell (p:=⟨g,2,none⟩) h5];exact h2,by rw [hb.frozen (p:=⟨g,1,none⟩) h5];exact h3,by rw [hb.frozen (p:=⟨g,2,none⟩) h5];exact h4,Nat.lt_of_lt_of_le h5 hb.size⟩
theorem RAt.set2 {w:World} {g:Nat} {s:ByteArray} {a e e':Nat} (h:RAt w g s a e):RAt (w.setCell ⟨g,2,none⟩ (.int .i64 e')) g s a e':=by
 obtain ⟨h0,h1,h2,h3,h4,h5⟩:=h
 constructor<;>simp [cell_setCell,frozen_setCell,h0,h1,h2,h3,h4,h5]
theorem RAt.set1 {w:World} {g:Nat} {s:ByteArray} {a e a':Nat} (h:RAt w g s a e):RAt (w.setCell ⟨g,1,none⟩ (.int .i64 a')) g s a' e:=by
 obtain ⟨h0,h1,h2,h3,h4,h5⟩:=h
 constructor<;>simp [cell_setCell,frozen_setCell,h0,h1,h2,h3,h4,h5]
theorem RAt.at {v w:World} {g c:Nat} {s:ByteArray} {a e:Nat} (h:RAt v g s a e) (ho:Only c v w) (hc:g≠c):RAt w g s a e:=by
 obtain ⟨h0,h1,h2,h3,h4,h5⟩:=h
 have hb:=ho.keep g h5 hc
 have hf:∀ j,w.frozen? ⟨g,j,none⟩=v.frozen? ⟨g,j,none⟩:=fun j=>by simp [World.frozen?,hb]
 exact ⟨by rw [World.cell?_of_block (w:=v) (a:=⟨g,0,none⟩) hb];exact h0,by rw [World.cell?_of_block (w:=v) (a:=⟨g,1,none⟩) hb];exact h1,by rw [World.cell?_of_block (w:=v) (a:=⟨g,2,none⟩) hb];exact h2,by rw [hf];exact h3,by rw [hf];exact h4,Nat.lt_of_lt_of_le h5 ho.below.size⟩
end Tryst
namespace Go.Proofs.YtcbicdencgjfiaaGreatDoor
open Go.RowKit Tryst
set_option maxHeartbeats 400000
set_option maxRecDepth 20000
end Go.Proofs.YtcbicdencgjfiaaGreatDoor
namespace Go.Proofs.YtcbicdencgjfiaaGreatDoor
open Go.RowKit Tryst
set_option maxHeartbeats 400000
set_option maxRecDepth 20000
end Go.Proofs.YtcbicdencgjfiaaGreatDoor
namespace Go.Proofs.YtcbicdencgjfiaaGreatDoor
open Go.RowKit Tryst
set_option maxHeartbeats 400000
set_option maxRecDepth 20000
theorem _root_.Tryst.RAt.other {w:World} {g c o:Nat} {s:ByteArray} {a e:Nat} {u:Value} (h:RAt w g s a e) (hc:c≠g):RAt (w.setCell ⟨c,o,none⟩ u) g s a e:=by
 obtain ⟨h0,h1,h2,h3,h4,h5⟩:=h
 constructor<;>simp [cell_setCell,frozen_setCell,hc,h0,h1,h2,h3,h4,h5]
theorem _root_.Tryst.RAt.put {w:World} {g:Nat} {s:ByteArray} {a e a' e':Nat} {x:Int} (h:RAt w g s a e) (hx:(a':Int)=x):RAt ((w.setCell ⟨g,1,none⟩ (.int .i64 x)).setCell ⟨g,2,none⟩ (.int .i64 e')) g s a' e':=by
 subst hx;exact h.set1.set2
theorem _root_.Tryst.RAt.alloc {w:World} {g:Nat} {s:ByteArray} {a e:Nat} (h:RAt w g s a e) (o:Obj):RAt (w.alloc o) g s a e:=h.grow (balloc _ (.refl _ _))
theorem _root_.Tryst.RAt.drew {w:World} {g:Nat} {s:ByteArray} {a e:Nat} (h:RAt w g s a e):RAt w.drew g s a e:=⟨h.c0,h.c1,h.c2,h.f1,h.f2,h.hz⟩
theorem _root_.Tryst.Only.new {g c:Nat} {u v:World} (h:Only g u v) (hg:g < u.heap.size) (hc:u.heap.size≤c) (o:Nat) (x:Value):Only g u (v.setCell ⟨c,o,none⟩ x):=
 ⟨h.below.setCell (p:=⟨c,o,none⟩) (show g≤c by omega) x,fun k hk hkg=>by
  rw [Below.heap_setCell _ _ _ _ (fun e=>(by have e':k=c:=e;omega))];exact h.keep k hk hkg⟩
theorem _root_.Tryst.Only.alloc {g:Nat} {u v:World} (h:Only g u v) (hg:g < u.heap.size) (o:Obj):Only g u (v.alloc o):=
 h.trans (Only.ofBelow (Nat.lt_of_lt_of_le hg h.below.size) (balloc o (.refl _ _)))
def VV (v:V):Value:=.agg #[.bool v.num,.int .i64 v.n,.string ⟨v.s.toArray⟩]
structure VBox (w:World) (b:Nat) (v:V):Prop where
 c0:w.cell? ⟨b,0,none⟩=some (.bool v.num)
 c1:w.cell? ⟨b,1,none⟩=some (.int .i64 v.n)
 c2:w.cell? ⟨b,2,none⟩=some (.string ⟨v.s.toArray⟩)
 f0:w.frozen? ⟨b,0,none⟩=false
 f1:w.frozen? ⟨b,1,none⟩=false
 f2:w.frozen? ⟨b,2,none⟩=false
 hz:b < w.heap.size
theorem VBox.grow {w w':World} {b:Nat} {v:V} (h:VBox w b v) (hb:Below w.heap.size w w'):VBox w' b v:=by
 obtain ⟨h0,h1,h2,h3,h4,h5,h6⟩:=h
 exact ⟨by rw [hb.cell (p:=⟨b,0,none⟩) h6];exact h0,by rw [hb.cell (p:=⟨b,1,none⟩) h6];exact h1,by rw [hb.cell (p:=⟨b,2,none⟩) h6];exact h2,by rw [hb.frozen (p:=⟨b,0,none⟩) h6];exact h3,by rw [hb.frozen (p:=⟨b,1,none⟩) h6];exact h4,by rw [hb.frozen (p:=⟨b,2,none⟩) h6];exact h5,Nat.lt_of_lt_of_le h6 hb.size⟩
theorem VBox.alloc {w:World} {b:Nat} {v:V} (h:VBox w b v) (o:Obj):VBox (w.alloc o) b v:=h.grow (balloc _ (.refl _ _))
theorem VBox.drew {w:World} {b:Nat} {v:V} (h:VBox w b v):VBox w.drew b v:=⟨h.c0,h.c1,h.c2,h.f0,h.f1,h.f2,h.hz⟩
theorem VBox.other {w:World} {b c o:Nat} {v:V} {u:Value} (h:VBox w b v) (hc:c≠b):VBox (w.setCell ⟨c,o,none⟩ u) b v:=by
 obtain ⟨h0,h1,h2,h3,h4,h5,h6⟩:=h
 constructor<;>simp [cell_setCell,frozen_setCell,hc,h0,h1,h2,h3,h4,h5,h6]
theorem VBox.set {w:World} {b:Nat} {v u:V} (h:VBox w b u):VBox (((w.setCell ⟨b,0,none⟩ (.bool v.num)).setCell ⟨b,1,none⟩ (.int .i64 v.n)).setCell ⟨b,2,none⟩ (.string ⟨v.s.toArray⟩)) b v:=by
 obtain ⟨h0,h1,h2,h3,h4,h5,h6⟩:=h
 constructor<;>simp [cell_setCell,frozen_setCell,h0,h1,h2,h3,h4,h5,h6]
theorem VBox.new (w:World) (v:V) (T:TypeId):VBox (w.alloc (.cells #[.bool v.num,.int .i64 v.n,.string ⟨v.s.toArray⟩] T)) w.heap.size v:=by
 constructor<;>simp [go_sem]
end Go.Proofs.YtcbicdencgjfiaaGreatDoor
namespace Tryst
open Go Go.RowKit
theorem EAt.only {v w:World} {g b:Nat} {t p:ByteArray} {q:Int} {u:Value} (h:EAt v b t p q u) (ho:Only g v w) (hb:b < v.heap.size) (hne:b≠g):EAt w b t p q u:=by
 obtain ⟨h1,h2,h3,h4,g1,g2,g3,g4⟩:=h
 have e:=ho.keep b hb hne
 have hf:∀ j,w.frozen? ⟨b,j,none⟩=v.frozen? ⟨b,j,none⟩:=fun j=>by simp [World.frozen?,e]
 exact ⟨by rw [World.cell?_of_block (w:=v) (a:=⟨b,0,none⟩) e];exact h1,by rw [World.cell?_of_block (w:=v) (a:=⟨b,1,none⟩) e];exact h2,by rw [World.cell?_of_block (w:=v) (a:=⟨b,2,none⟩) e];exact h3,by rw [World.cell?_of_block (w:=v) (a:=⟨b,3,none⟩) e];exact h4,
  by rw [hf];exact g1,by rw [hf];exact g2,by rw [hf];exact g3,by rw [hf];exact g4⟩
theorem EAt.away {w:World} {b c o:Nat} {t p:ByteArray} {q:Int} {u x:Value} (h:EAt w b t p q u) (hn:c≠b):EAt (w.setCell ⟨c,o,none⟩ x) b t p q u:=by
 obtain ⟨h1,h2,h3,h4,g1,g2,g3,g4⟩:=h
 constructor<;>simp [cell_setCell,frozen_setCell,hn,h1,h2,h3,h4,g1,g2,g3,g4]
structure TkW (w X:World) (s:ByteArray) (a e:Nat) (t p:ByteArray) (q:Int) (v:Value):Prop where
 r:RAt X (w.heap.size+1) s a e
 z:EAt X w.heap.size ⟨#[]⟩ ⟨#[]⟩ 0 (.slice none 0 0)
 ev:EAt X (w.heap.size+1+1) t p q v
 b:Below w.heap.size w X
 hz:w.heap.size+3≤X.heap.size
theorem RAt.away {w:World} {g c o:Nat} {s:ByteArray} {a e:Nat} {u:Value} (h:RAt w g s a e) (hc:c≠g):RAt (w.setCell ⟨c,o,none⟩ u) g s a e:=by
 obtain ⟨h0,h1,h2,h3,h4,h5⟩:=h
 constructor<;>simp [cell_setCell,frozen_setCell,hc,h0,h1,h2,h3,h4,h5]
theorem TkW.only {w X Y:World} {s:ByteArray} {a e a' e':Nat} {t p:ByteArray} {q:Int} {v:Value} (h:TkW w X s a e t p q v) (hr:RAt Y (w.heap.size+1) s a' e') (ho:Only (w.heap.size+1) X Y):TkW w Y s a' e' t p q v:=by
 have:=h.hz
 exact ⟨hr,h.z.only ho (by omega) (by omega),h.ev.only ho (by omega) (by omega),h.b.trans (ho.below.mono (by omega)),Nat.le_trans this ho.below.size⟩
theorem TkW.grow {w X Y:World} {s:ByteArray} {a e:Nat} {t p:ByteArray} {q:Int} {v:Value} (h:TkW w X s a e t p q v) (hb:Below X.heap.size X Y):TkW w Y s a e t p q v:=by
 have:=h.hz
 exact ⟨h.r.grow hb,h.z.grow (by omega) hb,h.ev.grow (by omega) hb,h.b.trans (hb.mono (by omega)),Nat.le_trans this hb.size⟩
theorem TkW.err {w X:World} {s:ByteArray} {a e e':Nat} {t p:ByteArray} {q:Int} {v:Value} (h:TkW w X s a e t p q v):TkW w (X.setCell ⟨w.heap.size+1,2,none⟩ (.int .i64 e')) s a e' t p q v:=
 ⟨h.r.set2,h.z.away (by omega),h.ev.away (by omega),h.b.setCell (p:=⟨w.heap.size+1,2,none⟩) (by simp) _,by have:=h.hz;simp;omega⟩
theorem TkW.far {w X:World} {s:ByteArray} {a e c o:Nat} {t p:ByteArray} {q:Int} {v u:Value} (h:TkW w X s a e t p q v) (hc:w.heap.size+3≤c):TkW w (X.setCell ⟨c,o,none⟩ u) s a e t p q v:=
 ⟨h.r.away (by omega),h.z.away (by omega),h.ev.away (by omega),h.b.setCell (p:=⟨c,o,none⟩) (by simp;omega) _,by have:=h.hz;simp;omega⟩
structure FR (X:World) (B:Nat) (a:Option Addr) (L:List FB):Prop where
 fl:Flds X a L
 own:∀ A,a=some A→A=⟨A.block,0,none⟩∧B≤A.block∧A.block < X.heap.size∧∀ j,X.frozen? ⟨A.block,j,none⟩=false
theorem FR.only {X Y:World} {B g:Nat} {a:Option Addr} {L:List FB} (h:FR X B a L) (ho:Only g X Y) (hg:g < B):FR Y B a L:=by
 refine ⟨fun i hi=>?_,fun A hA=>?_⟩
 ·
  obtain ⟨b,o,h1,h2,h3⟩:=h.fl i hi
  obtain ⟨_,g2,_⟩:=h.own _ h1
  exact ⟨b,o,h1,Nat.lt_of_lt_of_le h2 ho.below.size,h3.of_block (ho.keep b h2 (by have g2':B≤b:=g2;omega))⟩
 ·
  obtain ⟨g1,g2,g3,g4⟩:=h.own A hA
  refine ⟨g1,g2,Nat.lt_of_lt_of_le g3 ho.below.size,fun j=>?_⟩
  have e:=ho.keep A.block g3 (by omega)
  have:=g4 j
  simpa [World.frozen?,e] using this
theorem FR.away {X:World} {B c o:Nat} {a:Option Addr} {L:List FB} {u:Value} (h:FR X B a L) (hc:c < B):FR (X.setCell ⟨c,o,none⟩ u) B a L:=by
 refine ⟨fun i hi=>?_,fun A hA=>?_⟩
 ·
  obtain ⟨b,o',h1,h2,h3⟩:=h.fl i hi
  obtain ⟨_,g2,_⟩:=h.own _ h1
  have hne:c≠b:=by have g2':B≤b:=g2;omega
  obtain ⟨k0,k1,k2,k3⟩:=h3
  exact ⟨b,o',h1,by simpa using h2,⟨by simp [cell_setCell,hne,k0],by simp [cell_setCell,hne,k1],by simp [cell_setCell,hne,k2],by simp [cell_setCell,hne,k3]⟩⟩
 ·
  obtain ⟨g1,g2,g3,g4⟩:=h.own A hA
  refine ⟨g1,g2,by simpa using g3,fun j=>?_⟩
  have hne:c≠A.block:=by omega
  simp [frozen_setCell,g4 j]
theorem FR.grow {X Y:World} {B:Nat} {a:Option Addr} {L:List FB} (h:FR X B a L) (hb:Below X.heap.size X Y):FR Y B a L:=
 ⟨h.fl.grow hb,fun A hA=>by
  obtain ⟨g1,g2,g3,g4⟩:=h.own A hA
  exact ⟨g1,g2,Nat.lt_of_lt_of_le g3 hb.size,fun j=>by rw [hb.frozen (p:=⟨A.block,j,none⟩) g3];exact g4 j⟩⟩
theorem FR.name {X:World} {B F:Nat} {L:List FB} {i:Nat} (h:FR X B (some ⟨F,0,none⟩) L) (hi:i < L.length) (nm:ByteArray):FR (X.setCell ⟨F,i*4,none⟩ (.string nm)) B (some ⟨F,0,none⟩) (L.set i { L[i] with name:=nm }):=by
 refine ⟨fun j hj=>?_,fun A hA=>?_⟩
 ·
  rw [List.length_set] at hj
  obtain ⟨hb,k0,k1,k2,k3⟩:=h.fl.at hj
  rw [Nat.zero_add] at k0 k1 k2 k3
  refine ⟨F,0,rfl,by simpa using hb,?_⟩
  rw [Nat.zero_add]
  by_cases e:i=j
  ·
   subst e
   rw [List.getElem_set_self]
   exact ⟨by simp [cell_setCell,k0],by simp [cell_setCell,k1],by simp [cell_setCell,k2],by simp [cell_setCell,k3]⟩
  ·
   rw [List.getElem_set_ne e]
   have n0:¬ i*4=j*4:=by omega
   have n1:¬ i*4=j*4+1:=by omega
   have n2:¬ i*4=j*4+2:=by omega
   have n3:¬ i*4=j*4+3:=by omega
   exact ⟨by simp [cell_setCell,n0,k0],by simp [cell_setCell,n1,k1],by simp [cell_setCell,n2,k2],by simp [cell_setCell,n3,k3]⟩
 ·
  obtain ⟨g1,g2,g3,g4⟩:=h.own A hA
  exact ⟨g1,g2,by simpa using g3,fun j=>by simp [frozen_setCell,g4 j]⟩
theorem FR.val {X:World} {B F:Nat} {L:List FB} {i:Nat} (h:FR X B (some ⟨F,0,none⟩) L) (hi:i < L.length) (x:Bool) (n:Int) (s:ByteArray) :
  FR (((X.setCell ⟨F,i*4+1,none⟩ (.bool x)).setCell ⟨F,i*4+2,none⟩ (.int .i64 n)).setCell ⟨F,i*4+3,none⟩ (.string s)) B (some ⟨F,0,none⟩) (L.set i ⟨L[i].name,x,n,s⟩):=by
 refine ⟨fun j hj=>?_,fun A hA=>?_⟩
 ·
  rw [List.length_set] at hj
  obtain ⟨hb,k0,k1,k2,k3⟩:=h.fl.at hj
  rw [Nat.zero_add] at k0 k1 k2 k3
  refine ⟨F,0,rfl,by simpa using hb,?_⟩
  rw [Nat.zero_add]
  by_cases e:i=j
  ·
   subst e
   rw [List.getElem_set_self]
   exact ⟨by simp [cell_setCell,k0],by simp [cell_setCell,k1],by simp [cell_setCell,k2],by simp [cell_setCell,k3]⟩
  ·
   rw [List.getElem_set_ne e]
   have e4:¬ i*4=j*4:=by omega
   have m01:¬ i*4=j*4+1:=by omega
   have m02:¬ i*4=j*4+2:=by omega
   have m03:¬ i*4=j*4+3:=by omega
   have m10:¬ i*4+1=j*4:=by omega
   have m12:¬ i*4+1=j*4+2:=by omega
   have m13:¬ i*4+1=j*4+3:=by omega
   have m20:¬ i*4+2=j*4:=by omega
   have m21:¬ i*4+2=j*4+1:=by omega
   have m23:¬ i*4+2=j*4+3:=by omega
   have m30:¬ i*4+3=j*4:=by omega
   have m31:¬ i*4+3=j*4+1:=by omega
   have m32:¬ i*4+3=j*4+2:=by omega
   exact ⟨by simp [cell_setCell,e4,m01,m02,m03,m10,m12,m13,m20,m21,m23,m30,m31,m32,k0],by simp [cell_setCell,e4,m01,m02,m03,m10,m12,m13,m20,m21,m23,m30,m31,m32,k1],by simp [cell_setCell,e4,m01,m02,m03,m10,m12,m13,m20,m21,m23,m30,m31,m32,k2],by simp [cell_setCell,e4,m01,m02,m03,m10,m12,m13,m20,m21,m23,m30,m31,m32,k3]⟩
 ·
  obtain ⟨g1,g2,g3,g4⟩:=h.own A hA
  exact ⟨g1,g2,by simpa using g3,fun j=>by simp [frozen_setCell,g4 j]⟩
end Tryst
namespace Go.Proofs.YtcbicdencgjfiaaGreatDoor
open Go.RowKit Tryst
set_option maxHeartbeats 400000
set_option maxRecDepth 20000
theorem _root_.Tryst.FR.lower {X:World} {B C:Nat} {a:Option Addr} {L:List FB} (h:FR X B a L) (hC:C≤B):FR X C a L:=
 ⟨h.fl,fun A hA=>by
  obtain ⟨g1,g2,g3,g4⟩:=h.own A hA
  exact ⟨g1,by omega,g3,g4⟩⟩
end Go.Proofs.YtcbicdencgjfiaaGreatDoor
