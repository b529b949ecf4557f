/- ShelfOps: from its contract to the given statement. -/
import Derived.Test.YtcbicdencgjfiaaGreatDoorOffU
import Derived.Test.YtcbicdencgjfiaaGreatDoorOps20
import Derived.Test.YtcbicdencgjfiaaGreatDoorCards
import Derived.Test.YtcbicdencgjfiaaGreatDoorTie
import Derived.OpenShut
import Derived.HandedShaped
import Derived.JoinedCond
import Derived.ChangeMaps5
import Derived.Test.YtcbicdencgjfiaaGreatDoorTabs
set_option linter.unusedVariables false
set_option linter.unusedSimpArgs false
namespace Go.Proofs.YtcbicdencgjfiaaGreatDoor
open Go.RowKit Tryst
set_option maxHeartbeats 400000
set_option maxRecDepth 20000
theorem TBox.growB {v w:World} {b B:Nat} {n:ByteArray} {x:Int} {u:Value} (h:TBox v b n x u) (hb:b < B) (hB:B≤v.heap.size) (hw:Below B v w):TBox w b n x u:=by
 obtain ⟨h0,h1,h2,h3,h4,h5,h6⟩:=h
 exact ⟨by rw [hw.cell (p:=⟨b,0,none⟩) hb];exact h0,by rw [hw.cell (p:=⟨b,1,none⟩) hb];exact h1,by rw [hw.cell (p:=⟨b,2,none⟩) hb];exact h2,by rw [hw.frozen (p:=⟨b,0,none⟩) hb];exact h3,by rw [hw.frozen (p:=⟨b,1,none⟩) hb];exact h4,by rw [hw.frozen (p:=⟨b,2,none⟩) hb];exact h5,Nat.lt_of_lt_of_le h6 hw.size⟩
def TopsA (w:World) (a:Option Addr) (l:List TB):Prop:=Row w a 3 (l.map TB.cells)∧∀ t∈l,Strs w t.la t.log
theorem TopsA.grow {v w:World} {a:Option Addr} {l:List TB} (h:TopsA v a l) (hw:Below v.heap.size v w):TopsA w a l:=⟨h.1.grow hw,fun t ht=>(h.2 t ht).grow hw⟩
theorem TopsA.head {w:World} {a:Option Addr} {l:List TB} (h:TopsA w a l) {i:Nat} (hi:i < l.length):∃ b o,a=some ⟨b,o,none⟩∧b < w.heap.size:=h.1.head (by simpa using hi)
theorem TopsA.at {w:World} {b o:Nat} {l:List TB} (h:TopsA w (some ⟨b,o,none⟩) l) {i:Nat} (hi:i < l.length):b < w.heap.size∧TAt w b (o+i*3) l[i]∧Strs w l[i].la l[i].log:=by
 obtain ⟨h1,h2⟩:=h.1.at (i:=i) (by simpa using hi)
 simp only [List.getElem_map] at h2
 exact ⟨h1,⟨h2 0 (by omega),h2 1 (by omega),h2 2 (by omega)⟩,h.2 _ (List.getElem_mem hi)⟩
theorem Tops.a {w:World} {a:Option Addr} {l:List TB} (h:Tops w a l):TopsA w a l:=⟨h.1,fun t ht=>(h.2 t ht).1⟩
end Go.Proofs.YtcbicdencgjfiaaGreatDoor
namespace Go.Proofs.YtcbicdencgjfiaaGreatDoor
open Go.RowKit Tryst
set_option maxHeartbeats 400000
set_option maxRecDepth 20000
end Go.Proofs.YtcbicdencgjfiaaGreatDoor
namespace Tryst
open Go Go.RowKit Go.ChangeShapes Go.WideShapes Go.Joins
theorem read_slice {H:Type} {enc:TypeId × Value→H} {P:Program} {w:World} {base:Nat} {sp:Nat→Bool} {hd:Bool} {T E:TypeId} {k:Nat} {α:Type} (cells:α→List Value) (p:α→Prop) (zero:α) (hk:0 < k) (hu:P.underlying T=some (.slice E)) (hc:P.cellsOf E=k) (hlen:∀ y,(cells y).length=k)
  (hread:∀ {fuel:Nat} {cs:List Value} {x:DataW H × List MemPlace},DataW.trod enc P w base sp hd fuel E cs=some x→∃ y,cs=cells y∧p y)
  {fuel:Nat} {cs:List Value} {x:DataW H × List MemPlace} (h:DataW.trod enc P w base sp hd fuel T cs=some x) :
  ∃ (a:Option Addr) (l:List α) (c:Nat),cs=[.slice a l.length c]∧Row w a k (l.map cells)∧(∀ y∈l,p y)∧l.length≤9223372036854775807∧l.length≤c:=by
 rcases Go.Deep.open_slice hu h with ⟨rfl,_⟩ | ⟨ad,len,cap,m,n,D,Pl,rfl,_,hl,hm,hmm,_,hi⟩
 ·
  exact ⟨none,[],0,rfl,Row.nil _ _ _,(fun f hf=>by cases hf),Nat.zero_le _,Nat.le_refl _⟩
 ·
  have hml:len≤m:=by rw [hmm];split<;>omega
  have key:∀ i,i < len→∃ y:α,(∀ j,j < k→w.cell? ((ad.add (i*k)).add j)=(cells y)[j]?)∧p y:=fun i hil=>by
   obtain ⟨cs',hc',ht⟩:=hi i (by omega)
   rw [hc] at hc'
   obtain ⟨_,_,hcell⟩:=World.cells?_some hc'
   obtain ⟨y,rfl,hy⟩:=hread ht
   exact ⟨y,hcell,hy⟩
  obtain ⟨g,hg⟩:∃ g:Nat→α,∀ i,i < len→(∀ j,j < k→w.cell? ((ad.add (i*k)).add j)=(cells (g i))[j]?)∧p (g i):=
   ⟨fun i=>if h:i < len then (key i h).choose else zero,fun i h=>by simp only [dif_pos h];exact (key i h).choose_spec⟩
  refine ⟨some ad,(List.range len).map g,cap,by rw [List.length_map,List.length_range],?_,?_,?_,?_⟩
  ·
   intro i hil
   rw [List.length_map,List.length_map,List.length_range] at hil
   obtain ⟨hc,_⟩:=hg i hil
   obtain ⟨b,o,sp⟩:=ad
   have hz0:=(hg 0 (by omega)).1 0 hk
   have hk0:0 < (cells (g 0)).length:=by rw [hlen];exact hk
   rw [List.getElem?_eq_getElem hk0] at hz0
   obtain ⟨hb,hs⟩:=cell_lt hz0
   have hb':b < w.heap.size:=by simpa [Addr.add] using hb
   have hs':sp=none:=by simpa [Addr.add] using hs
   subst hs'
   refine ⟨b,o,rfl,hb',fun j hj=>?_⟩
   have e:(((List.range len).map g).map cells)[i]'(by simpa using hil)=cells (g i):=by simp
   rw [e,← hc j hj,Addr.add_lit,Addr.add_lit]
  ·
   intro y hy
   obtain ⟨i,hi',rfl⟩:=List.mem_map.1 hy
   exact (hg i (by simpa using hi')).2
  ·
   rw [List.length_map,List.length_range];exact Nat.le_trans hl hm
  ·
   rw [List.length_map,List.length_range];exact hl
end Tryst
namespace Go.Proofs.YtcbicdencgjfiaaGreatDoor
set_option maxRecDepth 100000
open Go.RowKit Tryst Go.ChangeShapes Go.WideShapes Go.Joins
section
variable {H:Type} {enc:TypeId × Value→H} {w:World} {base:Nat} {sp:Nat→Bool} {hd:Bool}
theorem read_strs {fuel:Nat} {cs:List Value} {x:DataW H × List MemPlace} (h:DataW.trod enc Tryz.prog w base sp hd fuel 40 cs=some x):∃ (a:Option Addr) (l:List ByteArray) (c:Nat),cs=[.slice a l.length c]∧Strs w a l∧(∀ s∈l,s.size≤9223372036854775807)∧l.length≤9223372036854775807:=by
 obtain ⟨a,l,c,h1,h2,h3,h4,_⟩:=read_slice (fun s:ByteArray=>[Value.string s]) (fun s=>s.size≤9223372036854775807) ⟨#[]⟩ (by decide) Tryz.underlying40 kStr (fun _=>rfl) (fun h=>read_str h) h
 exact ⟨a,l,c,h1,strs_row.2 h2,h3,h4⟩
theorem kInt:Tryz.prog.cellsOf 3=1:=by kernel_rfl
theorem kStrs:Tryz.prog.cellsOf 40=1:=by kernel_rfl
end
end Go.Proofs.YtcbicdencgjfiaaGreatDoor
/- operations as arguments -/
namespace Go.Proofs.YtcbicdencgjfiaaGreatDoor
set_option maxRecDepth 100000
open Go.RowKit Tryst Go.ChangeShapes Go.WideShapes Go.Joins
section
variable {H:Type} {enc:TypeId × Value→H} {w:World} {base:Nat} {sp:Nat→Bool} {hd:Bool}
theorem kJoin:Tryz.prog.cellsOf 43=4:=by kernel_rfl
theorem kDef:Tryz.prog.cellsOf 45=8:=by kernel_rfl
theorem kOp:Tryz.prog.cellsOf 48=13:=by kernel_rfl
theorem kBool20:Tryz.prog.cellsOf 4=1:=by kernel_rfl

theorem in_i64 {i:Int} (hw:(Lit.int .i64 i).wf=true):-9223372036854775808≤i∧i≤9223372036854775807:=by simpa [Lit.wf,IntKind.min,IntKind.max,IntKind.signed,IntKind.bits] using hw
theorem in_u64 {i:Int} (hw:(Lit.int .u64 i).wf=true):0≤i∧i≤18446744073709551615:=by simpa [Lit.wf,IntKind.min,IntKind.max,IntKind.signed,IntKind.bits] using hw
theorem read_join {fuel:Nat} {cs:List Value} {x:DataW H × List MemPlace} (h:DataW.trod enc Tryz.prog w base sp hd fuel 43 cs=some x) :
  ∃ j:JB,cs=[.string j.kind,.int .i64 j.parts,.int .i64 j.need,.int .i64 j.window]∧j.kind.size≤9223372036854775807∧JR j:=by
 obtain ⟨xs,n,_,_,hlen,hxl,hf⟩:=DataW.trod_struct Tryz.underlying43 h
 rw [kJoin] at hlen
 match cs,hlen,xs,hxl with
 | [c0,c1,c2,c3],_,[y0,y1,y2,y3],_=>
  have h0:DataW.trod enc Tryz.prog w base sp hd n 9 (([c0,c1,c2,c3].drop 0).take (Tryz.prog.cellsOf 9))=some y0:=hf 0 _ rfl
  have h1:DataW.trod enc Tryz.prog w base sp hd n 3 (([c0,c1,c2,c3].drop 1).take (Tryz.prog.cellsOf 3))=some y1:=hf 1 _ rfl
  have h2:DataW.trod enc Tryz.prog w base sp hd n 3 (([c0,c1,c2,c3].drop 2).take (Tryz.prog.cellsOf 3))=some y2:=hf 2 _ rfl
  have h3:DataW.trod enc Tryz.prog w base sp hd n 3 (([c0,c1,c2,c3].drop 3).take (Tryz.prog.cellsOf 3))=some y3:=hf 3 _ rfl
  rw [kStr] at h0
  rw [kInt] at h1 h2 h3
  obtain ⟨s,e0,hs⟩:=read_str h0
  obtain ⟨i,e1,_,w1⟩:=DataW.trod_int Tryz.underlying3 h1
  obtain ⟨j,e2,_,w2⟩:=DataW.trod_int Tryz.underlying3 h2
  obtain ⟨k,e3,_,w3⟩:=DataW.trod_int Tryz.underlying3 h3
  simp at e0 e1 e2 e3
  exact ⟨⟨s,i,j,k⟩,by rw [e0,e1,e2,e3],hs,⟨(in_i64 w1).1,(in_i64 w1).2,(in_i64 w2).1,(in_i64 w2).2,(in_i64 w3).1,(in_i64 w3).2⟩⟩
theorem read_preds {fuel:Nat} {cs:List Value} {x:DataW H × List MemPlace} (h:DataW.trod enc Tryz.prog w base sp hd fuel 41 cs=some x) :
  ∃ (a:Option Addr) (l:List PB) (c:Nat),cs=[.slice a l.length c]∧Row w a 6 (l.map PB.cells)∧(∀ y∈l,PArg w y)∧l.length≤9223372036854775807:=by
 obtain ⟨a,l,c,h1,h2,h3,h4,_⟩:=read_slice PB.cells (PArg w) (.mk ⟨#[]⟩ ⟨#[]⟩ false 0 ⟨#[]⟩ none 0 []) (by decide) Tryz.underlying41 kPred (fun y=>by cases y;rfl) (fun h=>read_pred _ h) h
 exact ⟨a,l,c,h1,h2,h3,h4⟩
theorem read_def {fuel:Nat} {cs:List Value} {x:DataW H × List MemPlace} (h:DataW.trod enc Tryz.prog w base sp hd fuel 45 cs=some x):∃ d:DB,cs=d.cells∧DArg w d∧JR d.j:=by
 obtain ⟨xs,n,_,_,hlen,hxl,hf⟩:=DataW.trod_struct Tryz.underlying45 h
 rw [kDef] at hlen
 match cs,hlen,xs,hxl with
 | [c0,c1,c2,c3,c4,c5,c6,c7],_,[y0,y1,y2,y3,y4],_=>
  have h0:DataW.trod enc Tryz.prog w base sp hd n 9 (([c0,c1,c2,c3,c4,c5,c6,c7].drop 0).take (Tryz.prog.cellsOf 9))=some y0:=hf 0 _ rfl
  have h1:DataW.trod enc Tryz.prog w base sp hd n 40 (([c0,c1,c2,c3,c4,c5,c6,c7].drop 1).take (Tryz.prog.cellsOf 40))=some y1:=hf 1 _ rfl
  have h2:DataW.trod enc Tryz.prog w base sp hd n 41 (([c0,c1,c2,c3,c4,c5,c6,c7].drop 2).take (Tryz.prog.cellsOf 41))=some y2:=hf 2 _ rfl
  have h3:DataW.trod enc Tryz.prog w base sp hd n 9 (([c0,c1,c2,c3,c4,c5,c6,c7].drop 3).take (Tryz.prog.cellsOf 9))=some y3:=hf 3 _ rfl
  have h4:DataW.trod enc Tryz.prog w base sp hd n 43 (([c0,c1,c2,c3,c4,c5,c6,c7].drop 4).take (Tryz.prog.cellsOf 43))=some y4:=hf 4 _ rfl
  rw [kStr] at h0 h3
  rw [kStrs] at h1
  rw [kPreds] at h2
  rw [kJoin] at h4
  obtain ⟨nm,e0,q0⟩:=read_str h0
  obtain ⟨ga,gl,gc,e1,g1,g2,g3⟩:=read_strs h1
  obtain ⟨wa,wl,wc,e2,w1,w2,w3⟩:=read_preds h2
  obtain ⟨ky,e3,q3⟩:=read_str h3
  obtain ⟨j,e4,q4,q5⟩:=read_join h4
  simp at e0 e1 e2 e3 e4
  obtain ⟨k4,k5,k6,k7⟩:=e4
  exact ⟨⟨nm,ga,gl,gc,wa,wl,wc,ky,j⟩,by rw [e0,e1,e2,e3,k4,k5,k6,k7];rfl,⟨q0,q3,q4,g1,g2,g3,w1,w2,w3⟩,q5⟩
structure OArg (w:World) (y:OPB):Prop where
 d:DArg w y.d
 j:JR y.d.j
 s:y.s.size≤9223372036854775807
 o:OPIn y
theorem read_op {fuel:Nat} {cs:List Value} {x:DataW H × List MemPlace} (h:DataW.trod enc Tryz.prog w base sp hd fuel 48 cs=some x):∃ y:OPB,cs=y.cells∧OArg w y:=by
 obtain ⟨xs,n,_,_,hlen,hxl,hf⟩:=DataW.trod_struct Tryz.underlying48 h
 rw [kOp] at hlen
 match cs,hlen,xs,hxl with
 | [c0,c1,c2,c3,c4,c5,c6,c7,c8,c9,c10,c11,c12],_,[y0,y1,y2,y3,y4,y5],_=>
  have h0:DataW.trod enc Tryz.prog w base sp hd n 3 (([c0,c1,c2,c3,c4,c5,c6,c7,c8,c9,c10,c11,c12].drop 0).take (Tryz.prog.cellsOf 3))=some y0:=hf 0 _ rfl
  have h1:DataW.trod enc Tryz.prog w base sp hd n 9 (([c0,c1,c2,c3,c4,c5,c6,c7,c8,c9,c10,c11,c12].drop 1).take (Tryz.prog.cellsOf 9))=some y1:=hf 1 _ rfl
  have h2:DataW.trod enc Tryz.prog w base sp hd n 45 (([c0,c1,c2,c3,c4,c5,c6,c7,c8,c9,c10,c11,c12].drop 2).take (Tryz.prog.cellsOf 45))=some y2:=hf 2 _ rfl
  have h3:DataW.trod enc Tryz.prog w base sp hd n 4 (([c0,c1,c2,c3,c4,c5,c6,c7,c8,c9,c10,c11,c12].drop 10).take (Tryz.prog.cellsOf 4))=some y3:=hf 3 _ rfl
  have h4:DataW.trod enc Tryz.prog w base sp hd n 46 (([c0,c1,c2,c3,c4,c5,c6,c7,c8,c9,c10,c11,c12].drop 11).take (Tryz.prog.cellsOf 46))=some y4:=hf 4 _ rfl
  have h5:DataW.trod enc Tryz.prog w base sp hd n 3 (([c0,c1,c2,c3,c4,c5,c6,c7,c8,c9,c10,c11,c12].drop 12).take (Tryz.prog.cellsOf 3))=some y5:=hf 5 _ rfl
  rw [kInt] at h0 h5
  rw [kStr] at h1
  rw [kDef] at h2
  rw [kBool20] at h3
  rw [show Tryz.prog.cellsOf 46=1 by kernel_rfl] at h4
  obtain ⟨k,e0,_,w0⟩:=DataW.trod_int Tryz.underlying3 h0
  obtain ⟨s,e1,hs⟩:=read_str h1
  obtain ⟨d,e2,hd1,hd2⟩:=read_def h2
  obtain ⟨b,e3,_⟩:=DataW.trod_bool Tryz.underlying4 h3
  obtain ⟨i,e4,_,w4⟩:=DataW.trod_int Tryz.underlying46 h4
  obtain ⟨m,e5,_,w5⟩:=DataW.trod_int Tryz.underlying3 h5
  obtain ⟨i0,i1⟩:=in_u64 w4
  obtain ⟨i,rfl⟩:=Int.eq_ofNat_of_zero_le i0
  simp [DB.cells] at e0 e1 e2 e3 e4 e5
  obtain ⟨k0,k1,k2,k3,k4,k5,k6,k7⟩:=e2
  exact ⟨⟨k,s,d,b,i,m⟩,by rw [e0,e1,k0,k1,k2,k3,k4,k5,k6,k7,e3,e4,e5];rfl,hd1,hd2,hs,⟨(in_i64 w0).1,(in_i64 w0).2,(in_i64 w5).1,(in_i64 w5).2,(by show i≤_;omega)⟩⟩
theorem open_op {r:Reach} {b0:Nat} {v:Value} {d:DataW H} {ps:List MemPlace} (hv:Value.okWide Tryz.prog w r b0 48 v) (h:DataW.Trod enc Tryz.prog w base sp hd 48 v d ps) :
  ∃ y:OPB,v=y.agg∧OArg w y:=by
 obtain ⟨cs,rfl,hcs⟩:=cells_agg Tryz.underlying48 hv
 obtain ⟨fuel,hf⟩:=h
 rw [hcs] at hf
 obtain ⟨y,e,hy⟩:=read_op hf
 exact ⟨y,agg_of e,hy⟩
end
theorem shelfOps_c (o p:OPB) (w:World) (hM:MaxW w) (hT:Tab w) (hO:OArg w o) (hP:OArg w p) :
  Calls Tryz.prog 8 #[o.agg,p.agg] w fun e w'=>e=.returned (.bool true)∧Below w.heap.size w w':=opsLaw_c o p w hM hT hO.d hP.d hO.s hP.s hO.o hP.o hO.j
end Go.Proofs.YtcbicdencgjfiaaGreatDoor
namespace Go.Proofs.YtcbicdencgjfiaaGreatDoor.shelfOps
set_option maxRecDepth 100000
open Go.ChangeShapes Go.WideShapes Go.ChangeAt Go.RowKit Go.Joins Go.ChangeMaps Tryst
theorem laidOut:laidOutB Tryz.prog=true:=by kernel_rfl
theorem contract (H:Type) (enc:TypeId × Value→H) (W:World) (base:Nat) (args:Array Value) (ds gs:List (DataW H)) (before:List MemPlace)
  (hval:∀ (j:Nat) t v,Tryz.f8.params[j]?=some t→args[j]?=some v→Value.okWide Tryz.prog W .any base t v)
  (hW:DataW.Whole enc Tryz.prog Tryz.f8.params.toList Rows.shelfOpsSpec.vars false W args.toList ds gs before) (hL:laidMetH Tryz.prog Rows.shelfOpsRow.laid W) (hsh:W.ShapedOpen Tryz.prog) :
  Calls Tryz.prog 8 args W fun e W'=>∃ v,e=.returned v∧Rows.shelfOpsSpec.post enc Tryz.prog Tryz.f8 false true false false W args v W':=by
 have hW':=hW
 obtain ⟨p,q,hA0,hV,rfl,hfz,hnd⟩:=hW
 have hA:DataW.TrodAll enc Tryz.prog W 0 (fun _=>true) true Tryz.f8.params.toList args.toList ds p:=hA0
 rw [Tryz.params8] at hA hval
 obtain ⟨v0,vs0,d0,ds0,p0,q0,hargs,rfl,rfl,h0,r0⟩:=trodAll_cons hA
 obtain ⟨v1,vs1,d1,ds1,p1,q1,rfl,rfl,rfl,h1,r1⟩:=trodAll_cons r0
 obtain ⟨rfl,rfl,rfl⟩:=trodAll_nil r1
 obtain rfl:args=#[v0,v1]:=by cases args;simp_all
 obtain ⟨y0,rfl,hY0⟩:=open_op (hval 0 48 v0 rfl rfl) h0
 obtain ⟨y1,rfl,hY1⟩:=open_op (hval 1 48 v1 rfl rfl) h1
 refine (shelfOps_c y0 y1 W (maxW_of hsh) (pow_of_laid hL) hY0 hY1).mono fun e W' ⟨he,hb⟩=>?_
 subst he
 refine ⟨_,rfl,post_law (tb:=4) laidOut Tryz.underlying4 (by kernel_rfl) (by kernel_rfl) rfl hW' (fun dd hd=>?_) hb⟩
 have hd2:dd.length=2:=hd.trans (by kernel_rfl)
 match dd,hd2 with
 | [d1,d2],_=>rfl
theorem laid_met (os:Os):laidMet Tryz.prog Rows.shelfOpsRow.laid ((laidWorld os).forCall (fun _ _=>0) ⟨#[],#[.agg #[.int .i64 0,.string ⟨#[]⟩,.string ⟨#[]⟩,.slice none 0 0,.slice none 0 0,.string ⟨#[]⟩,.string ⟨#[]⟩,.int .i64 0,.int .i64 0,.int .i64 0,.bool false,.int .u64 0,.int .i64 0],.agg #[.int .i64 0,.string ⟨#[]⟩,.string ⟨#[]⟩,.slice none 0 0,.slice none 0 0,.string ⟨#[]⟩,.string ⟨#[]⟩,.int .i64 0,.int .i64 0,.int .i64 0,.bool false,.int .u64 0,.int .i64 0]],[]⟩).memory:=
 laidMet_of_run' 40 (by kernel_rfl) (by kernel_rfl)
theorem reads (os:Os) {H:Type} (enc:TypeId × Value→H):∃ places,DataW.whole enc Tryz.prog ((laidWorld os).forCall (fun _ _=>0) ⟨#[],#[.agg #[.int .i64 0,.string ⟨#[]⟩,.string ⟨#[]⟩,.slice none 0 0,.slice none 0 0,.string ⟨#[]⟩,.string ⟨#[]⟩,.int .i64 0,.int .i64 0,.int .i64 0,.bool false,.int .u64 0,.int .i64 0],.agg #[.int .i64 0,.string ⟨#[]⟩,.string ⟨#[]⟩,.slice none 0 0,.slice none 0 0,.string ⟨#[]⟩,.string ⟨#[]⟩,.int .i64 0,.int .i64 0,.int .i64 0,.bool false,.int .u64 0,.int .i64 0]],[]⟩).memory Tryz.f8.params.toList Rows.shelfOpsSpec.vars false #[(.agg #[.int .i64 0,.string ⟨#[]⟩,.string ⟨#[]⟩,.slice none 0 0,.slice none 0 0,.string ⟨#[]⟩,.string ⟨#[]⟩,.int .i64 0,.int .i64 0,.int .i64 0,.bool false,.int .u64 0,.int .i64 0]:Value),(.agg #[.int .i64 0,.string ⟨#[]⟩,.string ⟨#[]⟩,.slice none 0 0,.slice none 0 0,.string ⟨#[]⟩,.string ⟨#[]⟩,.int .i64 0,.int .i64 0,.int .i64 0,.bool false,.int .u64 0,.int .i64 0]:Value)].toList 8=some ([.agg [.lit (.int .i64 0),.lit (.string []),.agg [.lit (.string []),.nil,.nil,.lit (.string []),.agg [.lit (.string []),.lit (.int .i64 0),.lit (.int .i64 0),.lit (.int .i64 0)]],.lit (.bool false),.lit (.int .u64 0),.lit (.int .i64 0)],.agg [.lit (.int .i64 0),.lit (.string []),.agg [.lit (.string []),.nil,.nil,.lit (.string []),.agg [.lit (.string []),.lit (.int .i64 0),.lit (.int .i64 0),.lit (.int .i64 0)]],.lit (.bool false),.lit (.int .u64 0),.lit (.int .i64 0)]],[],places):=
 ⟨[],by kernel_rfl⟩
set_option maxRecDepth 100000 in
theorem lifted (os:Os) (started:os.Started) (H:Type) (enc:TypeId × Value→H) (F:Stop.Interp) :
  ReturnsInHanded {} Tryz.checked os 8 .any ((OpenSpec.ofChange Rows.shelfOpsSpec).preRow enc Tryz.prog Tryz.f8 Rows.shelfOpsRow.domain false Rows.shelfOpsRow.laid) (((OpenSpec.ofChange Rows.shelfOpsSpec).at F).post enc Tryz.prog Tryz.f8 false true false false):=by
 obtain ⟨places,hx⟩:=reads os enc
 refine returnsInHanded_of_row (C:=Tryz.checked) (s:=OpenSpec.ofChange Rows.shelfOpsSpec) own started (by kernel_rfl) Tryz.func8
  (witness_row_at (enc:=enc) (C:=Tryz.checked) false (laidWorld os) #[.agg #[.int .i64 0,.string ⟨#[]⟩,.string ⟨#[]⟩,.slice none 0 0,.slice none 0 0,.string ⟨#[]⟩,.string ⟨#[]⟩,.int .i64 0,.int .i64 0,.int .i64 0,.bool false,.int .u64 0,.int .i64 0],.agg #[.int .i64 0,.string ⟨#[]⟩,.string ⟨#[]⟩,.slice none 0 0,.slice none 0 0,.string ⟨#[]⟩,.string ⟨#[]⟩,.int .i64 0,.int .i64 0,.int .i64 0,.bool false,.int .u64 0,.int .i64 0]] rfl (by kernel_rfl) (by kernel_rfl) (by kernel_rfl)
   (OpenSpec.preRow_of_cond 8 hx (by kernel_rfl) (fun k hk=>by cases hk) (by kernel_rfl) (laid_met os))) ?_
 intro W base args ds gs before hval hW _ _ _ hL hsh _
 exact contract H enc W base args ds gs before hval hW hL hsh
theorem said:Rows.ShelfOpsSaid:=
 OpenClaim.holds_of_cond 8 Tryz.f8 rfl rfl rfl rfl rfl rfl rfl ⟨rfl,rfl,rfl,rfl,rfl⟩ rfl rfl rfl rfl rfl (by kernel_rfl) Tryz.func8 (by kernel_rfl)
  (of_decide_eq_true (by kernel_rfl)) (by unfold Func.isWrapper;first | (rw [if_pos (by decide +kernel)];kernel_rfl) | (rw [if_neg (by decide +kernel)];exact ⟨rfl,rfl⟩))
  (fun os started H enc _ F=>by rw [OpenClaim.pre_eq_preRow];exact lifted os started H enc F)
theorem plain (f : FuncId) (fn : Func) (hf : Tryz.pinned.checked.prog.funcNamed "tryst/trystlaw20.ShelfOps" = some f) (hfn : Tryz.pinned.checked.prog.funcs[f]? = some fn) :
  false=Tryz.pinned.checked.prog.looks []∧∀ (j:Nat) t,fn.params[j]?=some t→Tryz.pinned.checked.prog.wantsStandIn t=false:=by
 obtain rfl : f = 8 := Option.some.inj ((show Tryz.prog.funcNamed "tryst/trystlaw20.ShelfOps" = some 8 by kernel_rfl).symm.trans hf) |>.symm
 obtain rfl:fn=Tryz.f8:=(Option.some.inj (Tryz.func8.symm.trans hfn)).symm
 refine ⟨by kernel_rfl,fun j t ht=>?_⟩
 rw [Tryz.params8] at ht
 obtain rfl:t=48:=by simpa using Array.mem_of_getElem? ht
 exact (show Tryz.prog.wantsStandIn 48=false by kernel_rfl)
theorem card:Rows.ShelfOpsCardSaid:=
 Claim7.holds_tied_plain_at .later [] _ _ _ _ said (fun _ h=>by cases h) (by kernel_rfl) (fun _ h=>by cases h) shelfOps_row_tie rfl ⟨rfl,rfl⟩ (by kernel_rfl) rfl plain (by kernel_rfl)
end Go.Proofs.YtcbicdencgjfiaaGreatDoor.shelfOps
