import Derived.Test.YtcbicdencgjfiaaGreatDoorProg
import Derived.Carry
import Derived.OpenVars
import Derived.ChangeSame
import Derived.Lib.SmallJoins
import Derived.Deep.Slices
import Derived.Deep.Fields
import Derived.Laws.CopyOwn
import Derived.Laws.CopyRow
import Derived.Lib.AppendZerosOnto
import Derived.Lib.LazyBuf
import Derived.Lib.BufferMore
import Derived.Lib.Overlaps
import Derived.ArgAppend
import Derived.Test.YtcbicdencgjfiaaGreatDoorRMeet5
import Derived.Test.YtcbicdencgjfiaaGreatDoorRdAB
import Derived.Test.YtcbicdencgjfiaaGreatDoorRowK
import Derived.Test.YtcbicdencgjfiaaGreatDoorTopAD
set_option linter.all false
set_option maxHeartbeats 2000000
set_option maxRecDepth 100000
namespace Tryst
open Go Go.RowKit Go.ChangeShapes Go.WideShapes Go.Joins
theorem kQQ {H:Type} {enc:TypeId × Value->H} {P:Program} (hl:laidOutB P=true) {W W':World} (hb:Below W.heap.size W W') :
  ∀ {ts:List TypeId} {vs:List Value} {ds:List (DataW H)} {ps:List MemPlace},(ts.all fun t=>P.readableRec t&&decide (t < P.types.size))=true->(∀ x∈ps,x.block < W.heap.size)->
  DataW.TrodAll enc P W 0 (fun _=>true) true ts vs ds ps->DataW.TrodAll enc P W' 0 (fun b=>decide (b < W.heap.size)) true ts vs ds ps
 | [],vs,ds,ps,_,_,h=>by
  obtain ⟨rfl,rfl,rfl⟩:=trodAll_nil h;exact trodAll_mk0
 | t :: ts,vs,ds,ps,hts,hlt,h=>by
  obtain ⟨v,vs',d,ds',p,q,rfl,rfl,rfl,h1,h2⟩:=trodAll_cons h;simp only [List.all_cons,Bool.and_eq_true,decide_eq_true_eq] at hts;exact trodAll_cons_mk (Below.trod hl hts.1.1 hts.1.2 h1 hb fun x hx=>hlt x (List.mem_append.2 (.inl hx))) (kQQ hl hb (by simpa using hts.2) (fun x hx=>hlt x (List.mem_append.2 (.inr hx))) h2)
theorem zQa {H:Type} {enc:TypeId × Value->H} {P:Program} {w:World} {base:Nat} {sp:Nat->Bool} {hd:Bool}:∀ {ts:List TypeId} {vs:List Value} {ds:List (DataW H)} {ps:List MemPlace},DataW.TrodAll enc P w base sp hd ts vs ds ps->ds.length=ts.length
 | [],_,_,_,h=>by
  obtain ⟨_,rfl,_⟩:=trodAll_nil h;rfl
 | t :: ts,_,_,_,h=>by
  obtain ⟨v,vs',d,ds',p,q,_,rfl,_,_,h2⟩:=trodAll_cons h;rw [List.length_cons,List.length_cons,zQa h2]
theorem vJO {H:Type} {enc:TypeId × Value->H} {P:Program} {f:Func} {s:ChangeSpec} {apart fresh handsOn:Bool} {W W':World} {args:Array Value} {ds gs:List (DataW H)} {before:List MemPlace} {tb:TypeId}
  (hl:laidOutB P=true) (htb:P.underlying tb=some .bool) (hrt:f.resultTypes=#[tb]) (hts:(f.params.toList.all fun t=>P.readableRec t&&decide (t < P.types.size))=true) (hsv:s.vars=[])
  (hW:DataW.Whole enc P f.params.toList s.vars apart W args.toList ds gs before)
  (hfn:∀ dd,dd.length=f.params.size->s.fn H dd={ results:=[.lit (.bool true)],args:=dd }) (hb:Below W.heap.size W W') :
  s.post enc P f apart fresh handsOn false W args (.bool true) W':=by
 have hlt:∀ p∈before,p.block < W.heap.size:=fun p hp=>hW.lt p hp
 have hW0:=hW;obtain ⟨p,q,hA,hV,rfl,hfz,hnd⟩:=hW;rw [hsv] at hV;obtain ⟨rfl,rfl⟩:=trodVars_none hV
 have hlen:ds.length=f.params.size:=by
  have h:=zQa hA
  simpa using h
 have hA':=kQQ hl hb hts (fun x hx=>hlt x (by simpa using hx)) hA;have hfn':=hfn ds hlen;have hold:∀ x∈p,(fun b=>decide (b < W.heap.size)) x.block=true:=fun x hx=>by simpa using hlt x (by simpa using hx)
 have hres:∀ (b:Nat) (sp:Nat->Bool) (hd:Bool),DataW.TrodAll enc P W' b sp hd f.resultTypes.toList ((Value.bool true).resultList f.resultTypes.size) [.lit (.bool true)] []:=fun b sp hd=>by
  rw [hrt];exact trodAll_cons_mk (shut_bool htb _) trodAll_mk0
 refine ⟨ds,[],p++[],[],p,[],hW0,?_,?_,?_,?_,fun h=>by cases h⟩
 · rw [List.append_nil,hfn'];exact hres _ _ _
 · rw [List.append_nil,hfn'];exact hA'
 · rw [hsv,List.append_nil,hfn'];exact rfl
 ·
  exact World.keptBut_mono (fun x hx=>⟨hx,.inr (.inl (by simpa using hx))⟩) (hb.frame (·∈p++[]))
theorem zQn {w:World} {a:Addr} {v:Value} (h:w.cell? a=some v):a.block < w.heap.size/\a.spot=none:=by
 unfold World.cell? at h
 split at h
 ·
  rename_i c _ _ hc;refine ⟨(Array.getElem?_eq_some_iff.1 hc).1,?_⟩
  split at h
  · cases h
  · rename_i hs;simpa using hs
 · cases h
end Tryst
namespace Go.Proofs.YtcbicdencgjfiaaGreatDoor
open Go.RowKit Tryst Go.ChangeShapes Go.WideShapes Go.Joins
section
variable {H:Type} {enc:TypeId × Value->H} {w:World} {base:Nat} {sp:Nat->Bool} {hd:Bool}
theorem Xf {fuel:Nat} {cs:List Value} {x:DataW H × List MemPlace} (h:DataW.trod enc Tryz.prog w base sp hd fuel 9 cs=some x):∃ s:ByteArray,cs=[.string s]/\s.size<=9223372036854775807:=by
 obtain ⟨s,rfl,_,hs⟩:=DataW.trod_string Tryz.underlying9 h;exact ⟨s,rfl,hs⟩
end
end Go.Proofs.YtcbicdencgjfiaaGreatDoor
namespace Go.Proofs.YtcbicdencgjfiaaGreatDoor
open Go.RowKit Tryst
def f0:FB:=⟨⟨#[120]⟩,true,7,⟨#[]⟩⟩
theorem xJa {w:World} (h:w.ShapedOpen Tryz.prog):MaxW w:=by
 obtain ⟨m,hm⟩:=Go.Proofs.cell_of_shapedOpen_int (zero:=#[.int .i64 0]) (t:=3) (g:=0) h (of_decide_eq_true (by kernel_rfl)) (by kernel_rfl) rfl (by kernel_rfl) (by kernel_rfl) Tryz.underlying3;exact ⟨⟨m,hm⟩,(zQn hm).1⟩
theorem xJc (w:World) (cs:Array Value) (T:TypeId):(w.alloc (.cells cs T)).heap[w.heap.size]?=some (.cells cs T (0,0)):=by show (w.heap.push _)[_]?=_;simp
end Go.Proofs.YtcbicdencgjfiaaGreatDoor
namespace Go.Proofs.YtcbicdencgjfiaaGreatDoor
open Go.RowKit Tryst
structure VB3 (w:World) (b:Nat) (x:Bool) (n:Int) (s:ByteArray):Prop where
 c0:w.cell? ⟨b,0,none⟩=some (.bool x)
 c1:w.cell? ⟨b,1,none⟩=some (.int .i64 n)
 c2:w.cell? ⟨b,2,none⟩=some (.string s)
 hz:b < w.heap.size
theorem VB3.grow {w w':World} {b:Nat} {x:Bool} {n:Int} {s:ByteArray} (h:VB3 w b x n s) (hb:Below w.heap.size w w'):VB3 w' b x n s:=by
 obtain ⟨h0,h1,h2,h6⟩:=h;exact ⟨by rw [hb.cell (p:=⟨b,0,none⟩) h6];exact h0,by rw [hb.cell (p:=⟨b,1,none⟩) h6];exact h1,by rw [hb.cell (p:=⟨b,2,none⟩) h6];exact h2,Nat.lt_of_lt_of_le h6 hb.size⟩
theorem VB3.new (w:World) (x:Bool) (n:Int) (s:ByteArray) (T:TypeId):VB3 (w.alloc (.cells #[.bool x,.int .i64 n,.string s] T)) w.heap.size x n s:=by
 constructor<;>simp [go_sem]
theorem VB3.set {w:World} {b:Nat} {x y:Bool} {n m:Int} {s u:ByteArray} (h:VB3 w b x n s):VB3 (((w.setCell ⟨b,0,none⟩ (.bool y)).setCell ⟨b,1,none⟩ (.int .i64 m)).setCell ⟨b,2,none⟩ (.string u)) b y m u:=by
 obtain ⟨h0,h1,h2,h6⟩:=h
 constructor<;>simp [Qz,h0,h1,h2,h6]
theorem VB3.away {w:World} {b c o:Nat} {x:Bool} {n:Int} {s:ByteArray} {u:Value} (h:VB3 w b x n s) (hc:c≠b):VB3 (w.setCell ⟨c,o,none⟩ u) b x n s:=by
 obtain ⟨h0,h1,h2,h6⟩:=h
 constructor<;>simp [Qz,hc,h0,h1,h2,h6]
end Go.Proofs.YtcbicdencgjfiaaGreatDoor
namespace Tryst
open Go Go.RowKit
end Tryst
namespace Go.Proofs.YtcbicdencgjfiaaGreatDoor
open Go.RowKit Tryst
theorem topT:SliceOf Tryz.prog 22 64 3 48:=.mk' Tryz.underlying22 (z:=.agg #[.string ⟨#[]⟩,.int .i64 0,.slice none 0 0]) (by kernel_rfl) rfl (by decide) (by decide)
end Go.Proofs.YtcbicdencgjfiaaGreatDoor
namespace Tryst
open Go Go.Lib
end Tryst
namespace Go.Proofs.YtcbicdencgjfiaaGreatDoor
open Go.RowKit Tryst
theorem _root_.Tryst.ROwn.cap {e:TypeId} {k:Nat} {w:World} {base:Nat} {a:Option Addr} {n c:Nat} {l:List (List Value)} (h:ROwn e k w base (.slice a n c) l):c<=9223372036854775807:=by
 rcases h.2 with ⟨hv,_⟩ | ⟨g,cap,cur,hv,_,_,_,h2,_⟩
 · cases hv;omega
 · cases hv;exact h2
end Go.Proofs.YtcbicdencgjfiaaGreatDoor
namespace Go.Proofs.YtcbicdencgjfiaaGreatDoor
open Go.RowKit Tryst
theorem TBox.growB {v w:World} {b B:Nat} {n:ByteArray} {x:Int} {u:Value} (h:TBox v b n x u) (hb:b < B) (hB:B<=v.heap.size) (hw:Below B v w):TBox w b n x u:=by
 obtain ⟨h0,h1,h2,h3,h4,h5,h6⟩:=h;exact ⟨by rw [hw.cell (p:=⟨b,0,none⟩) hb];exact h0,by rw [hw.cell (p:=⟨b,1,none⟩) hb];exact h1,by rw [hw.cell (p:=⟨b,2,none⟩) hb];exact h2,by rw [hw.frozen (p:=⟨b,0,none⟩) hb];exact h3,by rw [hw.frozen (p:=⟨b,1,none⟩) hb];exact h4,by rw [hw.frozen (p:=⟨b,2,none⟩) hb];exact h5,Nat.lt_of_lt_of_le h6 hw.size⟩
theorem TBox.put2 {w:World} {b:Nat} {n:ByteArray} {x:Int} {u:Value} (h:TBox w b n x u) (v:Value):TBox (w.setCell ⟨b,2,none⟩ v) b n x v:=by
 obtain ⟨h0,h1,h2,h3,h4,h5,h6⟩:=h
 constructor<;>simp [Qz,Qv,h0,h1,h2,h3,h4,h5,h6]
def qQu (w:World) (a:Option Addr) (l:List TB):Prop:=Row w a 3 (l.map TB.cells)/\∀ t∈l,Strs w t.la t.log
theorem qQu.grow {v w:World} {a:Option Addr} {l:List TB} (h:qQu v a l) (hw:Below v.heap.size v w):qQu w a l:=⟨h.1.grow hw,fun t ht=>(h.2 t ht).grow hw⟩
theorem qQu.head {w:World} {a:Option Addr} {l:List TB} (h:qQu w a l) {i:Nat} (hi:i < l.length):∃ b o,a=some ⟨b,o,none⟩/\b < w.heap.size:=h.1.head (by simpa using hi)
theorem qQu.at {w:World} {b o:Nat} {l:List TB} (h:qQu w (some ⟨b,o,none⟩) l) {i:Nat} (hi:i < l.length):b < w.heap.size/\TAt w b (o+i*3) l[i]/\Strs w l[i].la l[i].log:=by
 obtain ⟨h1,h2⟩:=h.1.at (i:=i) (by simpa using hi);simp only [List.getElem_map] at h2;exact ⟨h1,⟨h2 0 (by omega),h2 1 (by omega),h2 2 (by omega)⟩,h.2 _ (List.getElem_mem hi)⟩
theorem Tops.a {w:World} {a:Option Addr} {l:List TB} (h:Tops w a l):qQu w a l:=⟨h.1,fun t ht=>(h.2 t ht).1⟩
end Go.Proofs.YtcbicdencgjfiaaGreatDoor
namespace Tryst
open Go Go.RowKit Go.ChangeShapes Go.WideShapes Go.Joins
end Tryst
namespace Go.Proofs.YtcbicdencgjfiaaGreatDoor
open Go.RowKit Tryst Go.ChangeShapes Go.WideShapes Go.Joins
section
variable {H:Type} {enc:TypeId × Value->H} {w:World} {base:Nat} {sp:Nat->Bool} {hd:Bool}
end
end Go.Proofs.YtcbicdencgjfiaaGreatDoor
namespace Tryst
open Go Go.RowKit
def OB.cells (t:OB):List Value:=[.string t.topic,.int .i64 t.next]
theorem OB.cells_len (l:List OB):∀ x∈l.map OB.cells,x.length=2:=by
 intro x hx;obtain ⟨t,_,rfl⟩:=List.mem_map.1 hx;rfl
theorem OB.cells_one (l:List OB):∀ x∈l.map OB.cells,∀ u∈x,u.oneCell'=true:=by
 intro x hx u hu;obtain ⟨t,_,rfl⟩:=List.mem_map.1 hx;simp [OB.cells] at hu
 rcases hu with rfl | rfl<;>rfl
structure OAt (w:World) (b o:Nat) (t:OB):Prop where
 c0:w.cell? ⟨b,o,none⟩=some (.string t.topic)
 c1:w.cell? ⟨b,o+1,none⟩=some (.int .i64 t.next)
abbrev Offs (w:World) (a:Option Addr) (l:List OB):Prop:=Row w a 2 (l.map OB.cells)
theorem Offs.at {w:World} {b o:Nat} {l:List OB} (h:Offs w (some ⟨b,o,none⟩) l) {i:Nat} (hi:i < l.length):b < w.heap.size/\OAt w b (o+i*2) l[i]:=by
 obtain ⟨h1,h2⟩:=Row.at h (i:=i) (by simpa using hi);simp only [List.getElem_map] at h2;exact ⟨h1,h2 0 (by omega),h2 1 (by omega)⟩
structure OfR (w:World) (a:Option Addr) (l:List OB):Prop where
 r:Offs w a l
theorem OfR.head {w:World} {a:Option Addr} {l:List OB} (h:OfR w a l) {i:Nat} (hi:i < l.length):∃ b o,a=some ⟨b,o,none⟩/\b < w.heap.size:=Row.head h.r (by simpa using hi)
end Tryst
namespace Go.Proofs.YtcbicdencgjfiaaGreatDoor
open Go.RowKit Tryst
theorem offT:SliceOf Tryz.prog 65 126 2 24:=.mk' Tryz.underlying65 (z:=.agg #[.string ⟨#[]⟩,.int .i64 0]) (by kernel_rfl) rfl (by decide) (by decide)
def idxG {α:Type} (p:α->Bool) (l:List α):Int:=match l.findIdx? p with | some i=>(i:Int) | none=>-1
theorem jJO {α:Type} {p:α->Bool} {l:List α} {k:Nat} (hlt:k < l.length) (h:∀ (j:Nat) (h:j < l.length),j < k->p l[j]=false) (hp:p l[k]=true):idxG p l=k:=by
 unfold idxG;rw [List.findIdx?_eq_some_iff_getElem.2 ⟨hlt,hp,fun j hj=>by rw [h j (by omega) hj];simp⟩]
theorem xQ6 {α:Type} {p:α->Bool} {l:List α} {k:Nat} (hlt:k < l.length) (h:∀ (j:Nat) (h:j < l.length),j < k->p l[j]=false) (hp:p l[k]=false):∀ (j:Nat) (h:j < l.length),j < k+1->p l[j]=false:=by
 intro j hj hk
 by_cases e:j=k
 · subst e;exact hp
 · exact h j hj (by omega)
theorem kJ7 {α:Type} {p:α->Bool} {l:List α} {k:Nat} (hk:l.length<=k) (h:∀ (j:Nat) (h:j < l.length),j < k->p l[j]=false):idxG p l=-1:=by
 unfold idxG
 rw [List.findIdx?_eq_none_iff.2 fun x hx=>by
  obtain ⟨j,hj,rfl⟩:=List.getElem_of_mem hx;exact h j hj (by omega)]
def qJu {α:Type} (p:α->Bool) (l:List α) (w:World) (i:Value) (wr:World):Prop:=∃ k:Nat,k<=l.length/\i=.int .i64 k/\Hid (∀ (j:Nat) (h:j < l.length),j < k->p l[j]=false)/\Hid (Below w.heap.size w wr)/\w.heap.size<=wr.heap.size
def AllR {α:Type} (R:Bool) (p:α->Bool) (l:List α) (w:World) (i:Value) (wr:World):Prop:=∃ k:Nat,k<=l.length/\i=.int .i64 k/\Hid (R=(l.drop k).all p)/\Hid (Below w.heap.size w wr)/\w.heap.size<=wr.heap.size
theorem zQJ {α:Type} {R:Bool} {p:α->Bool} {l:List α} {k:Nat} (hk:k < l.length) (h:R=(l.drop k).all p):R=(p l[k]&&(l.drop (k+1)).all p):=by
 rw [h,List.drop_eq_getElem_cons hk];rfl
theorem vQC {α:Type} {R:Bool} {p:α->Bool} {l:List α} {k:Nat} (hk:l.length<=k) (h:R=(l.drop k).all p):R=true:=by
 rw [h,List.drop_eq_nil_of_le hk];rfl
theorem jYe (t:OB) (hs:t.topic.size<=1000000000) (w:World) (hM:MaxW w):Calls Tryz.prog 225 #[.agg #[.string t.topic,.int .i64 t.next]] w fun e w'=>e=.returned (.bool (oMay t))/\Below w.heap.size w w':=by
 have HT:=Zh (fun W (hb:Below w.heap.size w W)=>qQD t.topic hs W (hM.grow hb));obtain ⟨tp,nx⟩:=t;obtain ⟨R,hR⟩:∃ R,oMay ⟨tp,nx⟩=R:=⟨_,rfl⟩;rw [hR];unfold oMay at hR;simp only at hR HT;have HR:=Zh hR;have HB:=Zh (Qj (.cells #[.string tp,.int .i64 nx] 126) (.refl w.heap.size w));obtain ⟨tb,htb⟩:∃ tb,Yx tp.data.toList=tb:=⟨_,rfl⟩;rw [htb] at HT HR;clear hR htb hM;have hc1:(w.alloc (.cells #[.string tp,.int .i64 nx] 126)).cell? ⟨w.heap.size,1,none⟩=some (.int .i64 nx):=by simp [go_sem]
 have HC1:=Zh hc1;clear hc1;go_enter Tryz.func225,Tryz.ntmps225;go_wp2_with fail;refine (HT.out _ HB.out).mono ?_;rintro e w1 ⟨rfl,hb1⟩;have c1:=(hb1.cell (p:=⟨w.heap.size,1,none⟩) (by simp)).trans HC1.out;have HB1:=Zh (Qk hb1 HB.out);clear hb1;cases tb with
 | false=>
  have HN:=Zh (show R=false by rw [<- HR.out];rfl);go_wp2_with fail;go_ret;exact ⟨Qq HN.out.symm,HB1.out⟩
 | true=>
  by_cases hn:0<=nx
  · have HN:=Zh (show R=true by rw [<- HR.out];simp [hn]);go_wp2_with fail;go_ret;exact ⟨Qq HN.out.symm,HB1.out⟩
  · have HN:=Zh (show R=decide (0<=nx) by rw [<- HR.out,Bool.true_and]);go_wp2_with fail;go_ret;exact ⟨Qq HN.out.symm,HB1.out⟩
theorem kJl (t:OB) (hs:t.topic.size<=1000000000) (w:World) (hM:MaxW w):Calls Tryz.prog 224 #[.agg #[.string t.topic,.int .i64 t.next]] w fun e w'=>e=.returned (.bool (oMay t))/\Below w.heap.size w w':=by
 have HT:=Zh (fun W (hb:Below w.heap.size w W)=>jYe t hs W (hM.grow hb));have HB:=Zh (Qj (.cells #[.string t.topic,.int .i64 t.next] 126) (.refl w.heap.size w));generalize oMay t=R at HT ⊢;clear hM;go_enter Tryz.func224,Tryz.ntmps224;go_wp2_with fail;refine (HT.out _ HB.out).mono ?_;rintro e w1 ⟨rfl,hb1⟩;go_wp2_with fail;go_ret;exact ⟨rfl,Qk hb1 HB.out⟩
theorem qY0 (a:Option Addr) (c:Nat) (l:List OB) (hl:l.length<=1500000) (hs:∀ x∈l,x.topic.size<=1000000000) (w:World) (hM:MaxW w) (hO:Offs w a l) :
  Calls Tryz.prog 223 #[.slice a l.length c,.func (.func 224) #[] #[]] w fun e w'=>e=.returned (.bool (l.all oMay))/\Below w.heap.size w w':=by
 obtain ⟨R,hR⟩:∃ R,(l.all oMay)=R:=⟨_,rfl⟩;rw [hR];have HR:Hid (R=(l.drop 0).all oMay):=Zh (by rw [<- hR];rfl);have HF:=Zh (fun W (hb:Below w.heap.size w W)=>OfR.mk (Row.grow hO hb));have HC:=Zh (fun (k:Nat) (hk:k < l.length) W (hb:Below w.heap.size w W)=>kJl l[k] (hs _ (List.getElem_mem hk)) W (hM.grow hb));clear hO hM hR hs;go_enter Tryz.func223,Tryz.ntmps223;go_wp2_with fail;go_loopw [9] (fun i wr=>AllR R (oMay) l w i wr) (fun i _=>l.length - (intOf i).toNat)
 case atStart=>exact ⟨0,by omega,rfl,HR.out,.refl _ _,by omega⟩
 case round=>
  obtain ⟨k,hk,rfl,HP,HW,hz⟩:=hrel;obtain ⟨wo,rfl⟩:∃ wo,wo=wr:=⟨_,rfl⟩
  by_cases hlt:k < l.length
  ·
   have hst:R=((oMay l[k])&&(l.drop (k+1)).all (oMay)):=zQJ hlt HP.out;obtain ⟨b,o,ha,hb⟩:=(HF.out wo HW.out).head hlt;subst ha;have HCC:=Zh (HC.out k hlt);obtain ⟨pp,hpp⟩:∃ pp,(oMay l[k])=pp:=⟨_,rfl⟩;rw [hpp] at hst;have HPP:=Zh hpp;have HST:=Zh hst;clear hpp hst HP;obtain ⟨_,f0,f1⟩:=(HF.out wo HW.out).r.at hlt;have HBX:=Zh (Qj (.cells #[.string l[k].topic,.int .i64 l[k].next] 126) HW.out);go_wp2_with fail;refine (HCC.out _ HBX.out).mono ?_;rintro e w2 ⟨rfl,hb2⟩;have HB2:=Zh (Qk hb2 HBX.out);clear hb2 HCC HBX;rw [show (oMay l[k])=pp from HPP.out];cases pp with
   | true=>
    have HN:Hid (R=(l.drop (k+1)).all (oMay)):=Zh (by have:=HST.out;rwa [Bool.true_and] at this);go_wp2_with fail;go_roundw
    case rel=>exact ⟨k+1,by omega,by go_num,HN,HB2.out,HB2.out.size⟩
    case measure=>simp [intOf]<;>omega
   | false=>
    have HN:Hid (R=false):=Zh (by have:=HST.out;rwa [Bool.false_and] at this);go_wp2_with fail;go_ret;exact ⟨Qq HN.out.symm,HB2.out⟩
  · have HN:=Zh (vQC (by omega:l.length<=k) HP.out);go_wp2_with fail;go_ret;exact ⟨Qq HN.out.symm,HW.out⟩
end Go.Proofs.YtcbicdencgjfiaaGreatDoor
namespace Tryst
open Go Go.Lib
def risO:List OB->Bool
 | a :: b :: r=>Kf a.topic b.topic&&risO (b :: r)
 | _=>true
theorem xQZ:∀ (r:List OB) (t:OB),okO (some t.topic) r=(r.all oMay&&risO (t :: r))
 | [],t=>rfl
 | x :: s,t=>by
  have e1:okO (some t.topic) (x :: s)=(oMay x&&(Kf t.topic x.topic&&okO (some x.topic) s)):=rfl;have e2:risO (t :: x :: s)=(Kf t.topic x.topic&&risO (x :: s)):=rfl;rw [e1,e2,xQZ s x,List.all_cons];cases oMay x<;>cases Kf t.topic x.topic<;>cases s.all oMay<;>simp
theorem zJ9 (l:List OB):okO none l=(l.all oMay&&risO l):=by
 cases l with
 | nil=>rfl
 | cons t r=>
  have e1:okO none (t :: r)=(oMay t&&okO (some t.topic) r):=rfl;rw [e1,xQZ,List.all_cons,Bool.and_assoc]
theorem kJS {l:List OB} {k:Nat} (h:k+1 < l.length):risO (l.drop k)=(Kf (l[k]'(by omega)).topic l[k+1].topic&&risO (l.drop (k+1))):=by
 rw [List.drop_eq_getElem_cons (by omega:k < l.length),List.drop_eq_getElem_cons h];rfl
theorem zJq {l:List OB} {k:Nat} (h:l.length<=k+1):risO (l.drop k)=true:=by
 by_cases h2:k < l.length
 · rw [List.drop_eq_getElem_cons h2,List.drop_eq_nil_of_le (by omega)];rfl
 · rw [List.drop_eq_nil_of_le (by omega)];rfl
end Tryst
namespace Go.Proofs.YtcbicdencgjfiaaGreatDoor
open Go.RowKit Tryst
def errO (b:Bool):Int:=if b=true then 0 else 1
def xJQ (w:World) (l:List OB) (R:Bool) (i:Value) (wr:World):Prop:=∃ m:Nat,i=.int .i64 ((m:Int)+1)/\m<=l.length/\Hid (R=risO (l.drop m))/\Hid (Below w.heap.size w wr)
theorem zJw (a:Option Addr) (c:Nat) (l:List OB) (hl:l.length<=1500000) (hs:∀ x∈l,x.topic.size<=1000000000) (w:World) (hM:MaxW w) (hO:Offs w a l) :
  Calls Tryz.prog 210 #[.slice a l.length c] w fun e w'=>e=.returned (.int .i64 (errO (vQ9 l)))/\Below w.heap.size w w':=by
 have CA:=Zh (qY0 a c l hl hs w hM hO);have HF:=Zh (fun W (hb:Below w.heap.size w W)=>OfR.mk (Row.grow hO hb));obtain ⟨R,hR⟩:∃ R,vQ9 l=R:=⟨_,rfl⟩;rw [hR];unfold vQ9 at hR;rw [zJ9] at hR;obtain ⟨ab,hab⟩:∃ b,l.all oMay=b:=⟨_,rfl⟩;rw [hab] at hR CA;have HR:=Zh hR;clear hM hO hs hR hab
 by_cases h20:(20:Int) < l.length
 · have HN:=Zh (show R=false by rw [<- HR.out,decide_eq_false (by omega)];rfl);go_enter Tryz.func210,Tryz.ntmps210;go_wp2_with fail;go_ret;exact ⟨Qy (by rw [HN.out];rfl),.refl _ _⟩
 ·
  go_enter Tryz.func210,Tryz.ntmps210;go_wp2_with fail;refine CA.out.mono ?_;rintro e w1 ⟨rfl,hb1⟩;have HB1:=Zh hb1;clear hb1 CA;cases ab with
  | false=>
   have HN:=Zh (show R=false by rw [<- HR.out,Bool.false_and,Bool.and_false]);go_wp2_with fail;go_ret;exact ⟨Qy (by rw [HN.out];rfl),HB1.out⟩
  | true=>
   have HR2:Hid (R=risO (l.drop 0)):=Zh (by rw [<- HR.out,decide_eq_true (by omega)];rfl);clear HR;go_wp2_with fail;go_loopw [3] (fun i wr=>xJQ w l R i wr) (fun i _=>l.length+1 - (intOf i).toNat)
   case atStart=>exact ⟨0,by go_num,by omega,HR2,HB1⟩
   case round=>
    obtain ⟨m,rfl,hm,HP,HW⟩:=hrel;obtain ⟨wo,rfl⟩:∃ wo,wo=wr:=⟨_,rfl⟩;clear HR2 HB1
    by_cases hlt:m+1 < l.length
    ·
     have y1:(m:Int)+1 < (l.length:Int):=by omega
     have y2:((m:Int)+1).toNat=m+1:=by omega
     have y3:(0:Int)<=(m:Int)+1:=by omega
     have hlm:m < l.length:=by omega
     have y4:(m:Int) < (l.length:Int):=by omega
     have y5:(0:Int)<=(m:Int):=by omega
     have hst:=kJS hlt;rw [<- HP.out] at hst;obtain ⟨b,o,ha,hb⟩:=(HF.out wo HW.out).head hlt;subst ha;obtain ⟨_,f0,f1⟩:=(HF.out wo HW.out).r.at hlt;obtain ⟨_,g0,g1⟩:=(HF.out wo HW.out).r.at (show m < l.length by omega);have HGE:=geB l[m].topic l[m+1].topic;have HST:=Zh hst;clear hst HP f1 g1;generalize Kf l[m].topic l[m+1].topic=lb at HST HGE;go_upto_region 6 with fail
     cases lb with
     | false=>
      have HN:Hid (R=false):=Zh (HST.out.trans (Bool.false_and _));have hge:(!Op.bytesLess l[m].topic.toList l[m+1].topic.toList)=true:=HGE;clear HGE HST;refine Tryst2.wp_region_grows [.is (.slice (some ⟨b,o,none⟩) l.length c),.is (.int .i64 ((m:Int)+1)),.is (.int .i64 (m:Int)),.is (.pointer (some ⟨b,o+m*2,none⟩)),.is (.pointer (some ⟨b,o+m*2,none⟩)),.is (.string l[m].topic),.is (.slice (some ⟨b,o,none⟩) l.length c),.is (.int .i64 ((m:Int)+1)),.is (.pointer (some ⟨b,o+(m+1)*2,none⟩)),.is (.pointer (some ⟨b,o+(m+1)*2,none⟩)),.is (.string l[m+1].topic),.is (.bool true)] (by kernel_rfl) (by kernel_rfl) ?obl ?fin
      case obl=>
       simp only [YA,YL,YO,YR,Op.operands,Call.operands]
       repeat' apply And.intro
       any_goals trivial
       all_goals (intro tv w' hg hold hd;(try simp at hold);obtain ⟨hcg,hfg,hsg⟩:=YG hg)
       all_goals first | (go_simp;done) | (go_simp;rw [if_neg (by omega)];exact ⟨.refl _,rfl⟩) | (obtain ⟨⟨g,hvg,hgg,hcell⟩,_⟩:=hd;have hcell0:=hcell 0 (by decide);simp at hcell0;go_simp;done) | (go_simp;exact IntWalk.i64_in _ (by omega))
      case fin=>
       intro tv w' hg hR;simp only [YF,YL,YR] at hR;obtain ⟨hcg,hfg,hsg⟩:=YG hg;simp only [YP,YL,Act.put,hR];have HB9:=Zh (Qk (Tryst2.Grow.below hg (.refl _ _)) HW.out);clear hg hR hcg hfg hsg;go_wp2_with fail;go_ret;exact ⟨Qy (by rw [HN.out];rfl),HB9.out⟩
     | true=>
      have HN:Hid (R=risO (l.drop (m+1))):=Zh (HST.out.trans (Bool.true_and _));have hge:(!Op.bytesLess l[m].topic.toList l[m+1].topic.toList)=false:=HGE;clear HGE HST;refine Tryst2.wp_region_grows [.is (.slice (some ⟨b,o,none⟩) l.length c),.is (.int .i64 ((m:Int)+1)),.is (.int .i64 (m:Int)),.is (.pointer (some ⟨b,o+m*2,none⟩)),.is (.pointer (some ⟨b,o+m*2,none⟩)),.is (.string l[m].topic),.is (.slice (some ⟨b,o,none⟩) l.length c),.is (.int .i64 ((m:Int)+1)),.is (.pointer (some ⟨b,o+(m+1)*2,none⟩)),.is (.pointer (some ⟨b,o+(m+1)*2,none⟩)),.is (.string l[m+1].topic),.is (.bool false)] (by kernel_rfl) (by kernel_rfl) ?obl ?fin
      case obl=>
       simp only [YA,YL,YO,YR,Op.operands,Call.operands]
       repeat' apply And.intro
       any_goals trivial
       all_goals (intro tv w' hg hold hd;(try simp at hold);obtain ⟨hcg,hfg,hsg⟩:=YG hg)
       all_goals first | (go_simp;done) | (go_simp;rw [if_neg (by omega)];exact ⟨.refl _,rfl⟩) | (obtain ⟨⟨g,hvg,hgg,hcell⟩,_⟩:=hd;have hcell0:=hcell 0 (by decide);simp at hcell0;go_simp;done) | (go_simp;exact IntWalk.i64_in _ (by omega))
      case fin=>
       intro tv w' hg hR;simp only [YF,YL,YR] at hR;obtain ⟨hcg,hfg,hsg⟩:=YG hg;simp only [YP,YL,Act.put,hR];have HB9:=Zh (Qk (Tryst2.Grow.below hg (.refl _ _)) HW.out);clear hg hR hcg hfg hsg;go_wp2_with fail;go_roundw
       case rel=>exact ⟨m+1,by go_num,by omega,HN,HB9⟩
       case measure=>simp [intOf]<;>omega
    ·
     have y1:¬ (m:Int)+1 < (l.length:Int):=by omega
     have HN:Hid (R=true):=Zh (HP.out.trans (zJq (by omega)));go_wp2_with fail;go_ret;exact ⟨Qy (by rw [HN.out];rfl),HW.out⟩
