import Derived.Test.YtcbicdencgjfiaaGreatDoorCut20
import Derived.Test.YtcbicdencgjfiaaGreatDoorFew9
import Derived.Test.YtcbicdencgjfiaaGreatDoorTopFN
set_option linter.all false
set_option maxHeartbeats 4000000
set_option maxRecDepth 20000
namespace Go.Proofs.YtcbicdencgjfiaaGreatDoor
open Go Go.RowKit Tryst
def outK:EK UB where
 T:=90
 k:=5
 cells:=UB.cells
 val:=UB.val
 E:=fun S w y=>LM idK S w y.ia y.ic y.ids
 len:=fun y=>rfl
 one:=fun y u hu=>by
  simp [UB.cells] at hu
  rcases hu with rfl | rfl | rfl | rfl | rfl<;>rfl
 keep:=fun h hk hz=>h.keep hk hz
structure FwE {β:Type} (X:EK β) (w:World) (ys:List β) (v:Value) (wr:World):Prop where
 low:Below w.heap.size w wr
 row:ROwn X.T X.k wr w.heap.size v (ys.map X.cells)
 mem:∀ y∈ys,X.E (fun g=>w.heap.size<=g/\Away v g) wr y
theorem FwE.start {β:Type} (X:EK β) (w:World):FwE X w [] (.slice none 0 0) w:=⟨.refl _ _,ROwn.nil _ _ _ _,fun y h=>by cases h⟩
theorem FwE.next {β:Type} {X:EK β} {w wo w2 w3:World} {ys:List β} {v:Value} {y:β} {o:Obj} {g' cap n':Nat} (h:FwE X w ys v wo) (hy:X.E (fun g=>wo.heap.size<=g) w2 y) (ho:Below wo.heap.size wo w2)
  (hr:ROwn X.T X.k w3 w.heap.size (.slice (some ⟨g',0,none⟩) n' cap) (ys.map X.cells++[X.cells y])) (hb:Below w.heap.size (w2.alloc o) w3) (hst:∀ k,k < w2.heap.size+1->Away v k->w3.heap[k]?=(w2.alloc o).heap[k]?) (hat:v.ownBlock=some g'∨g'=w2.heap.size+1) :
  FwE X w (ys++[y]) (.slice (some ⟨g',0,none⟩) n' cap) w3:=by
 have hz:=h.low.size;have hz2:=ho.size;have hB:Below w.heap.size w2 w3:=((Below.refl w.heap.size w2).alloc (by omega) o).trans hb;have hal:∀ k,k < w2.heap.size->Away v k->w3.heap[k]?=w2.heap[k]?:=fun k hk ha=>(hst k (by omega) ha).trans (Lib.alloc_old w2 o k hk)
 have hv:∀ A n c,v=.slice (some A) n c->A.block < wo.heap.size:=fun A n c e=>(World.ownsRow.lt h.row A.block (by rw [e];rfl)).2
 refine ⟨(Qk ho h.low).trans hB,by rw [List.map_append];exact hr,fun z hz=>?_⟩
 have h2:X.E (fun g=>w.heap.size<=g/\Away v g) w2 z:=by
  rcases List.mem_append.1 hz with hz | hz
  · exact X.keep (h.mem z hz) (fun g hg hl=>⟨ho.block g hl,hg⟩) ho.size
  · rw [List.mem_singleton] at hz;subst hz;exact X.keep hy (fun g hg _=>⟨rfl,by omega,fun A n c e he=>by have:=hv A n c e;omega⟩) (Nat.le_refl _)
 refine X.keep h2 (fun g hg hl=>⟨hal g hl hg.2,hg.1,fun A n c e he=>?_⟩) hB.size;cases e;have he:g'=g:=he
 rcases hat with hat | hat
 ·
  cases v with
  | slice a0 n c=>
   cases a0 with
   | none=>simp [Value.ownBlock] at hat
   | some A=>
    simp [Value.ownBlock] at hat;exact hg.2 A n c rfl (by omega)
  | _=>simp [Value.ownBlock] at hat
 · omega
theorem idT:SliceOf Tryz.prog 88 46 1 8:=.mk' Tryz.underlying88 (z:=.int .u64 0) (by kernel_rfl) rfl (by decide) (by decide)
theorem zQu (l:List Nat):∀ x∈l.map idK.cells,x.length=1:=by
 intro x hx;obtain ⟨t,_,rfl⟩:=List.mem_map.1 hx;rfl
theorem qJm (l:List Nat):∀ x∈l.map idK.cells,∀ u∈x,u.oneCell'=true:=by
 intro x hx u hu;obtain ⟨t,_,rfl⟩:=List.mem_map.1 hx;exact idK.one t u hu
def xQd (x:UB) (ia:Option Addr) (ic:Nat):UB:=⟨x.id,Q7 x.sub,ia,ic,x.ids.take 31,x.tries,x.due⟩
theorem kJ2 (x:UB) (hs:x.sub.size<=9223372036854775807) (hn:x.ids.length<=9223372036854775807) (hc:x.ids.length<=x.ic) (w:World) (hI:Row w x.ia 1 (x.ids.map idK.cells)) :
  Calls Tryz.prog 63 #[x.val] w fun e w'=>∃ ia ic,e=.returned (xQd x ia ic).val/\outK.E (fun g=>w.heap.size<=g) w' (xQd x ia ic)/\Below w.heap.size w w':=by
 have CS:=Zh (fun W=>jQn x.sub hs W);have HI:=Zh (fun W (hb:Below w.heap.size w W)=>Row.grow hI hb);clear hI hs;obtain ⟨id,sub,ia,ic,ids,tries,due⟩:=x;unfold UB.val xQd;simp only at CS HI hn hc ⊢;generalize Q7 sub=sub2 at CS ⊢;have HR:=Zh (fun W (hb:Below w.heap.size w W)=>show Row W ia 1 ((ids.take 31).map idK.cells) by rw [List.map_take];exact Row.take (HI.out W hb) 31);have hL1:31 < ids.length->(ids.take 31).length=31:=fun h=>by rw [List.length_take];omega
 have hL2:¬ 31 < ids.length->(ids.take 31).length=ids.length:=fun h=>by rw [List.length_take];omega
 generalize ids.take 31=L at HR hL1 hL2 ⊢;clear HI;have V1:=Zh ((Var.new w 90 [.int .u64 id,.string sub,.slice ia ids.length ic,.int .i64 tries,.int .i64 due]).grow (Qj (.cells #[.int .u64 0,.string ⟨#[]⟩,.slice none 0 0,.int .i64 0,.int .i64 0] 90) (.refl _ _)));have V2:=Zh (Var.new (w.alloc (.cells #[.int .u64 id,.string sub,.slice ia ids.length ic,.int .i64 tries,.int .i64 due] 90)) 90 [.int .u64 0,.string ⟨#[]⟩,.slice none 0 0,.int .i64 0,.int .i64 0]);have B0:=Zh (Qj (.cells #[.int .u64 0,.string ⟨#[]⟩,.slice none 0 0,.int .i64 0,.int .i64 0] 90) (Qj (.cells #[.int .u64 id,.string sub,.slice ia ids.length ic,.int .i64 tries,.int .i64 due] 90) (.refl w.heap.size w)));go_enter Tryz.func63,Tryz.ntmps63;go_upto_region 1 with fail
 revert V1 V2 B0;simp only [List.toArray,World.size_alloc];generalize (w.alloc (.cells _ 90)).alloc (.cells _ 90)=X;intro V1 V2 B0;obtain ⟨x0,x1,x2,x3,x4⟩:=v5 (V1.out);have xf:=V1.out.fz;have hz1:=V1.out.lt;go_wp2_with fail;refine (CS.out _).mono ?_;rintro e w1 ⟨rfl,rfl⟩;have V1a:=Zh (V1.out.set 1 (.string sub2));have V2a:=Zh (V2.out.away (c:=w.heap.size) (o:=1) (by omega) (.string sub2));have B1:=Zh (bset (.string sub2) (p:=⟨w.heap.size,1,none⟩) (Nat.le_refl _) B0.out);clear V1 V2 B0;go_upto_region 2 with fail
 revert V1a V2a B1;simp only [List.toArray,List.set];generalize X.setCell _ _=Y;intro V1a V2a B1;clear xf x0 x1 x2 x3 x4 hz1;obtain ⟨x0,x1,x2,x3,x4⟩:=v5 (V1a.out);have xf:=V1a.out.fz;have hz1:=V1a.out.lt;have hz2:=V2a.out.lt
 by_cases h:31 < ids.length
 ·
  have y1:(31:Int) < ids.length:=by omega
  have y2:(31:Int)<=ic:=by omega
  have y3:31<=ic:=by omega
  have HL:=Zh (hL1 h);clear hL1 hL2;go_upto_region 4 with fail
  have V1b:=Zh (V1a.out.set 2 (.slice ia 31 ic));have V2b:=Zh (V2a.out.away (c:=w.heap.size) (o:=2) (by omega) (.slice ia 31 ic));have B2:=Zh (bset (.slice ia 31 ic) (p:=⟨w.heap.size,2,none⟩) (Nat.le_refl _) B1.out);revert V1b V2b B2;simp only [List.toArray,List.set];generalize Y.setCell _ _=Z;intro V1b V2b B2;clear V1a V2a B1 xf x0 x1 x2 x3 x4 hz1 hz2;have hz1:=V1b.out.lt;have hz2:=V2b.out.lt;have HE:=Zh (ROwn.empty 46 1 Z (w.heap.size+2) (by omega));have HA:=Zh (Qj (.cells #[] 46) (.refl (Z).heap.size Z));have V1c:=Zh (V1b.out.grow HA.out);have V2c:=Zh (V2b.out.grow HA.out);have B3:=Zh (Qk HA.out B2.out);have HRZ:=Zh (HR.out _ B3.out);obtain ⟨x0,x1,x2,x3,x4⟩:=v5 (V1b.out);clear V1b V2b B2 HA HR;go_wp2_with (at_builtin;refine jQC idT rfl _ _ rfl (w.heap.size+2) _ [] 0 rfl rfl HE.out (L.map idK.cells) (31) (by rw [List.length_map];exact HL.out) (zQu L) (qJm L) ia ic rfl HRZ.out (by omega) (by simp;omega) ?hk)
  case hk=>
   intro v' w2 ho hb2;obtain ⟨a2,c2,hv2,hr2,hs2,hat2⟩:=ROwn.row ho (zQu L) (by decide);simp only [List.nil_append,List.length_map] at hv2 hr2 hs2 hat2;subst hv2;have HLM:=Zh (show LM idK (fun g=>w.heap.size+2<=g) w2 a2 c2 L from ⟨hr2,hs2,fun b o e=>⟨(hat2 b o e).1,(hat2 b o e).2.1⟩,fun y hy=>trivial⟩);have V1d:=Zh (V1c.out.growB (by omega) hb2);have V2d:=Zh (V2c.out.growB (by omega) hb2);have B4:=Zh (B3.out.trans (hb2.mono (by omega)));clear ho hb2 hr2 hs2 hat2 V1c V2c B3 x0 x1 x2 x3 x4 HRZ HE hz1 hz2;obtain ⟨x0,x1,x2,x3,x4⟩:=v5 (V1d.out);have xf:=V1d.out.fz;have hz1:=V1d.out.lt;obtain ⟨u0,u1,u2,u3,u4⟩:=v5 (V2d.out);have uf:=V2d.out.fz;have hz2:=V2d.out.lt;have B5:=Zh (bset (.slice a2 L.length c2) (p:=⟨w.heap.size,2,none⟩) (Nat.le_refl _) B4.out);have HL2:=Zh (HLM.out.keep (S':=fun g=>w.heap.size<=g) (w':=Yq (w2.setCell ⟨w.heap.size,2,none⟩ (.slice a2 L.length c2)) (w.heap.size+1) 0 [.int .u64 id,.string sub2,.slice a2 L.length c2,.int .i64 tries,.int .i64 due]) (fun g hg hl=>⟨(Qb (by omega) _ _ _).trans (Below.heap_setCell _ _ _ _ (show g≠w.heap.size by omega)),by omega⟩) (by rw [Q6];simp));go_wp2_with fail;refine bodyPost_ret (v:=UB.val ⟨id,sub2,a2,c2,L,tries,due⟩) (by simp [results,Tryz.results63,go_sem,UB.val, *]) rfl ?_;exact ⟨a2,c2,rfl,HL2.out,Qw (by omega) [.int .u64 id,.string sub2,.slice a2 L.length c2,.int .i64 tries,.int .i64 due] 0 _ B5.out⟩
 ·
  have y1:¬ (31:Int) < ids.length:=by omega
  have HL:=Zh (hL2 h);clear hL1 hL2;go_upto_region 4 with fail
  have V1b:=V1a;have V2b:=V2a;have B2:=B1;clear V1a V2a B1;have V1a:=V1b;have V2a:=V2b;have B1:=B2;clear V1a V2a B1 xf x0 x1 x2 x3 x4 hz1 hz2;have hz1:=V1b.out.lt;have hz2:=V2b.out.lt;have HE:=Zh (ROwn.empty 46 1 Y (w.heap.size+2) (by omega));have HA:=Zh (Qj (.cells #[] 46) (.refl (Y).heap.size Y));have V1c:=Zh (V1b.out.grow HA.out);have V2c:=Zh (V2b.out.grow HA.out);have B3:=Zh (Qk HA.out B2.out);have HRZ:=Zh (HR.out _ B3.out);obtain ⟨x0,x1,x2,x3,x4⟩:=v5 (V1b.out);clear V1b V2b B2 HA HR;go_wp2_with (at_builtin;refine jQC idT rfl _ _ rfl (w.heap.size+2) _ [] 0 rfl rfl HE.out (L.map idK.cells) (ids.length) (by rw [List.length_map];exact HL.out) (zQu L) (qJm L) ia ic rfl HRZ.out (by omega) (by simp;omega) ?hk)
  case hk=>
   intro v' w2 ho hb2;obtain ⟨a2,c2,hv2,hr2,hs2,hat2⟩:=ROwn.row ho (zQu L) (by decide);simp only [List.nil_append,List.length_map] at hv2 hr2 hs2 hat2;subst hv2;have HLM:=Zh (show LM idK (fun g=>w.heap.size+2<=g) w2 a2 c2 L from ⟨hr2,hs2,fun b o e=>⟨(hat2 b o e).1,(hat2 b o e).2.1⟩,fun y hy=>trivial⟩);have V1d:=Zh (V1c.out.growB (by omega) hb2);have V2d:=Zh (V2c.out.growB (by omega) hb2);have B4:=Zh (B3.out.trans (hb2.mono (by omega)));clear ho hb2 hr2 hs2 hat2 V1c V2c B3 x0 x1 x2 x3 x4 HRZ HE hz1 hz2;obtain ⟨x0,x1,x2,x3,x4⟩:=v5 (V1d.out);have xf:=V1d.out.fz;have hz1:=V1d.out.lt;obtain ⟨u0,u1,u2,u3,u4⟩:=v5 (V2d.out);have uf:=V2d.out.fz;have hz2:=V2d.out.lt;have B5:=Zh (bset (.slice a2 L.length c2) (p:=⟨w.heap.size,2,none⟩) (Nat.le_refl _) B4.out);have HL2:=Zh (HLM.out.keep (S':=fun g=>w.heap.size<=g) (w':=Yq (w2.setCell ⟨w.heap.size,2,none⟩ (.slice a2 L.length c2)) (w.heap.size+1) 0 [.int .u64 id,.string sub2,.slice a2 L.length c2,.int .i64 tries,.int .i64 due]) (fun g hg hl=>⟨(Qb (by omega) _ _ _).trans (Below.heap_setCell _ _ _ _ (show g≠w.heap.size by omega)),by omega⟩) (by rw [Q6];simp));go_wp2_with fail;refine bodyPost_ret (v:=UB.val ⟨id,sub2,a2,c2,L,tries,due⟩) (by simp [results,Tryz.results63,go_sem,UB.val, *]) rfl ?_;exact ⟨a2,c2,rfl,HL2.out,Qw (by omega) [.int .u64 id,.string sub2,.slice a2 L.length c2,.int .i64 tries,.int .i64 due] 0 _ B5.out⟩
end Go.Proofs.YtcbicdencgjfiaaGreatDoor
namespace Tryst
def keyR (s:List UInt8 × Bool):V × (List UInt8 × Bool):=if s.2=true then (V.zero,s) else if (Jp s.1).2.2=0 then ((Jp s.1).1,(s.1.drop (Jp s.1).2.1,false)) else (V.zero,(s.1,true))
theorem keyC:Codec keyR V.lay (fun v=>v.May/\v.Fits) where
 put:=fun v hv t=>by
  unfold keyR;rw [if_neg (by simp),vJL v hv.1 hv.2 t,if_pos rfl,List.drop_left]
 got:=fun l y r e=>by
  unfold keyR at e;rw [if_neg (by simp)] at e
  split at e
  · rename_i h;simp only [Prod.mk.injEq,and_true] at e;obtain ⟨e1,e2⟩:=e;obtain ⟨h1,h2,h3,h4,h5⟩:=xQO (l:=l) (v:=(Jp l).1) (k:=(Jp l).2.1) (by rw [<- h]);rw [<- e1,<- e2,<- h5,List.take_append_drop];exact ⟨rfl,h1,h2⟩
  · cases e
 bad:=fun l=>by unfold keyR;rw [if_pos rfl]
theorem kQp (n:Int):1<=(numL n).length:=jQZ _
theorem jJL (v:V):1<=v.lay.length:=xJN v
abbrev TopT:=ByteArray × Int × List ByteArray
abbrev xQh:=ByteArray × Nat × Int
abbrev OffT:=ByteArray × Int
abbrev jJU:=Int × Nat × Int
abbrev qQp:=V × List jJU
abbrev SubT:=DP × List OffT × List qQp × Int × Int × Int × Int × Int
abbrev OutT:=Nat × ByteArray × List Nat × Int × Int
abbrev kJE:=ByteArray × ByteArray
abbrev RtT:=Int × List TopT × List xQh × List SubT × Int × List OutT × List OutT × List kJE
abbrev StrF (b:ByteArray):Prop:=b.data.toList.length < 2 ^ 64
abbrev NumF (n:Int):Prop:=fold n < 2 ^ 64
abbrev IdF (n:Nat):Prop:=n < 2 ^ 64
abbrev KeyF (v:V):Prop:=v.May/\v.Fits
abbrev qQR {α:Type} (F:α->Prop) (l:List α):Prop:=l.length < 2 ^ 64/\∀ x∈l,F x
abbrev TopF (x:TopT):Prop:=StrF x.1/\NumF x.2.1/\qQR StrF x.2.2
abbrev jYE (x:xQh):Prop:=StrF x.1/\IdF x.2.1/\NumF x.2.2
abbrev OffF (x:OffT):Prop:=StrF x.1/\NumF x.2
abbrev jYK (x:jJU):Prop:=NumF x.1/\IdF x.2.1/\NumF x.2.2
abbrev jY7 (x:qQp):Prop:=KeyF x.1/\qQR jYK x.2
abbrev SubF (x:SubT):Prop:=x.1.Fits/\qQR OffF x.2.1/\qQR jY7 x.2.2.1/\NumF x.2.2.2.1/\NumF x.2.2.2.2.1/\NumF x.2.2.2.2.2.1/\NumF x.2.2.2.2.2.2.1/\NumF x.2.2.2.2.2.2.2
abbrev OutF (x:OutT):Prop:=IdF x.1/\StrF x.2.1/\qQR IdF x.2.2.1/\NumF x.2.2.2.1/\NumF x.2.2.2.2
abbrev jYM (x:kJE):Prop:=StrF x.1/\StrF x.2
abbrev RtF (x:RtT):Prop:=NumF x.1/\qQR TopF x.2.1/\qQR jYE x.2.2.1/\qQR SubF x.2.2.2.1/\NumF x.2.2.2.2.1/\qQR OutF x.2.2.2.2.2.1/\qQR OutF x.2.2.2.2.2.2.1/\qQR jYM x.2.2.2.2.2.2.2
def topR:=seqR strR (seqR numR (Q0 strR))
def topL (x:TopT):List UInt8:=strL x.1++(numL x.2.1++Qf strL x.2.2)
theorem topC:Codec topR topL TopF:=strC.seq (numC.seq (strC.some (fun x=>Zw _)))
def kQ0:=seqR strR (seqR idR numR)
def kQ5 (x:xQh):List UInt8:=strL x.1++(pack x.2.1++numL x.2.2)
theorem lastC:Codec kQ0 kQ5 jYE:=strC.seq (idC.seq numC)
def offR:=seqR strR numR
def offL (x:OffT):List UInt8:=strL x.1++numL x.2
theorem offC:Codec offR offL OffF:=strC.seq numC
def kQE:=seqR numR (seqR idR numR)
def kQR (x:jJU):List UInt8:=numL x.1++(pack x.2.1++numL x.2.2)
theorem keptC:Codec kQE kQR jYK:=numC.seq (idC.seq numC)
theorem qYF {a b:List UInt8} (h:1<=a.length):1<=(a++b).length:=by rw [List.length_append];omega
def Z0:=seqR keyR (Q0 kQE)
def jQi (x:qQp):List UInt8:=x.1.lay++Qf kQR x.2
theorem instC:Codec Z0 jQi jY7:=keyC.seq (keptC.some (fun x=>qYF (kQp _)))
def subR:=seqR defR (seqR (Q0 offR) (seqR (Q0 Z0) (seqR numR (seqR numR (seqR numR (seqR numR numR))))))
def subL (x:SubT):List UInt8:=defL x.1++(Qf offL x.2.1++(Qf jQi x.2.2.1++(numL x.2.2.2.1++(numL x.2.2.2.2.1++(numL x.2.2.2.2.2.1++(numL x.2.2.2.2.2.2.1++numL x.2.2.2.2.2.2.2))))))
theorem subC:Codec subR subL SubF:=defC.seq ((offC.some (fun x=>qYF (Zw _))).seq ((instC.some (fun x=>qYF (jJL _))).seq (numC.seq (numC.seq (numC.seq (numC.seq numC))))))
def outR:=seqR idR (seqR strR (seqR (Q0 idR) (seqR numR numR)))
def outL (x:OutT):List UInt8:=pack x.1++(strL x.2.1++(Qf pack x.2.2.1++(numL x.2.2.2.1++numL x.2.2.2.2)))
theorem outC:Codec outR outL OutF:=idC.seq (strC.seq ((idC.some (fun x=>jQZ _)).seq (numC.seq numC)))
def kQI:=seqR strR strR
def qQy (x:kJE):List UInt8:=strL x.1++strL x.2
theorem deadC:Codec kQI qQy jYM:=strC.seq strC
def rtR:=seqR numR (seqR (Q0 topR) (seqR (Q0 kQ0) (seqR (Q0 subR) (seqR numR (seqR (Q0 outR) (seqR (Q0 outR) (Q0 kQI)))))))
def rtL (x:RtT):List UInt8:=numL x.1++(Qf topL x.2.1++(Qf kQ5 x.2.2.1++(Qf subL x.2.2.2.1++(numL x.2.2.2.2.1++(Qf outL x.2.2.2.2.2.1++(Qf outL x.2.2.2.2.2.2.1++Qf qQy x.2.2.2.2.2.2.2))))))
theorem rtC:Codec rtR rtL RtF:=numC.seq ((topC.some (fun x=>qYF (Zw _))).seq ((lastC.some (fun x=>qYF (Zw _))).seq ((subC.some (fun x=>qYF (qYF (Zw _)))).seq (numC.seq ((outC.some (fun x=>qYF (jQZ _))).seq ((outC.some (fun x=>qYF (jQZ _))).seq (deadC.some (fun x=>qYF (Zw _)))))))))
end Tryst
namespace Go.Proofs.YtcbicdencgjfiaaGreatDoor
open Go Go.RowKit Tryst
def UB.p (x:UB):OutT:=(x.id,x.sub,x.ids,x.tries,x.due)
def jQk (x:UB):OutT:=(x.id,Q7 x.sub,x.ids.take 31,x.tries,x.due)
def MkE {β γ:Type} (X:EK β) (p:β->γ) (w:World) (ts:List γ) (e:Ending) (w':World):Prop:=∃ v ys,e=.returned v/\FwE X w ys v w'/\ys.map p=ts
def FwS {α β γ:Type} (X:EK β) (p:β->γ) (g:α->γ) (n:Nat) (w:World) (l:List α) (v i:Value) (wr:World):Prop:=∃ (k:Nat) (ys:List β),k<=n/\k<=l.length/\i=.int .i64 k/\Hid (FwE X w ys v wr)/\Hid (ys.map p=(l.take k).map g)
theorem zQs {α γ:Type} {g:α->γ} {l:List α} {k n:Nat} (h:¬ (k < l.length/\k < n)) (hk:k<=n):(l.take k).map g=(l.take n).map g:=by
 by_cases h1:k < l.length
 ·
  have:k=n:=by omega
  rw [this]
 · rw [List.take_of_length_le (by omega),List.take_of_length_le (by omega)]
theorem outT:SliceOf Tryz.prog 25 90 5 64:=.mk' Tryz.underlying25 (z:=.agg #[.int .u64 0,.string ⟨#[]⟩,.slice none 0 0,.int .i64 0,.int .i64 0]) (by kernel_rfl) rfl (by decide) (by decide)
theorem qJq (a:Option Addr) (c:Nat) (l:List UB) (hl:l.length<=9223372036854775807) (hs:∀ x∈l,x.sub.size<=9223372036854775807/\x.ids.length<=9223372036854775807/\x.ids.length<=x.ic) (w:World) (hO:Zj w a l) (hI:∀ x∈l,Row w x.ia 1 (x.ids.map idK.cells)) :
  Calls Tryz.prog 26 #[.slice a l.length c] w (MkE outK UB.p w ((l.take 101).map jQk)):=by
 have HF:=Zh (fun W (hb:Below w.heap.size w W)=>Row.grow hO hb);have HC:=Zh (fun (k:Nat) (hk:k < l.length) W (hb:Below w.heap.size w W)=>kJ2 l[k] (hs _ (List.getElem_mem hk)).1 (hs _ (List.getElem_mem hk)).2.1 (hs _ (List.getElem_mem hk)).2.2 W (Row.grow (hI _ (List.getElem_mem hk)) hb));clear hO hs hI;obtain ⟨L9,hL9⟩:∃ L9,(l.take 101).map jQk=L9:=⟨_,rfl⟩;rw [hL9];have HL9:=Zh hL9;clear hL9;unfold UB.val at HC;go_enter Tryz.func26,Tryz.ntmps26;go_wp2_with fail;go_loopw [3,4] (fun s i wr=>FwS outK UB.p jQk 101 w l s i wr) (fun _ i _=>l.length - (intOf i).toNat)
 case atStart=>exact ⟨0,[],by omega,by omega,rfl,Zh (FwE.start _ _),Zh rfl⟩
 case round=>
  obtain ⟨k,ys,hk51,hkl,rfl,HO,HY⟩:=hrel;obtain ⟨wo,rfl⟩:∃ wo,wo=wr:=⟨_,rfl⟩
  by_cases hlt:k < l.length/\k < 101
  ·
   obtain ⟨hl1,hl2⟩:=hlt;obtain ⟨b,o,ha,hb⟩:=Zj.hd (HF.out wo HO.out.low) hl1;subst ha;obtain ⟨_,f0,f1,f2,f3,f4⟩:=Zj.at (HF.out wo HO.out.low) hl1;have HCC:=Zh (HC.out k hl1);have HL2:Hid ((l.take (k+1)).map jQk=(l.take k).map jQk++[jQk l[k]]):=Zh (by rw [List.take_succ_eq_append_getElem hl1,List.map_append];rfl);have hyl:ys.length<=101:=by have:=congrArg List.length HY.out;simp at this;omega
   have x1:(k:Int) < l.length:=by omega
   have x2:(0:Int)<=k:=by omega
   have x3:(k:Int) < 101:=by omega
   go_wp2_with fail;refine (HCC.out _ HO.out.low).mono ?_;rintro e w2 ⟨ia,ic,rfl,hm,hb2⟩;have HP:Hid (UB.p (xQd l[k] ia ic)=jQk l[k]):=Zh rfl;generalize xQd l[k] ia ic=y at hm HP ⊢;have HM:=Zh hm;have HB2:=Zh hb2;have HR:=Zh (HO.out.row.grow hb2);have hz1:=HO.out.low.size;have hz2:=hb2.size;have HG:=Zh (Var.new w2 90 y.cells);have HLN:=Zh (show (ys.map UB.cells).length=ys.length by rw [List.length_map]);clear hm hb2 f0 f1 f2 f3 f4 HCC;unfold UB.cells at HG;go_wp2_with (at_builtin;refine Q8 outT rfl _ _ rfl w.heap.size u3 (ys.map UB.cells) ys.length HLN.out rfl (HR.out.alloc _) y.cells rfl (outK.one y) w2.heap.size rfl (fun j _=>HG.out.cell j) ?a3 ?a4 ?_)
   case a3=>omega
   case a4=>first | omega | (simp;omega)
   intro g' cap w3 hr hb hst hat _;have HO3:=Zh (HO.out.next HM.out HB2.out hr hb hst hat);have HY3:Hid ((ys++[y]).map UB.p=(l.take (k+1)).map jQk):=Zh (by rw [List.map_append,HY.out,HL2.out,List.map_cons,List.map_nil,HP.out]);clear hr hb hst hat HO HY HL2 HM HB2 HR HG HLN;go_wp2_with fail;go_roundw
   case rel=>exact ⟨k+1,ys++[y],by omega,by omega,by go_num,HO3,HY3⟩
   case measure=>simp [intOf]<;>omega
  ·
   have HL:=Zh (HY.out.trans ((zQs hlt hk51).trans HL9.out))
   by_cases hks:k < l.length
   ·
    have h21:k=101:=by omega
    subst h21;go_wp2_with fail;go_ret;exact ⟨_,ys,rfl,HO.out,HL.out⟩
   · go_wp2_with fail;go_ret;exact ⟨_,ys,rfl,HO.out,HL.out⟩
