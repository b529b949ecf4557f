/- plain: octets of a definition, of an operation -/
import Derived.Test.YtcbicdencgjfiaaGreatDoorDefU
import Derived.Test.YtcbicdencgjfiaaGreatDoorParG
import Derived.Test.YtcbicdencgjfiaaGreatDoorShP
import Derived.Test.YtcbicdencgjfiaaGreatDoorTxt5
/- Plain: a definition's octets, and an operation's. -/
set_option linter.unusedVariables false
set_option linter.unusedSimpArgs false
namespace Tryst
def strR (s:List UInt8 × Bool):ByteArray × (List UInt8 × Bool):=(⟨(textR s).1.toArray⟩,(textR s).2)
def strL (b:ByteArray):List UInt8:=textL b.data.toList
theorem strC:Codec strR strL (fun b=>b.data.toList.length < 2 ^ 64):=textC.iso (fun l=>(⟨l.toArray⟩:ByteArray)) (fun b=>b.data.toList) (fun l _=>rfl) (fun b=>by cases b;rfl)
theorem textL_pos (l:List UInt8):1≤(textL l).length:=by
 unfold textL
 rw [List.length_append]
 have:=pack_pos l.length
 omega
theorem parse_got {s:List UInt8} {p:Pr} (h:parseP s=some p):s=pText p∧mayP p=true:=by
 unfold parseP at h
 cases e:firstP 8 s with
 | none=>rw [e] at h;cases h
 | some q=>
  obtain ⟨q,r⟩:=q
  rw [e] at h
  cases r with
  | nil=>
   simp only at h
   split at h
   ·
    rename_i hm
    obtain rfl:q=p:=by simpa using h
    have:=first_text 8 s q [] e
    rw [List.append_nil] at this
    exact ⟨this,hm⟩
   ·
    cases h
  | cons c r=>cases h
def whereR (s:List UInt8 × Bool):Pr × (List UInt8 × Bool):=if (textR s).2.2=true then (zeroP,(textR s).2) else match parseP (textR s).1 with
 | some p=>(p,(textR s).2)
 | none=>(zeroP,((textR s).2.1,true))
def whereL (p:Pr):List UInt8:=textL (pText p)
theorem whereC:Codec whereR whereL (fun p=>(pText p).length < 2 ^ 64∧parseP (pText p)=some p) where
 put:=fun x hx t=>by
  unfold whereR whereL
  rw [textC.put _ hx.1]
  simp [hx.2]
 got:=fun l y r e=>by
  unfold whereR at e
  split at e
  ·
   rename_i h
   rw [st_eq2 _ h] at e
   cases e
  ·
   rename_i h
   have hb:(textR (l,false)).2.2=false:=by simpa using h
   obtain ⟨h1,h2⟩:=textC.got l (textR (l,false)).1 (textR (l,false)).2.1 (st_eq _ hb)
   cases hp:parseP (textR (l,false)).1 with
   | none=>rw [hp] at e;cases e
   | some p=>
    rw [hp] at e
    simp only at e
    rw [st_eq2 _ hb] at e
    simp only [Prod.mk.injEq,and_true] at e
    obtain ⟨rfl,rfl⟩:=e
    obtain ⟨h3,_⟩:=parse_got hp
    unfold whereL
    rw [← h3]
    exact ⟨h1,h2,hp⟩
 bad:=fun l=>by
  unfold whereR
  have h:=textC.bad l
  rw [if_pos (by rw [h]),h]
structure DP where
 name:ByteArray
 gl:List ByteArray
 wl:List Pr
 key:ByteArray
 kind:ByteArray
 parts:Int
 need:Int
 window:Int
def numL (n:Int):List UInt8:=pack (fold n)
def defL (d:DP):List UInt8:=strL d.name++(listL strL d.gl++(listL whereL d.wl++(strL d.key++(strL d.kind++(numL d.parts++(numL d.need++numL d.window))))))
def defR (s:List UInt8 × Bool):DP × (List UInt8 × Bool):=
 let x:=seqR strR (seqR (someR strR) (seqR (someR whereR) (seqR strR (seqR strR (seqR numR (seqR numR numR)))))) s
 (⟨x.1.1,x.1.2.1,x.1.2.2.1,x.1.2.2.2.1,x.1.2.2.2.2.1,x.1.2.2.2.2.2.1,x.1.2.2.2.2.2.2.1,x.1.2.2.2.2.2.2.2⟩,x.2)
def DP.Fits (d:DP):Prop:=d.name.data.toList.length < 2 ^ 64∧(d.gl.length < 2 ^ 64∧∀ g∈d.gl,g.data.toList.length < 2 ^ 64)∧(d.wl.length < 2 ^ 64∧∀ p∈d.wl,(pText p).length < 2 ^ 64∧parseP (pText p)=some p)∧d.key.data.toList.length < 2 ^ 64∧d.kind.data.toList.length < 2 ^ 64∧fold d.parts < 2 ^ 64∧fold d.need < 2 ^ 64∧fold d.window < 2 ^ 64
theorem defC:Codec defR defL DP.Fits:=
 (strC.seq ((strC.some (fun x=>textL_pos _)).seq ((whereC.some (fun x=>textL_pos _)).seq (strC.seq (strC.seq (numC.seq (numC.seq numC))))))).iso
  (fun x=>(⟨x.1,x.2.1,x.2.2.1,x.2.2.2.1,x.2.2.2.2.1,x.2.2.2.2.2.1,x.2.2.2.2.2.2.1,x.2.2.2.2.2.2.2⟩:DP)) (fun d=>(d.name,d.gl,d.wl,d.key,d.kind,d.parts,d.need,d.window)) (fun _ _=>rfl) (fun _=>rfl)
structure OpP where
 kind:Int
 s:ByteArray
 ok:Bool
 id:Nat
 n:Int
 d:DP
def DP.zero:DP:=⟨⟨#[]⟩,[],[],⟨#[]⟩,⟨#[]⟩,0,0,0⟩
def headR:List UInt8 × Bool→(Int × ByteArray × Bool × Nat × Int) × (List UInt8 × Bool):=seqR numR (seqR strR (seqR truthR (seqR idR numR)))
def headL (x:Int × ByteArray × Bool × Nat × Int):List UInt8:=numL x.1++(strL x.2.1++(truthL x.2.2.1++(pack x.2.2.2.1++numL x.2.2.2.2)))
theorem headC:Codec headR headL (fun x=>fold x.1 < 2 ^ 64∧x.2.1.data.toList.length < 2 ^ 64∧True∧x.2.2.2.1 < 2 ^ 64∧fold x.2.2.2.2 < 2 ^ 64):=numC.seq (strC.seq (truthC.seq (idC.seq numC)))
def opR (s:List UInt8 × Bool):OpP × (List UInt8 × Bool):=
 let h:=headR s
 if h.1.1=2 then (⟨h.1.1,h.1.2.1,h.1.2.2.1,h.1.2.2.2.1,h.1.2.2.2.2,(defR h.2).1⟩,(defR h.2).2) else (⟨h.1.1,h.1.2.1,h.1.2.2.1,h.1.2.2.2.1,h.1.2.2.2.2,.zero⟩,h.2)
def OpP.head (o:OpP):Int × ByteArray × Bool × Nat × Int:=(o.kind,o.s,o.ok,o.id,o.n)
def opL (o:OpP):List UInt8:=headL o.head++(if o.kind=2 then defL o.d else [])
def OpP.Fits (o:OpP):Prop:=(fold o.kind < 2 ^ 64∧o.s.data.toList.length < 2 ^ 64∧True∧o.id < 2 ^ 64∧fold o.n < 2 ^ 64)∧(o.kind=2→o.d.Fits)∧(o.kind≠2→o.d=.zero)
theorem opC:Codec opR opL OpP.Fits where
 put:=fun o ho t=>by
  obtain ⟨h1,h2,h3⟩:=ho
  unfold opR opL
  rw [List.append_assoc,headC.put o.head h1]
  obtain ⟨k,s,b,i,n,d⟩:=o
  unfold OpP.head
  simp only at h2 h3 ⊢
  by_cases hk:k=2
  ·
   rw [if_pos hk,if_pos hk,defC.put d (h2 hk)]
  ·
   rw [if_neg hk,if_neg hk,h3 hk]
   rfl
 got:=fun l y r e=>by
  unfold opR at e
  simp only at e
  have hb:(headR (l,false)).2.2=false:=by
   cases hb:(headR (l,false)).2.2 with
   | false=>rfl
   | true=>
    split at e
    ·
     rw [st_eq2 _ hb,defC.bad] at e;cases e
    ·
     rw [st_eq2 _ hb] at e;cases e
  obtain ⟨h1,h2⟩:=headC.got l (headR (l,false)).1 (headR (l,false)).2.1 (st_eq _ hb)
  rw [st_eq2 _ hb] at e
  generalize (headR (l,false)).2.1=l2 at h1 e
  generalize (headR (l,false)).1=h at h1 h2 e
  obtain ⟨k,s,b,i,n⟩:=h
  simp only at e
  split at e
  ·
   rename_i hk
   have e1:=congrArg (·.1) e
   have e2:=congrArg (·.2) e
   simp only at e1 e2
   obtain ⟨h3,h4⟩:=defC.got l2 (defR (l2,false)).1 r (Prod.ext rfl e2)
   subst e1
   refine ⟨?_,h2,fun _=>h4,fun h=>absurd hk h⟩
   unfold opL
   rw [if_pos hk,List.append_assoc,← h3]
   exact h1
  ·
   rename_i hk
   cases e
   refine ⟨?_,h2,fun h=>absurd h hk,fun _=>rfl⟩
   unfold opL
   rw [if_neg hk,List.append_nil]
   exact h1
 bad:=fun l=>by
  unfold opR
  have h:=headC.bad l
  simp only
  split
  ·
   rw [h,defC.bad]
  ·
   rw [h]
end Tryst
/- Plain: operations: which may be, which are the same, what is read of octets. -/
set_option linter.unusedVariables false
set_option linter.unusedSimpArgs false
namespace Tryst
open Go Go.RowKit
def DB.dp (d:DB):DP:=⟨d.name,d.gl,d.wl.map PB.pr,d.key,d.j.kind,d.j.parts,d.j.need,d.j.window⟩
def mayDP (d:DP):Bool:=fieldB d.name.data.toList&&(decide (1≤d.gl.length)&&(decide (d.gl.length≤5)&&(mayJ ⟨d.kind,d.parts,d.need,d.window⟩&&(decide ((d.wl.length:Int)=d.parts)&&((decide (d.key=⟨#[]⟩)||fieldB d.key.data.toList)&&(d.gl.all (fun g=>globB g.data.toList)&&d.wl.all mayP))))))
theorem mayDP_dp (d:DB):mayDP d.dp=mayD d:=by
 unfold mayDP mayD DB.dp
 simp only [List.length_map,List.all_map]
 rfl
theorem sameD_dp (a b:DB):sameD a b=true↔a.dp=b.dp:=by
 have h:=sameL_pr a.wl b.wl
 have hm:∀ l:List PB,PB.prs l=l.map PB.pr:=fun l=>by
  induction l with
  | nil=>rw [PB.prs];rfl
  | cons x l ih=>rw [PB.prs,ih];rfl
 rw [hm,hm] at h
 unfold sameD sameJ DB.dp
 simp only [Bool.and_eq_true,decide_eq_true_eq,h,DP.mk.injEq]
 constructor
 ·
  rintro ⟨h1,h2,⟨h3,h4,h5,h6⟩,h7,h8⟩
  exact ⟨h1,h7,h8,h2,h3,h4,h5,h6⟩
 ·
  rintro ⟨h1,h7,h8,h2,h3,h4,h5,h6⟩
  exact ⟨h1,h2,⟨h3,h4,h5,h6⟩,h7,h8⟩
structure OPB where
 kind:Int
 s:ByteArray
 d:DB
 ok:Bool
 id:Nat
 n:Int
def OPB.agg (o:OPB):Value:=.agg #[.int .i64 o.kind,.string o.s,.string o.d.name,.slice o.d.ga o.d.gl.length o.d.gc,.slice o.d.wa o.d.wl.length o.d.wc,.string o.d.key,.string o.d.j.kind,.int .i64 o.d.j.parts,.int .i64 o.d.j.need,.int .i64 o.d.j.window,.bool o.ok,.int .u64 o.id,.int .i64 o.n]
def OPB.cells (o:OPB):List Value:=[.int .i64 o.kind,.string o.s,.string o.d.name,.slice o.d.ga o.d.gl.length o.d.gc,.slice o.d.wa o.d.wl.length o.d.wc,.string o.d.key,.string o.d.j.kind,.int .i64 o.d.j.parts,.int .i64 o.d.j.need,.int .i64 o.d.j.window,.bool o.ok,.int .u64 o.id,.int .i64 o.n]
def OPB.p (o:OPB):OpP:=⟨o.kind,o.s,o.ok,o.id,o.n,o.d.dp⟩
def DB.zero:DB:=⟨⟨#[]⟩,none,[],0,none,[],0,⟨#[]⟩,⟨⟨#[]⟩,0,0,0⟩⟩
def OPB.zero:OPB:=⟨0,⟨#[]⟩,.zero,false,0,0⟩
def noneD (d:DB):Bool:=decide (d.name=⟨#[]⟩)&&(decide (d.gl.length=0)&&(decide (d.wl.length=0)&&(decide (d.key=⟨#[]⟩)&&sameJ d.j ⟨⟨#[]⟩,0,0,0⟩)))
def mayO (o:OPB):Bool:=decide (1≤o.kind)&&(decide (o.kind≤10)&&(decide (o.s.size≤2000)&&(if o.kind=2 then mayD o.d else noneD o.d)))
def sameO (a b:OPB):Bool:=decide (a.kind=b.kind)&&(decide (a.s=b.s)&&(sameD a.d b.d&&(decide (a.ok=b.ok)&&(decide (a.id=b.id)&&decide (a.n=b.n)))))
theorem noneD_dp (d:DB):noneD d=true↔d.dp=.zero:=by
 unfold noneD sameJ DB.dp DP.zero
 simp only [Bool.and_eq_true,decide_eq_true_eq,DP.mk.injEq,List.length_eq_zero_iff,List.map_eq_nil_iff]
theorem noneD_same (d:DB):noneD d=sameD d .zero:=by
 rw [Bool.eq_iff_iff,noneD_dp,sameD_dp]
 rfl
theorem sameO_p (a b:OPB):sameO a b=true↔a.p=b.p:=by
 unfold sameO OPB.p
 simp only [Bool.and_eq_true,decide_eq_true_eq,sameD_dp,OpP.mk.injEq]
 constructor
 ·
  rintro ⟨h1,h2,h3,h4,h5,h6⟩
  exact ⟨h1,h2,h4,h5,h6,h3⟩
 ·
  rintro ⟨h1,h2,h4,h5,h6,h3⟩
  exact ⟨h1,h2,h3,h4,h5,h6⟩
def mayOp (o:OpP):Bool:=decide (1≤o.kind)&&(decide (o.kind≤10)&&(decide (o.s.size≤2000)&&(if o.kind=2 then mayDP o.d else decide (o.d.name=⟨#[]⟩)&&(decide (o.d.gl.length=0)&&(decide (o.d.wl.length=0)&&(decide (o.d.key=⟨#[]⟩)&&sameJ ⟨o.d.kind,o.d.parts,o.d.need,o.d.window⟩ ⟨⟨#[]⟩,0,0,0⟩))))))
theorem mayOp_p (o:OPB):mayOp o.p=mayO o:=by
 unfold mayOp mayO OPB.p
 simp only [mayDP_dp]
 unfold noneD DB.dp
 simp only [List.length_map]
end Tryst
namespace Go.Proofs.YtcbicdencgjfiaaGreatDoor
open Go.RowKit Tryst
structure OPIn (o:OPB):Prop where
 k0:-9223372036854775808≤o.kind
 k1:o.kind≤9223372036854775807
 n0:-9223372036854775808≤o.n
 n1:o.n≤9223372036854775807
 i:o.id≤18446744073709551615
structure JIn (j:JB):Prop where
 k:j.kind.size≤1000000
 p0:-9223372036854775808≤j.parts
 p1:j.parts≤9223372036854775807
 n0:-9223372036854775808≤j.need
 n1:j.need≤9223372036854775807
 w0:-9223372036854775808≤j.window
 w1:j.window≤9223372036854775807
theorem fold_lt {n:Int} (h0:-9223372036854775808≤n) (h1:n≤9223372036854775807):fold n < 2 ^ 64:=by
 unfold fold
 split<;>omega
theorem flat_next {α:Type} (f:α→List UInt8) {l:List α} {k:Nat} (h:k < l.length):(l.take (k+1)).flatMap f=(l.take k).flatMap f++f l[k]:=by
 rw [List.take_succ_eq_append_getElem h,List.flatMap_append,List.flatMap_cons,List.flatMap_nil,List.append_nil]
theorem flat_le {α:Type} (f:α→List UInt8) {l:List α} {k:Nat} (h:k < l.length):((l.take k).flatMap f).length+(f l[k]).length≤(l.flatMap f).length:=by
 have:l.flatMap f=((l.take k).flatMap f++f l[k])++(l.drop (k+1)).flatMap f:=by
  rw [← flat_next f h,← List.flatMap_append,List.take_append_drop]
 rw [this,List.length_append,List.length_append]
 omega
theorem flat_bound {α:Type} {f:α→List UInt8} {m:Nat}:∀ {l:List α},(∀ x∈l,(f x).length≤m)→(l.flatMap f).length≤l.length*m
 | [],_=>by simp
 | x :: l,h=>by
  have:=flat_bound (l:=l) (fun y hy=>h y (List.mem_cons_of_mem _ hy))
  have:=h x List.mem_cons_self
  rw [List.flatMap_cons,List.length_append,List.length_cons,Nat.add_mul]
  omega
theorem strL_le (s:ByteArray):(strL s).length≤10+s.size:=by
 unfold strL textL
 have:=pack_le s.data.toList.length
 rw [List.length_append,len_str] at *
 omega
theorem numL_le (n:Int):(numL n).length≤10:=pack_le _
theorem flat_len {α:Type} {f:α→List UInt8} (hf:∀ x,1≤(f x).length):∀ l:List α,l.length≤(l.flatMap f).length
 | []=>by simp
 | x :: l=>by
  have:=flat_len hf l
  have:=hf x
  rw [List.flatMap_cons,List.length_append,List.length_cons]
  omega
theorem flat_mem {α:Type} {f:α→List UInt8}:∀ {l:List α} {x:α},x∈l→(f x).length≤(l.flatMap f).length
 | y :: l,x,h=>by
  rw [List.flatMap_cons,List.length_append]
  rcases List.mem_cons.1 h with rfl | h
  ·
   omega
  ·
   have:=flat_mem (f:=f) h
   omega
theorem strL_ge (s:ByteArray):1+s.size≤(strL s).length:=by
 unfold strL textL
 have:=pack_pos s.data.toList.length
 rw [List.length_append,len_str] at *
 omega
theorem fold_in {n:Int} (h:fold n < 2 ^ 64):-9223372036854775808≤n∧n≤9223372036854775807:=by
 unfold fold at h
 split at h<;>omega
theorem dfits {w:World} {d:DB} (h:DO w d) (hj:JIn d.j) (hm:mayD d=true):d.dp.Fits:=by
 have hp:∀ p∈d.wl,mayP p.pr=true:=by
  unfold mayD at hm
  simp only [Bool.and_eq_true,List.all_eq_true] at hm
  exact hm.2.2.2.2.2.2.2
 unfold DP.Fits DB.dp
 simp only [len_str,List.length_map]
 refine ⟨by have:=h.hn;omega,⟨by have:=h.hg;omega,fun g hg=>by have:=h.hgs g hg;omega⟩,⟨by have:=h.hw;omega,fun p hp2=>?_⟩,by have:=h.hk;omega,by have:=hj.k;omega,fold_lt hj.p0 hj.p1,fold_lt hj.n0 hj.n1,fold_lt hj.w0 hj.w1⟩
 obtain ⟨q,hq,rfl⟩:=List.mem_map.1 hp2
 have hf:=po_fits q (h.wR.po q hq).1
 refine ⟨?_,parse_text (hp q hq) hf⟩
 have:=hp q hq
 rw [mayP_eq,Bool.and_eq_true] at this
 exact Nat.lt_of_le_of_lt (ptext_le 8 _ this.1 hf) (by decide)
theorem ofits {w:World} {o:OPB} (h:DO w o.d) (hj:JIn o.d.j) (ho:OPIn o) (hs:o.s.size≤1000000) (hm:mayO o=true):o.p.Fits:=by
 unfold mayO at hm
 simp only [Bool.and_eq_true,decide_eq_true_eq] at hm
 unfold OpP.Fits OPB.p
 simp only [len_str]
 refine ⟨⟨fold_lt ho.k0 ho.k1,by omega,trivial,by have:=ho.i;omega,fold_lt ho.n0 ho.n1⟩,fun e=>?_,fun e=>?_⟩
 ·
  rw [if_pos e] at hm
  exact dfits h hj hm.2.2.2
 ·
  rw [if_neg e] at hm
  exact (noneD_dp o.d).1 hm.2.2.2
def takeO (l:List UInt8):Option OpP:=if (opR (l,false)).2.2=false∧(opR (l,false)).2.1=[]∧mayOp (opR (l,false)).1=true then some (opR (l,false)).1 else none
theorem takeO_lay {o:OpP} (hf:o.Fits) (hm:mayOp o=true):takeO (opL o)=some o:=by
 have h:=opC.put o hf []
 rw [List.append_nil] at h
 unfold takeO
 rw [h]
 simp [hm]
theorem takeO_got {l:List UInt8} {o:OpP} (h:takeO l=some o):opL o=l∧mayOp o=true:=by
 unfold takeO at h
 split at h
 ·
  rename_i hc
  obtain ⟨h1,h2,h3⟩:=hc
  cases h
  have:=opC.got l (opR (l,false)).1 [] (Prod.ext rfl (Prod.ext h2 h1))
  rw [List.append_nil] at this
  exact ⟨this.1.symm,h3⟩
 ·
  cases h
end Go.Proofs.YtcbicdencgjfiaaGreatDoor
