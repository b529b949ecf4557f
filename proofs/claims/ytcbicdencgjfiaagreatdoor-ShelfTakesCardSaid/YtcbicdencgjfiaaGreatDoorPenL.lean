import Derived.Test.YtcbicdencgjfiaaGreatDoorDefU
import Derived.Test.YtcbicdencgjfiaaGreatDoorFacts
import Derived.Test.YtcbicdencgjfiaaGreatDoorParG
import Derived.Test.YtcbicdencgjfiaaGreatDoorTxt5
set_option linter.all false
set_option maxHeartbeats 2000000
set_option maxRecDepth 20000
namespace Tryst
structure Codec {α:Type} (f:List UInt8 × Bool->α × (List UInt8 × Bool)) (lay:α->List UInt8) (fit:α->Prop):Prop where
 put:∀ x,fit x->∀ t,f (lay x++t,false)=(x,(t,false))
 got:∀ l y r,f (l,false)=(y,(r,false))->l=lay y++r/\fit y
 bad:∀ l,(f (l,true)).2=(l,true)
theorem xQm {α:Type} (x:α × (List UInt8 × Bool)) {b:Bool} (h:x.2.2=b):x=(x.1,(x.2.1,b)):=by subst h;rfl
theorem jQf (x:List UInt8 × Bool) {b:Bool} (h:x.2=b):x=(x.1,b):=by subst h;rfl
section
variable {α β:Type} {f:List UInt8 × Bool->α × (List UInt8 × Bool)} {g:List UInt8 × Bool->β × (List UInt8 × Bool)} {lf:α->List UInt8} {lg:β->List UInt8} {pf:α->Prop} {pg:β->Prop}
theorem Codec.short (h:Codec f lf pf) {x:α} (hx:pf x) {j:Nat} (hj:j < (lf x).length):(f ((lf x).take j,false)).2.2=true:=by
 cases e:(f ((lf x).take j,false)).2.2 with
 | true=>rfl
 | false=>
  exfalso;obtain ⟨h1,h2⟩:=h.got _ (f ((lf x).take j,false)).1 (f ((lf x).take j,false)).2.1 (xQm _ e);have h3:=h.put x hx [];rw [List.append_nil] at h3
  have h4:lf x=lf (f ((lf x).take j,false)).1++((f ((lf x).take j,false)).2.1++(lf x).drop j):=by
   rw [<- List.append_assoc,<- h1,List.take_append_drop]
  rw [h4] at h3;generalize (f ((lf x).take j,false)).1=y at h1 h2 h3;generalize (f ((lf x).take j,false)).2.1=r at h1 h3;rw [h.put y h2] at h3;have h5:=congrArg (fun z=>z.2.1.length) h3;simp only [List.length_append,List.length_drop,List.length_nil] at h5;omega
def seqR (f:List UInt8 × Bool->α × (List UInt8 × Bool)) (g:List UInt8 × Bool->β × (List UInt8 × Bool)) (s:List UInt8 × Bool):(α × β) × (List UInt8 × Bool):=(((f s).1,(g (f s).2).1),(g (f s).2).2)
theorem Codec.seq (h:Codec f lf pf) (k:Codec g lg pg):Codec (seqR f g) (fun p=>lf p.1++lg p.2) (fun p=>pf p.1/\pg p.2) where
 put:=fun x hx t=>by
  unfold seqR;rw [List.append_assoc,h.put x.1 hx.1,k.put x.2 hx.2]
 got:=fun l y r e=>by
  unfold seqR at e;have e1:=congrArg (·.1.1) e;have e2:=congrArg (·.1.2) e;have e3:=congrArg (·.2) e;simp only at e1 e2 e3
  have hb:(f (l,false)).2.2=false:=by
   cases hb:(f (l,false)).2.2 with
   | false=>rfl
   | true=>
    rw [jQf _ hb,k.bad] at e3;cases e3
  obtain ⟨h6,h7⟩:=h.got l _ (f (l,false)).2.1 (xQm _ hb)
  have h8:g ((f (l,false)).2.1,false)=(y.2,(r,false)):=by
   rw [<- jQf _ hb];exact Prod.ext e2 e3
  obtain ⟨h9,h10⟩:=k.got _ _ _ h8;rw [e1] at h6 h7;rw [h9] at h6;exact ⟨by rw [List.append_assoc];exact h6,h7,h10⟩
 bad:=fun l=>by
  unfold seqR;rw [h.bad l,k.bad l]
theorem Codec.iso (h:Codec f lf pf) (tu:α->β) (of:β->α) (h1:∀ x,pf x->of (tu x)=x) (h2:∀ y,tu (of y)=y):Codec (fun s=>(tu (f s).1,(f s).2)) (fun y=>lf (of y)) (fun y=>pf (of y)) where
 put:=fun y hy t=>by
  rw [h.put _ hy,h2]
 got:=fun l y r e=>by
  have e1:=congrArg (·.1) e;have e2:=congrArg (·.2) e;simp only at e1 e2;obtain ⟨h3,h4⟩:=h.got l (f (l,false)).1 r (Prod.ext rfl e2);rw [<- e1,h1 _ h4];exact ⟨h3,h4⟩
 bad:=fun l=>h.bad l
def Yv (f:List UInt8 × Bool->α × (List UInt8 × Bool)):Nat->List UInt8 × Bool->List α × (List UInt8 × Bool)
 | 0,s=>([],s)
 | n+1,s=>if s.2=true then ([],s) else ((f s).1 :: (Yv f n (f s).2).1,(Yv f n (f s).2).2)
theorem jQu (f:List UInt8 × Bool->α × (List UInt8 × Bool)) (n:Nat) (l:List UInt8):Yv f n (l,true)=([],(l,true)):=by
 cases n with
 | zero=>rfl
 | succ n=>unfold Yv;rw [if_pos rfl]
theorem vQz (h:Codec f lf pf):∀ (xs:List α),(∀ x∈xs,pf x)->∀ t,Yv f xs.length (xs.flatMap lf++t,false)=(xs,(t,false))
 | [],_,t=>rfl
 | x :: xs,hx,t=>by
  show (if false=true then _ else _)=_;rw [if_neg (by simp),List.flatMap_cons,List.append_assoc,h.put x (hx x List.mem_cons_self),vQz h xs (fun y hy=>hx y (List.mem_cons_of_mem _ hy))]
theorem vQa (h:Codec f lf pf):∀ (n:Nat) (l:List UInt8) (ys:List α) (r:List UInt8),Yv f n (l,false)=(ys,(r,false))->ys.length=n/\l=ys.flatMap lf++r/\∀ y∈ys,pf y
 | 0,l,ys,r,e=>by
  cases e;exact ⟨rfl,rfl,fun y hy=>by cases hy⟩
 | n+1,l,ys,r,e=>by
  unfold Yv at e;rw [if_neg (by simp)] at e;have e1:=congrArg (·.1) e;have e2:=congrArg (·.2) e;simp only at e1 e2
  have hb:(f (l,false)).2.2=false:=by
   cases hb:(f (l,false)).2.2 with
   | false=>rfl
   | true=>
    rw [jQf _ hb,jQu] at e2;cases e2
  have h2:(f (l,false)).2=((f (l,false)).2.1,false):=jQf _ hb;obtain ⟨h3,h4⟩:=h.got l (f (l,false)).1 (f (l,false)).2.1 (Prod.ext rfl h2);rw [h2] at e1 e2;obtain ⟨h5,h6,h7⟩:=vQa h n (f (l,false)).2.1 _ r (Prod.ext rfl e2);subst e1;refine ⟨by rw [List.length_cons,h5],?_,fun y hy=>?_⟩
  · rw [List.flatMap_cons,List.append_assoc,<- h6];exact h3
  ·
   rcases List.mem_cons.1 hy with rfl | hy
   · exact h4
   · exact h7 y hy
end
def idR (s:List UInt8 × Bool):Nat × (List UInt8 × Bool):=if s.2=true then (0,s) else if (unp s.1).2.2=0 then ((unp s.1).1,(s.1.drop (unp s.1).2.1,false)) else (0,(s.1,true))
theorem idC:Codec idR pack (fun n=>n < 2 ^ 64) where
 put:=fun n hn t=>by
  unfold idR;rw [if_neg (by simp),kQt n hn t,if_pos rfl,List.drop_left]
 got:=fun l y r e=>by
  unfold idR at e;rw [if_neg (by simp)] at e
  split at e
  · rename_i h;simp only [Prod.mk.injEq,and_true] at e;obtain ⟨e1,e2⟩:=e;obtain ⟨h1,h2,h3,h4,h5⟩:=qQf (l:=l) (n:=(unp l).1) (k:=(unp l).2.1) (by rw [<- h]);rw [<- e1,<- e2,<- h5,List.take_append_drop];exact ⟨rfl,h1⟩
  · cases e
 bad:=fun l=>by unfold idR;rw [if_pos rfl]
def numR (s:List UInt8 × Bool):Int × (List UInt8 × Bool):=(Kw (idR s).1,(idR s).2)
theorem numC:Codec numR (fun n=>pack (fold n)) (fun n=>fold n < 2 ^ 64):=idC.iso Kw fold (fun n _=>zQS n) zQb
def X7 (s:List UInt8 × Bool):List UInt8 × (List UInt8 × Bool):=if (idR s).2.2=true then ([],(idR s).2) else if (idR s).1<=(idR s).2.1.length then ((idR s).2.1.take (idR s).1,((idR s).2.1.drop (idR s).1,false)) else ([],((idR s).2.1,true))
theorem qJy:Codec X7 jQM (fun t=>t.length < 2 ^ 64) where
 put:=fun x hx t=>by
  unfold X7 jQM;rw [List.append_assoc,idC.put _ hx];simp
 got:=fun l y r e=>by
  unfold X7 at e
  split at e
  · rename_i h;rw [jQf _ h] at e;cases e
  ·
   rename_i h;have hb:(idR (l,false)).2.2=false:=by simpa using h
   obtain ⟨h1,h2⟩:=idC.got l (idR (l,false)).1 (idR (l,false)).2.1 (xQm _ hb)
   split at e
   ·
    rename_i hle;simp only [Prod.mk.injEq,and_true] at e;obtain ⟨e1,e2⟩:=e;have hl:y.length=(idR (l,false)).1:=by rw [<- e1,List.length_take];omega
    refine ⟨?_,by rw [hl];exact h2⟩;unfold jQM;rw [hl,List.append_assoc,<- e1,<- e2,List.take_append_drop];exact h1
   · cases e
 bad:=fun l=>by
  unfold X7;have h:=idC.bad l;rw [if_pos (by rw [h]),h]
def zQG (b:Bool):List UInt8:=[if b=true then 1 else 0]
def Q0 {α:Type} (f:List UInt8 × Bool->α × (List UInt8 × Bool)) (s:List UInt8 × Bool):List α × (List UInt8 × Bool):=Yv f (idR s).1 (if (idR s).2.1.length < (idR s).1 then ((idR s).2.1,true) else (idR s).2)
def Qf {α:Type} (lay:α->List UInt8) (l:List α):List UInt8:=pack l.length++l.flatMap lay
theorem Codec.some {α:Type} {f:List UInt8 × Bool->α × (List UInt8 × Bool)} {lf:α->List UInt8} {pf:α->Prop} (h:Codec f lf pf) (h1:∀ x,1<=(lf x).length):Codec (Q0 f) (Qf lf) (fun l=>l.length < 2 ^ 64/\∀ x∈l,pf x) where
 put:=fun x hx t=>by
  unfold Q0 Qf;rw [List.append_assoc,idC.put _ hx.1]
  have hl:x.length<=(x.flatMap lf++t).length:=by
   rw [List.length_append]
   have:x.length<=(x.flatMap lf).length:=by
    clear hx
    induction x with
    | nil=>simp
    | cons a x ih=>
     rw [List.flatMap_cons,List.length_append,List.length_cons];have:=h1 a;omega
   omega
  simp only;rw [if_neg (by omega)];exact vQz h x hx.2 t
 got:=fun l y r e=>by
  unfold Q0 at e
  split at e
  · rw [jQu] at e;cases e
  ·
   have hb:(idR (l,false)).2.2=false:=by
    cases hb:(idR (l,false)).2.2 with
    | false=>rfl
    | true=>
     rw [jQf _ hb,jQu] at e;cases e
   have h2:(idR (l,false)).2=((idR (l,false)).2.1,false):=jQf _ hb;obtain ⟨h3,h4⟩:=idC.got l (idR (l,false)).1 (idR (l,false)).2.1 (Prod.ext rfl h2);rw [h2] at e;obtain ⟨h5,h6,h7⟩:=vQa h _ _ _ _ e;refine ⟨?_,by rw [h5];exact h4,h7⟩;unfold Qf;rw [h5,List.append_assoc,<- h6];exact h3
 bad:=fun l=>by
  unfold Q0;have h:=idC.bad l;rw [h];simp only
  split
  · rw [jQu]
  · rw [jQu]
end Tryst
namespace Tryst
def strR (s:List UInt8 × Bool):ByteArray × (List UInt8 × Bool):=(⟨(X7 s).1.toArray⟩,(X7 s).2)
def strL (b:ByteArray):List UInt8:=jQM b.data.toList
theorem strC:Codec strR strL (fun b=>b.data.toList.length < 2 ^ 64):=qJy.iso (fun l=>(⟨l.toArray⟩:ByteArray)) (fun b=>b.data.toList) (fun l _=>rfl) (fun b=>by cases b;rfl)
theorem Zw (l:List UInt8):1<=(jQM l).length:=by
 unfold jQM;rw [List.length_append];have:=jQZ l.length;omega
theorem vQx {s:List UInt8} {p:Pr} (h:Xv s=some p):s=Yk p/\mayP p=true:=by
 unfold Xv at h;cases e:Yy 8 s with
 | none=>rw [e] at h;cases h
 | some q=>
  obtain ⟨q,r⟩:=q;rw [e] at h;cases r with
  | nil=>
   simp only at h
   split at h
   ·
    rename_i hm;obtain rfl:q=p:=by simpa using h
    have:=vQS 8 s q [] e;rw [List.append_nil] at this;exact ⟨this,hm⟩
   · cases h
  | cons c r=>cases h
def Zk (s:List UInt8 × Bool):Pr × (List UInt8 × Bool):=if (X7 s).2.2=true then (zQf,(X7 s).2) else match Xv (X7 s).1 with
 | some p=>(p,(X7 s).2)
 | none=>(zQf,((X7 s).2.1,true))
def Kz (p:Pr):List UInt8:=jQM (Yk p)
theorem jYk:Codec Zk Kz (fun p=>(Yk p).length < 2 ^ 64/\Xv (Yk p)=some p) where
 put:=fun x hx t=>by
  unfold Zk Kz;rw [qJy.put _ hx.1];simp [hx.2]
 got:=fun l y r e=>by
  unfold Zk at e
  split at e
  · rename_i h;rw [jQf _ h] at e;cases e
  ·
   rename_i h;have hb:(X7 (l,false)).2.2=false:=by simpa using h
   obtain ⟨h1,h2⟩:=qJy.got l (X7 (l,false)).1 (X7 (l,false)).2.1 (xQm _ hb);cases hp:Xv (X7 (l,false)).1 with
   | none=>rw [hp] at e;cases e
   | some p=>
    rw [hp] at e;simp only at e;rw [jQf _ hb] at e;simp only [Prod.mk.injEq,and_true] at e;obtain ⟨rfl,rfl⟩:=e;obtain ⟨h3,_⟩:=vQx hp;unfold Kz;rw [<- h3];exact ⟨h1,h2,hp⟩
 bad:=fun l=>by
  unfold Zk;have h:=qJy.bad l;rw [if_pos (by rw [h]),h]
structure DP where
 name:ByteArray
 gl:List ByteArray
 wl:List Pr
 key:ByteArray
 kind:ByteArray
 parts:Int
 need:Int
 window:Int
def numL (n:Int):List UInt8:=pack (fold n)
def defL (d:DP):List UInt8:=strL d.name++(Qf strL d.gl++(Qf Kz d.wl++(strL d.key++(strL d.kind++(numL d.parts++(numL d.need++numL d.window))))))
def defR (s:List UInt8 × Bool):DP × (List UInt8 × Bool):=
 let x:=seqR strR (seqR (Q0 strR) (seqR (Q0 Zk) (seqR strR (seqR strR (seqR numR (seqR numR numR)))))) s
 (⟨x.1.1,x.1.2.1,x.1.2.2.1,x.1.2.2.2.1,x.1.2.2.2.2.1,x.1.2.2.2.2.2.1,x.1.2.2.2.2.2.2.1,x.1.2.2.2.2.2.2.2⟩,x.2)
def DP.Fits (d:DP):Prop:=d.name.data.toList.length < 2 ^ 64/\(d.gl.length < 2 ^ 64/\∀ g∈d.gl,g.data.toList.length < 2 ^ 64)/\(d.wl.length < 2 ^ 64/\∀ p∈d.wl,(Yk p).length < 2 ^ 64/\Xv (Yk p)=some p)/\d.key.data.toList.length < 2 ^ 64/\d.kind.data.toList.length < 2 ^ 64/\fold d.parts < 2 ^ 64/\fold d.need < 2 ^ 64/\fold d.window < 2 ^ 64
theorem defC:Codec defR defL DP.Fits:=
 (strC.seq ((strC.some (fun x=>Zw _)).seq ((jYk.some (fun x=>Zw _)).seq (strC.seq (strC.seq (numC.seq (numC.seq numC))))))).iso
  (fun x=>(⟨x.1,x.2.1,x.2.2.1,x.2.2.2.1,x.2.2.2.2.1,x.2.2.2.2.2.1,x.2.2.2.2.2.2.1,x.2.2.2.2.2.2.2⟩:DP)) (fun d=>(d.name,d.gl,d.wl,d.key,d.kind,d.parts,d.need,d.window)) (fun _ _=>rfl) (fun _=>rfl)
structure OpP where
 kind:Int
 s:ByteArray
 ok:Bool
 id:Nat
 n:Int
 d:DP
def DP.zero:DP:=⟨⟨#[]⟩,[],[],⟨#[]⟩,⟨#[]⟩,0,0,0⟩
def headL (x:Int × ByteArray × Bool × Nat × Int):List UInt8:=numL x.1++(strL x.2.1++(zQG x.2.2.1++(pack x.2.2.2.1++numL x.2.2.2.2)))
def OpP.head (o:OpP):Int × ByteArray × Bool × Nat × Int:=(o.kind,o.s,o.ok,o.id,o.n)
def opL (o:OpP):List UInt8:=headL o.head++(if o.kind=2 then defL o.d else [])
def OpP.Fits (o:OpP):Prop:=(fold o.kind < 2 ^ 64/\o.s.data.toList.length < 2 ^ 64/\True/\o.id < 2 ^ 64/\fold o.n < 2 ^ 64)/\(o.kind=2->o.d.Fits)/\(o.kind≠2->o.d=.zero)
end Tryst
namespace Tryst
open Go Go.RowKit
def DB.dp (d:DB):DP:=⟨d.name,d.gl,d.wl.map PB.pr,d.key,d.j.kind,d.j.parts,d.j.need,d.j.window⟩
theorem vJ5 (a b:DB):vJc a b=true↔a.dp=b.dp:=by
 have h:=vQF a.wl b.wl
 have hm:∀ l:List PB,PB.prs l=l.map PB.pr:=fun l=>by
  induction l with
  | nil=>rw [PB.prs];rfl
  | cons x l ih=>rw [PB.prs,ih];rfl
 rw [hm,hm] at h;unfold vJc vQt DB.dp;simp only [Bool.and_eq_true,decide_eq_true_eq,h,DP.mk.injEq]
 constructor
 · rintro ⟨h1,h2,⟨h3,h4,h5,h6⟩,h7,h8⟩;exact ⟨h1,h7,h8,h2,h3,h4,h5,h6⟩
 · rintro ⟨h1,h7,h8,h2,h3,h4,h5,h6⟩;exact ⟨h1,h2,⟨h3,h4,h5,h6⟩,h7,h8⟩
structure OPB where
 kind:Int
 s:ByteArray
 d:DB
 ok:Bool
 id:Nat
 n:Int
def OPB.agg (o:OPB):Value:=.agg #[.int .i64 o.kind,.string o.s,.string o.d.name,.slice o.d.ga o.d.gl.length o.d.gc,.slice o.d.wa o.d.wl.length o.d.wc,.string o.d.key,.string o.d.j.kind,.int .i64 o.d.j.parts,.int .i64 o.d.j.need,.int .i64 o.d.j.window,.bool o.ok,.int .u64 o.id,.int .i64 o.n]
def OPB.cells (o:OPB):List Value:=[.int .i64 o.kind,.string o.s,.string o.d.name,.slice o.d.ga o.d.gl.length o.d.gc,.slice o.d.wa o.d.wl.length o.d.wc,.string o.d.key,.string o.d.j.kind,.int .i64 o.d.j.parts,.int .i64 o.d.j.need,.int .i64 o.d.j.window,.bool o.ok,.int .u64 o.id,.int .i64 o.n]
def OPB.p (o:OPB):OpP:=⟨o.kind,o.s,o.ok,o.id,o.n,o.d.dp⟩
def DB.zero:DB:=⟨⟨#[]⟩,none,[],0,none,[],0,⟨#[]⟩,⟨⟨#[]⟩,0,0,0⟩⟩
def OPB.zero:OPB:=⟨0,⟨#[]⟩,.zero,false,0,0⟩
def zQ0 (d:DB):Bool:=decide (d.name=⟨#[]⟩)&&(decide (d.gl.length=0)&&(decide (d.wl.length=0)&&(decide (d.key=⟨#[]⟩)&&vQt d.j ⟨⟨#[]⟩,0,0,0⟩)))
def mayO (o:OPB):Bool:=decide (1<=o.kind)&&(decide (o.kind<=10)&&(decide (o.s.size<=2000)&&(if o.kind=2 then mayD o.d else zQ0 o.d)))
theorem xQV (d:DB):zQ0 d=true↔d.dp=.zero:=by
 unfold zQ0 vQt DB.dp DP.zero;simp only [Bool.and_eq_true,decide_eq_true_eq,DP.mk.injEq,List.length_eq_zero_iff,List.map_eq_nil_iff]
theorem qJL (d:DB):zQ0 d=vJc d .zero:=by
 rw [Bool.eq_iff_iff,xQV,vJ5];rfl
end Tryst
namespace Go.Proofs.YtcbicdencgjfiaaGreatDoor
open Go.RowKit Tryst
structure OPIn (o:OPB):Prop where
 k0:-9223372036854775808<=o.kind
 k1:o.kind<=9223372036854775807
 n0:-9223372036854775808<=o.n
 n1:o.n<=9223372036854775807
 i:o.id<=18446744073709551615
structure JIn (j:JB):Prop where
 k:j.kind.size<=1500000
 p0:-9223372036854775808<=j.parts
 p1:j.parts<=9223372036854775807
 n0:-9223372036854775808<=j.need
 n1:j.need<=9223372036854775807
 w0:-9223372036854775808<=j.window
 w1:j.window<=9223372036854775807
theorem jQS {n:Int} (h0:-9223372036854775808<=n) (h1:n<=9223372036854775807):fold n < 2 ^ 64:=by
 unfold fold
 split<;>omega
theorem Xy {α:Type} (f:α->List UInt8) {l:List α} {k:Nat} (h:k < l.length):(l.take (k+1)).flatMap f=(l.take k).flatMap f++f l[k]:=by
 rw [List.take_succ_eq_append_getElem h,List.flatMap_append,List.flatMap_cons,List.flatMap_nil,List.append_nil]
theorem jQE {α:Type} (f:α->List UInt8) {l:List α} {k:Nat} (h:k < l.length):((l.take k).flatMap f).length+(f l[k]).length<=(l.flatMap f).length:=by
 have:l.flatMap f=((l.take k).flatMap f++f l[k])++(l.drop (k+1)).flatMap f:=by
  rw [<- Xy f h,<- List.flatMap_append,List.take_append_drop]
 rw [this,List.length_append,List.length_append];omega
theorem kQb {α:Type} {f:α->List UInt8} {m:Nat}:∀ {l:List α},(∀ x∈l,(f x).length<=m)->(l.flatMap f).length<=l.length*m
 | [],_=>by simp
 | x :: l,h=>by
  have:=kQb (l:=l) (fun y hy=>h y (List.mem_cons_of_mem _ hy));have:=h x List.mem_cons_self;rw [List.flatMap_cons,List.length_append,List.length_cons,Nat.add_mul];omega
theorem kQm (s:ByteArray):(strL s).length<=10+s.size:=by
 unfold strL jQM;have:=Jf s.data.toList.length;rw [List.length_append,Qx] at *;omega
theorem kQk (n:Int):(numL n).length<=10:=Jf _
theorem kQ3 {α:Type} {f:α->List UInt8} (hf:∀ x,1<=(f x).length):∀ l:List α,l.length<=(l.flatMap f).length
 | []=>by simp
 | x :: l=>by
  have:=kQ3 hf l;have:=hf x;rw [List.flatMap_cons,List.length_append,List.length_cons];omega
theorem vQ4 {α:Type} {f:α->List UInt8}:∀ {l:List α} {x:α},x∈l->(f x).length<=(l.flatMap f).length
 | y :: l,x,h=>by
  rw [List.flatMap_cons,List.length_append]
  rcases List.mem_cons.1 h with rfl | h
  · omega
  · have:=vQ4 (f:=f) h;omega
theorem Ky (s:ByteArray):1+s.size<=(strL s).length:=by
 unfold strL jQM;have:=jQZ s.data.toList.length;rw [List.length_append,Qx] at *;omega
theorem Y6 {n:Int} (h:fold n < 2 ^ 64):-9223372036854775808<=n/\n<=9223372036854775807:=by
 unfold fold at h
 split at h<;>omega
end Go.Proofs.YtcbicdencgjfiaaGreatDoor
namespace Go.Proofs.YtcbicdencgjfiaaGreatDoor
open Go.RowKit Tryst
theorem xQK {T:TypeId} (H:BT T) (B b:Nat) (l:List UInt8) (c:UInt8) (w:World) (h:BldT T w B b l) (hl:l.length<=1000000000) (hBw:B<=w.heap.size) :
  Calls Tryz.prog 163 #[.pointer (some ⟨b,0,none⟩),.int .u8 c.toNat] w fun e w'=>e=.returned .nilIface/\BldT T w' B b (l++[c])/\Below B w w'/\Kept b w w':=by
 obtain ⟨i0,hi,hz0,hz1,hz2⟩:=info_parts infoByte;have HB0:=Zh h;clear h;go_enter Tryz.func163,Tryz.ntmps163;go_wp2_with fail;refine (qJg H B b _ _ HB0.out).mono ?_;rintro e w1 ⟨rfl,h1,hb1,hk1⟩;obtain ⟨hB,v,hbk,hown,hne⟩:=h1;have c0:w1.cell? ⟨b,0,none⟩=some (.pointer (some ⟨b,0,none⟩)):=by rw [Lib.cell_of_heap hbk];rfl
 have c1:w1.cell? ⟨b,1,none⟩=some v:=by rw [Lib.cell_of_heap hbk];rfl
 have hle:(Lib.byteCells l).length<=1000000000:=by simp [Lib.byteCells];omega
 go_wp2_with (at_builtin;refine wpList_append_own _ rfl _ _ 77 rfl B 5 i0 (.int .u8 0) 1 1 Tryz.underlying77 hi hz0 hz1 hz2 rfl (by decide) _ _ _ rfl (hown.alloc _) ⟨w1.heap.size,0,none⟩ 1 1 [.int .u8 c.toNat] rfl rfl ?c1 ?c2 ?c3 ?c4 ?c5 ?_)
 case c1=>
  intro j u hj;cases j with
  | zero=>
   simp at hj;subst hj;simp [Addr.add_lit]
  | succ j=>simp at hj
 case c2=>intro u hu;simp at hu;subst hu;rfl
 case c3=>unfold maxLen;omega
 case c4=>omega
 case c5=>have:=hb1.size;simp;omega
 intro v' w2 hown' hgrow _
 have hlt:b < w1.heap.size:=by
  rcases Nat.lt_or_ge b w1.heap.size with h' | h'
  · exact h'
  · simp [Array.getElem?_eq_none h'] at hbk
 have hba:=Qj (.cells #[.int .u8 c.toNat] 5) (.refl w1.heap.size w1)
 have hb2:w2.heap[b]?=some (.cells #[.pointer (some ⟨b,0,none⟩),v] T (0,0)):=by
  rw [hgrow.block b (by simp;omega) (fun e=>hne e.symm)];exact (hba.block b hlt).trans hbk
 have d0:w2.cell? ⟨b,0,none⟩=some (.pointer (some ⟨b,0,none⟩)):=by rw [Lib.cell_of_heap hb2];rfl
 have d1:w2.cell? ⟨b,1,none⟩=some v:=by rw [Lib.cell_of_heap hb2];rfl
 have f1:w2.frozen? ⟨b,1,none⟩=false:=Lib.frozen_of_heap hb2 1;have hz1:=hb1.size
 obtain ⟨ao,n',cap,rfl⟩:∃ ao n' cap,v'=.slice ao n' cap:=by
  rcases hown'.2 with ⟨hv,_⟩ | ⟨g,cap,cur,hv,_⟩
  · exact ⟨_,_,_,hv⟩
  · exact ⟨_,_,_,hv⟩
 go_wp2;go_ret;refine ⟨rfl,.inr ?_,?_,?_⟩
 ·
  refine Lib.BuilderAt.put (T:=T) (e:=5) hB hb2 (bs':=Lib.byteCells (l++[c])) ?_ H.ne
  simpa [Lib.byteCells] using hown'
 · exact (((hb1.trans (hba.mono (by omega)))).grown hgrow (by simp;omega) (fun k hk=>(hown.lt k hk).1)).setCell (p:=⟨b,1,none⟩) hB _
 · have hk2:=Lib.OthersKept.below hk1 hba;exact (hk2.grown hgrow (Lib.ownsRow_kind (hown.alloc _))).setCell ⟨b,1,none⟩ rfl _
theorem btP:BT 81:=⟨by kernel_rfl,by decide⟩
structure PenS (W0 Y:World) (b:Nat) (l:List UInt8) (w:World):Prop where
 bld:BldT 81 w W0.heap.size b l
 low:Below W0.heap.size W0 w
 kept:Kept b Y w
theorem PenS.step {W0 Y w w':World} {b:Nat} {l l':List UInt8} (h:PenS W0 Y b l w) (h1:BldT 81 w' W0.heap.size b l') (h2:Below W0.heap.size w w') (h3:Kept b w w'):PenS W0 Y b l' w':=⟨h1,h.low.trans h2,h.kept.trans h3⟩
theorem PenS.quiet {W0 Y w w':World} {b:Nat} {l:List UInt8} (h:PenS W0 Y b l w) (hb:Below w.heap.size w w'):PenS W0 Y b l w':=⟨h.bld.grow hb,h.low.trans (hb.mono h.low.size),h.kept.trans (Kept.below hb)⟩
theorem PenS.enter {W0 Y w w':World} {b:Nat} {l:List UInt8} (h:PenS W0 Y b l w) (hb:Below w.heap.size w w'):PenS W0 w' b l w':=⟨h.bld.grow hb,h.low.trans (hb.mono h.low.size),Kept.refl _ _⟩
theorem PenS.leave {W0 Y Z w w':World} {b:Nat} {l l':List UInt8} (h:PenS W0 Y b l w) (hb:Below w.heap.size w Z) (k:PenS W0 Z b l' w'):PenS W0 Y b l' w':=⟨k.bld,k.low,h.kept.trans ((Kept.below hb).trans k.kept)⟩
theorem PenS.tto {W0 Y w:World} {b:Nat} {l l':List UInt8} (h:PenS W0 Y b l w) (e:l=l'):PenS W0 Y b l' w:=e ▸ h
def PenR (W0 Y:World) (b:Nat) (l:List UInt8) (e:Ending) (w:World):Prop:=e=.returned (.tuple #[])/\PenS W0 Y b l w
theorem jQD (n:Nat) (hn:n < 2 ^ 64) {W0 Y w:World} {b:Nat} {l:List UInt8} (h:PenS W0 Y b l w) (hl:l.length<=900000000) :
  Calls Tryz.prog 111 #[.pointer (some ⟨b,0,none⟩),.int .u64 n] w (PenR W0 Y b (l++pack n)):=by
 have H0:=Zh h;have hpl:(pack n).length<=10:=Jf _;have HP:=Zh (fun W=>zQM n W (by omega) (by omega));rw [Int.toNat_natCast] at HP;clear h;go_enter Tryz.func111,Tryz.ntmps111;go_wp2_with fail
 go_region_with (first | (go_at_call 164;refine (HP.out _).mono ?_;rintro e w1 ⟨rfl,hb1⟩;have H1:=Zh (H0.out.quiet (Qk hb1 (Y0 (.refl _ _))));clear hb1) | (go_at_call 162;refine (zQ3 btP W0.heap.size b _ _ _ H1.out.bld (by omega) (by rw [mk_size];omega) H1.out.low.size).mono ?_;rintro e w2 ⟨rfl,g1,g2,g3⟩;have H2:=Zh (H1.out.step g1 g2 g3);clear g1 g2 g3 H1))
 all_goals
  go_end0;exact ⟨rfl,H2.out⟩
theorem Jk (n:Int) (h0:-9223372036854775808<=n) (h1:n<=9223372036854775807) {W0 Y w:World} {b:Nat} {l:List UInt8} (h:PenS W0 Y b l w) (hl:l.length<=900000000) :
  Calls Tryz.prog 73 #[.pointer (some ⟨b,0,none⟩),.int .i64 n] w (PenR W0 Y b (l++numL n)):=by
 have H0:=Zh h;have HP:=Zh (fun W=>zJb n h0 h1 W);have hf:=jQS h0 h1;clear h;unfold numL;generalize fold n=m at HP hf ⊢;go_enter Tryz.func73,Tryz.ntmps73;go_wp2_with fail;refine (HP.out _).mono ?_;rintro e w1 ⟨rfl,rfl⟩;go_wp2_with fail;refine (jQD m hf H0.out hl).mono ?_;rintro e w2 ⟨rfl,h2⟩;go_wp2_with fail;go_end0;exact ⟨rfl,h2⟩
theorem Zg (s:ByteArray) {W0 Y w:World} {b:Nat} {l:List UInt8} (h:PenS W0 Y b l w) (hl:l.length+(strL s).length<=800000000) :
  Calls Tryz.prog 109 #[.pointer (some ⟨b,0,none⟩),.string s] w (PenR W0 Y b (l++strL s)):=by
 have H0:=Zh h;have hpl:(pack s.size).length<=10:=Jf _;clear h;unfold strL jQM at hl ⊢;rw [List.length_append,Qx] at hl;rw [Qx];go_enter Tryz.func109,Tryz.ntmps109;go_wp2_with fail;refine (jQD s.size (by omega) H0.out (by omega)).mono ?_;rintro e w1 ⟨rfl,h1⟩;have H1:=Zh h1;clear h1 H0;go_wp2_with fail;refine (zQ3 btP W0.heap.size b _ s _ H1.out.bld (by rw [List.length_append];omega) (by omega) H1.out.low.size).mono ?_;rintro e w2 ⟨rfl,g1,g2,g3⟩;have H2:=Zh (H1.out.step g1 g2 g3);clear g1 g2 g3 H1;go_wp2_with fail;go_end0;exact ⟨rfl,H2.out.tto (by rw [List.append_assoc])⟩
theorem kQO {T:TypeId} (H:BT T) (B b:Nat) (l:List UInt8) (c:UInt8) (x:Int) (hx:(c.toNat:Int)=x) (w:World) (h:BldT T w B b l) (hl:l.length<=1000000000) (hBw:B<=w.heap.size) :
  Calls Tryz.prog 163 #[.pointer (some ⟨b,0,none⟩),.int .u8 x] w fun e w'=>e=.returned .nilIface/\BldT T w' B b (l++[c])/\Below B w w'/\Kept b w w':=by
 subst hx;exact xQK H B b l c w h hl hBw
theorem xQx (x:Bool) {W0 Y w:World} {b:Nat} {l:List UInt8} (h:PenS W0 Y b l w) (hl:l.length<=900000000) :
  Calls Tryz.prog 110 #[.pointer (some ⟨b,0,none⟩),.bool x] w (PenR W0 Y b (l++zQG x)):=by
 have H0:=Zh h;clear h;unfold zQG;cases x
 all_goals
  go_enter Tryz.func110,Tryz.ntmps110;go_wp2_with fail
  first | (with_reducible refine (kQO btP W0.heap.size b _ 0 0 rfl _ H0.out.bld (by omega) H0.out.low.size).mono ?_) | with_reducible refine (kQO btP W0.heap.size b _ 1 1 rfl _ H0.out.bld (by omega) H0.out.low.size).mono ?_
  rintro e w2 ⟨rfl,g1,g2,g3⟩;have H2:=Zh (H0.out.step g1 g2 g3);clear g1 g2 g3 H0;go_wp2_with fail;go_end0;exact ⟨rfl,H2.out⟩
end Go.Proofs.YtcbicdencgjfiaaGreatDoor
namespace Go.Proofs.YtcbicdencgjfiaaGreatDoor
open Go.RowKit Tryst
def PLR {α:Type} (W0 Y:World) (b:Nat) (o:List UInt8) (f:α->List UInt8) (l:List α) (i:Value) (wr:World):Prop:=
 ∃ k:Nat,k<=l.length/\i=.int .i64 k/\Hid (PenS W0 Y b (o++pack l.length++(l.take k).flatMap f) wr)
theorem jJe (a:Option Addr) (c:Nat) (l:List ByteArray) {W0 Y w:World} {b:Nat} {o:List UInt8} (h:PenS W0 Y b o w) (hS:Strs W0 a l) (hl:o.length+(Qf strL l).length<=800000000) (hn:l.length<=1500000) :
  Calls Tryz.prog 139 #[.pointer (some ⟨b,0,none⟩),.slice a l.length c,.func (.func 109) #[.pointer (some ⟨b,0,none⟩)] #[]] w (PenR W0 Y b (o++Qf strL l)):=by
 have H0:=Zh h;have HS:=Zh hS;unfold Qf at hl ⊢;rw [List.length_append] at hl;have hpk:=Jf l.length;clear h hS;go_enter Tryz.func139,Tryz.ntmps139;go_wp2_with fail;refine (jQD l.length (by omega) H0.out (by omega)).mono ?_;rintro e w1 ⟨rfl,h1⟩;have H1:=Zh h1;clear h1 H0;go_wp2_with fail;go_loopw [15] (fun i wr=>PLR W0 Y b o strL l i wr) (fun i _=>l.length - (intOf i).toNat)
 case atStart=>exact ⟨0,by omega,rfl,Zh (by rw [List.take_zero,List.flatMap_nil,List.append_nil];exact H1.out)⟩
 case round=>
  clear H1;obtain ⟨k,hk,rfl,HP⟩:=hrel;obtain ⟨wo,rfl⟩:∃ wo,wo=wr:=⟨_,rfl⟩
  by_cases hlt:k < l.length
  ·
   obtain ⟨g,j,ha,hb⟩:=(HS.out.grow HP.out.low).head hlt;subst ha;have f0:=((HS.out.grow HP.out.low).at hlt).2;have hfl:=jQE strL hlt;have HFN:=Zh (Xy strL hlt);go_wp2_with fail;refine (Zg l[k] HP.out (by rw [List.length_append,List.length_append];omega)).mono ?_;rintro e w2 ⟨rfl,h2⟩;have H2:=Zh (h2.tto (l':=o++pack l.length++(l.take (k+1)).flatMap strL) (by rw [HFN.out,List.append_assoc _ _ (strL _)]));clear h2 HP HFN hfl f0;go_wp2_with fail;go_roundw
   case rel=>exact ⟨k+1,by omega,by go_num,H2⟩
   case measure=>simp [intOf]<;>omega
  · have H3:=Zh (HP.out.tto (l':=o++(pack l.length++l.flatMap strL)) (by rw [List.take_of_length_le (by omega),List.append_assoc]));go_wp2_with fail;go_end0;exact ⟨rfl,H3.out⟩
theorem zJS (x:PB) (hm:mayP x.pr=true) {W0 Y w:World} {b:Nat} {o:List UInt8} (h:PenS W0 Y b o w) (hM:MaxW W0) (hT:Tab W0) (hP:PMem W0 x) (hf:Zb x.pr) (hl:o.length+(Kz x.pr).length<=800000000) :
  Calls Tryz.prog 166 #[.pointer (some ⟨b,0,none⟩),x.agg] w (PenR W0 Y b (o++Kz x.pr)):=by
 have HT:=Zh (fun W (hb:Below W0.heap.size W0 W)=>jY3 x W (hM.grow hb) (hP.grow hb) hf (hT.grow hb));rw [hm] at HT;simp only [if_true] at HT;unfold Kz at hl ⊢;have H0:=Zh h;generalize Yk x.pr=tx at HT hl ⊢;clear h hM hT hP hf hm;obtain ⟨op,s,num,n,vs,a,c,l⟩:=x;unfold PB.agg at HT ⊢;simp only [PB.op,PB.s,PB.num,PB.n,PB.vs,PB.a,PB.c,PB.l] at HT ⊢;have B0:=Zh (Qj (.cells #[.string op,.string s,.bool num,.int .i64 n,.string vs,.slice a l.length c] 123) (.refl w.heap.size w));have H1:=Zh (H0.out.enter B0.out);go_enter Tryz.func166,Tryz.ntmps166;go_wp2_with fail;refine (HT.out _ H1.out.low).mono ?_;rintro e w2 ⟨rfl,hb2⟩;have H2:=Zh (H1.out.quiet hb2);clear hb2 H1;go_wp2_with fail;refine (Zg ⟨tx.toArray⟩ H2.out (by unfold strL;rw [Jb];exact hl)).mono ?_;rintro e w3 ⟨rfl,h3⟩;have H3:=Zh ((H0.out.leave B0.out h3).tto (l':=o++jQM tx) (by unfold strL;rw [Jb]));clear h3 H2;go_wp2_with fail;go_end0;exact ⟨rfl,H3.out⟩
theorem vJV (a:Option Addr) (c:Nat) (l:List PB) {W0 Y w:World} {b:Nat} {o:List UInt8} (h:PenS W0 Y b o w) (hM:MaxW W0) (hT:Tab W0) (hR:PRow W0 a c l) (hm:∀ p∈l,mayP p.pr=true) (hf:∀ p∈l,Zb p.pr) (hl:o.length+(Qf Kz (l.map PB.pr)).length<=800000000) (hn:l.length<=1500000) :
  Calls Tryz.prog 165 #[.pointer (some ⟨b,0,none⟩),.slice a l.length c,.func (.func 166) #[.pointer (some ⟨b,0,none⟩)] #[]] w (PenR W0 Y b (o++Qf Kz (l.map PB.pr))):=by
 have H0:=Zh h;have HS:=Zh hR;have HC:=Zh (fun (k:Nat) (hk:k < l.length) (Y wx:World) (ox:List UInt8) (hx:PenS W0 Y b ox wx) (hlx:ox.length+(Kz l[k].pr).length<=800000000)=>zJS l[k] (hm _ (List.getElem_mem hk)) hx hM hT (hR.po _ (List.getElem_mem hk)).1.mem (hf _ (List.getElem_mem hk)) hlx);unfold PB.agg at HC;unfold Qf at hl ⊢;rw [List.length_append,List.length_map] at hl;rw [List.length_map];have hpk:=Jf l.length;clear h hM hT hR hm hf;go_enter Tryz.func165,Tryz.ntmps165;go_wp2_with fail;refine (jQD l.length (by omega) H0.out (by omega)).mono ?_;rintro e w1 ⟨rfl,h1⟩;have H1:=Zh h1;clear h1 H0;go_wp2_with fail;go_loopw [15] (fun i wr=>PLR W0 Y b o Kz (l.map PB.pr) i wr) (fun i _=>l.length - (intOf i).toNat)
 case atStart=>exact ⟨0,by omega,rfl,Zh (by rw [List.take_zero,List.flatMap_nil,List.append_nil,List.length_map];exact H1.out)⟩
 case round=>
  clear H1;obtain ⟨k,hk,rfl,HP⟩:=hrel;rw [List.length_map] at hk HP;obtain ⟨wo,rfl⟩:∃ wo,wo=wr:=⟨_,rfl⟩
  by_cases hlt:k < l.length
  ·
   obtain ⟨g,j,ha,hb⟩:=(HS.out.grow HP.out.low).head hlt;subst ha;obtain ⟨_,f0,f1,f2,f3,f4,f5⟩:=Row.pat (HS.out.grow HP.out.low).row hlt;have hlt2:k < (l.map PB.pr).length:=by rw [List.length_map];exact hlt
   have hfl:=jQE Kz hlt2;have HFN:=Zh (Xy Kz hlt2);rw [List.getElem_map] at hfl HFN;have HK:=Zh (HC.out k hlt);have B0:=Zh (Qj (.cells #[.string l[k].op,.string l[k].s,.bool l[k].num,.int .i64 l[k].n,.string l[k].vs,.slice l[k].a l[k].l.length l[k].c] 123) (.refl wo.heap.size wo));have H1:=Zh (HP.out.enter B0.out);go_wp2_with fail;refine (HK.out _ _ _ H1.out (by rw [List.length_append,List.length_append];omega)).mono ?_;rintro e w2 ⟨rfl,h2⟩;have H2:=Zh ((HP.out.leave B0.out h2).tto (l':=o++pack l.length++((l.map PB.pr).take (k+1)).flatMap Kz) (by rw [HFN.out,List.append_assoc _ _ (Kz _)]));clear h2 HP HFN hfl f0 f1 f2 f3 f4 f5 HK B0 H1;go_wp2_with fail;go_roundw
   case rel=>exact ⟨k+1,by rw [List.length_map];omega,by go_num,Zh (by rw [List.length_map];exact H2.out)⟩
   case measure=>simp [intOf]<;>omega
  · have H3:=Zh (HP.out.tto (l':=o++(pack l.length++(l.map PB.pr).flatMap Kz)) (by rw [List.take_of_length_le (by rw [List.length_map];omega),List.append_assoc]));go_wp2_with fail;go_end0;exact ⟨rfl,H3.out⟩
