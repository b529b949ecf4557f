/- shelf.some: any kind of elements; texts, predicates -/
import Derived.Test.YtcbicdencgjfiaaGreatDoorEyeW
set_option linter.unusedVariables false
set_option linter.unusedSimpArgs false
namespace Go.Proofs.YtcbicdencgjfiaaGreatDoor
open Go.RowKit Tryst
set_option maxHeartbeats 4000000
set_option maxRecDepth 20000
theorem _root_.Tryst.ROwn.oth {e:TypeId} {k b base:Nat} {w w':World} {v:Value} {l:List (List Value)} (h:ROwn e k w base v l) (o:Oth b w w') (hb:b < base):ROwn e k w' base v l:=by
 refine own_stays h (fun A n c hv=>?_)
 rcases h.2 with ⟨hv2,_⟩ | ⟨g,cap,cur,hv2,hg,hh,_⟩
 ·
  rw [hv2] at hv;cases hv
 ·
  rw [hv2] at hv
  cases hv
  exact o.same g (h.lt g (by rw [hv2];rfl)).2 (by omega)
theorem EyeS.mark {W0 w:World} {b:Nat} {l:List UInt8} {d:Bool} (h:EyeS W0 b (l,d) w):EyeS W0 b (l,true) (w.setCell ⟨b,1,none⟩ (.bool true)):=⟨h.v.set 1 (.bool true),h.low.setCell (p:=⟨b,1,none⟩) h.ge _,h.ge,h.n⟩
theorem EyeS.under {W0 w w':World} {b B:Nat} {s:List UInt8 × Bool} (h:EyeS W0 b s w) (hb:Below B w w') (hB:b < B):EyeS W0 b s w':=⟨h.v.growB hB hb,h.low.trans (hb.mono (Nat.le_trans h.ge (Nat.le_of_lt hB))),h.ge,h.n⟩
theorem _root_.Tryst.Oth.under {b:Nat} {v w w':World} (h:Oth b v w) (hb:Below v.heap.size w w'):Oth b v w':=⟨Nat.le_trans h.size hb.size,fun k hk hne=>(hb.block k hk).trans (h.same k hk hne)⟩
structure EK (β:Type) where
 T:TypeId
 k:Nat
 cells:β→List Value
 val:β→Value
 E:(Nat→Prop)→World→β→Prop
 len:∀ y,(cells y).length=k
 one:∀ y,∀ u∈cells y,u.oneCell'=true
 keep:∀ {S S':Nat→Prop} {w w':World} {y:β},E S w y→(∀ g,S g→g < w.heap.size→w'.heap[g]?=w.heap[g]?∧S' g)→w.heap.size≤w'.heap.size→E S' w' y
section
variable {α β:Type} (X:EK β) (p:β→α)
def TkR (W0:World) (b:Nat) (F:α × (List UInt8 × Bool)) (w:World) (e:Ending) (w':World):Prop:=∃ y,e=.returned (X.val y)∧X.E (fun g=>w.heap.size≤g) w' y∧p y=F.1∧EyeS W0 b F.2 w'∧Oth b w w'
structure SoI (f:List UInt8 × Bool→α × (List UInt8 × Bool)) (W0 w:World) (b:Nat) (F:List α × (List UInt8 × Bool)) (m:Nat) (ys:List β) (s:List UInt8 × Bool) (v:Value) (wr:World):Prop where
 e1:F.1=ys.map p++(manyR f m s).1
 e2:F.2=(manyR f m s).2
 eye:EyeS W0 b s wr
 oth:Oth b w wr
 row:ROwn X.T X.k wr w.heap.size v (ys.map X.cells)
 mem:∀ y∈ys,X.E (fun g=>w.heap.size≤g∧Away v g) wr y
 few:s.2=true∨ys.length+m≤1000000
def SoLG (f:List UInt8 × Bool→α × (List UInt8 × Bool)) (W0 w:World) (b:Nat) (F:List α × (List UInt8 × Bool)) (n v:Value) (wr:World):Prop:=∃ (m:Nat) (ys:List β) (s:List UInt8 × Bool),n=.int .u64 m∧m < 2 ^ 64∧Hid (SoI X p f W0 w b F m ys s v wr)
def SoG (W0:World) (b:Nat) (F:List α × (List UInt8 × Bool)) (w:World) (e:Ending) (w':World):Prop:=∃ (v:Value) (ys:List β),e=.returned v∧ROwn X.T X.k w' w.heap.size v (ys.map X.cells)∧(∀ y∈ys,X.E (fun g=>w.heap.size≤g∧Away v g) w' y)∧ys.map p=F.1∧EyeS W0 b F.2 w'∧Oth b w w'
variable {X p}
theorem SoI.start {f:List UInt8 × Bool→α × (List UInt8 × Bool)} {W0 w wr:World} {b n:Nat} {F:List α × (List UInt8 × Bool)} {s:List UInt8 × Bool} (hF:manyR f n s=F) (hs:EyeS W0 b s wr) (ho:Oth b w wr) (hf:s.2=true∨n≤1000000):SoI X p f W0 w b F n [] s (.slice none 0 0) wr:=
 ⟨by rw [hF];rfl,by rw [hF],hs,ho,ROwn.nil _ _ _ _,fun y h=>(by cases h),by simpa using hf⟩
theorem SoI.done {f:List UInt8 × Bool→α × (List UInt8 × Bool)} {W0 w wr:World} {b m:Nat} {F:List α × (List UInt8 × Bool)} {ys:List β} {l:List UInt8} {d:Bool} {v:Value} (h:SoI X p f W0 w b F m ys (l,d) v wr) (hm:m=0∨d=true):SoG X p W0 b F w (.returned v) wr:=by
 have e:manyR f m (l,d)=([],(l,d)):=by
  rcases hm with rfl | rfl
  ·
   rfl
  ·
   exact manyR_bad f m l
 have h1:=h.e1
 have h2:=h.e2
 rw [e] at h1 h2
 rw [List.append_nil] at h1
 exact ⟨v,ys,rfl,h.row,h.mem,h1.symm,by rw [h2];exact h.eye,h.oth⟩
theorem SoI.next {f:List UInt8 × Bool→α × (List UInt8 × Bool)} {W0 w wo w2 w3:World} {b m:Nat} {F:List α × (List UInt8 × Bool)} {ys:List β} {l:List UInt8} {v:Value} {y:β} {o:Obj} {g' cap n':Nat}
  (h:SoI X p f W0 w b F (m+1) ys (l,false) v wo) (hbw:b < w.heap.size) (hy:X.E (fun g=>wo.heap.size≤g) w2 y) (hp:p y=(f (l,false)).1) (hs:EyeS W0 b (f (l,false)).2 w2) (ho:Oth b wo w2)
  (hr:ROwn X.T X.k w3 w.heap.size (.slice (some ⟨g',0,none⟩) n' cap) (ys.map X.cells++[X.cells y])) (hb:Below w.heap.size (w2.alloc o) w3) (hst:∀ k,k < w2.heap.size+1→Away v k→w3.heap[k]?=(w2.alloc o).heap[k]?) (hat:v.ownBlock=some g'∨g'=w2.heap.size+1) :
  SoI X p f W0 w b F m (ys++[y]) (f (l,false)).2 (.slice (some ⟨g',0,none⟩) n' cap) w3:=by
 have hz:=h.oth.size
 have hz2:=ho.size
 have hB:Below w.heap.size w2 w3:=((Below.refl w.heap.size w2).alloc (by omega) o).trans hb
 have hal:∀ k,k < w2.heap.size→Away v k→w3.heap[k]?=w2.heap[k]?:=fun k hk ha=>(hst k (by omega) ha).trans (Lib.alloc_old w2 o k hk)
 have hv:∀ A n c,v=.slice (some A) n c→A.block < wo.heap.size:=fun A n c e=>(World.ownsRow.lt h.row A.block (by rw [e];rfl)).2
 have hmany:manyR f (m+1) (l,false)=((f (l,false)).1 :: (manyR f m (f (l,false)).2).1,(manyR f m (f (l,false)).2).2):=by
  rw [manyR,if_neg (by simp)]
 refine ⟨?_,?_,hs.under hB hbw,(h.oth.trans ho).under hB,by rw [List.map_append];exact hr,fun z hz=>?_,?_⟩
 ·
  rw [h.e1,hmany,List.map_append,List.map_cons,List.map_nil,hp,List.append_assoc]
  rfl
 ·
  rw [h.e2,hmany]
 ·
  have h2:X.E (fun g=>w.heap.size≤g∧Away v g) w2 z:=by
   rcases List.mem_append.1 hz with hz | hz
   ·
    exact X.keep (h.mem z hz) (fun g hg hl=>⟨ho.same g hl (by omega),hg⟩) ho.size
   ·
    rw [List.mem_singleton] at hz
    subst hz
    exact X.keep hy (fun g hg _=>⟨rfl,by omega,fun A n c e he=>by have:=hv A n c e;omega⟩) (Nat.le_refl _)
  refine X.keep h2 (fun g hg hl=>⟨hal g hl hg.2,hg.1,fun A n c e he=>?_⟩) hB.size
  cases e
  have he:g'=g:=he
  rcases hat with hat | hat
  ·
   cases v with
   | slice a0 n c=>
    cases a0 with
    | none=>simp [Value.ownBlock] at hat
    | some A=>
     simp [Value.ownBlock] at hat
     exact hg.2 A n c rfl (by omega)
   | _=>simp [Value.ownBlock] at hat
  ·
   omega
 ·
  have hf:=h.few
  simp only [Bool.false_eq_true,false_or] at hf
  exact .inr (by rw [List.length_append,List.length_singleton];omega)
end
def predK:EK PB where
 T:=123
 k:=6
 cells:=PB.cells
 val:=PB.agg
 E:=fun S w y=>POwn w S y
 len:=fun y=>rfl
 one:=fun y u hu=>by
  simp [PB.cells] at hu
  rcases hu with rfl | rfl | rfl | rfl | rfl | rfl<;>rfl
 keep:=fun h hk hz=>h.keep hk hz
theorem ewhere_k {W0 w:World} {b:Nat} {s:List UInt8 × Bool} (h:EyeS W0 b s w) (hM:MaxW W0) :
  Calls Tryz.prog 170 #[.pointer (some ⟨b,0,none⟩)] w (TkR predK PB.pr W0 b (whereR s) w):=
 (ewhere_c h hM).mono fun e w' ⟨y,h1,h2,h3,h4,h5⟩=>⟨y,h1,h2,h3,h4,h5⟩
theorem esomeP_c {W0 w:World} {b:Nat} {s:List UInt8 × Bool} (h:EyeS W0 b s w) (hM:MaxW W0) :
  Calls Tryz.prog 169 #[.pointer (some ⟨b,0,none⟩),.func (.func 170) #[.pointer (some ⟨b,0,none⟩)] #[]] w (SoG predK PB.pr W0 b (someR whereR s) w):=by
 have hbw:=h.v.lt
 have CI:=Lib.hid (eid_c h)
 have hn64:=idR_lt s
 have CE:=Lib.hid (fun (w1:World) (s1:List UInt8 × Bool) (h1:EyeS W0 b s1 w1)=>ewhere_k h1 hM)
 obtain ⟨F,hF⟩:∃ F,someR whereR s=F:=⟨_,rfl⟩
 rw [hF]
 unfold someR at hF
 generalize (idR s).1=n at CI hn64 hF
 generalize (idR s).2=s1 at CI hF
 have HF:=Lib.hid hF
 clear h hF
 obtain ⟨l1,d1⟩:=s1
 simp only at HF
 go_enter Tryz.func169,Tryz.ntmps169
 go_wp2_with fail
 refine CI.out.mono ?_
 rintro e w1 ⟨rfl,h1,h2⟩
 have H1:=Lib.hid h1
 have O1:=Lib.hid h2
 have hlen:=h1.n
 simp only at hlen
 clear h1 h2 CI
 obtain ⟨hz,x0,x1,z0,z1⟩:=ebox H1.out
 simp only at x0 x1
 by_cases hgt:l1.length < n
 ·
  have b1:decide ((l1.length:Int) < (n:Int))=true:=by simpa using hgt
  have HF2:Hid (manyR whereR n (l1,true)=F):=Lib.hid (by rw [← HF.out,if_pos hgt])
  go_wp2_with fail
  refine wp_genC (fun v=>Hid (EyeS W0 b (l1,true) v)∧Hid (Oth b w v)) ⟨H1.out.mark,O1.out.set _⟩ ?_
  rintro Y ⟨HS,HO⟩
  have HI:Hid (SoI predK PB.pr whereR W0 w b F n [] (l1,true) (.slice none 0 0) Y):=Lib.hid (SoI.start HF2.out HS.out HO.out (.inl rfl))
  clear H1 O1 hz x0 x1 z0 z1 HF b1 hgt HF2 HS HO
  go_loopw [5,6] (fun n v wr=>SoLG predK PB.pr whereR W0 w b F n v wr) (fun n _ _=>(intOf n).toNat)
  case atStart=>exact ⟨n,[],_,rfl,hn64,HI⟩
  case round=>
   clear HI
   obtain ⟨m,ys,s,rfl,hm64,HI⟩:=hrel
   obtain ⟨wo,rfl⟩:∃ wo,wo=wr:=⟨_,rfl⟩
   obtain ⟨hz,x0,x1,z0,z1⟩:=ebox HI.out.eye
   obtain ⟨l,d⟩:=s
   simp only at x0 x1
   cases m with
   | zero=>
    have HX:=Lib.hid (HI.out.done (.inl rfl))
    have b4:((0:Nat):Int)=0:=rfl
    clear HI
    go_wp2_with fail
    go_ret
    exact HX.out
   | succ m=>
    have b5:decide ((0:Int) < ((m+1:Nat):Int))=true:=by simp
    cases d with
    | true=>
     have HX:=Lib.hid (HI.out.done (.inr rfl))
     clear HI
     go_wp2_with fail
     go_ret
     exact HX.out
    | false=>
     have hfw:ys.length+(m+1)≤1000000:=by simpa using HI.out.few
     have CT:=Lib.hid (CE.out _ _ HI.out.eye)
     go_wp2_with fail
     refine CT.out.mono ?_
     rintro e w2 ⟨y,rfl,hy,hp,hs,ho⟩
     have HY:=Lib.hid hy
     have HP:=Lib.hid hp
     have HS:=Lib.hid hs
     have HO:=Lib.hid ho
     have HR:=Lib.hid (HI.out.row.oth ho hbw)
     have hz1:=HI.out.oth.size
     have hz2:=ho.size
     clear hy hp hs ho CT x0 x1 z0 z1
     have HG:=Lib.hid (Var.new w2 (predK).T ((predK).cells y))
     have HLN:=Lib.hid (show (ys.map (predK).cells).length=ys.length by rw [List.length_map])
     have HC1:=Lib.hid ((predK).one y)
     dsimp only [predK,PB.agg] at HR HG HLN HC1 ⊢
     go_wp2_with (at_builtin;refine wpList_appL predT rfl _ _ rfl w.heap.size u6 (ys.map (predK).cells) ys.length HLN.out rfl (HR.out.alloc _) ((predK).cells y) rfl HC1.out w2.heap.size rfl (fun j _=>HG.out.cell j) ?a3 ?a4 ?_)
     case a3=>omega
     case a4=>first | omega | (simp;omega)
     intro g' cap w3 hr hb hst hat _
     have HI3:=Lib.hid (HI.out.next hbw HY.out HP.out HS.out HO.out hr hb hst hat)
     clear hr hb hst hat HI HY HP HS HO HR HG HLN HC1
     go_wp2_with fail
     go_roundw
     case rel=>exact ⟨m,ys++[y],_,by go_num,by omega,HI3⟩
     case measure=>simp [intOf]<;>omega
 ·
  have b1:decide ((l1.length:Int) < (n:Int))=false:=by simpa using hgt
  have b2:¬ (l1.length:Int) < (n:Int):=by omega
  have HF2:Hid (manyR whereR n (l1,d1)=F):=Lib.hid (by rw [← HF.out,if_neg hgt])
  go_wp2_with fail
  have HI:Hid (SoI predK PB.pr whereR W0 w b F n [] (l1,d1) (.slice none 0 0) w1):=Lib.hid (SoI.start HF2.out H1.out O1.out (.inr (by omega)))
  clear H1 O1 hz x0 x1 z0 z1 HF b1 b2 HF2
  go_loopw [5,6] (fun n v wr=>SoLG predK PB.pr whereR W0 w b F n v wr) (fun n _ _=>(intOf n).toNat)
  case atStart=>exact ⟨n,[],_,rfl,hn64,HI⟩
  case round=>
   clear HI
   obtain ⟨m,ys,s,rfl,hm64,HI⟩:=hrel
   obtain ⟨wo,rfl⟩:∃ wo,wo=wr:=⟨_,rfl⟩
   obtain ⟨hz,x0,x1,z0,z1⟩:=ebox HI.out.eye
   obtain ⟨l,d⟩:=s
   simp only at x0 x1
   cases m with
   | zero=>
    have HX:=Lib.hid (HI.out.done (.inl rfl))
    have b4:((0:Nat):Int)=0:=rfl
    clear HI
    go_wp2_with fail
    go_ret
    exact HX.out
   | succ m=>
    have b5:decide ((0:Int) < ((m+1:Nat):Int))=true:=by simp
    cases d with
    | true=>
     have HX:=Lib.hid (HI.out.done (.inr rfl))
     clear HI
     go_wp2_with fail
     go_ret
     exact HX.out
    | false=>
     have hfw:ys.length+(m+1)≤1000000:=by simpa using HI.out.few
     have CT:=Lib.hid (CE.out _ _ HI.out.eye)
     go_wp2_with fail
     refine CT.out.mono ?_
     rintro e w2 ⟨y,rfl,hy,hp,hs,ho⟩
     have HY:=Lib.hid hy
     have HP:=Lib.hid hp
     have HS:=Lib.hid hs
     have HO:=Lib.hid ho
     have HR:=Lib.hid (HI.out.row.oth ho hbw)
     have hz1:=HI.out.oth.size
     have hz2:=ho.size
     clear hy hp hs ho CT x0 x1 z0 z1
     have HG:=Lib.hid (Var.new w2 (predK).T ((predK).cells y))
     have HLN:=Lib.hid (show (ys.map (predK).cells).length=ys.length by rw [List.length_map])
     have HC1:=Lib.hid ((predK).one y)
     dsimp only [predK,PB.agg] at HR HG HLN HC1 ⊢
     go_wp2_with (at_builtin;refine wpList_appL predT rfl _ _ rfl w.heap.size u6 (ys.map (predK).cells) ys.length HLN.out rfl (HR.out.alloc _) ((predK).cells y) rfl HC1.out w2.heap.size rfl (fun j _=>HG.out.cell j) ?a3 ?a4 ?_)
     case a3=>omega
     case a4=>first | omega | (simp;omega)
     intro g' cap w3 hr hb hst hat _
     have HI3:=Lib.hid (HI.out.next hbw HY.out HP.out HS.out HO.out hr hb hst hat)
     clear hr hb hst hat HI HY HP HS HO HR HG HLN HC1
     go_wp2_with fail
     go_roundw
     case rel=>exact ⟨m,ys++[y],_,by go_num,by omega,HI3⟩
     case measure=>simp [intOf]<;>omega
def strK:EK ByteArray where
 T:=9
 k:=1
 cells:=fun s=>[.string s]
 val:=fun s=>.string s
 E:=fun _ _ _=>True
 len:=fun y=>rfl
 one:=fun y u hu=>by
  simp at hu
  subst hu
  rfl
 keep:=fun _ _ _=>trivial
def intK:EK Int where
 T:=3
 k:=1
 cells:=fun n=>[.int .i64 n]
 val:=fun n=>.int .i64 n
 E:=fun _ _ _=>True
 len:=fun y=>rfl
 one:=fun y u hu=>by
  simp at hu
  subst hu
  rfl
 keep:=fun _ _ _=>trivial
def idK:EK Nat where
 T:=46
 k:=1
 cells:=fun n=>[.int .u64 n]
 val:=fun n=>.int .u64 n
 E:=fun _ _ _=>True
 len:=fun y=>rfl
 one:=fun y u hu=>by
  simp at hu
  subst hu
  rfl
 keep:=fun _ _ _=>trivial
def boolK:EK Bool where
 T:=4
 k:=1
 cells:=fun n=>[.bool n]
 val:=fun n=>.bool n
 E:=fun _ _ _=>True
 len:=fun y=>rfl
 one:=fun y u hu=>by
  simp at hu
  subst hu
  rfl
 keep:=fun _ _ _=>trivial
theorem etext_k {W0 w:World} {b:Nat} {s:List UInt8 × Bool} (h:EyeS W0 b s w) :
  Calls Tryz.prog 113 #[.pointer (some ⟨b,0,none⟩)] w (TkR strK (fun x=>x) W0 b (strR s) w):=
 (etext_c h).mono fun e w' ⟨h1,h2,h3⟩=>⟨_,h1,trivial,rfl,h2,h3⟩
theorem esomeS_c {W0 w:World} {b:Nat} {s:List UInt8 × Bool} (h:EyeS W0 b s w)  :
  Calls Tryz.prog 155 #[.pointer (some ⟨b,0,none⟩),.func (.func 113) #[.pointer (some ⟨b,0,none⟩)] #[]] w (SoG strK (fun x=>x) W0 b (someR strR s) w):=by
 have hbw:=h.v.lt
 have CI:=Lib.hid (eid_c h)
 have hn64:=idR_lt s
 have CE:=Lib.hid (fun (w1:World) (s1:List UInt8 × Bool) (h1:EyeS W0 b s1 w1)=>etext_k h1)
 obtain ⟨F,hF⟩:∃ F,someR strR s=F:=⟨_,rfl⟩
 rw [hF]
 unfold someR at hF
 generalize (idR s).1=n at CI hn64 hF
 generalize (idR s).2=s1 at CI hF
 have HF:=Lib.hid hF
 clear h hF
 obtain ⟨l1,d1⟩:=s1
 simp only at HF
 go_enter Tryz.func155,Tryz.ntmps155
 go_wp2_with fail
 refine CI.out.mono ?_
 rintro e w1 ⟨rfl,h1,h2⟩
 have H1:=Lib.hid h1
 have O1:=Lib.hid h2
 have hlen:=h1.n
 simp only at hlen
 clear h1 h2 CI
 obtain ⟨hz,x0,x1,z0,z1⟩:=ebox H1.out
 simp only at x0 x1
 by_cases hgt:l1.length < n
 ·
  have b1:decide ((l1.length:Int) < (n:Int))=true:=by simpa using hgt
  have HF2:Hid (manyR strR n (l1,true)=F):=Lib.hid (by rw [← HF.out,if_pos hgt])
  go_wp2_with fail
  refine wp_genC (fun v=>Hid (EyeS W0 b (l1,true) v)∧Hid (Oth b w v)) ⟨H1.out.mark,O1.out.set _⟩ ?_
  rintro Y ⟨HS,HO⟩
  have HI:Hid (SoI strK (fun x=>x) strR W0 w b F n [] (l1,true) (.slice none 0 0) Y):=Lib.hid (SoI.start HF2.out HS.out HO.out (.inl rfl))
  clear H1 O1 hz x0 x1 z0 z1 HF b1 hgt HF2 HS HO
  go_loopw [5,6] (fun n v wr=>SoLG strK (fun x=>x) strR W0 w b F n v wr) (fun n _ _=>(intOf n).toNat)
  case atStart=>exact ⟨n,[],_,rfl,hn64,HI⟩
  case round=>
   clear HI
   obtain ⟨m,ys,s,rfl,hm64,HI⟩:=hrel
   obtain ⟨wo,rfl⟩:∃ wo,wo=wr:=⟨_,rfl⟩
   obtain ⟨hz,x0,x1,z0,z1⟩:=ebox HI.out.eye
   obtain ⟨l,d⟩:=s
   simp only at x0 x1
   cases m with
   | zero=>
    have HX:=Lib.hid (HI.out.done (.inl rfl))
    have b4:((0:Nat):Int)=0:=rfl
    clear HI
    go_wp2_with fail
    go_ret
    exact HX.out
   | succ m=>
    have b5:decide ((0:Int) < ((m+1:Nat):Int))=true:=by simp
    cases d with
    | true=>
     have HX:=Lib.hid (HI.out.done (.inr rfl))
     clear HI
     go_wp2_with fail
     go_ret
     exact HX.out
    | false=>
     have hfw:ys.length+(m+1)≤1000000:=by simpa using HI.out.few
     have CT:=Lib.hid (CE.out _ _ HI.out.eye)
     go_wp2_with fail
     refine CT.out.mono ?_
     rintro e w2 ⟨y,rfl,hy,hp,hs,ho⟩
     have HY:=Lib.hid hy
     have HP:=Lib.hid hp
     have HS:=Lib.hid hs
     have HO:=Lib.hid ho
     have HR:=Lib.hid (HI.out.row.oth ho hbw)
     have hz1:=HI.out.oth.size
     have hz2:=ho.size
     clear hy hp hs ho CT x0 x1 z0 z1
     have HG:=Lib.hid (Var.new w2 (strK).T ((strK).cells y))
     have HLN:=Lib.hid (show (ys.map (strK).cells).length=ys.length by rw [List.length_map])
     have HC1:=Lib.hid ((strK).one y)
     dsimp only [strK] at HR HG HLN HC1 ⊢
     go_wp2_with (at_builtin;refine wpList_appL strT rfl _ _ rfl w.heap.size u6 (ys.map (strK).cells) ys.length HLN.out rfl (HR.out.alloc _) ((strK).cells y) rfl HC1.out w2.heap.size rfl (fun j _=>HG.out.cell j) ?a3 ?a4 ?_)
     case a3=>omega
     case a4=>first | omega | (simp;omega)
     intro g' cap w3 hr hb hst hat _
     have HI3:=Lib.hid (HI.out.next hbw HY.out HP.out HS.out HO.out hr hb hst hat)
     clear hr hb hst hat HI HY HP HS HO HR HG HLN HC1
     go_wp2_with fail
     go_roundw
     case rel=>exact ⟨m,ys++[y],_,by go_num,by omega,HI3⟩
     case measure=>simp [intOf]<;>omega
 ·
  have b1:decide ((l1.length:Int) < (n:Int))=false:=by simpa using hgt
  have b2:¬ (l1.length:Int) < (n:Int):=by omega
  have HF2:Hid (manyR strR n (l1,d1)=F):=Lib.hid (by rw [← HF.out,if_neg hgt])
  go_wp2_with fail
  have HI:Hid (SoI strK (fun x=>x) strR W0 w b F n [] (l1,d1) (.slice none 0 0) w1):=Lib.hid (SoI.start HF2.out H1.out O1.out (.inr (by omega)))
  clear H1 O1 hz x0 x1 z0 z1 HF b1 b2 HF2
  go_loopw [5,6] (fun n v wr=>SoLG strK (fun x=>x) strR W0 w b F n v wr) (fun n _ _=>(intOf n).toNat)
  case atStart=>exact ⟨n,[],_,rfl,hn64,HI⟩
  case round=>
   clear HI
   obtain ⟨m,ys,s,rfl,hm64,HI⟩:=hrel
   obtain ⟨wo,rfl⟩:∃ wo,wo=wr:=⟨_,rfl⟩
   obtain ⟨hz,x0,x1,z0,z1⟩:=ebox HI.out.eye
   obtain ⟨l,d⟩:=s
   simp only at x0 x1
   cases m with
   | zero=>
    have HX:=Lib.hid (HI.out.done (.inl rfl))
    have b4:((0:Nat):Int)=0:=rfl
    clear HI
    go_wp2_with fail
    go_ret
    exact HX.out
   | succ m=>
    have b5:decide ((0:Int) < ((m+1:Nat):Int))=true:=by simp
    cases d with
    | true=>
     have HX:=Lib.hid (HI.out.done (.inr rfl))
     clear HI
     go_wp2_with fail
     go_ret
     exact HX.out
    | false=>
     have hfw:ys.length+(m+1)≤1000000:=by simpa using HI.out.few
     have CT:=Lib.hid (CE.out _ _ HI.out.eye)
     go_wp2_with fail
     refine CT.out.mono ?_
     rintro e w2 ⟨y,rfl,hy,hp,hs,ho⟩
     have HY:=Lib.hid hy
     have HP:=Lib.hid hp
     have HS:=Lib.hid hs
     have HO:=Lib.hid ho
     have HR:=Lib.hid (HI.out.row.oth ho hbw)
     have hz1:=HI.out.oth.size
     have hz2:=ho.size
     clear hy hp hs ho CT x0 x1 z0 z1
     have HG:=Lib.hid (Var.new w2 (strK).T ((strK).cells y))
     have HLN:=Lib.hid (show (ys.map (strK).cells).length=ys.length by rw [List.length_map])
     have HC1:=Lib.hid ((strK).one y)
     dsimp only [strK] at HR HG HLN HC1 ⊢
     go_wp2_with (at_builtin;refine wpList_appL strT rfl _ _ rfl w.heap.size u6 (ys.map (strK).cells) ys.length HLN.out rfl (HR.out.alloc _) ((strK).cells y) rfl HC1.out w2.heap.size rfl (fun j _=>HG.out.cell j) ?a3 ?a4 ?_)
     case a3=>omega
     case a4=>first | omega | (simp;omega)
     intro g' cap w3 hr hb hst hat _
     have HI3:=Lib.hid (HI.out.next hbw HY.out HP.out HS.out HO.out hr hb hst hat)
     clear hr hb hst hat HI HY HP HS HO HR HG HLN HC1
     go_wp2_with fail
     go_roundw
     case rel=>exact ⟨m,ys++[y],_,by go_num,by omega,HI3⟩
     case measure=>simp [intOf]<;>omega
end Go.Proofs.YtcbicdencgjfiaaGreatDoor
