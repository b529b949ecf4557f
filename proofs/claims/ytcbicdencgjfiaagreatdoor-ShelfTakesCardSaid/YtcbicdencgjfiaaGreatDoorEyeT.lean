import Derived.Test.YtcbicdencgjfiaaGreatDoorEyeW
import Derived.Test.YtcbicdencgjfiaaGreatDoorShM
set_option linter.all false
set_option maxHeartbeats 4000000
set_option maxRecDepth 20000
namespace Go.Proofs.YtcbicdencgjfiaaGreatDoor
open Go.RowKit Tryst
theorem _root_.Tryst.ROwn.oth {e:TypeId} {k b base:Nat} {w w':World} {v:Value} {l:List (List Value)} (h:ROwn e k w base v l) (o:Oth b w w') (hb:b < base):ROwn e k w' base v l:=by
 refine jQN h (fun A n c hv=>?_)
 rcases h.2 with ⟨hv2,_⟩ | ⟨g,cap,cur,hv2,hg,hh,_⟩
 · rw [hv2] at hv;cases hv
 · rw [hv2] at hv;cases hv;exact o.same g (h.lt g (by rw [hv2];rfl)).2 (by omega)
theorem EyeS.mark {W0 w:World} {b:Nat} {l:List UInt8} {d:Bool} (h:EyeS W0 b (l,d) w):EyeS W0 b (l,true) (w.setCell ⟨b,1,none⟩ (.bool true)):=⟨h.v.set 1 (.bool true),h.low.setCell (p:=⟨b,1,none⟩) h.ge _,h.ge,h.n⟩
theorem EyeS.under {W0 w w':World} {b B:Nat} {s:List UInt8 × Bool} (h:EyeS W0 b s w) (hb:Below B w w') (hB:b < B):EyeS W0 b s w':=⟨h.v.growB hB hb,h.low.trans (hb.mono (Nat.le_trans h.ge (Nat.le_of_lt hB))),h.ge,h.n⟩
theorem _root_.Tryst.Oth.under {b:Nat} {v w w':World} (h:Oth b v w) (hb:Below v.heap.size w w'):Oth b v w':=⟨Nat.le_trans h.size hb.size,fun k hk hne=>(hb.block k hk).trans (h.same k hk hne)⟩
structure EK (β:Type) where
 T:TypeId
 k:Nat
 cells:β->List Value
 val:β->Value
 E:(Nat->Prop)->World->β->Prop
 len:∀ y,(cells y).length=k
 one:∀ y,∀ u∈cells y,u.oneCell'=true
 keep:∀ {S S':Nat->Prop} {w w':World} {y:β},E S w y->(∀ g,S g->g < w.heap.size->w'.heap[g]?=w.heap[g]?/\S' g)->w.heap.size<=w'.heap.size->E S' w' y
section
variable {α β:Type} (X:EK β) (p:β->α)
def TkR (W0:World) (b:Nat) (F:α × (List UInt8 × Bool)) (w:World) (e:Ending) (w':World):Prop:=∃ y,e=.returned (X.val y)/\X.E (fun g=>w.heap.size<=g) w' y/\p y=F.1/\EyeS W0 b F.2 w'/\Oth b w w'
structure SoI (f:List UInt8 × Bool->α × (List UInt8 × Bool)) (W0 w:World) (b:Nat) (F:List α × (List UInt8 × Bool)) (m:Nat) (ys:List β) (s:List UInt8 × Bool) (v:Value) (wr:World):Prop where
 e1:F.1=ys.map p++(Yv f m s).1
 e2:F.2=(Yv f m s).2
 eye:EyeS W0 b s wr
 oth:Oth b w wr
 row:ROwn X.T X.k wr w.heap.size v (ys.map X.cells)
 mem:∀ y∈ys,X.E (fun g=>w.heap.size<=g/\Away v g) wr y
 few:s.2=true∨ys.length+m<=1500000
def SoLG (f:List UInt8 × Bool->α × (List UInt8 × Bool)) (W0 w:World) (b:Nat) (F:List α × (List UInt8 × Bool)) (n v:Value) (wr:World):Prop:=∃ (m:Nat) (ys:List β) (s:List UInt8 × Bool),n=.int .u64 m/\m < 2 ^ 64/\Hid (SoI X p f W0 w b F m ys s v wr)
def SoG (W0:World) (b:Nat) (F:List α × (List UInt8 × Bool)) (w:World) (e:Ending) (w':World):Prop:=∃ (v:Value) (ys:List β),e=.returned v/\ROwn X.T X.k w' w.heap.size v (ys.map X.cells)/\(∀ y∈ys,X.E (fun g=>w.heap.size<=g/\Away v g) w' y)/\ys.map p=F.1/\EyeS W0 b F.2 w'/\Oth b w w'
variable {X p}
theorem SoI.start {f:List UInt8 × Bool->α × (List UInt8 × Bool)} {W0 w wr:World} {b n:Nat} {F:List α × (List UInt8 × Bool)} {s:List UInt8 × Bool} (hF:Yv f n s=F) (hs:EyeS W0 b s wr) (ho:Oth b w wr) (hf:s.2=true∨n<=1500000):SoI X p f W0 w b F n [] s (.slice none 0 0) wr:=
 ⟨by rw [hF];rfl,by rw [hF],hs,ho,ROwn.nil _ _ _ _,fun y h=>(by cases h),by simpa using hf⟩
theorem SoI.done {f:List UInt8 × Bool->α × (List UInt8 × Bool)} {W0 w wr:World} {b m:Nat} {F:List α × (List UInt8 × Bool)} {ys:List β} {l:List UInt8} {d:Bool} {v:Value} (h:SoI X p f W0 w b F m ys (l,d) v wr) (hm:m=0∨d=true):SoG X p W0 b F w (.returned v) wr:=by
 have e:Yv f m (l,d)=([],(l,d)):=by
  rcases hm with rfl | rfl
  · rfl
  · exact jQu f m l
 have h1:=h.e1;have h2:=h.e2;rw [e] at h1 h2;rw [List.append_nil] at h1;exact ⟨v,ys,rfl,h.row,h.mem,h1.symm,by rw [h2];exact h.eye,h.oth⟩
theorem SoI.next {f:List UInt8 × Bool->α × (List UInt8 × Bool)} {W0 w wo w2 w3:World} {b m:Nat} {F:List α × (List UInt8 × Bool)} {ys:List β} {l:List UInt8} {v:Value} {y:β} {o:Obj} {g' cap n':Nat}
  (h:SoI X p f W0 w b F (m+1) ys (l,false) v wo) (hbw:b < w.heap.size) (hy:X.E (fun g=>wo.heap.size<=g) w2 y) (hp:p y=(f (l,false)).1) (hs:EyeS W0 b (f (l,false)).2 w2) (ho:Oth b wo w2)
  (hr:ROwn X.T X.k w3 w.heap.size (.slice (some ⟨g',0,none⟩) n' cap) (ys.map X.cells++[X.cells y])) (hb:Below w.heap.size (w2.alloc o) w3) (hst:∀ k,k < w2.heap.size+1->Away v k->w3.heap[k]?=(w2.alloc o).heap[k]?) (hat:v.ownBlock=some g'∨g'=w2.heap.size+1) :
  SoI X p f W0 w b F m (ys++[y]) (f (l,false)).2 (.slice (some ⟨g',0,none⟩) n' cap) w3:=by
 have hz:=h.oth.size;have hz2:=ho.size;have hB:Below w.heap.size w2 w3:=((Below.refl w.heap.size w2).alloc (by omega) o).trans hb;have hal:∀ k,k < w2.heap.size->Away v k->w3.heap[k]?=w2.heap[k]?:=fun k hk ha=>(hst k (by omega) ha).trans (Lib.alloc_old w2 o k hk)
 have hv:∀ A n c,v=.slice (some A) n c->A.block < wo.heap.size:=fun A n c e=>(World.ownsRow.lt h.row A.block (by rw [e];rfl)).2
 have hmany:Yv f (m+1) (l,false)=((f (l,false)).1 :: (Yv f m (f (l,false)).2).1,(Yv f m (f (l,false)).2).2):=by
  rw [Yv,if_neg (by simp)]
 refine ⟨?_,?_,hs.under hB hbw,(h.oth.trans ho).under hB,by rw [List.map_append];exact hr,fun z hz=>?_,?_⟩
 · rw [h.e1,hmany,List.map_append,List.map_cons,List.map_nil,hp,List.append_assoc];rfl
 · rw [h.e2,hmany]
 ·
  have h2:X.E (fun g=>w.heap.size<=g/\Away v g) w2 z:=by
   rcases List.mem_append.1 hz with hz | hz
   · exact X.keep (h.mem z hz) (fun g hg hl=>⟨ho.same g hl (by omega),hg⟩) ho.size
   · rw [List.mem_singleton] at hz;subst hz;exact X.keep hy (fun g hg _=>⟨rfl,by omega,fun A n c e he=>by have:=hv A n c e;omega⟩) (Nat.le_refl _)
  refine X.keep h2 (fun g hg hl=>⟨hal g hl hg.2,hg.1,fun A n c e he=>?_⟩) hB.size;cases e;have he:g'=g:=he
  rcases hat with hat | hat
  ·
   cases v with
   | slice a0 n c=>
    cases a0 with
    | none=>simp [Value.ownBlock] at hat
    | some A=>
     simp [Value.ownBlock] at hat;exact hg.2 A n c rfl (by omega)
   | _=>simp [Value.ownBlock] at hat
  · omega
 · have hf:=h.few;simp only [Bool.false_eq_true,false_or] at hf;exact .inr (by rw [List.length_append,List.length_singleton];omega)
end
def qQ8:EK PB where
 T:=123
 k:=6
 cells:=PB.cells
 val:=PB.agg
 E:=fun S w y=>POwn w S y
 len:=fun y=>rfl
 one:=fun y u hu=>by
  simp [PB.cells] at hu
  rcases hu with rfl | rfl | rfl | rfl | rfl | rfl<;>rfl
 keep:=fun h hk hz=>h.keep hk hz
theorem vJv {W0 w:World} {b:Nat} {s:List UInt8 × Bool} (h:EyeS W0 b s w) (hM:MaxW W0) :
  Calls Tryz.prog 170 #[.pointer (some ⟨b,0,none⟩)] w (TkR qQ8 PB.pr W0 b (Zk s) w):=
 (vJB h hM).mono fun e w' ⟨y,h1,h2,h3,h4,h5⟩=>⟨y,h1,h2,h3,h4,h5⟩
theorem vJi {W0 w:World} {b:Nat} {s:List UInt8 × Bool} (h:EyeS W0 b s w) (hM:MaxW W0) :
  Calls Tryz.prog 169 #[.pointer (some ⟨b,0,none⟩),.func (.func 170) #[.pointer (some ⟨b,0,none⟩)] #[]] w (SoG qQ8 PB.pr W0 b (Q0 Zk s) w):=by
 have hbw:=h.v.lt;have CI:=Zh (qQ7 h);have hn64:=jQO s;have CE:=Zh (fun (w1:World) (s1:List UInt8 × Bool) (h1:EyeS W0 b s1 w1)=>vJv h1 hM);obtain ⟨F,hF⟩:∃ F,Q0 Zk s=F:=⟨_,rfl⟩;rw [hF];unfold Q0 at hF;generalize (idR s).1=n at CI hn64 hF;generalize (idR s).2=s1 at CI hF;have HF:=Zh hF;clear h hF;obtain ⟨l1,d1⟩:=s1;simp only at HF;go_enter Tryz.func169,Tryz.ntmps169;go_wp2_with fail;refine CI.out.mono ?_;rintro e w1 ⟨rfl,h1,h2⟩;have H1:=Zh h1;have O1:=Zh h2;have hlen:=h1.n;simp only at hlen;clear h1 h2 CI;obtain ⟨hz,x0,x1,z0,z1⟩:=ebox H1.out;simp only at x0 x1
 by_cases hgt:l1.length < n
 case' pos=>
  have b1:decide ((l1.length:Int) < (n:Int))=true:=by simpa using hgt
  have HF2:Hid (Yv Zk n (l1,true)=F):=Zh (by rw [<- HF.out,if_pos hgt]);go_wp2_with fail;refine Qg (fun v=>Hid (EyeS W0 b (l1,true) v)/\Hid (Oth b w v)) ⟨H1.out.mark,O1.out.set _⟩ ?_;rintro Y ⟨HS,HO⟩;have HI:Hid (SoI qQ8 PB.pr Zk W0 w b F n [] (l1,true) (.slice none 0 0) Y):=Zh (SoI.start HF2.out HS.out HO.out (.inl rfl));clear b1 HF2 HS HO
 case' neg=>
  have b1:decide ((l1.length:Int) < (n:Int))=false:=by simpa using hgt
  have b2:¬ (l1.length:Int) < (n:Int):=by omega
  have HF2:Hid (Yv Zk n (l1,d1)=F):=Zh (by rw [<- HF.out,if_neg hgt]);go_wp2_with fail;have HI:Hid (SoI qQ8 PB.pr Zk W0 w b F n [] (l1,d1) (.slice none 0 0) w1):=Zh (SoI.start HF2.out H1.out O1.out (.inr (by omega)));clear b1 b2 HF2
 all_goals
  clear H1 O1 hz x0 x1 z0 z1 HF hgt;go_loopw [5,6] (fun n v wr=>SoLG qQ8 PB.pr Zk W0 w b F n v wr) (fun n _ _=>(intOf n).toNat)
  case atStart=>exact ⟨n,[],_,rfl,hn64,HI⟩
  case round=>
   clear HI;obtain ⟨m,ys,s,rfl,hm64,HI⟩:=hrel;obtain ⟨wo,rfl⟩:∃ wo,wo=wr:=⟨_,rfl⟩;obtain ⟨hz,x0,x1,z0,z1⟩:=ebox HI.out.eye;obtain ⟨l,d⟩:=s;simp only at x0 x1;cases m with
   | zero=>
    have HX:=Zh (HI.out.done (.inl rfl));have b4:((0:Nat):Int)=0:=rfl;clear HI;go_wp2_with fail;go_ret;exact HX.out
   | succ m=>
    have b5:decide ((0:Int) < ((m+1:Nat):Int))=true:=by simp
    cases d with
    | true=>
     have HX:=Zh (HI.out.done (.inr rfl));clear HI;go_wp2_with fail;go_ret;exact HX.out
    | false=>
     have hfw:ys.length+(m+1)<=1500000:=by simpa using HI.out.few
     have CT:=Zh (CE.out _ _ HI.out.eye);go_wp2_with fail;refine CT.out.mono ?_;rintro e w2 ⟨y,rfl,hy,hp,hs,ho⟩;have HY:=Zh hy;have HP:=Zh hp;have HS:=Zh hs;have HO:=Zh ho;have HR:=Zh (HI.out.row.oth ho hbw);have hz1:=HI.out.oth.size;have hz2:=ho.size;clear hy hp hs ho CT x0 x1 z0 z1;have HG:=Zh (Var.new w2 (qQ8).T ((qQ8).cells y));have HLN:=Zh (show (ys.map (qQ8).cells).length=ys.length by rw [List.length_map]);have HC1:=Zh ((qQ8).one y);dsimp only [qQ8,PB.agg] at HR HG HLN HC1 ⊢;go_wp2_with (at_builtin;refine Q8 predT rfl _ _ rfl w.heap.size u6 (ys.map (qQ8).cells) ys.length HLN.out rfl (HR.out.alloc _) ((qQ8).cells y) rfl HC1.out w2.heap.size rfl (fun j _=>HG.out.cell j) ?a3 ?a4 ?_)
     case a3=>omega
     case a4=>first | omega | (simp;omega)
     intro g' cap w3 hr hb hst hat _;have HI3:=Zh (HI.out.next hbw HY.out HP.out HS.out HO.out hr hb hst hat);clear hr hb hst hat HI HY HP HS HO HR HG HLN HC1;go_wp2_with fail;go_roundw
     case rel=>exact ⟨m,ys++[y],_,by go_num,by omega,HI3⟩
     case measure=>simp [intOf]<;>omega
def strK:EK ByteArray where
 T:=9
 k:=1
 cells:=fun s=>[.string s]
 val:=fun s=>.string s
 E:=fun _ _ _=>True
 len:=fun y=>rfl
 one:=fun y u hu=>by
  simp at hu;subst hu;rfl
 keep:=fun _ _ _=>trivial
def intK:EK Int where
 T:=3
 k:=1
 cells:=fun n=>[.int .i64 n]
 val:=fun n=>.int .i64 n
 E:=fun _ _ _=>True
 len:=fun y=>rfl
 one:=fun y u hu=>by
  simp at hu;subst hu;rfl
 keep:=fun _ _ _=>trivial
def idK:EK Nat where
 T:=46
 k:=1
 cells:=fun n=>[.int .u64 n]
 val:=fun n=>.int .u64 n
 E:=fun _ _ _=>True
 len:=fun y=>rfl
 one:=fun y u hu=>by
  simp at hu;subst hu;rfl
 keep:=fun _ _ _=>trivial
def Yp:EK Bool where
 T:=4
 k:=1
 cells:=fun n=>[.bool n]
 val:=fun n=>.bool n
 E:=fun _ _ _=>True
 len:=fun y=>rfl
 one:=fun y u hu=>by
  simp at hu;subst hu;rfl
 keep:=fun _ _ _=>trivial
theorem jQ2 {W0 w:World} {b:Nat} {s:List UInt8 × Bool} (h:EyeS W0 b s w) :
  Calls Tryz.prog 113 #[.pointer (some ⟨b,0,none⟩)] w (TkR strK (fun x=>x) W0 b (strR s) w):=
 (qJf h).mono fun e w' ⟨h1,h2,h3⟩=>⟨_,h1,trivial,rfl,h2,h3⟩
theorem xQj {W0 w:World} {b:Nat} {s:List UInt8 × Bool} (h:EyeS W0 b s w)  :
  Calls Tryz.prog 155 #[.pointer (some ⟨b,0,none⟩),.func (.func 113) #[.pointer (some ⟨b,0,none⟩)] #[]] w (SoG strK (fun x=>x) W0 b (Q0 strR s) w):=by
 have hbw:=h.v.lt;have CI:=Zh (qQ7 h);have hn64:=jQO s;have CE:=Zh (fun (w1:World) (s1:List UInt8 × Bool) (h1:EyeS W0 b s1 w1)=>jQ2 h1);obtain ⟨F,hF⟩:∃ F,Q0 strR s=F:=⟨_,rfl⟩;rw [hF];unfold Q0 at hF;generalize (idR s).1=n at CI hn64 hF;generalize (idR s).2=s1 at CI hF;have HF:=Zh hF;clear h hF;obtain ⟨l1,d1⟩:=s1;simp only at HF;go_enter Tryz.func155,Tryz.ntmps155;go_wp2_with fail;refine CI.out.mono ?_;rintro e w1 ⟨rfl,h1,h2⟩;have H1:=Zh h1;have O1:=Zh h2;have hlen:=h1.n;simp only at hlen;clear h1 h2 CI;obtain ⟨hz,x0,x1,z0,z1⟩:=ebox H1.out;simp only at x0 x1
 by_cases hgt:l1.length < n
 case' pos=>
  have b1:decide ((l1.length:Int) < (n:Int))=true:=by simpa using hgt
  have HF2:Hid (Yv strR n (l1,true)=F):=Zh (by rw [<- HF.out,if_pos hgt]);go_wp2_with fail;refine Qg (fun v=>Hid (EyeS W0 b (l1,true) v)/\Hid (Oth b w v)) ⟨H1.out.mark,O1.out.set _⟩ ?_;rintro Y ⟨HS,HO⟩;have HI:Hid (SoI strK (fun x=>x) strR W0 w b F n [] (l1,true) (.slice none 0 0) Y):=Zh (SoI.start HF2.out HS.out HO.out (.inl rfl));clear b1 HF2 HS HO
 case' neg=>
  have b1:decide ((l1.length:Int) < (n:Int))=false:=by simpa using hgt
  have b2:¬ (l1.length:Int) < (n:Int):=by omega
  have HF2:Hid (Yv strR n (l1,d1)=F):=Zh (by rw [<- HF.out,if_neg hgt]);go_wp2_with fail;have HI:Hid (SoI strK (fun x=>x) strR W0 w b F n [] (l1,d1) (.slice none 0 0) w1):=Zh (SoI.start HF2.out H1.out O1.out (.inr (by omega)));clear b1 b2 HF2
 all_goals
  clear H1 O1 hz x0 x1 z0 z1 HF hgt;go_loopw [5,6] (fun n v wr=>SoLG strK (fun x=>x) strR W0 w b F n v wr) (fun n _ _=>(intOf n).toNat)
  case atStart=>exact ⟨n,[],_,rfl,hn64,HI⟩
  case round=>
   clear HI;obtain ⟨m,ys,s,rfl,hm64,HI⟩:=hrel;obtain ⟨wo,rfl⟩:∃ wo,wo=wr:=⟨_,rfl⟩;obtain ⟨hz,x0,x1,z0,z1⟩:=ebox HI.out.eye;obtain ⟨l,d⟩:=s;simp only at x0 x1;cases m with
   | zero=>
    have HX:=Zh (HI.out.done (.inl rfl));have b4:((0:Nat):Int)=0:=rfl;clear HI;go_wp2_with fail;go_ret;exact HX.out
   | succ m=>
    have b5:decide ((0:Int) < ((m+1:Nat):Int))=true:=by simp
    cases d with
    | true=>
     have HX:=Zh (HI.out.done (.inr rfl));clear HI;go_wp2_with fail;go_ret;exact HX.out
    | false=>
     have hfw:ys.length+(m+1)<=1500000:=by simpa using HI.out.few
     have CT:=Zh (CE.out _ _ HI.out.eye);go_wp2_with fail;refine CT.out.mono ?_;rintro e w2 ⟨y,rfl,hy,hp,hs,ho⟩;have HY:=Zh hy;have HP:=Zh hp;have HS:=Zh hs;have HO:=Zh ho;have HR:=Zh (HI.out.row.oth ho hbw);have hz1:=HI.out.oth.size;have hz2:=ho.size;clear hy hp hs ho CT x0 x1 z0 z1;have HG:=Zh (Var.new w2 (strK).T ((strK).cells y));have HLN:=Zh (show (ys.map (strK).cells).length=ys.length by rw [List.length_map]);have HC1:=Zh ((strK).one y);dsimp only [strK] at HR HG HLN HC1 ⊢;go_wp2_with (at_builtin;refine Q8 strT rfl _ _ rfl w.heap.size u6 (ys.map (strK).cells) ys.length HLN.out rfl (HR.out.alloc _) ((strK).cells y) rfl HC1.out w2.heap.size rfl (fun j _=>HG.out.cell j) ?a3 ?a4 ?_)
     case a3=>omega
     case a4=>first | omega | (simp;omega)
     intro g' cap w3 hr hb hst hat _;have HI3:=Zh (HI.out.next hbw HY.out HP.out HS.out HO.out hr hb hst hat);clear hr hb hst hat HI HY HP HS HO HR HG HLN HC1;go_wp2_with fail;go_roundw
     case rel=>exact ⟨m,ys++[y],_,by go_num,by omega,HI3⟩
     case measure=>simp [intOf]<;>omega
end Go.Proofs.YtcbicdencgjfiaaGreatDoor
namespace Go.Proofs.YtcbicdencgjfiaaGreatDoor
open Go.RowKit Tryst
section
variable {α β:Type} (X:EK β)
structure LM (S:Nat->Prop) (w:World) (a:Option Addr) (c:Nat) (ys:List β):Prop where
 row:Row w a X.k (ys.map X.cells)
 sl:Sl a c ys.length
 at':∀ b o,a=some ⟨b,o,none⟩->S b/\b < w.heap.size
 mem:∀ y∈ys,X.E S w y
variable {X}
theorem LM.keep {S S':Nat->Prop} {w w':World} {a:Option Addr} {c:Nat} {ys:List β} (h:LM X S w a c ys) (hk:∀ g,S g->g < w.heap.size->w'.heap[g]?=w.heap[g]?/\S' g) (hz:w.heap.size<=w'.heap.size):LM X S' w' a c ys:=
 ⟨h.row.block (fun b o e=>(hk b (h.at' b o e).1 (h.at' b o e).2).1) hz,h.sl,fun b o e=>⟨(hk b (h.at' b o e).1 (h.at' b o e).2).2,Nat.lt_of_lt_of_le (h.at' b o e).2 hz⟩,fun y hy=>X.keep (h.mem y hy) hk hz⟩
theorem LM.of {S:Nat->Prop} {w:World} {base:Nat} {v:Value} {ys:List β} (hk:0 < X.k) (hr:ROwn X.T X.k w base v (ys.map X.cells)) (hm:∀ y∈ys,X.E (fun g=>base<=g/\Away v g) w y) (hS:∀ g,base<=g->S g):∃ a c,v=.slice a ys.length c/\LM X S w a c ys:=by
 obtain ⟨a,c,h1,h2,h3,h4⟩:=ROwn.row hr (fun x hx=>by
  obtain ⟨y,_,rfl⟩:=List.mem_map.1 hx;exact X.len y) hk
 rw [List.length_map] at h1 h3;exact ⟨a,c,h1,h2,h3,fun b o e=>⟨hS b (h4 b o e).1,(h4 b o e).2.1⟩,fun y hy=>X.keep (hm y hy) (fun g hg _=>⟨rfl,hS g hg.1⟩) (Nat.le_refl _)⟩
theorem LM.nil (S:Nat->Prop) (w:World):LM X S w none 0 []:=⟨Row.nil _ _ _,⟨Nat.le_refl _,fun A h=>(by cases h),fun _=>rfl⟩,fun b o h=>(by cases h),fun y h=>by cases h⟩
end
theorem EyeS.away {W0 w:World} {b g o:Nat} {s:List UInt8 × Bool} (h:EyeS W0 b s w) (hg:g≠b) (hW:W0.heap.size<=g) (u:Value):EyeS W0 b s (w.setCell ⟨g,o,none⟩ u):=⟨h.v.away hg u,h.low.setCell (p:=⟨g,o,none⟩) hW u,h.ge,h.n⟩
structure ED (W0 w:World) (b:Nat) (T:TypeId) (z:List Value) (s:List UInt8 × Bool) (vs:List Value) (W:World):Prop where
 eye:EyeS W0 b s W
 oth:Oth b w W
 hb:b < w.heap.size
 zz:Var W w.heap.size T z
 vv:Var W (w.heap.size+1) T vs
section
variable {W0 w W W':World} {b:Nat} {T:TypeId} {z vs:List Value} {s s':List UInt8 × Bool}
theorem ED.start (h:EyeS W0 b s w):ED W0 w b T z s z ((w.alloc (.cells z.toArray T)).alloc (.cells z.toArray T)):=by
 have h1:=Var.new w T z;have h2:=Var.new (w.alloc (.cells z.toArray T)) T z;rw [show (w.alloc (.cells z.toArray T)).heap.size=w.heap.size+1 by simp] at h2;have hb:Below w.heap.size w ((w.alloc (.cells z.toArray T)).alloc (.cells z.toArray T)):=Qj _ (Qj _ (.refl _ _));exact ⟨h.quiet hb,Oth.below hb,h.v.lt,h1.grow (Qj _ (.refl _ _)),h2⟩
theorem ED.step (h:ED W0 w b T z s vs W) (h1:EyeS W0 b s' W') (h2:Oth b W W') (i:Nat) (v:Value):ED W0 w b T z s' (vs.set i v) (W'.setCell ⟨w.heap.size+1,i,none⟩ v):=by
 have hb:=h.hb;have hge:=h.eye.ge;refine ⟨h1.away (by omega) (by omega) v,?_,h.hb,(h.zz.oth h2 (by omega)).away (by omega) v,(h.vv.oth h2 (by omega)).set i v⟩;have h3:=h.oth.trans h2;exact ⟨by simpa using h3.size,fun k hk hne=>(Below.heap_setCell _ _ _ _ (show k≠w.heap.size+1 by omega)).trans (h3.same k hk hne)⟩
theorem ED.fz (h:ED W0 w b T z s vs W) (h2:Oth b W W') (i:Nat):W'.frozen? ⟨w.heap.size+1,i,none⟩=false:=(h.vv.oth h2 (by have:=h.hb;omega)).fz i
theorem ED.cl (h:ED W0 w b T z s vs W) (h2:Oth b W W') (i:Nat) {v:Value} (hv:vs[i]?=some v):W'.cell? ⟨w.heap.size+1,i,none⟩=some v:=((h.vv.oth h2 (by have:=h.hb;omega)).cell i).trans hv
theorem LM.step {β:Type} {X:EK β} {a:Option Addr} {c:Nat} {ys:List β} (h:LM X (fun g=>w.heap.size+1 < g) W a c ys) (hb:b < w.heap.size) (h2:Oth b W W') (i:Nat) (v:Value):LM X (fun g=>w.heap.size+1 < g) (W'.setCell ⟨w.heap.size+1,i,none⟩ v) a c ys:=
 h.keep (fun g hg hl=>⟨(Below.heap_setCell _ _ _ _ (show g≠w.heap.size+1 by omega)).trans (h2.same g hl (by omega)),hg⟩) (by simpa using h2.size)
theorem LM.put {β:Type} {X:EK β} {a:Option Addr} {c:Nat} {ys:List β} (h:LM X (fun g=>w.heap.size+1 < g) W a c ys) (i:Nat) (v:Value):LM X (fun g=>w.heap.size+1 < g) (W.setCell ⟨w.heap.size+1,i,none⟩ v) a c ys:=
 h.keep (fun g hg hl=>⟨Below.heap_setCell _ _ _ _ (show g≠w.heap.size+1 by omega),hg⟩) (by simp)
def setL:List Value->Nat->List Value->List Value
 | cs,_,[]=>cs
 | cs,i,v :: r=>setL (cs.set i v) (i+1) r
theorem zQB {g:Nat}:∀ (us cs:List Value) (i:Nat) (w:World),Var w g T cs->Var (Yq w g i us) g T (setL cs i us)
 | [],_,_,_,h=>h
 | v :: r,cs,i,w,h=>zQB r (cs.set i v) (i+1) _ (h.set i v)
theorem ED.steps (h:ED W0 w b T z s vs W) (h1:EyeS W0 b s' W') (h2:Oth b W W') (i:Nat) (us:List Value):ED W0 w b T z s' (setL vs i us) (Yq W' (w.heap.size+1) i us):=by
 have hb:=h.hb;have hge:=h.eye.ge;refine ⟨h1.sets (by omega) (by omega) i us,(h.oth.trans h2).setsB (by omega) i us,h.hb,?_,zQB us vs i W' (h.vv.oth h2 (by omega))⟩;have h3:=h.zz.oth h2 (by omega);exact (Qb (by omega) us i W').trans h3
theorem LM.puts {β:Type} {X:EK β} {a:Option Addr} {c:Nat} {ys:List β} (h:LM X (fun g=>w.heap.size+1 < g) W a c ys) (i:Nat) (us:List Value):LM X (fun g=>w.heap.size+1 < g) (Yq W (w.heap.size+1) i us) a c ys:=
 h.keep (fun g hg hl=>⟨Qb (show g≠w.heap.size+1 by omega) us i W,hg⟩) (by rw [Q6];exact Nat.le_refl _)
theorem ED.fin (h:ED W0 w b T z s vs W) (us:List Value):EyeS W0 b s (Yq W w.heap.size 0 us)/\Oth b w (Yq W w.heap.size 0 us):=
 ⟨h.eye.sets (by have:=h.hb;omega) (by have:=h.hb;have:=h.eye.ge;omega) 0 us,h.oth.setsB (Nat.le_refl _) 0 us⟩
theorem LM.fin {β:Type} {X:EK β} {a:Option Addr} {c:Nat} {ys:List β} (h:LM X (fun g=>w.heap.size+1 < g) W a c ys) (us:List Value):LM X (fun g=>w.heap.size<=g) (Yq W w.heap.size 0 us) a c ys:=
 h.keep (fun g hg hl=>⟨Qb (by omega) us 0 W,by omega⟩) (by rw [Q6];exact Nat.le_refl _)
end
end Go.Proofs.YtcbicdencgjfiaaGreatDoor
namespace Go.Proofs.YtcbicdencgjfiaaGreatDoor
open Go.RowKit Tryst
theorem Jy {W0 w:World} {b:Nat} {s:List UInt8 × Bool} (h:EyeS W0 b s w) :
  Calls Tryz.prog 92 #[.pointer (some ⟨b,0,none⟩)] w (TkR intK (fun x=>x) W0 b (numR s) w):=
 (kJu h).mono fun e w' ⟨h1,h2,h3⟩=>⟨_,h1,trivial,rfl,h2,h3⟩
structure DM (S:Nat->Prop) (w:World) (d:DB):Prop where
 g:LM strK S w d.ga d.gc d.gl
 w:LM qQ8 S w d.wa d.wc d.wl
def defK:EK DB where
 T:=45
 k:=8
 cells:=DB.cells
 val:=DB.agg
 E:=DM
 len:=fun y=>rfl
 one:=fun y u hu=>by
  simp [DB.cells] at hu
  rcases hu with rfl | rfl | rfl | rfl | rfl | rfl | rfl | rfl<;>rfl
 keep:=fun h hk hz=>⟨h.g.keep hk hz,h.w.keep hk hz⟩
theorem vJk {W0 w:World} {b:Nat} {s:List UInt8 × Bool} (h:EyeS W0 b s w) (hM:MaxW W0) :
  Calls Tryz.prog 116 #[.pointer (some ⟨b,0,none⟩)] w (TkR defK DB.dp W0 b (defR s) w):=by
 have D0:=Zh (ED.start (T:=45) (z:=[.string ⟨#[]⟩,.slice none 0 0,.slice none 0 0,.string ⟨#[]⟩,.string ⟨#[]⟩,.int .i64 0,.int .i64 0,.int .i64 0]) h);have HM:=Zh hM;have hbw:=h.v.lt;clear h hM;go_enter Tryz.func116,Tryz.ntmps116;go_wp2_with fail;refine (jQ2 D0.out.eye).mono ?_;rintro e w1 ⟨y1,rfl,m1,p1,h1,o1⟩;dsimp only [strK,intK,idK,Yp];have P1:=Zh p1;have hf1:=D0.out.fz o1 0;have hk1:=D0.out.cl o1 0 rfl;have D1:=Zh (D0.out.step h1 o1 0 (.string y1));clear p1 h1 o1 D0;go_wp2_with fail;refine (xQj D1.out.eye).mono ?_;rintro e w2 ⟨v2,y2,rfl,hr2,m2,p2,h2,o2⟩;have P2:=Zh p2;have hf2:=D1.out.fz o2 1;have hk2:=D1.out.cl o2 1 rfl;have D2:=Zh (D1.out.step h2 o2 1 v2);obtain ⟨a2,c2,hv2,hl2⟩:=LM.of (X:=strK) (S:=fun g=>w.heap.size+1 < g) (by decide) hr2 m2 (fun g hg=>Nat.lt_of_lt_of_le D1.out.vv.lt hg);subst hv2;have L2:=Zh (hl2.put 1 (.slice a2 y2.length c2));clear p2 h2 o2 hr2 m2 hl2 D1;go_wp2_with fail;refine (vJi D2.out.eye HM.out).mono ?_;rintro e w3 ⟨v3,y3,rfl,hr3,m3,p3,h3,o3⟩;have P3:=Zh p3;have hf3:=D2.out.fz o3 2;have hk3:=D2.out.cl o3 2 rfl;have D3:=Zh (D2.out.step h3 o3 2 v3);obtain ⟨a3,c3,hv3,hl3⟩:=LM.of (X:=qQ8) (S:=fun g=>w.heap.size+1 < g) (by decide) hr3 m3 (fun g hg=>Nat.lt_of_lt_of_le D2.out.vv.lt hg);subst hv3;have L3:=Zh (hl3.put 2 (.slice a3 y3.length c3));have K3:=Zh (L2.out.step hbw o3 2 (.slice a3 y3.length c3));clear p3 h3 o3 hr3 m3 hl3 D2;go_wp2_with fail;refine (jQ2 D3.out.eye).mono ?_;rintro e w4 ⟨y4,rfl,m4,p4,h4,o4⟩;dsimp only [strK,intK,idK,Yp];have P4:=Zh p4;have hf4:=D3.out.fz o4 3;have hk4:=D3.out.cl o4 3 rfl;have D4:=Zh (D3.out.step h4 o4 3 (.string y4));have K4:=Zh (K3.out.step hbw o4 3 (.string y4));have J4:=Zh (L3.out.step hbw o4 3 (.string y4));clear p4 h4 o4 D3;go_wp2_with fail;refine (jQ2 D4.out.eye).mono ?_;rintro e w5 ⟨y5,rfl,m5,p5,h5,o5⟩;dsimp only [strK,intK,idK,Yp];have P5:=Zh p5;have hf5:=D4.out.fz o5 4;have hk5:=D4.out.cl o5 4 rfl;have D5:=Zh (D4.out.step h5 o5 4 (.string y5));have K5:=Zh (K4.out.step hbw o5 4 (.string y5));have J5:=Zh (J4.out.step hbw o5 4 (.string y5));clear p5 h5 o5 D4;go_wp2_with fail;refine (Jy D5.out.eye).mono ?_;rintro e w6 ⟨y6,rfl,m6,p6,h6,o6⟩;dsimp only [strK,intK,idK,Yp];have P6:=Zh p6;have hf6:=D5.out.fz o6 5;have hk6:=D5.out.cl o6 5 rfl;have D6:=Zh (D5.out.step h6 o6 5 (.int .i64 y6));have K6:=Zh (K5.out.step hbw o6 5 (.int .i64 y6));have J6:=Zh (J5.out.step hbw o6 5 (.int .i64 y6));clear p6 h6 o6 D5;go_wp2_with fail;refine (Jy D6.out.eye).mono ?_;rintro e w7 ⟨y7,rfl,m7,p7,h7,o7⟩;dsimp only [strK,intK,idK,Yp];have P7:=Zh p7;have hf7:=D6.out.fz o7 6;have hk7:=D6.out.cl o7 6 rfl;have D7:=Zh (D6.out.step h7 o7 6 (.int .i64 y7));have K7:=Zh (K6.out.step hbw o7 6 (.int .i64 y7));have J7:=Zh (J6.out.step hbw o7 6 (.int .i64 y7));clear p7 h7 o7 D6;go_wp2_with fail;refine (Jy D7.out.eye).mono ?_;rintro e w8 ⟨y8,rfl,m8,p8,h8,o8⟩;dsimp only [strK,intK,idK,Yp];have P8:=Zh p8;have hf8:=D7.out.fz o8 7;have hgz:=D7.out.hb;have D8:=Zh (D7.out.step h8 o8 7 (.int .i64 y8));have VV:Hid (Var w8 (w.heap.size+1) 45 [.string y1,.slice a2 y2.length c2,.slice a3 y3.length c3,.string y4,.string y5,.int .i64 y6,.int .i64 y7,.int .i64 0]):=Zh (D7.out.vv.oth o8 (by omega));have ZZ:=Zh (D7.out.zz.oth o8 (by omega));have K8:=Zh (K7.out.step hbw o8 7 (.int .i64 y8));have J8:=Zh (J7.out.step hbw o8 7 (.int .i64 y8));clear p8 h8 o8 D7;obtain ⟨x0,x1,x2,x3,x4,x5,x6,x7⟩:=v8 (VV.out);have zf:=ZZ.out.fz;have zl:=ZZ.out.lt;obtain ⟨u0,u1,u2,u3,u4,u5,u6,u7⟩:=v8 (ZZ.out);go_wp2_with fail;refine bodyPost_ret (v:=(DB.mk y1 a2 y2 c2 a3 y3 c3 y4 ⟨y5,y6,y7,y8⟩).agg) (by simp [results,Tryz.results116,go_sem,DB.agg, *]) rfl ?_;obtain ⟨q1,q2⟩:=D8.out.fin [.string y1,.slice a2 y2.length c2,.slice a3 y3.length c3,.string y4,.string y5,.int .i64 y6,.int .i64 y7,.int .i64 y8]
 refine ⟨DB.mk y1 a2 y2 c2 a3 y3 c3 y4 ⟨y5,y6,y7,y8⟩,rfl,⟨K8.out.fin [.string y1,.slice a2 y2.length c2,.slice a3 y3.length c3,.string y4,.string y5,.int .i64 y6,.int .i64 y7,.int .i64 y8],J8.out.fin [.string y1,.slice a2 y2.length c2,.slice a3 y3.length c3,.string y4,.string y5,.int .i64 y6,.int .i64 y7,.int .i64 y8]⟩,?_,q1,q2⟩;have e2:=P2.out;rw [List.map_id'] at e2;unfold DB.dp;simp only [P1.out,e2,P3.out,P4.out,P5.out,P6.out,P7.out,P8.out];rfl
end Go.Proofs.YtcbicdencgjfiaaGreatDoor
namespace Go.Proofs.YtcbicdencgjfiaaGreatDoor
open Go.RowKit Tryst
theorem vQd {W0 w:World} {b:Nat} {s:List UInt8 × Bool} (h:EyeS W0 b s w) :
  Calls Tryz.prog 115 #[.pointer (some ⟨b,0,none⟩)] w (TkR idK (fun x=>x) W0 b (idR s) w):=
 (qQ7 h).mono fun e w' ⟨h1,h2,h3⟩=>⟨_,h1,trivial,rfl,h2,h3⟩
end Go.Proofs.YtcbicdencgjfiaaGreatDoor
namespace Go.Proofs.YtcbicdencgjfiaaGreatDoor
open Go.RowKit Tryst
theorem DM.parts {S:Nat->Prop} {w:World} {d:DB} (h:DM S w d) (hf:d.dp.Fits) (hl:(defL d.dp).length<=1500000):DO w d/\JIn d.j:=by
 unfold DP.Fits DB.dp at hf;unfold DB.dp defL Qf at hl;simp only [List.length_append,List.length_map] at hf hl;obtain ⟨_,_,⟨_,hw⟩,_,_,k1,k2,k3⟩:=hf;have g1:=kQ3 (f:=strL) (fun x=>by have:=Ky x;omega) d.gl;have g2:=kQ3 (f:=Kz) (fun x=>Zw _) (d.wl.map PB.pr);rw [List.length_map] at g2;have n1:=Ky d.name;have n2:=Ky d.key;have n3:=Ky d.j.kind;have i1:=Y6 k1;have i2:=Y6 k2;have i3:=Y6 k3;refine ⟨⟨by omega,by omega,fun g hg=>?_,zQ9.2 h.g.row,h.g.sl,by omega,⟨h.w.row,h.w.sl,fun p hp=>?_⟩,by omega⟩,⟨by omega,i1.1,i1.2,i2.1,i2.2,i3.1,i3.2⟩⟩
 · have:=vQ4 (f:=strL) hg;have:=Ky g;omega
 · refine ⟨(h.w.mem p hp).keep (fun g _ _=>⟨rfl,trivial⟩) (Nat.le_refl _),?_⟩;obtain ⟨_,h2⟩:=hw p.pr (List.mem_map.2 ⟨p,hp,rfl⟩);have h3:=(vQx h2).2;rw [qQi,Bool.and_eq_true,decide_eq_true_eq] at h3;rw [vQo];omega
theorem qQa {W0 w:World} {b:Nat} {s:List UInt8 × Bool} (h:EyeS W0 b s w) :
  Calls Tryz.prog 42 #[.pointer (some ⟨b,0,none⟩)] w fun e w'=>e=.returned (.bool (!s.2&&s.1.isEmpty))/\w=w':=by
 obtain ⟨l,d⟩:=s;obtain ⟨hz,x0,x1,z0,z1⟩:=ebox h;simp only at x0 x1;clear h;cases d with
 | true=>
  go_enter Tryz.func42,Tryz.ntmps42;go_wp2_with fail;go_ret;exact ⟨rfl,rfl⟩
 | false=>
  cases l with
  | nil=>
   go_enter Tryz.func42,Tryz.ntmps42;go_wp2_with fail;go_ret;exact ⟨rfl,rfl⟩
  | cons c r=>
   have b1:(⟨(c :: r).toArray⟩:ByteArray).toList.isEmpty=false:=by rw [Qp];rfl
   go_enter Tryz.func42,Tryz.ntmps42;go_wp2_with fail;go_ret;exact ⟨rfl,rfl⟩
