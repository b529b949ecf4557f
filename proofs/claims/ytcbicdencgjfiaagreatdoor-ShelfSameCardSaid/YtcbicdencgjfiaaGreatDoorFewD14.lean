import Derived.Test.YtcbicdencgjfiaaGreatDoorHold5
import Derived.Test.YtcbicdencgjfiaaGreatDoorOffU
import Derived.Test.YtcbicdencgjfiaaGreatDoorPSm5
set_option linter.all false
set_option maxHeartbeats 4000000
set_option maxRecDepth 20000
namespace Tryst
open Go Go.RowKit
structure JB where
 kind:ByteArray
 parts:Int
 need:Int
 window:Int
def mayJ (j:JB):Bool:=decide (1<=j.parts)&&(decide (j.parts<=6)&&(decide (0<=j.window)&&(decide (j.window<=1073741824)&&(if j.kind=⟨#[97,108,108]⟩∨j.kind=⟨#[97,110,121]⟩ then decide (j.need=0) else if j.kind=⟨#[99,111,117,110,116]⟩ then decide (1<=j.need)&&decide (j.need<=30) else false))))
structure DB where
 name:ByteArray
 ga:Option Addr
 gl:List ByteArray
 gc:Nat
 wa:Option Addr
 wl:List PB
 wc:Nat
 key:ByteArray
 j:JB
def DB.cells (d:DB):List Value:=[.string d.name,.slice d.ga d.gl.length d.gc,.slice d.wa d.wl.length d.wc,.string d.key,.string d.j.kind,.int .i64 d.j.parts,.int .i64 d.j.need,.int .i64 d.j.window]
def DB.agg (d:DB):Value:=.agg #[.string d.name,.slice d.ga d.gl.length d.gc,.slice d.wa d.wl.length d.wc,.string d.key,.string d.j.kind,.int .i64 d.j.parts,.int .i64 d.j.need,.int .i64 d.j.window]
def mayD (d:DB):Bool:=Q5 d.name.data.toList&&(decide (1<=d.gl.length)&&(decide (d.gl.length<=5)&&(mayJ d.j&&(decide ((d.wl.length:Int)=d.j.parts)&&((decide (d.key=⟨#[]⟩)||Q5 d.key.data.toList)&&(d.gl.all (fun g=>Yz g.data.toList)&&d.wl.all (fun p=>mayP p.pr)))))))
def vQt (a b:JB):Bool:=decide (a.kind=b.kind)&&(decide (a.parts=b.parts)&&(decide (a.need=b.need)&&decide (a.window=b.window)))
def vJc (a b:DB):Bool:=decide (a.name=b.name)&&(decide (a.key=b.key)&&(vQt a.j b.j&&(decide (a.gl=b.gl)&&jQ7 a.wl b.wl)))
end Tryst
namespace Go.Proofs.YtcbicdencgjfiaaGreatDoor
open Go.RowKit Tryst
structure PRow (w:World) (a:Option Addr) (c:Nat) (l:List PB):Prop where
 row:Row w a 6 (l.map PB.cells)
 sl:Sl a c l.length
 po:∀ p∈l,PO w p/\J9 p<=50
theorem PRow.grow {v w:World} {a:Option Addr} {c:Nat} {l:List PB} (h:PRow v a c l) (hb:Below v.heap.size v w):PRow w a c l:=⟨h.row.grow hb,h.sl,fun p hp=>⟨(h.po p hp).1.grow hb,(h.po p hp).2⟩⟩
theorem PRow.head {w:World} {a:Option Addr} {c:Nat} {l:List PB} (h:PRow w a c l) {i:Nat} (hi:i < l.length):∃ b o,a=some ⟨b,o,none⟩/\b < w.heap.size:=h.row.head (by simpa using hi)
structure PAt (w:World) (b o:Nat) (x:PB):Prop where
 c0:w.cell? ⟨b,o,none⟩=some (.string x.op)
 c1:w.cell? ⟨b,o+1,none⟩=some (.string x.s)
 c2:w.cell? ⟨b,o+2,none⟩=some (.bool x.num)
 c3:w.cell? ⟨b,o+3,none⟩=some (.int .i64 x.n)
 c4:w.cell? ⟨b,o+4,none⟩=some (.string x.vs)
 c5:w.cell? ⟨b,o+5,none⟩=some (.slice x.a x.l.length x.c)
theorem Row.pat {w:World} {b o:Nat} {l:List PB} (h:Row w (some ⟨b,o,none⟩) 6 (l.map PB.cells)) {i:Nat} (hi:i < l.length):b < w.heap.size/\PAt w b (o+i*6) l[i]:=by
 obtain ⟨h1,h2⟩:=h.at (i:=i) (by simpa using hi);simp only [List.getElem_map] at h2;cases hx:l[i] with
 | mk op s num n vs a c ps=>
  rw [hx] at h2;exact ⟨h1,h2 0 (by omega),h2 1 (by omega),h2 2 (by omega),h2 3 (by omega),h2 4 (by omega),h2 5 (by omega)⟩
structure DO (w:World) (d:DB):Prop where
 hn:d.name.size<=1500000
 hg:d.gl.length<=1500000
 hgs:∀ g∈d.gl,g.size<=1500000
 gS:Strs w d.ga d.gl
 gL:Sl d.ga d.gc d.gl.length
 hw:d.wl.length<=1500000
 wR:PRow w d.wa d.wc d.wl
 hk:d.key.size<=1500000
theorem DO.grow {v w:World} {d:DB} (h:DO v d) (hb:Below v.heap.size v w):DO w d:=⟨h.hn,h.hg,h.hgs,h.gS.grow hb,h.gL,h.hw,h.wR.grow hb,h.hk⟩
theorem jJj (j:JB) (w:World):Calls Tryz.prog 122 #[.agg #[.string j.kind,.int .i64 j.parts,.int .i64 j.need,.int .i64 j.window]] w fun e w'=>e=.returned (.bool (mayJ j))/\Below w.heap.size w w':=by
 obtain ⟨kd,p,n,x⟩:=j;obtain ⟨R,hR⟩:∃ R,mayJ ⟨kd,p,n,x⟩=R:=⟨_,rfl⟩;rw [hR];unfold mayJ at hR;simp only at hR;have HR:=Zh hR;have HB:=Zh (Qj (.cells #[.string kd,.int .i64 p,.int .i64 n,.int .i64 x] 43) (.refl w.heap.size w));clear hR
 by_cases h1:p < 1
 · have HN:=Zh (show R=false by rw [<- HR.out];simp;omega);go_enter Tryz.func122,Tryz.ntmps122;go_wp2_with fail;go_ret;exact ⟨Qq HN.out.symm,HB.out⟩
 ·
  by_cases h2:6 < p
  · have HN:=Zh (show R=false by rw [<- HR.out];simp;omega);go_enter Tryz.func122,Tryz.ntmps122;go_wp2_with fail;go_ret;exact ⟨Qq HN.out.symm,HB.out⟩
  ·
   by_cases h3:x < 0
   · have HN:=Zh (show R=false by rw [<- HR.out];simp;omega);go_enter Tryz.func122,Tryz.ntmps122;go_wp2_with fail;go_ret;exact ⟨Qq HN.out.symm,HB.out⟩
   ·
    by_cases h4:1073741824 < x
    · have HN:=Zh (show R=false by rw [<- HR.out];simp;omega);go_enter Tryz.func122,Tryz.ntmps122;go_wp2_with fail;go_ret;exact ⟨Qq HN.out.symm,HB.out⟩
    ·
     have HP:Hid (R=if kd=⟨#[97,108,108]⟩∨kd=⟨#[97,110,121]⟩ then decide (n=0) else if kd=⟨#[99,111,117,110,116]⟩ then decide (1<=n)&&decide (n<=30) else false):=Zh (by
      rw [<- HR.out,decide_eq_true (show 1<=p by omega),decide_eq_true (show p<=6 by omega),decide_eq_true (show 0<=x by omega),decide_eq_true (show x<=1073741824 by omega)];simp only [Bool.true_and])
     clear HR;have key:∀ k:ByteArray,¬ kd=k->(kd.toList==k.data.toList)=false:=fun k hk=>by rw [beq_eq_false_iff_ne];exact fun e=>hk (Xk (by rw [<- Qp,e]))
     by_cases ka:kd=⟨#[97,108,108]⟩
     ·
      subst ka
      by_cases hn:n=0
      · subst hn;have HN:=Zh (show R=true by rw [HP.out];simp);go_enter Tryz.func122,Tryz.ntmps122;go_wp2_with fail;go_ret;exact ⟨Qq HN.out.symm,HB.out⟩
      ·
       have HN:=Zh (show R=false by rw [HP.out];simp [hn]);have hn2:(n==0)=false:=by simpa using hn
       go_enter Tryz.func122,Tryz.ntmps122;go_wp2_with fail;go_ret;exact ⟨Qq HN.out.symm,HB.out⟩
     ·
      by_cases kb:kd=⟨#[97,110,121]⟩
      ·
       subst kb
       by_cases hn:n=0
       · subst hn;have HN:=Zh (show R=true by rw [HP.out];simp);go_enter Tryz.func122,Tryz.ntmps122;go_wp2_with fail;go_ret;exact ⟨Qq HN.out.symm,HB.out⟩
       ·
        have HN:=Zh (show R=false by rw [HP.out];simp [hn]);have hn2:(n==0)=false:=by simpa using hn
        go_enter Tryz.func122,Tryz.ntmps122;go_wp2_with fail;go_ret;exact ⟨Qq HN.out.symm,HB.out⟩
      ·
       have q1:(kd.toList==[97,108,108])=false:=key _ ka;have q2:(kd.toList==[97,110,121])=false:=key _ kb
       by_cases kc:kd=⟨#[99,111,117,110,116]⟩
       ·
        subst kc
        by_cases hn:1<=n
        ·
         by_cases hm:n<=30
         · have HN:=Zh (show R=true by rw [HP.out,if_neg (by rintro (h | h);exact ka h;exact kb h),if_pos rfl];simp [hn,hm]);go_enter Tryz.func122,Tryz.ntmps122;go_wp2_with fail;go_ret;exact ⟨Qq HN.out.symm,HB.out⟩
         · have HN:=Zh (show R=false by rw [HP.out,if_neg (by rintro (h | h);exact ka h;exact kb h),if_pos rfl];simp [hm]);go_enter Tryz.func122,Tryz.ntmps122;go_wp2_with fail;go_ret;exact ⟨Qq HN.out.symm,HB.out⟩
        · have HN:=Zh (show R=false by rw [HP.out,if_neg (by rintro (h | h);exact ka h;exact kb h),if_pos rfl];simp [hn]);go_enter Tryz.func122,Tryz.ntmps122;go_wp2_with fail;go_ret;exact ⟨Qq HN.out.symm,HB.out⟩
       · have q3:(kd.toList==[99,111,117,110,116])=false:=key _ kc;have HN:=Zh (show R=false by rw [HP.out,if_neg (by rintro (h | h);exact ka h;exact kb h),if_neg kc]);go_enter Tryz.func122,Tryz.ntmps122;go_wp2_with fail;go_ret;exact ⟨Qq HN.out.symm,HB.out⟩
theorem xJq (s:ByteArray) (hs:s.size<=1000000000) (w:World) (hM:MaxW w):Calls Tryz.prog 124 #[.string s] w fun e w'=>e=.returned (.bool (Yz s.data.toList))/\Below w.heap.size w w':=by
 have HT:=Zh (fun W (hb:Below w.heap.size w W)=>zJP s hs W (hM.grow hb));generalize Yz s.data.toList=R at HT ⊢;clear hM;go_enter Tryz.func124,Tryz.ntmps124;go_wp2_with fail;refine (HT.out _ (.refl _ _)).mono ?_;rintro e w1 ⟨rfl,hb1⟩;go_wp2_with fail;go_ret;exact ⟨rfl,hb1⟩
theorem xJC (x:PB) (w:World) (hM:MaxW w) (hP:PMem w x):Calls Tryz.prog 127 #[x.agg] w fun e w'=>e=.returned (.bool (mayP x.pr))/\Below w.heap.size w w':=by
 have HT:=Zh (fun W (hb:Below w.heap.size w W)=>qJE x W (hM.grow hb) (hP.grow hb));generalize mayP x.pr=R at HT ⊢;clear hM hP;unfold PB.agg at HT ⊢;have HB:=Zh (Qj (.cells #[.string x.op,.string x.s,.bool x.num,.int .i64 x.n,.string x.vs,.slice x.a x.l.length x.c] 123) (.refl w.heap.size w));go_enter Tryz.func127,Tryz.ntmps127;go_wp2_with fail;refine (HT.out _ HB.out).mono ?_;rintro e w1 ⟨rfl,hb1⟩;go_wp2_with fail;go_ret;exact ⟨rfl,Qk hb1 HB.out⟩
theorem jYT (a:Option Addr) (c:Nat) (l:List ByteArray) (hl:l.length<=1500000) (hs:∀ s∈l,s.size<=1000000000) (w:World) (hM:MaxW w) (hS:Strs w a l) :
  Calls Tryz.prog 123 #[.slice a l.length c,.func (.func 124) #[] #[]] w fun e w'=>e=.returned (.bool (l.all fun s=>Yz s.data.toList))/\Below w.heap.size w w':=by
 obtain ⟨R,hR⟩:∃ R,(l.all fun s=>Yz s.data.toList)=R:=⟨_,rfl⟩;rw [hR];have HR:Hid (R=(l.drop 0).all fun s=>Yz s.data.toList):=Zh (by rw [<- hR];rfl);have HF:=Zh (fun W (hb:Below w.heap.size w W)=>hS.grow hb);have HC:=Zh (fun (k:Nat) (hk:k < l.length) W (hb:Below w.heap.size w W)=>xJq l[k] (hs _ (List.getElem_mem hk)) W (hM.grow hb));clear hS hM hR hs;go_enter Tryz.func123,Tryz.ntmps123;go_wp2_with fail;go_loopw [9] (fun i wr=>AllR R (fun s:ByteArray=>Yz s.data.toList) l w i wr) (fun i _=>l.length - (intOf i).toNat)
 case atStart=>exact ⟨0,by omega,rfl,HR.out,.refl _ _,by omega⟩
 case round=>
  obtain ⟨k,hk,rfl,HP,HW,hz⟩:=hrel;obtain ⟨wo,rfl⟩:∃ wo,wo=wr:=⟨_,rfl⟩
  by_cases hlt:k < l.length
  ·
   have hst:R=((Yz l[k].data.toList)&&(l.drop (k+1)).all (fun s:ByteArray=>Yz s.data.toList)):=zQJ hlt HP.out;obtain ⟨b,o,ha,hb⟩:=(HF.out wo HW.out).head hlt;subst ha;have HCC:=Zh (HC.out k hlt);obtain ⟨pp,hpp⟩:∃ pp,(Yz l[k].data.toList)=pp:=⟨_,rfl⟩;rw [hpp] at hst;have HPP:=Zh hpp;have HST:=Zh hst;clear hpp hst HP;have hc1:=((HF.out wo HW.out).at hlt).2;have HBX:=Zh (HW.out);go_wp2_with fail;refine (HCC.out _ HBX.out).mono ?_;rintro e w2 ⟨rfl,hb2⟩;have HB2:=Zh (Qk hb2 HBX.out);clear hb2 HCC HBX;rw [show (Yz l[k].data.toList)=pp from HPP.out];cases pp with
   | true=>
    have HN:Hid (R=(l.drop (k+1)).all (fun s:ByteArray=>Yz s.data.toList)):=Zh (by have:=HST.out;rwa [Bool.true_and] at this);go_wp2_with fail;go_roundw
    case rel=>exact ⟨k+1,by omega,by go_num,HN,HB2.out,HB2.out.size⟩
    case measure=>simp [intOf]<;>omega
   | false=>
    have HN:Hid (R=false):=Zh (by have:=HST.out;rwa [Bool.false_and] at this);go_wp2_with fail;go_ret;exact ⟨Qq HN.out.symm,HB2.out⟩
  · have HN:=Zh (vQC (by omega:l.length<=k) HP.out);go_wp2_with fail;go_ret;exact ⟨Qq HN.out.symm,HW.out⟩
theorem jYo (a:Option Addr) (c:Nat) (l:List PB) (hl:l.length<=1500000) (w:World) (hM:MaxW w) (hP:PRow w a c l) :
  Calls Tryz.prog 126 #[.slice a l.length c,.func (.func 127) #[] #[]] w fun e w'=>e=.returned (.bool (l.all fun p=>mayP p.pr))/\Below w.heap.size w w':=by
 obtain ⟨R,hR⟩:∃ R,(l.all fun p=>mayP p.pr)=R:=⟨_,rfl⟩;rw [hR];have HR:Hid (R=(l.drop 0).all fun p=>mayP p.pr):=Zh (by rw [<- hR];rfl);have HF:=Zh (fun W (hb:Below w.heap.size w W)=>hP.grow hb);have hC:=(fun (k:Nat) (hk:k < l.length) W (hb:Below w.heap.size w W)=>xJC l[k] W (hM.grow hb) ((hP.po _ (List.getElem_mem hk)).1.mem.grow hb));unfold PB.agg at hC;have HC:=Zh hC;clear hP hM hR hC;go_enter Tryz.func126,Tryz.ntmps126;go_wp2_with fail;go_loopw [9] (fun i wr=>AllR R (fun p:PB=>mayP p.pr) l w i wr) (fun i _=>l.length - (intOf i).toNat)
 case atStart=>exact ⟨0,by omega,rfl,HR.out,.refl _ _,by omega⟩
 case round=>
  obtain ⟨k,hk,rfl,HP,HW,hz⟩:=hrel;obtain ⟨wo,rfl⟩:∃ wo,wo=wr:=⟨_,rfl⟩
  by_cases hlt:k < l.length
  ·
   have hst:R=((mayP l[k].pr)&&(l.drop (k+1)).all (fun p:PB=>mayP p.pr)):=zQJ hlt HP.out;obtain ⟨b,o,ha,hb⟩:=(HF.out wo HW.out).head hlt;subst ha;have HCC:=Zh (HC.out k hlt);obtain ⟨pp,hpp⟩:∃ pp,(mayP l[k].pr)=pp:=⟨_,rfl⟩;rw [hpp] at hst;have HPP:=Zh hpp;have HST:=Zh hst;clear hpp hst HP;obtain ⟨_,f0,f1,f2,f3,f4,f5⟩:=Row.pat (HF.out wo HW.out).row hlt;have HBX:=Zh (Qj (.cells #[.string l[k].op,.string l[k].s,.bool l[k].num,.int .i64 l[k].n,.string l[k].vs,.slice l[k].a l[k].l.length l[k].c] 123) HW.out);go_wp2_with fail;refine (HCC.out _ HBX.out).mono ?_;rintro e w2 ⟨rfl,hb2⟩;have HB2:=Zh (Qk hb2 HBX.out);clear hb2 HCC HBX;rw [show (mayP l[k].pr)=pp from HPP.out];cases pp with
   | true=>
    have HN:Hid (R=(l.drop (k+1)).all (fun p:PB=>mayP p.pr)):=Zh (by have:=HST.out;rwa [Bool.true_and] at this);go_wp2_with fail;go_roundw
    case rel=>exact ⟨k+1,by omega,by go_num,HN,HB2.out,HB2.out.size⟩
    case measure=>simp [intOf]<;>omega
   | false=>
    have HN:Hid (R=false):=Zh (by have:=HST.out;rwa [Bool.false_and] at this);go_wp2_with fail;go_ret;exact ⟨Qq HN.out.symm,HB2.out⟩
  · have HN:=Zh (vQC (by omega:l.length<=k) HP.out);go_wp2_with fail;go_ret;exact ⟨Qq HN.out.symm,HW.out⟩
def DX (w:World) (g:Nat) (nm:ByteArray) (G U:Value) (ky kd:ByteArray) (p n x:Int):Prop:=w.heap[g]?=some (.cells #[.string nm,G,U,.string ky,.string kd,.int .i64 p,.int .i64 n,.int .i64 x] 45 (0,0))
section
variable {w w':World} {g:Nat} {nm:ByteArray} {G U:Value} {ky kd:ByteArray} {p n x:Int}
theorem DX.grow (h:DX w g nm G U ky kd p n x) (hb:Below w.heap.size w w'):DX w' g nm G U ky kd p n x:=(hb.block g (Array.getElem?_eq_some_iff.1 h).1).trans h
theorem DX.new (w:World) (nm:ByteArray) (G U:Value) (ky kd:ByteArray) (p n x:Int):DX (w.alloc (.cells #[.string nm,G,U,.string ky,.string kd,.int .i64 p,.int .i64 n,.int .i64 x] 45)) w.heap.size nm G U ky kd p n x:=by
 show (w.heap.push _)[w.heap.size]?=_;simp
structure DC (w:World) (g:Nat) (nm:ByteArray) (G U:Value) (ky kd:ByteArray) (p n x:Int):Prop where
 lt:g < w.heap.size
 c0:w.cell? ⟨g,0,none⟩=some (.string nm)
 c1:w.cell? ⟨g,1,none⟩=some G
 c2:w.cell? ⟨g,2,none⟩=some U
 c3:w.cell? ⟨g,3,none⟩=some (.string ky)
 c4:w.cell? ⟨g,4,none⟩=some (.string kd)
 c5:w.cell? ⟨g,5,none⟩=some (.int .i64 p)
 c6:w.cell? ⟨g,6,none⟩=some (.int .i64 n)
 c7:w.cell? ⟨g,7,none⟩=some (.int .i64 x)
theorem DX.box (h:DX w g nm G U ky kd p n x):DC w g nm G U ky kd p n x:=by
 have hz:=(Array.getElem?_eq_some_iff.1 h).1;unfold DX at h
 constructor<;>first | exact hz | simp [World.cell?,h]
end
set_option maxHeartbeats 8000000 in
theorem zJC (d:DB) (w:World) (hM:MaxW w) (hD:DO w d):Calls Tryz.prog 60 #[d.agg] w fun e w'=>e=.returned (.bool (mayD d))/\Below w.heap.size w w':=by
 have CF:=Zh (fun W (hb:Below w.heap.size w W)=>Xp d.name (Nat.le_trans hD.hn (by decide)) W (hM.grow hb));have CK:=Zh (fun W (hb:Below w.heap.size w W)=>Xp d.key (Nat.le_trans hD.hk (by decide)) W (hM.grow hb));have CJ:=Zh (fun W=>jJj d.j W);have CG:=Zh (fun W (hb:Below w.heap.size w W)=>jYT d.ga d.gc d.gl (Nat.le_trans hD.hg (by decide)) (fun s hs=>Nat.le_trans (hD.hgs s hs) (by decide)) W (hM.grow hb) (hD.gS.grow hb));have CP:=Zh (fun W (hb:Below w.heap.size w W)=>jYo d.wa d.wc d.wl (Nat.le_trans hD.hw (by decide)) W (hM.grow hb) (hD.wR.grow hb));obtain ⟨R,hR⟩:∃ R,mayD d=R:=⟨_,rfl⟩;rw [hR];unfold mayD at hR;unfold DB.agg;have hlw:=hD.hw;have hlg:=hD.hg;clear hD hM;obtain ⟨nm,ga,gl,gc,wa,wl,wc,ky,j⟩:=d;simp only at CF CK CJ CG CP hR hlw hlg ⊢;obtain ⟨fb,hfb⟩:∃ b,Q5 nm.data.toList=b:=⟨_,rfl⟩;obtain ⟨kb,hkb⟩:∃ b,Q5 ky.data.toList=b:=⟨_,rfl⟩;obtain ⟨jb,hjb⟩:∃ b,mayJ j=b:=⟨_,rfl⟩;obtain ⟨gb,hgb⟩:∃ b,(gl.all fun s=>Yz s.data.toList)=b:=⟨_,rfl⟩;obtain ⟨pb,hpb⟩:∃ b,(wl.all fun p=>mayP p.pr)=b:=⟨_,rfl⟩;rw [hfb] at CF hR;rw [hkb] at CK hR;rw [hjb] at CJ hR;rw [hgb] at CG hR;rw [hpb] at CP hR;clear hfb hkb hjb hgb hpb;obtain ⟨kd,p,n,x⟩:=j;simp only at CJ hR ⊢;have HR:=Zh hR;have hx0:=DX.new w nm (.slice ga gl.length gc) (.slice wa wl.length wc) ky kd p n x;have hb0:=Qj (.cells #[.string nm,.slice ga gl.length gc,.slice wa wl.length wc,.string ky,.string kd,.int .i64 p,.int .i64 n,.int .i64 x] 45) (.refl w.heap.size w);have HX0:=Zh hx0;have HB0:=Zh hb0;clear hR hx0 hb0;go_enter Tryz.func60,Tryz.ntmps60;go_wp2_with fail;refine (CF.out _ HB0.out).mono ?_;rintro e w1 ⟨rfl,hb1⟩;have HX1:=Zh (HX0.out.grow hb1);have HB1:=Zh (Qk hb1 HB0.out);clear hb1 HX0 HB0 CF;generalize w.heap.size=g at HX1 ⊢;obtain ⟨x0,x1,x2,x3,x4,x5,x6,x7,x8⟩:=HX1.out.box;cases fb with
 | false=>
  have HN:=Zh (show R=false by rw [<- HR.out];rfl);go_wp2_with fail;go_ret;exact ⟨Qq HN.out.symm,HB1.out⟩
 | true=>
  by_cases h1:(gl.length:Int) < 1
  · have HN:=Zh (show R=false by rw [<- HR.out];simp;omega);go_wp2_with fail;go_ret;exact ⟨Qq HN.out.symm,HB1.out⟩
  ·
   by_cases h2:(5:Int) < gl.length
   · have HN:=Zh (show R=false by rw [<- HR.out];simp;omega);go_wp2_with fail;go_ret;exact ⟨Qq HN.out.symm,HB1.out⟩
   ·
    have HR2:Hid ((jb&&(decide ((wl.length:Int)=p)&&((decide (ky=⟨#[]⟩)||kb)&&(gb&&pb))))=R):=Zh (by
     rw [<- HR.out,decide_eq_true (show 1<=gl.length by omega),decide_eq_true (show gl.length<=5 by omega)];simp only [Bool.true_and])
    clear HR;go_wp2_with fail;refine (CJ.out _).mono ?_;rintro e w2 ⟨rfl,hb2⟩;have HX2:=Zh (HX1.out.grow hb2);have HB2:=Zh (Qk hb2 HB1.out);clear hb2 HX1 HB1 CJ x0 x1 x2 x3 x4 x5 x6 x7 x8;obtain ⟨x0,x1,x2,x3,x4,x5,x6,x7,x8⟩:=HX2.out.box;cases jb with
    | false=>
     have HN:=Zh (show R=false by rw [<- HR2.out];rfl);go_wp2_with fail;go_ret;exact ⟨Qq HN.out.symm,HB2.out⟩
    | true=>
     by_cases h3:(wl.length:Int)=p
     ·
      subst h3;have HR3:Hid (((decide (ky=⟨#[]⟩)||kb)&&(gb&&pb))=R):=Zh (by rw [<- HR2.out];simp);clear HR2
      by_cases hk:ky=⟨#[]⟩
      ·
       subst hk;have HR4:Hid ((gb&&pb)=R):=Zh (by rw [<- HR3.out];simp);clear HR3;go_wp2_with fail;refine (CG.out _ HB2.out).mono ?_;rintro e w8 ⟨rfl,hb8⟩;have HX8:=Zh (HX2.out.grow hb8);have HB8:=Zh (Qk hb8 HB2.out);clear hb8 HB2 HX2 CG x0 x1 x2 x3 x4 x5 x6 x7 x8;obtain ⟨x0,x1,x2,x3,x4,x5,x6,x7,x8⟩:=HX8.out.box;cases gb with
       | false=>
        have HN:=Zh (show R=false by rw [<- HR4.out];rfl);go_wp2_with fail;go_ret;exact ⟨Qq HN.out.symm,HB8.out⟩
       | true=>
        go_wp2_with fail;refine (CP.out _ HB8.out).mono ?_;rintro e w9 ⟨rfl,hb9⟩;have HB9:=Zh (Qk hb9 HB8.out);have HN:=Zh (show R=pb by rw [<- HR4.out];simp);clear hb9;go_wp2_with fail;go_ret;exact ⟨Qq HN.out.symm,HB9.out⟩
      ·
       have hky:(ky.toList==[])=false:=by rw [beq_eq_false_iff_ne];exact fun e=>hk (Xk (by rw [<- Qp,e]))
       have HK:=Zh hk;clear hk;go_wp2_with fail;refine (CK.out _ HB2.out).mono ?_;rintro e w3 ⟨rfl,hb3⟩;have HX3:=Zh (HX2.out.grow hb3);have HB3:=Zh (Qk hb3 HB2.out);clear hb3 HX2 HB2 CK x0 x1 x2 x3 x4 x5 x6 x7 x8;obtain ⟨x0,x1,x2,x3,x4,x5,x6,x7,x8⟩:=HX3.out.box;cases kb with
       | false=>
        have HN:=Zh (show R=false by rw [<- HR3.out];simp [HK.out]);go_wp2_with fail;go_ret;exact ⟨Qq HN.out.symm,HB3.out⟩
       | true=>
        have HR4:Hid ((gb&&pb)=R):=Zh (by rw [<- HR3.out];simp);clear HR3;go_wp2_with fail;refine (CG.out _ HB3.out).mono ?_;rintro e w8 ⟨rfl,hb8⟩;have HX8:=Zh (HX3.out.grow hb8);have HB8:=Zh (Qk hb8 HB3.out);clear hb8 HB3 HX3 CG x0 x1 x2 x3 x4 x5 x6 x7 x8;obtain ⟨x0,x1,x2,x3,x4,x5,x6,x7,x8⟩:=HX8.out.box;cases gb with
        | false=>
         have HN:=Zh (show R=false by rw [<- HR4.out];rfl);go_wp2_with fail;go_ret;exact ⟨Qq HN.out.symm,HB8.out⟩
        | true=>
         go_wp2_with fail;refine (CP.out _ HB8.out).mono ?_;rintro e w9 ⟨rfl,hb9⟩;have HB9:=Zh (Qk hb9 HB8.out);have HN:=Zh (show R=pb by rw [<- HR4.out];simp);clear hb9;go_wp2_with fail;go_ret;exact ⟨Qq HN.out.symm,HB9.out⟩
     · have HN:=Zh (show R=false by rw [<- HR2.out];simp [h3]);go_wp2_with fail;go_ret;exact ⟨Qq HN.out.symm,HB2.out⟩
end Go.Proofs.YtcbicdencgjfiaaGreatDoor
namespace Go.Proofs.YtcbicdencgjfiaaGreatDoor
open Go.RowKit Tryst
def jQz (s:ByteArray):ByteArray:=if 10 < s.size then s.extract 0 10 else s
theorem xJX (kd:ByteArray) (p n x:Int) (hk:kd.size<=9223372036854775807) (w:World) :
  Calls Tryz.prog 64 #[.agg #[.string kd,.int .i64 p,.int .i64 n,.int .i64 x]] w fun e w'=>e=.returned (.agg #[.string (jQz kd),.int .i64 p,.int .i64 n,.int .i64 x])/\Below w.heap.size w w':=by
 by_cases h:10 < kd.size
 ·
  have e:jQz kd=kd.extract 0 10:=by unfold jQz;rw [if_pos h]
  rw [e];have y1:(10:Int) < (kd.size:Int):=by omega
  go_enter Tryz.func64,Tryz.ntmps64;go_wp2_with fail;exact bodyPost_ret (v:=.agg #[.string (kd.extract 0 10),.int .i64 p,.int .i64 n,.int .i64 x]) (by simp [results,Tryz.results64,go_sem]) rfl ⟨rfl,by repeat first | exact .refl _ _ | refine bset _ (by simp) ?_ | refine Qj _ ?_⟩
 ·
  have e:jQz kd=kd:=by unfold jQz;rw [if_neg h]
  rw [e];have y1:¬ (10:Int) < (kd.size:Int):=by omega
  go_enter Tryz.func64,Tryz.ntmps64;go_wp2_with fail;exact bodyPost_ret (v:=.agg #[.string kd,.int .i64 p,.int .i64 n,.int .i64 x]) (by simp [results,Tryz.results64,go_sem]) rfl ⟨rfl,by repeat first | exact .refl _ _ | refine bset _ (by simp) ?_ | refine Qj _ ?_⟩
structure DArg (w:World) (d:DB):Prop where
 hn:d.name.size<=9223372036854775807
 hk:d.key.size<=9223372036854775807
 hj:d.j.kind.size<=9223372036854775807
 gS:Strs w d.ga d.gl
 gs:∀ s∈d.gl,s.size<=9223372036854775807
 gn:d.gl.length<=9223372036854775807
 wR:Row w d.wa 6 (d.wl.map PB.cells)
 wP:∀ p∈d.wl,PArg w p
 wn:d.wl.length<=9223372036854775807
theorem DArg.grow {v w:World} {d:DB} (h:DArg v d) (hb:Below v.heap.size v w):DArg w d:=⟨h.hn,h.hk,h.hj,h.gS.grow hb,h.gs,h.gn,h.wR.grow hb,fun p hp=>PArg.grow (h.wP p hp) hb,h.wn⟩
section
variable {w w':World} {g:Nat} {nm:ByteArray} {G U:Value} {ky kd:ByteArray} {p n x:Int}
theorem DX.away (h:DX w g nm G U ky kd p n x) {c o:Nat} (hc:c≠g) (v:Value):DX (w.setCell ⟨c,o,none⟩ v) g nm G U ky kd p n x:=(Below.heap_setCell _ _ _ _ (fun e=>hc e.symm)).trans h
theorem DX.set1 (h:DX w g nm G U ky kd p n x) (v:Value):DX (w.setCell ⟨g,1,none⟩ v) g nm v U ky kd p n x:=by
 unfold DX at h ⊢;simp [World.setCell,Array.getElem?_modify,h]
theorem DX.set2 (h:DX w g nm G U ky kd p n x) (v:Value):DX (w.setCell ⟨g,2,none⟩ v) g nm G v ky kd p n x:=by
 unfold DX at h ⊢;simp [World.setCell,Array.getElem?_modify,h]
theorem DX.fz (h:DX w g nm G U ky kd p n x) (j:Nat):w.frozen? ⟨g,j,none⟩=false:=by
 unfold DX at h;simp [World.frozen?,h]
theorem DX.growB {B:Nat} (h:DX w g nm G U ky kd p n x) (hg:g < B) (hb:Below B w w'):DX w' g nm G U ky kd p n x:=(hb.block g hg).trans h
def DS8 (w:World) (g:Nat) (nm:ByteArray) (G U:Value) (ky kd:ByteArray) (p n x:Int):World:=
 (((((((w.setCell ⟨g,0,none⟩ (.string nm)).setCell ⟨g,1,none⟩ G).setCell ⟨g,2,none⟩ U).setCell ⟨g,3,none⟩ (.string ky)).setCell ⟨g,4,none⟩ (.string kd)).setCell ⟨g,5,none⟩ (.int .i64 p)).setCell ⟨g,6,none⟩ (.int .i64 n)).setCell ⟨g,7,none⟩ (.int .i64 x)
theorem DS8.away {k:Nat} (h:k≠g):(DS8 w g nm G U ky kd p n x).heap[k]?=w.heap[k]?:=by
 unfold DS8
 repeat rw [Below.heap_setCell _ _ _ _ (show k≠_ from h)]
theorem DS8.size:(DS8 w g nm G U ky kd p n x).heap.size=w.heap.size:=by unfold DS8;simp
theorem DS8.below {B:Nat} {v:World} (hg:B<=g) (h:Below B v w):Below B v (DS8 w g nm G U ky kd p n x):=by
 unfold DS8;exact (((((((h.setCell (p:=⟨g,0,none⟩) hg _).setCell (p:=⟨g,1,none⟩) hg _).setCell (p:=⟨g,2,none⟩) hg _).setCell (p:=⟨g,3,none⟩) hg _).setCell (p:=⟨g,4,none⟩) hg _).setCell (p:=⟨g,5,none⟩) hg _).setCell (p:=⟨g,6,none⟩) hg _).setCell (p:=⟨g,7,none⟩) hg _
theorem DS8.box {nm':ByteArray} {G' U':Value} {ky' kd':ByteArray} {p' n' x':Int} (h:DX w g nm' G' U' ky' kd' p' n' x'):DX (DS8 w g nm G U ky kd p n x) g nm G U ky kd p n x:=by
 unfold DX at h ⊢;unfold DS8;simp [World.setCell,Array.getElem?_modify,h]
end
theorem Strs.keepB {w w':World} {a:Option Addr} {l:List ByteArray} (h:Strs w a l) (hb:∀ b o,a=some ⟨b,o,none⟩->w'.heap[b]?=w.heap[b]?) (hz:w.heap.size<=w'.heap.size):Strs w' a l:=by
 intro i hi;obtain ⟨b,o,h1,h2,h3⟩:=h i hi;exact ⟨b,o,h1,Nat.lt_of_lt_of_le h2 hz,(World.cell?_of_block (w:=w) (a:=⟨b,o+i,none⟩) (hb b o h1)).trans h3⟩
def zQV (s:ByteArray) (v:Value) (w:World):Prop:=∃ g,v=.slice (some ⟨g,0,none⟩) 1 1/\w.heap[g]?=some (.cells #[.string s] 9 (0,0))
theorem zQV.at {s:ByteArray} {v:Value} {w':World} (h:∃ w0,Tryst2.Grow w0 w'/\zQV s v w0):zQV s v w':=by
 obtain ⟨w0,hg,g,h1,h2⟩:=h;exact ⟨g,h1,(hg.block g (Array.getElem?_eq_some_iff.1 h2).1).trans h2⟩
theorem zQV.of (w:World) (s:ByteArray):Tryst2.Grow w (w.alloc (.cells #[.string s] 9))/\∃ w0,Tryst2.Grow w0 (w.alloc (.cells #[.string s] 9))/\zQV s (.slice (some ⟨w.heap.size,0,none⟩) 1 1) w0:=
 ⟨Qj _ (.refl _ _),_,Tryst2.Grow.refl _,w.heap.size,rfl,by show (w.heap.push _)[w.heap.size]?=_;simp⟩
def kQF (base:Nat) (v:Value) (w:World):Prop:=∃ (g:Nat) (y:PB),v=.slice (some ⟨g,0,none⟩) 1 1/\BX w g y.op y.s y.num y.n y.vs (.slice y.a y.l.length y.c)/\POwn w (fun b=>base<=b) y/\J9 y<=50
theorem kQF.at {base:Nat} {v:Value} {w':World} (h:∃ w0,Tryst2.Grow w0 w'/\kQF base v w0):kQF base v w':=by
 obtain ⟨w0,hg,g,y,h1,h2,h3,h4⟩:=h;exact ⟨g,y,h1,h2.grow hg,h3.grow hg (fun _ h=>h),h4⟩
theorem jYa (ρ:Operand->Value) (o:Oper) (w:World) (ho:o.op=.alloc 45):(execOp ρ o).run Tryz.prog w=.ok (.value (.pointer (some ⟨w.heap.size,0,none⟩))) (w.alloc (.cells #[.string ⟨#[]⟩,.slice none 0 0,.slice none 0 0,.string ⟨#[]⟩,.string ⟨#[]⟩,.int .i64 0,.int .i64 0,.int .i64 0] 45)):=by
 unfold execOp;rw [ho]
 kernel_rfl
def gV (l:List ByteArray):List (List Value):=l.map fun s=>[Value.string s]
structure F3 (w v:World) (g:Nat) (nm:ByteArray) (G U:Value) (ky kd:ByteArray) (p n x:Int) (nm1:ByteArray) (G1 U1:Value) (ky1 kd1:ByteArray):Prop where
 a:DX v w.heap.size nm G U ky kd p n x
 z:DX v (w.heap.size+1) ⟨#[]⟩ (.slice none 0 0) (.slice none 0 0) ⟨#[]⟩ ⟨#[]⟩ 0 0 0
 x:DX v g nm1 G1 U1 ky1 kd1 p n x
 hg:w.heap.size+1 < g
 l:Below w.heap.size w v
section
variable {w v v':World} {g:Nat} {nm:ByteArray} {G U:Value} {ky kd:ByteArray} {p n x:Int} {nm1:ByteArray} {G1 U1:Value} {ky1 kd1:ByteArray}
theorem F3.growB {B:Nat} (h:F3 w v g nm G U ky kd p n x nm1 G1 U1 ky1 kd1) (hgB:g < B) (hb:Below B v v'):F3 w v' g nm G U ky kd p n x nm1 G1 U1 ky1 kd1:=by
 have hg:=h.hg;exact ⟨h.a.growB (by omega) hb,h.z.growB (by omega) hb,h.x.growB hgB hb,h.hg,h.l.trans (hb.mono (by omega))⟩
theorem F3.grow (h:F3 w v g nm G U ky kd p n x nm1 G1 U1 ky1 kd1) (hb:Below v.heap.size v v'):F3 w v' g nm G U ky kd p n x nm1 G1 U1 ky1 kd1:=h.growB h.x.box.lt hb
theorem F3.set1 (h:F3 w v g nm G U ky kd p n x nm1 G1 U1 ky1 kd1) (u:Value):F3 w (v.setCell ⟨g,1,none⟩ u) g nm G U ky kd p n x nm1 u U1 ky1 kd1:=by
 have hg:=h.hg;exact ⟨h.a.away (by omega) _,h.z.away (by omega) _,h.x.set1 u,h.hg,h.l.setCell (p:=⟨g,1,none⟩) (by show w.heap.size<=g;omega) _⟩
theorem F3.set2 (h:F3 w v g nm G U ky kd p n x nm1 G1 U1 ky1 kd1) (u:Value):F3 w (v.setCell ⟨g,2,none⟩ u) g nm G U ky kd p n x nm1 G1 u ky1 kd1:=by
 have hg:=h.hg;exact ⟨h.a.away (by omega) _,h.z.away (by omega) _,h.x.set2 u,h.hg,h.l.setCell (p:=⟨g,2,none⟩) (by show w.heap.size<=g;omega) _⟩
end
theorem kQF.of {base:Nat} (w:World) (y:PB) (h:POwn w (fun b=>base<=b) y) (hn:J9 y<=50):Tryst2.Grow w (w.alloc (.cells #[.string y.op,.string y.s,.bool y.num,.int .i64 y.n,.string y.vs,.slice y.a y.l.length y.c] 123))/\∃ w0,Tryst2.Grow w0 (w.alloc (.cells #[.string y.op,.string y.s,.bool y.num,.int .i64 y.n,.string y.vs,.slice y.a y.l.length y.c] 123))/\kQF base (.slice (some ⟨w.heap.size,0,none⟩) 1 1) w0:=
 ⟨Qj _ (.refl _ _),_,Tryst2.Grow.refl _,w.heap.size,y,rfl,BX.new _ _ _ _ _ _ _,h.grow (Qj _ (.refl _ _)) (fun _ h=>h),hn⟩
def FD1 (w:World) (g B:Nat) (nm:ByteArray) (G U:Value) (ky kd nm1 ky1 kd1:ByteArray) (p n x:Int) (gl:List ByteArray) (i:Value) (wr:World):Prop:=
 ∃ (k:Nat) (v:Value),k<=6/\k<=gl.length/\i=.int .i64 k/\Hid (F3 w wr g nm G U ky kd p n x nm1 v (.slice none 0 0) ky1 kd1)/\Hid (ROwn 9 1 wr B v (gV ((gl.take k).map Q7)))/\B<=wr.heap.size
def FD2 (w:World) (g B:Nat) (nm:ByteArray) (G U:Value) (ky kd nm1 ky1 kd1:ByteArray) (p n x:Int) (a1:Option Addr) (c1:Nat) (gs:List ByteArray) (len:Nat) (i:Value) (wr:World):Prop:=
 ∃ (k:Nat) (v:Value) (ys:List PB),k<=7/\k<=len/\i=.int .i64 k/\ys.length=k/\Hid (F3 w wr g nm G U ky kd p n x nm1 (.slice a1 gs.length c1) v ky1 kd1)/\Hid (ROwn 123 6 wr B v (ys.map PB.cells))/\Hid (∀ y∈ys,POwn wr (fun b=>B<=b/\Away v b) y/\J9 y<=50)/\Hid (Strs wr a1 gs)/\B<=wr.heap.size
theorem kJ0 {Z3 Z4:World} {B g g' N cap:Nat} {v u:Value} {ys:List PB} {rows:List (List Value)} (hgB:g < B) (C3:∀ y∈ys,POwn Z3 (fun b=>B<=b/\Away v b) y/\J9 y<=50)
  (HO:ROwn 123 6 Z4 B (.slice (some ⟨g',0,none⟩) N cap) rows) (HB:Below B Z3 Z4) (HS:∀ k,k < Z3.heap.size->Away v k->Z4.heap[k]?=Z3.heap[k]?) (hat:v.ownBlock=some g'∨g'=Z3.heap.size) :
  ROwn 123 6 (Z4.setCell ⟨g,2,none⟩ u) B (.slice (some ⟨g',0,none⟩) N cap) rows/\(∀ y∈ys,POwn (Z4.setCell ⟨g,2,none⟩ u) (fun b=>B<=b/\Away (.slice (some ⟨g',0,none⟩) N cap) b) y/\J9 y<=50):=by
 have hne:∀ k,k < Z3.heap.size->Away v k->g'≠k:=fun k hk ha=>by
  rcases hat with h | h
  · exact xQf h ha
  · omega
 refine ⟨HO.below hgB u,fun y hy=>⟨(C3 y hy).1.keep (fun b hb hbz=>⟨(Below.heap_setCell _ _ _ _ (by show b≠g;omega)).trans (HS b hbz hb.2),hb.1,fun A m c hv=>by cases hv;exact hne b hbz hb.2⟩) ?_,(C3 y hy).2⟩⟩;have:=HB.size;simp;omega
