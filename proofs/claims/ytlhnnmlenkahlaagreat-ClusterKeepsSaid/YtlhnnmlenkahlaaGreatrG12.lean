/- Lemmas. -/
import Derived.Test.YtlhnnmlenkahlaaGreatrG11
set_option maxRecDepth 4000
set_option linter.all false
namespace Go.Proofs.YtlhnnmlenkahlaaGreat
open Go.RowKit Go.Proofs.Tryz
def aiZ:=@List.set_append_right
def kY:=@underlying49
def yV:=@Int.le_refl
variable {gZ:List aM}{l:List aH}{S0 S:Nat->Prop}{vY Ja AL:ah}{b w:World}{F:List lH}{Jb:Nat}{ls:List bD}{v0 v2 v5 v6 v9 v11 v13 v14 v16:Value}{dV all:Int}
structure ARules where
  jV:Int
  lQ:Int
  All:Int
  nE:Int
  jr:Int
  eP:Int
  deriving DecidableEq
def ARules.enc(x:ARules):List Value:=[.int .i64 x.jV,.int .i64 x.lQ,.int .i64 x.All,.int .i64 x.nE,.int .i64 x.jr,.int .i64 x.eP]
theorem ARules.lF(x:ARules):∀ u∈x.enc,u.oneCell'=true:=by
  intro u hu
  simp only [ARules.enc,iX,lM,sN] at hu
  rcases hu with rfl | rfl | rfl | rfl | rfl | rfl <;> rfl
def ARules.wf(x:ARules):Prop:=qm x.jV/\qm x.lQ/\qm x.All/\qm x.nE/\qm x.jr/\qm x.eP
def tRules:Ty ARules:=Ty.flat 6 ARules.enc au (λ_=>rfl) ARules.lF
instance:Flat tRules:=⟨λh=>h⟩
structure iF where
  eF:List fK
  bY:List bD
  bL:List aM
  deriving DecidableEq
def qy(n most:Int):Bool:=decide (1<=n)&&decide (n<=most)
def lY(r:ARules):Bool:=((((qy r.jV 1048576&&qy r.jr 1048576)&&qy r.lQ 64)&&qy r.All 64)&&qy r.nE 8)&&qy r.eP 16
def kG(gZ:List aM)(aL:Int):List Int:=(gZ.filter fun(o:aM)=>decide (o.aC=aL)).map aM.To
def UN(aN:Int)(o:aM):Bool:=decide (o.jS<aN)
def dS(s:iF)(aN:Int):iF:=⟨s.eF,s.bY.filter (inB aN),s.bL.filter fun(x9:aM)=>!(UN aN x9)⟩
def qz(gZ:List aM)(c:aH):aH:={ c with aD:=c.aD.filter fun(x9:Int)=>!((kG gZ c.ID).contains x9) }
abbrev vg(gZ:List aM)(l:List aH)(k:Nat):List aH:=(l.take k).map (qz gZ)++l.drop k
def zq(l:List aH)(gZ:List aM):List aH:=l.map (qz gZ)
theorem aaX(gZ:List aM)(l:List aH)(k:Nat):(vg gZ l k).length=l.length:=by simp [vg]; omega
theorem aaY{k:Nat}{x:aH}(hx:(vg gZ l k)[k]? = some x):l[k]? = some x:=by
  have hk:=aJ hx;rw [aaX] at hk;rw [Qb (by simp; omega)] at hx;rw [DW] at hx
  simp only [jY,fO] at hx
  rwa [show k+(k - min k l.length)=k by omega] at hx
abbrev FK(iD:List aM)(ji:aH)(uS:Int):=(kG iD ji.ID).contains uS
theorem am9{k:Nat}{x:aH}(hx0:(vg gZ l k)[k]? = some x):(vg gZ l k).set k { x with aD:=x.aD.filter fun(x9:Int)=>!(FK gZ x x9) }=vg gZ l (k+1):=by
  have hx:=aaY hx0;have hk:=aJ hx;have hd:l.drop k=x::l.drop (k+1):=by rw [zO hk,(nP.1 hx).2]
  have hl:((l.take k).map (qz gZ)).length=k:=by simp; omega
  show((l.take k).map (qz gZ)++l.drop k).set k (qz gZ x)=_;unfold vg;rw [fD hx,qc,hd,aiZ _ _ aj,hl,Nat.sub_self]
  simp
theorem Nz(gZ:List aM)(aL:Int):(kG gZ aL).length<=gZ.length:=by unfold kG; rw [jY]; exact mR _ _
theorem aqk  : ∀ w,(Instr.buildSlice 49 0 (List.toArray [])).run prog w=.ok (.slice (some ⟨w.heap.size,0,none⟩) 0 0) (w.alloc (.cells (List.toArray []) 112)):=ay
abbrev acF:Value:=.agg #[aF 0,aF 0,aF 0,gK 0,aF 0,aF 0,aF 0]
theorem Eu:lW prog 112 7 56:=by
  obtain⟨i,h1,h2,h3,h4⟩:=tX (show(prog.info? 112).map (λi=>(i.zero,i.size,i.bytes))=some (some acF,7,56) by kernel_rfl);exact⟨i,_,h1,h2,h3,h4,Y⟩
theorem aql:u6 prog 112 7 56:=by
  obtain⟨i,h1,h2,h3,h4⟩:=tX (show(prog.info? 112).map (λi=>(i.zero,i.size,i.bytes))=some (some acF,7,56) by kernel_rfl);exact⟨i,_,h1,h2,h3,h4,Y,λv hv=>lI.1 (show(Value.cells acF).toList.all (λv=>v.oneCell')=true from Y) v hv⟩
theorem acG:eu prog 23 0 0:=ay
theorem afI:bF prog 94:=ay
theorem Vz:eu prog 23 4 4:=ay
theorem acH:eu prog 23 1 1:=ay
theorem akt:eu prog 23 2 2:=ay
theorem QV:eu prog 23 3 3:=ay
theorem aku:eu prog 23 5 5:=ay
theorem xX:eu prog 112 5 5:=ay
theorem X8:eu prog 112 6 6:=ay
theorem FL:∀ w,(zeroValue 51).run prog w=.ok (.agg #[.slice none 0 0,.slice none 0 0,.slice none 0 0]) w:=ay
theorem FM:eu prog 51 0 0:=ay
theorem yC:eu prog 51 1 1:=ay
theorem aqm:l9 prog 48:=ay
theorem axu:Size prog 48 1:=ay
theorem yD:eu prog 51 2 2:=ay
theorem axv:l9 prog 49:=ay
theorem aCz:bF prog 65:=ay
theorem axw:Size prog 51 3:=ay
theorem Ko:Agg prog 51 3:=⟨λ_=>by kernel_rfl,axw⟩
theorem BH(w:World){uY:Nat}{s:List aM}(mP:Sl bG S0 w vY uY s)(hn:s.length<=1000000) :
    bS prog 64 #[.slice vY s.length uY] w λv w'=>∃(A0:ah)(c0:Nat),v=.slice A0 s.length c0/\Hp w S0 w' [aS bG 112 A0 c0 s]:=by
 refine kP S0 func64 ntmps64 Y λH0=>iZ Y<|aW<|bQ Y<|ev (Ov kY Y Y)<|dn<|bK Y (λhc4=>?_) (λhc4=>?_)
 ·refine iZ Y<|uX Y ?_
  have H1:=H0.nil bG 112;have eO:(([]:List aM):List aM)=s:=by have h1:=mP.nil (by simpa using hc4); have h2:=mP.cap; exact(uE aj).symm
  have H2:=(eO▸H1:Hp w S0 w (aS bG 112 none 0 s::[]));exact⟨none,0,by rw [<- eO] <;> rfl,H2⟩
 refine jm ?_;refine rg<|bs0 (τ:=bG) (vs:=[]) Y (by intro _; apply aqk) rfl H0 λg1 w1 K1=>mv rfl<|ap (ys:=s) K1 s0 rfl rfl (K1.a mP).any kY Eu av (by first | omega | (simp; omega) | (simp; done)) rfl λoL oM w2 K2=>bU rfl<|jc rfl ?_
 have fQ:((([]:List aM)++s):List aM)=s:=by simp
 rw [fQ] at K2;exact⟨oL,oM,by rw [fQ] <;> rfl,K2⟩
abbrev akv(iD:aM):=([.agg #[aF iD.Kind,aF iD.aC,aF iD.aB,gK iD.Sum,aF iD.jM,aF iD.To,aF iD.jS]]:List Value)
theorem FN(w:World){uY:Nat}{s:List aM}(mP:Sl bG S0 w vY uY s){AA:FuncId}{AX:List Value}(KI:bF prog AA)(f:aM->Bool)(KJ:∀(w':World)(x:aM),Ext w w'->x∈s->bS prog AA ((akv x)++AX).toArray w' λv w''=>v=.bool (f x)/\Ext w' w'') :
    bS prog 121 #[.slice vY s.length uY,.func (.func AA) #[] AX.toArray] w λv w'=>v=aF (idxOf f s)/\Hp w S0 w' []:=by
 refine kP S0 func121 ntmps121 Y λH0=>?_;have Qm:=mP.bH;refine iZ Y<|aW<|bQ Y<|ev (eU kY Y)<|mv Y<|dn<|cB<|Lp H0 (λl0 rk mJ lJ wJ=>∃(k:Nat),lJ=(8,aF ((k:Nat):Int))::l0/\mJ=s.length - k/\k<=s.length/\(∀ y∈s.take k,f y=false)/\Hp w S0 wJ rk) ⟨0,Y,Y,fJ _,av,H0⟩ rfl ?_
 rintro _ _ w1 ⟨k,rfl,rfl,hk,hno,K1⟩;refine rg<|ev (fC Y Y)<|dn<|pQ Y (λER=>?_) (λER=>?_)
 ·refine jm ?_;refine aW<|cB<|bQ Y<|bU Y<|bQ Y<|mv Y<|mv Y ?_
  obtain⟨x1,bP⟩:=bC (xs:=s) (i:=k) aj;refine ev (cu (i:=k) kY wo Y Y Y (aJ bP) ((K1.a mP).some_ bP))<|ev (gI wu Y Y ((K1.a mP).fE bP))<|xK Y Y Y KI (KJ _ x1 K1.ext (bT bP)) Y ?_
  rintro _ w2 ⟨rfl,e2⟩;have K2:=K1.grow e2;refine dn<|bK Y (λhc16=>?_) (λhc16=>?_)
  ·refine bQ Y<|bU Y<|jf (jg (fT (fT (jg (fT (zA Y ?_))))))
   have eO:(((k:Nat):Int):Int)=(idxOf f s):=by exact(rX hno bP hc16).symm
   exact⟨by rw [eO] <;> rfl,K2⟩
  refine xQ ?_;refine jy<|ev (dO Y Y)<|mv Y<|jA<|dI ⟨(k+1),Y,Y,aj,by exact pJ (q:=λy=>f y=false) hno bP hc16,K2⟩ rfl aj
 refine wE ?_;refine iZ Y<|jc Y ?_
 have fQ:((-1):Int)=(idxOf f s):=by exact(uK (vU hno aj)).symm
 exact⟨by rw [<- fQ] <;> rfl,K1⟩
theorem Ph{A:ah}{c:Nat}{xs:List aM}(H0:Hp b S w (aS bG 112 A c xs::F)){fd:FuncId}{kd:List Value}(qd:bF prog fd)(p:aM->Bool)
    (hd:∀(w':World)(ys:List aM)(x:aM),ys.length=xs.length->Hp b S w' (aS bG 112 A c ys::F)->bS prog fd ((akv x)++kd).toArray w' λv w''=>v=.bool (p x)/\Ext w' w'') (hn:xs.length<=1000000) :
    bS prog 63 #[.slice A xs.length c,.func (.func fd) #[] kd.toArray] w λv w'=>v=.slice A (xs.filter λx=>!p x).length c/\Hp b S w' (aS bG 112 A c (xs.filter λx=>!p x)::F):=by
 refine sV func63 ntmps63 Y ?_;have WW:=(H0.o s0).bH;have hcap0:=(H0.o s0).cap;have hlt:=D7 (p:=p) xs;have hge:=GR (p:=p) xs;refine iZ Y<|bQ Y<|mv Y<|gX Y (FN (S0:=Any) (AX:=kd) w ((H0.o s0)) qd p (λw' x ex _=>hd w' xs x Y (H0.grow ex))) ?_
 rintro _ w1 ⟨rfl,e1⟩;have K1:=H0.grow e1.ext;refine bU Y<|aW<|bQ Y<|ev (iA Y Y)<|dn<|mQ Y (λoN=>?_) (λoN=>?_)
 ·refine bQ Y<|bU Y<|uX Y ?_
  have hall:=Qx (p:=p) (xs:=xs) aj;exact⟨by rw [hall]; rfl,by rw [hall]; exact K1⟩
 refine jm ?_;refine aW ?_;obtain⟨k0,hk0,hkl⟩:∃ k0:Nat,idxOf p xs=(k0:Int)/\k0<xs.length:=⟨(idxOf p xs).toNat,aj,aj⟩;have aio:=Qy hk0;refine lC (t:=5) Y (aR (Value.int .i64) hk0)<|bQ Y<|ev (dO Y Y)<|bU Y<|cB<|Lp (K1.rm s0) (λl0 rk mJ lJ wJ=>∃(i j:Nat)(ys:List aM),lJ=(0,.slice A ys.length c)::(5,aF ((i:Nat):Int))::(6,aF ((j:Nat):Int))::l0/\mJ=xs.length - j/\(ys.length=xs.length)/\(i<j/\j<=xs.length)/\(ys.take i=(xs.take j).filter λx=>!p x)/\(ys.drop j=xs.drop j)/\Hp b S wJ (aS bG 112 A c ys::rk)) ⟨k0,(k0+1),xs,Y,Y,by rfl,aj,by exact aio.1,by rfl,K1⟩ rfl ?_
 rintro _ _ w2 ⟨i,j,ys,rfl,rfl,hys,hij,htk,hdr,K2⟩;refine aW<|bQ Y<|mv Y<|ev (eU kY Y)<|ev (fC Y Y)<|dn<|mQ Y (λhc19=>?_) (λhc19=>?_)
 ·refine jm ?_;refine aW<|cB<|bQ Y<|mv Y ?_
  obtain⟨x1,bP⟩:=bC (xs:=ys) (i:=j) aj;refine ev (cu (i:=j) kY wo Y Y Y (aJ bP) ((K2.o s0).some_ bP))<|ev (gI wu Y Y ((K2.o s0).fE bP))<|al BQ Y K2 λg1 w3 K3=>sty Y K3 s0 Y λw4 K4=>dn<|bQ Y<|ev (dU wu Y Y (K4.x s0))<|xK Y Y Y qd (hd _ _ x1 (by first | exact hys | omega) (K4.rm s0)) rfl ?_
  rintro _ w5 ⟨rfl,e5⟩;have K5:=K4.grow e5;refine ev (iB Y)<|dn<|bK Y (λhc29=>?_) (λhc29=>?_)
  ·try simp only [fq,dX,bN,eH,eG,fP,bO,bV] at hc29
   refine bQ Y<|mv Y<|ev (dU wu Y Y (K5.x s0)) ?_
   obtain⟨x2,kZ⟩:=bC (xs:=ys) (i:=i) aj;refine ev (cu (i:=i) kY wo Y Y Y (aJ kZ) ((K5.o s1).some_ kZ))<|se (i:=i) (f:=0) (x:=x2) (x':=x1) (ds:=[aF x1.Kind,aF x1.aC,aF x1.aB,gK x1.Sum,aF x1.jM,aF x1.To,aF x1.jS]) K5 s1 Y Y Y kZ Y wo (pU Y) Y (by rintro _ _ _ ⟨⟩; rfl) λw6 K6=>?_
   have hl1:(ys.set i x1).length=ys.length:=gJ ..;refine fU (t:=0) (u:=.slice A ys.length c) (v:=.slice A ((ys.set i x1).length) c) Y (by rw [hl1])<|fU (t:=17) (u:=.slice A ys.length c) (v:=.slice A ((ys.set i x1).length) c) rfl (by rw [hl1])<|fU (t:=22) (u:=.slice A ys.length c) (v:=.slice A ((ys.set i x1).length) c) rfl (by rw [hl1])<|fU (t:=30) (u:=.slice A ys.length c) (v:=.slice A ((ys.set i x1).length) c) rfl (by rw [hl1]) ?_
   have hx3:(ys.set i x1)[i]? = some x1:=qb (aJ kZ);refine dn<|jy<|mv Y<|ev (dO Y Y)<|iI Y<|jA<|iE (gG ?_)
   refine jy<|mv Y<|ev (dO Y Y)<|iI Y<|jA<|dI ⟨(i+1),(j+1),(ys.set i x1),Y,Y,by first | exact hys | (rw [gJ]; exact hys),aj,by first | exact(tC hij.1 htk hdr bP (by simp [hc29])).1 | exact(tF htk hdr bP (by simp [hc29])).1,by first | exact(tC hij.1 htk hdr bP (by simp [hc29])).2 | exact(tF htk hdr bP (by simp [hc29])).2,(K6.rm s1)⟩ rfl aj
  try simp only [fq,dX,bN,eH,eG,fP,bO,bV] at hc29
  refine xQ ?_;refine jy<|mv Y<|ev (dO Y Y)<|iI Y<|jA<|dI ⟨i,(j+1),ys,Y,Y,by first | exact hys | (rw [gJ]; exact hys),aj,by first | exact(tC hij.1 htk hdr bP (by simp [hc29])).1 | exact(tF htk hdr bP (by simp [hc29])).1,by first | exact(tC hij.1 htk hdr bP (by simp [hc29])).2 | exact(tF htk hdr bP (by simp [hc29])).2,(K5.rm s0)⟩ rfl aj
 refine wE ?_;have hcap:ys.length<=c:=aj;have hil:(ys.take i).length=i:=by simp only [fO]; omega
 have hfin:ys.take i=xs.filter λx=>!p x:=by rw [htk,iH aj]
 refine lC (t:=5) (u:=aF ((i:Nat):Int)) (v:=aF (((ys.take i).length:Nat):Int)) Y (by rw [hil]) ?_;have H1:=K2.Wz (hi:=i) s0 aj;refine bQ Y<|mv Y<|ev (Ec (lo:=(ys.take i).length) kY wo Y Y Y (by first | omega | (simp only [fO]; omega)) hcap)<|aeR (τ:=bG) (m:=ys.length - (ys.take i).length) H1 s0 rfl kY aql (by simp only [fO]; omega) λw7 K7=>dn<|bQ rfl<|mv rfl<|ev (SH (hi:=(ys.take i).length) kY wo rfl rfl rfl (by simp only [fO]; omega))<|bU rfl<|jc rfl ?_
 exact⟨by rw [<- hfin]; rfl,by rw [<- hfin]; exact K7⟩
theorem Hg(w:World)(n:Int)(most:Int) :
    bS prog 94 #[aF n,aF most] w λv w'=>v=.bool (qy n most)/\Hp w S0 w' []:=by
 refine kP S0 func94 ntmps94 Y λH0=>iZ Y<|bQ Y<|ev (qK Y Y)<|mv Y<|iP 4 11 ((decide (1<=n))&&(decide (n<=most))) ?_ ?_
 ·cases hb7:decide (1<=n) with
  | true=>
   refine bn Y (bf Y) Y<|bn Y (bf Y) Y<|bn Y (vS Y Y) Y<|ev (dH Y Y)<|dM Y
  | false=>
   refine dN<|dN<|dN<|ev (dL Y Y)<|dM Y
 refine bU Y<|jc Y ?_
 have eO:(((decide (1<=n))&&(decide (n<=most))):Bool)=(qy n most):=by rfl
 exact⟨by rw [eO] <;> rfl,H0⟩
theorem acI(w:World)(r:ARules) :
    bS prog 38 #[.agg #[aF r.jV,aF r.lQ,aF r.All,aF r.nE,aF r.jr,aF r.eP]] w λv w'=>v=.bool (lY r)/\Hp w S0 w' []:=by
 refine kP S0 func38 ntmps38 Y λH0=>rg<|bx Y Y H0 λg1 w1 K1=>bU Y<|rg<|jT g1 0 acG K1 s0 Y<|mU K1 Y (Hg (S0:=Any) _ r.jV 1048576) λw2 K2=>mv Y<|oG 4 10 ((qy r.jV 1048576)&&(qy r.jr 1048576)) ?_ ?_
 ·cases hb6:qy r.jV 1048576 with
  | true=>
   refine wL g1 4 Vz K2 s0 Y<|oh Y Y Y Y afI (Hg (S0:=Any) _ r.jr 1048576) Y ?_
   rintro _ w3 ⟨rfl,h3⟩;refine ev (dH Y Y)<|jh Y h3.ext
  | false=>
   refine dN<|dN<|dN<|ev (dL Y Y)<|jh Y (pI _)
 intro w4 e4;have K4:=K2.grow e4;refine mv Y<|oG 4 15 (((qy r.jV 1048576)&&(qy r.jr 1048576))&&(qy r.lQ 64)) ?_ ?_
 ·cases Tv:((qy r.jV 1048576)&&(qy r.jr 1048576)) with
  | true=>
   have Lm:=Tv
   try simp only [bN,eH,bO,bV] at Lm
   refine wL g1 1 acH K4 s0 Y<|oh Y Y Y Y afI (Hg (S0:=Any) _ r.lQ 64) Y ?_
   rintro _ w5 ⟨rfl,h5⟩;refine ev (dH Y Y)<|jh Y h5.ext
  | false=>
   refine dN<|dN<|dN<|ev (dL Y Y)<|jh Y (pI _)
 intro w6 e6;have K6:=K4.grow e6;refine mv Y<|oG 4 20 ((((qy r.jV 1048576)&&(qy r.jr 1048576))&&(qy r.lQ 64))&&(qy r.All 64)) ?_ ?_
 ·cases Vd:(((qy r.jV 1048576)&&(qy r.jr 1048576))&&(qy r.lQ 64)) with
  | true=>
   have Qw:=Vd
   try simp only [bN,eH,bO,bV] at Qw
   refine wL g1 2 akt K6 s0 Y<|oh Y Y Y Y afI (Hg (S0:=Any) _ r.All 64) Y ?_
   rintro _ w7 ⟨rfl,h7⟩;refine ev (dH Y Y)<|jh Y h7.ext
  | false=>
   refine dN<|dN<|dN<|ev (dL Y Y)<|jh Y (pI _)
 intro w8 e8;have K8:=K6.grow e8;refine mv Y<|oG 4 25 (((((qy r.jV 1048576)&&(qy r.jr 1048576))&&(qy r.lQ 64))&&(qy r.All 64))&&(qy r.nE 8)) ?_ ?_
 ·cases Vb:((((qy r.jV 1048576)&&(qy r.jr 1048576))&&(qy r.lQ 64))&&(qy r.All 64)) with
  | true=>
   have aCA:=Vb
   try simp only [bN,eH,bO,bV] at aCA
   refine wL g1 3 QV K8 s0 Y<|oh Y Y Y Y afI (Hg (S0:=Any) _ r.nE 8) Y ?_
   rintro _ w9 ⟨rfl,h9⟩;refine ev (dH Y Y)<|jh Y h9.ext
  | false=>
   refine dN<|dN<|dN<|ev (dL Y Y)<|jh Y (pI _)
 intro Oz e10;have K10:=K8.grow e10;refine mv Y<|oG 4 30 ((((((qy r.jV 1048576)&&(qy r.jr 1048576))&&(qy r.lQ 64))&&(qy r.All 64))&&(qy r.nE 8))&&(qy r.eP 16)) ?_ ?_
 ·cases azm:(((((qy r.jV 1048576)&&(qy r.jr 1048576))&&(qy r.lQ 64))&&(qy r.All 64))&&(qy r.nE 8)) with
  | true=>
   have aCB:=azm
   try simp only [bN,eH,bO,bV] at aCB
   refine wL g1 5 aku K10 s0 Y<|oh Y Y Y Y afI (Hg (S0:=Any) _ r.eP 16) Y ?_
   rintro _ Ti ⟨rfl,h11⟩;refine ev (dH Y Y)<|jh Y h11.ext
  | false=>
   refine dN<|dN<|dN<|ev (dL Y Y)<|jh Y (pI _)
 intro Sm e12;have sJ:=K10.grow e12;refine bU Y<|jc Y ?_
 have eO:(((((((qy r.jV 1048576)&&(qy r.jr 1048576))&&(qy r.lQ 64))&&(qy r.All 64))&&(qy r.nE 8))&&(qy r.eP 16)):Bool)=(lY r):=by rfl
 exact⟨by rw [eO] <;> rfl,(sJ.rm s0)⟩
theorem afJ(w:World)(zU:Sl bG S0 w Ja Jb gZ)(aL:Int)(hn:gZ.length<=100000) :
    bS prog 234 #[.slice Ja gZ.length Jb,aF aL] w λv w'=>∃(A0:ah)(c0:Nat),v=.slice A0 ((kG gZ aL).length) c0/\Hp w S0 w' [aS dQ 3 A0 c0 (kG gZ aL)]:=by
 refine kP S0 func234 ntmps234 Y λH0=>?_;have hq:=λk=>mR (fun(o:aM)=>decide (o.aC=aL)) (gZ.take k)
 simp only [fO] at hq
 refine iZ Y<|iZ Y<|aW<|bQ Y<|ev (eU kY Y)<|mv Y<|dn<|cB ?_
 have H1:=H0.nil dQ 3;have eO:(([]:List Int):List Int)=(((gZ.take 0).filter (fun(o:aM)=>decide (o.aC=aL))).map aM.To):=by rfl
 refine lC (t:=5) Y (aR (λz=>Value.slice none (List.length z) 0) eO) ?_;have H2:=H1.nil dQ 3;have H3:=(eO▸H2:Hp w S0 w (aS dQ 3 none 0 (((gZ.take 0).filter (fun(o:aM)=>decide (o.aC=aL))).map aM.To)::[aS dQ 3 none 0 []]));refine Lp (H3.cU 0 2) (λl0 rk mJ lJ wJ=>∃(k:Nat)(A5:ah)(c5:Nat),lJ=(5,.slice A5 ((((gZ.take k).filter (fun(o:aM)=>decide (o.aC=aL))).map aM.To).length) c5)::(10,aF ((k:Nat):Int))::l0/\mJ=gZ.length - k/\k<=gZ.length/\Hp w S0 wJ (aS dQ 3 A5 c5 (((gZ.take k).filter (fun(o:aM)=>decide (o.aC=aL))).map aM.To)::rk)) ⟨0,none,0,Y,Y,fJ _,(H3.rm s1)⟩ Y ?_;rintro _ _ w1 ⟨k,A5,c5,rfl,rfl,hk,K1⟩;refine rg<|ev (fC Y Y)<|dn<|pQ Y (λIQ=>?_) (λIQ=>?_)
 ·refine jm ?_;refine aW<|cB<|rg ?_
  obtain⟨x1,bP⟩:=bC (xs:=gZ) (i:=k) aj;refine ev (cu (i:=k) kY wo Y Y Y (aJ bP) ((K1.a zU).some_ bP))<|ev (gI wu Y Y ((K1.a zU).fE bP))<|al BQ Y K1 λg1 w2 K2=>sty Y K2 s0 Y λw3 K3=>dn<|rg<|jT g1 1 sw K3 s0 Y<|mv Y<|ev (iA Y Y)<|dn<|mQ Y (λhc17=>?_) (λhc17=>?_)
  ·refine jy<|mv Y<|jT g1 5 xX K3 s0 Y<|Az (τ:=dQ) (x:=x1.To) Y (by intro _; apply pW) rfl K3 (λ_ _=>rfl) λg2 w4 K4=>ap (ys:=([x1.To]:List Int)) K4 s2 rfl rfl (K4.o s0) fB Lh (by have:=hq k; simp only [jY]; omega) av rfl λoL oM w5 K5=>iI rfl<|jA<|iE (gG ?_)
   refine jy<|ev (dO Y Y)<|mv Y<|jA ?_
   have fQ:(((((gZ.take k).filter (fun(o:aM)=>decide (o.aC=aL))).map aM.To)++([x1.To]:List Int)):List Int)=(((gZ.take (k+1)).filter (fun(o:aM)=>decide (o.aC=aL))).map aM.To):=by rw [lX bP]; simp [hc17]
   refine jq (t:=5) Y (aR (λz=>Value.slice oL (List.length z) oM) fQ) ?_;rw [fQ] at K5;exact dI ⟨(k+1),oL,oM,Y,Y,aj,(K5.cU 1 2)⟩ rfl aj
  refine xQ ?_;refine jy<|ev (dO Y Y)<|mv Y<|jA ?_
  have jW:((((gZ.take k).filter (fun(o:aM)=>decide (o.aC=aL))).map aM.To):List Int)=(((gZ.take (k+1)).filter (fun(o:aM)=>decide (o.aC=aL))).map aM.To):=by rw [lX bP]; simp [hc17]
  refine jq (t:=5) Y (aR (λz=>Value.slice A5 (List.length z) c5) jW) ?_;rw [jW] at K3;exact dI ⟨(k+1),A5,c5,Y,Y,aj,(K3.rm s0)⟩ rfl aj
 refine wE ?_;refine bQ Y<|bU Y<|jc Y ?_
 have mH:((((gZ.take k).filter (fun(o:aM)=>decide (o.aC=aL))).map aM.To):List Int)=(kG gZ aL):=by rw [iH aj]; rfl
 rw [mH] at K1;exact⟨A5,c5,by rw [mH] <;> rfl,K1⟩
theorem ana(w:World)(o:aM){axx:Nat}(aN:Int)(aCC:Bx w axx 3 [aF aN]) :
    bS prog 65 #[.agg #[aF o.Kind,aF o.aC,aF o.aB,gK o.Sum,aF o.jM,aF o.To,aF o.jS],gD axx] w λv w'=>v=.bool (UN aN o)/\Hp w S0 w' []:=by
 refine kP S0 func65 ntmps65 Y λH0=>rg<|bx Y Y H0 λg1 w1 K1=>bU Y<|rg<|jT g1 6 X8 K1 s0 Y<|ev (dx jD Y (aCC.ext K1.ext) Y)<|ev (fC Y Y)<|bU Y<|jc Y ?_
 have eO:(decide (o.jS<aN):Bool)=(UN aN o):=by rfl
 exact⟨by rw [eO] <;> rfl,(K1.rm s0)⟩
theorem LQ(w:World)(s:iF){acJ:ah}{acK:Nat}(au2:Sl iO S0 w acJ acK s.eF){acL:ah}{acM:Nat}(au3:Sl dJ S0 w acL acM s.bY){acN:ah}{acO:Nat}(au4:Sl bG S0 w acN acO s.bL)(aN:Int)(hb:s.eF.length<=100000)(hl:s.bY.length<=1000)(hd:s.bL.length<=100000) :
    bS prog 17 #[.agg #[.slice acJ s.eF.length acK,.slice acL s.bY.length acM,.slice acN s.bL.length acO],aF aN] w λv w'=>∃(vP:ah)(vQ:Nat)(zC:ah)(zD:Nat)(zF:ah)(zG:Nat),v=.agg #[.slice vP (((dS s aN).eF).length) vQ,.slice zC (((dS s aN).bY).length) zD,.slice zF (((dS s aN).bL).length) zG]/\Hp w S0 w' [aS iO 107 vP vQ ((dS s aN).eF),aS dJ 117 zC zD ((dS s aN).bY),aS bG 112 zF zG ((dS s aN).bL)]:=by
 refine kP S0 func17 ntmps17 Y λH0=>rg<|bx Y Y H0 λg1 w1 K1=>bx Y Y K1 λg2 w2 K2=>al FL Y K2 λg3 w3 K3=>dn<|rg<|jT g1 0 FM K3 s2 Y<|gX Y (Dt _ (K3.a au2).any aj) ?_
 rintro _ w4 ⟨sO,sP,rfl,h4⟩;have K4:=K3.f1 h4;refine yA g1 0 FM Y<|xP Y K4 s3 Y λw5 K5=>dn<|rg<|jT g1 1 yC K5 s0 Y<|nO K5 s3 Y<|gX Y (afm _ (K5.a au3).any aN aj) ?_
 rintro _ w6 ⟨Dm,Dp,aLW,aLX,rfl,h6⟩;have K6:=K5.f2 h6;refine mv Y<|xt Y Y<|xt Y Y<|yA g1 1 yC Y<|xP Y K6 s2 Y λw7 K7=>dn<|rg<|jT g1 2 yD K7 s0 Y<|gX Y (BH _ (K7.a au4).any aj) ?_
 rintro _ w8 ⟨EZ,E5,rfl,h8⟩;have K8:=K7.f1 h8;refine ev (rW Y)<|gX Y (Ph (kd:=[gD g2]) (K8.sel s0) aCz (λx9=>UN aN x9) (λw9 ys x9 hl9 K9=>(ana (S0:=Any) w9 x9 aN (K9.x s6)).mono (by rintro _ w8 ⟨rfl,K8⟩; exact⟨rfl,K8.ext⟩)) aj) ?_
 rintro _ w9 ⟨rfl,K9⟩;refine yA g1 2 yD Y<|xP Y K9 s1 Y λOz K10=>dn<|rg<|ev (dU Ko Y Y (K10.x s0))<|sty Y K10 s5 Y λTi tZ=>dn<|jf (qA Y ⟨_,_,Y,⟨_,Y,jL (cs:=[.slice sO s.eF.length sP,.slice Dm ((s.bY.filter (inB aN)).length) Dp,.slice EZ ((s.bL.filter λx9=>!(UN aN x9)).length) E5]) Ko Y (tZ.x s0)⟩,Y⟩ ?_)
 have eO:((⟨s.eF,s.bY.filter (inB aN),(s.bL.filter λx9=>!(UN aN x9))⟩:iF):iF)=(dS s aN):=by rfl
 have fQ:(s.eF:List fK)=((dS s aN).eF):=by rw [<- eO]
 have jW:(s.bY.filter (inB aN):List bD)=((dS s aN).bY):=by rw [<- eO]
 have mH:((s.bL.filter λx9=>!(UN aN x9)):List aM)=((dS s aN).bL):=by rw [<- eO]
 exact⟨sO,sP,Dm,Dp,EZ,E5,by rw [fQ,jW,mH] <;> rfl,by rw [<- fQ,<- jW,<- mH]; exact((((((tZ.rm s6).rm s4).cU 0 2).sel s0).sel s1).sel s2)⟩
theorem azn:bF prog 235:=ay
theorem anb(w:World)(id:Int){aqn:Nat}{aqo:ah}{aqp:Nat}{went:List Int}(azo:Bx w aqn 55 [.slice aqo went.length aqp])(azp:Sl dQ S0 w aqo aqp went) :
    bS prog 235 #[aF id,gD aqn] w λv w'=>v=.bool (went.contains id)/\Hp w S0 w' []:=by
 refine kP S0 func235 ntmps235 Y λH0=>iZ Y<|rg<|ev (dx Bf Y (azo.ext H0.ext) Y)<|mv Y<|mU H0 Y (kJ _ (H0.a azp).any id) λw1 K1=>bU Y<|jc Y ?_
 exact⟨Y,K1⟩
theorem aqr(w:World){jl:ah}{jk:Nat}(jo:Sl bJ S0 w jl jk l)(zU:Sl bG Any w Ja Jb gZ)(hn:l.length<=100000)(hd:gZ.length<=100000)(hh:∀ x∈l,x.aD.length<=100000) :
    bS prog 153 #[.slice jl l.length jk,.slice Ja gZ.length Jb] w λv w'=>∃(A0:ah)(c0:Nat),v=.slice A0 ((zq l gZ).length) c0/\Hp w S0 w' [aS bJ 59 A0 c0 (zq l gZ)]:=by
 refine kP S0 func153 ntmps153 Y λH0=>?_;have EY:=jo.bH;have aqs:=zU.bH;refine iZ Y<|bQ Y<|gX Y (vB _ (H0.a jo) aj) ?_
 rintro _ w1 ⟨j6,kg,rfl,h1⟩;have K1:=H0.c1 h1;refine bU Y<|aW<|bQ Y<|ev (eU iN Y)<|mv Y<|dn<|cB ?_
 have eO:(l:List aH)=(vg gZ l 0):=by simp [vg]
 refine lC (t:=5) Y (aR (λz=>Value.slice j6 (List.length z) kg) eO)<|lC (t:=11) Y (aR (λz=>Value.slice j6 (List.length z) kg) eO) ?_
 rw [eO] at K1;refine Lp (K1.rm s0) (λl0 rk mJ lJ wJ=>∃(k:Nat)(A5:ah)(c5:Nat),lJ=(5,.slice A5 ((vg gZ l k).length) c5)::(11,.slice A5 ((vg gZ l k).length) c5)::(13,aF ((k:Nat):Int))::l0/\mJ=l.length - k/\k<=l.length/\Hp w S0 wJ (aS bJ 59 A5 c5 (vg gZ l k)::rk)) ⟨0,j6,kg,Y,Y,fJ _,K1⟩ Y ?_;rintro _ _ w2 ⟨k,A5,c5,rfl,rfl,hk,K2⟩;have hml:=aaX gZ l k;refine rg<|ev (fC Y Y)<|dn<|pQ Y (λrM=>?_) (λrM=>?_)
 ·refine jm ?_;refine aW<|cB<|bQ Y ?_
  obtain⟨x1,bP⟩:=bC (xs:=(vg gZ l k)) (i:=k) aj;refine ev (cu (i:=k) iN o9 Y Y Y (aJ bP) ((K2.o s0).some_ bP)) ?_;obtain⟨B1,d1,zP,hi1⟩:=uP (K2.oi s0 bP);have H1:=K2.push hi1;refine ev (gI (cs:=[aF x1.ID,aF x1.aB,gK x1.Sum,.slice B1 x1.aD.length d1]) qw Y Y (GV zP))<|al lU Y H1 λg1 w3 K3=>iI Y<|sty Y K3 s0 Y λw4 K4=>dn<|bQ Y<|jT g1 0 pq K4 s0 Y<|gX Y (afJ _ (zU.ext K4.ext) x1.ID aj) ?_
  rintro _ w5 ⟨yS,yT,rfl,h5⟩;have K5:=K4.f1 h5;have axr:=(K5.o s0).bH;refine al acy Y K5 λg2 w6 K6=>xP Y K6 s0 Y λw7 K7=>dn ?_;have hhx:=hh _ (bT (aaY bP));refine jy<|mv Y<|mv Y<|jT g1 3 j5 K7 s2 Y<|gX Y (uH _ (K7.s s3).any aj) ?_
  rintro _ w8 ⟨EZ,E5,rfl,h8⟩;have K8:=K7.f1 h8;refine ev (rW Y)<|gX Y (oW (kd:=[gD g2]) (K8.sel s0) azn (λx9=>(kG gZ x1.ID).contains x9) (λw9 ys x9 hl9 K9=>(anb (S0:=Any) w9 x9 (K9.x s1) (K9.o s2)).mono (by rintro _ w8 ⟨rfl,K8⟩; exact⟨rfl,K8.ext⟩)) aj) ?_
  rintro _ w9 ⟨rfl,K9⟩;refine ev (cu (i:=k) iN o9 Y Y Y (aJ bP) ((K9.o s5).some_ bP))<|ev (dW j5 Y (fH _ _ _)) ?_
  have H2:=K9.fz s0;refine se (i:=k) (f:=3) (x:=x1) (x':={ x1 with aD:=(x1.aD.filter λx9=>!(FK gZ x1 x9)) }) (ds:=[.slice EZ ((x1.aD.filter λx9=>!(FK gZ x1 x9)).length) E5]) H2 s5 Y Y Y bP Y Ql (pU Y) Y (λ_ _ hk h=>by obtain⟨_,_,rfl,_⟩:=h; exact⟨_,_,rfl,hk (H2.s s0)⟩) λOz K10=>?_;have hl1:((vg gZ l k).set k ({ x1 with aD:=(x1.aD.filter λx9=>!(FK gZ x1 x9)) })).length=(vg gZ l k).length:=gJ ..;refine fU (t:=5) (u:=.slice A5 ((vg gZ l k).length) c5) (v:=.slice A5 (((vg gZ l k).set k ({ x1 with aD:=(x1.aD.filter λx9=>!(FK gZ x1 x9)) })).length) c5) Y (by rw [hl1])<|fU (t:=11) (u:=.slice A5 ((vg gZ l k).length) c5) (v:=.slice A5 (((vg gZ l k).set k ({ x1 with aD:=(x1.aD.filter λx9=>!(FK gZ x1 x9)) })).length) c5) rfl (by rw [hl1])<|fU (t:=22) (u:=.slice A5 ((vg gZ l k).length) c5) (v:=.slice A5 (((vg gZ l k).set k ({ x1 with aD:=(x1.aD.filter λx9=>!(FK gZ x1 x9)) })).length) c5) rfl (by rw [hl1]) ?_
  refine jA<|iE (gG ?_)
  refine jy<|ev (dO Y Y)<|mv Y<|jA ?_
  have fQ:(((vg gZ l k).set k ({ x1 with aD:=(x1.aD.filter λx9=>!(FK gZ x1 x9)) })):List aH)=(vg gZ l (k+1)):=by exact am9 bP
  refine jq (t:=5) Y (aR (λz=>Value.slice A5 (List.length z) c5) fQ)<|jq (t:=11) Y (aR (λz=>Value.slice A5 (List.length z) c5) fQ) ?_
  rw [fQ] at K10;exact dI ⟨(k+1),A5,c5,Y,Y,aj,(K10.cU 1 5)⟩ rfl aj
 refine wE ?_;refine bQ Y<|bU Y<|jc Y ?_
 have jW:((vg gZ l k):List aH)=(zq l gZ):=by have hk':k=l.length:=aj; rw [hk']; unfold vg zq; rw [Wp,List.drop_length,yN]
 rw [jW] at K2;exact⟨A5,c5,by rw [jW] <;> rfl,K2⟩
structure aY where
  Client:Int
  Seq:Int
  Answer:Int
  deriving DecidableEq
def aY.enc(x:aY):List Value:=[.int .i64 x.Client,.int .i64 x.Seq,.int .i64 x.Answer]
theorem aY.lF(x:aY):∀ u∈x.enc,u.oneCell'=true:=by
  intro u hu
  simp only [aY.enc,iX,lM,sN] at hu
  rcases hu with rfl | rfl | rfl <;> rfl
def bX:Ty aY:=Ty.flat 3 aY.enc au (λ_=>rfl) aY.lF
instance:Flat bX:=⟨λh=>h⟩
structure fV where
  Client:Int
  Seq:Int
  Kind:Int
  A:Int
  B:Int
  C:Int
  deriving DecidableEq
def fV.enc(x:fV):List Value:=[.int .i64 x.Client,.int .i64 x.Seq,.int .i64 x.Kind,.int .i64 x.A,.int .i64 x.B,.int .i64 x.C]
theorem fV.lF(x:fV):∀ u∈x.enc,u.oneCell'=true:=by
  intro u hu
  simp only [fV.enc,iX,lM,sN] at hu
  rcases hu with rfl | rfl | rfl | rfl | rfl | rfl <;> rfl
def AY:Ty fV:=Ty.flat 6 fV.enc au (λ_=>rfl) fV.lF
instance:Flat AY:=⟨λh=>h⟩
structure dF where
  aT:List aV
  aA:List aH
  aP:List aY
  deriving DecidableEq
def jX(ls:List bD)(aL:Int):List Int:=(ls.filter fun(x:bD)=>decide (x.aC=aL)).map bD.To
theorem afK(ls:List bD)(aL:Int):(jX ls aL).length<=ls.length:=by unfold jX; rw [jY]; exact mR _ _
def LU(l:List gq)(x:bD):List gq:=⟨x.To,nL l x.To+1⟩::l
def jZ(cs:List aH)(ns:List aV)(ls:List bD):List gq:=ls.foldl LU (oH cs ns)
theorem afL{cs:List aH}{ns:List aV}{k:Nat}{x:bD}(hx:ls[k]? = some x):jZ cs ns (ls.take (k+1))=LU (jZ cs ns (ls.take k)) x:=by
  unfold jZ; rw [fD hx,yU]; rfl
theorem akw{P:Int->Prop}{l:List gq}(h0:P 0)(h:∀ x∈l,P x.N)(id:Int):P (nL l id):=by
  unfold nL; split
  · rename_i x hx; exact h x (Gn hx)
  · exact h0
theorem aaZ(cs:List aH)(ns:List aV)(ls:List bD):(∀ x∈jZ cs ns ls,0<=x.N/\x.N<=cs.length+ls.length)/\(jZ cs ns ls).length<=ns.length+ls.length:=by
  have key:∀(ls:List bD)(l:List gq)(m:Nat),(∀ x∈l,0<=x.N/\x.N<=(m:Int))->(∀ x∈ls.foldl LU l,0<=x.N/\x.N<=(m:Int)+ls.length)/\(ls.foldl LU l).length=l.length+ls.length:=by
    intro ls
    induction ls with
    | nil=>intro l m h; exact⟨λx hx=>by have:=h x hx; simp; omega,av⟩
    | cons y ls ih=>
      intro l m h;have hp:0<=nL l y.To/\nL l y.To<=(m:Int):=akw (P:=λz=>0<=z/\z<=(m:Int)) ⟨yV _,aj⟩ h y.To
      have h1:=ih (LU l y) (m+1) (λx hx=>by
        rcases iX.1 hx with rfl | hx
        · simp only; omega
        · have:=h x hx; omega)
      refine⟨λx hx=>?_,?_⟩
      · have:=h1.1 x hx
        simp only [pF]; omega
      · rw [sK,h1.2]; simp only [LU,pF]; omega
  have h0:(∀ x∈oH cs ns,0<=x.N/\x.N<=(cs.length:Int))/\(oH cs ns).length<=ns.length:=by
    unfold oH; split
    · refine⟨λx hx=>?_,av⟩
      obtain⟨n,_,rfl⟩:=gQ.1 hx;have:=Xn cs n.ID
      simp only; omega
    · simp
  have h1:=key ls (oH cs ns) cs.length h0.1;exact⟨h1.1,by show(ls.foldl LU (oH cs ns)).length<=_; rw [h1.2]; omega⟩
theorem azq:u6 prog 219 2 16:=by
  obtain⟨i,h1,h2,h3,h4⟩:=tX (show(prog.info? 219).map (λi=>(i.zero,i.size,i.bytes))=some (some (.agg #[aF 0,aF 0]),2,16) by kernel_rfl);exact⟨i,_,h1,h2,h3,h4,Y,λv hv=>lI.1 (show(Value.cells (.agg #[aF 0,aF 0])).toList.all (λv=>v.oneCell')=true from Y) v hv⟩
theorem sF:eu prog 195 0 0:=ay
theorem Ew:eu prog 195 1 3:=ay
theorem jE:eu prog 45 1 1:=ay
theorem pY:eu prog 45 0 0:=ay
theorem au5:ab7 174 268 269 154 219 2 16 Tryz.f174.name:=⟨func174.trans (aR some ak),⟨_,func268,ak,ak,ak,ak⟩,OZ,iQ,ach,ak,ain,azq⟩
def OI:=@OY _ _ _ _ _ _ _ _ mX au5
theorem TS{g:Nat}{v3 v4 v7 v8 v10 v12 v15:Value}{cL:Nat} (H0:Hp b S w (dY g 195 [v0,.slice AL ls.length cL,v2,v3,v4,v5,v6,v7,v8,v9,v10,v11,v12,v13,v14,v15,v16]::aS dJ 117 AL cL ls::F))(hl:ls.length<=1000)(aL:Int) :
    bS prog 240 #[gD g,aF aL] w λv w'=>∃ A c,v=.slice A (jX ls aL).length c/\Hp b S w' (aS dQ 3 A c (jX ls aL)::dY g 195 [v0,.slice AL ls.length cL,v2,v3,v4,v5,v6,v7,v8,v9,v10,v11,v12,v13,v14,v15,v16]::aS dJ 117 AL cL ls::F):=by
 refine sV func240 ntmps240 Y ?_;have hq:=λk=>mR (fun(x:bD)=>decide (x.aC=aL)) (ls.take k)
 simp only [fO] at hq
 refine iZ Y<|iZ Y<|aW<|bQ Y<|ev (eX Y)<|yA g 0 sF Y<|jT g 1 yC H0 s0 Y<|ev (eU oI Y)<|mv Y<|dn<|cB ?_
 have H1:=H0.nil dQ 3;have eO:(([]:List Int):List Int)=(((ls.take 0).filter (fun(x:bD)=>decide (x.aC=aL))).map bD.To):=by rfl
 refine lC (t:=5) Y (aR (λz=>Value.slice none (List.length z) 0) eO) ?_;have H2:=H1.nil dQ 3;have H3:=(eO▸H2:Hp b S w (aS dQ 3 none 0 (((ls.take 0).filter (fun(x:bD)=>decide (x.aC=aL))).map bD.To)::(aS dQ 3 none 0 []::dY g 195 [v0,.slice AL ls.length cL,v2,v3,v4,v5,v6,v7,v8,v9,v10,v11,v12,v13,v14,v15,v16]::aS dJ 117 AL cL ls::F)));refine Lp (H3.cU 0 2) (λl0 rk mJ lJ wJ=>∃(k:Nat)(A5:ah)(c5:Nat),lJ=(5,.slice A5 ((((ls.take k).filter (fun(x:bD)=>decide (x.aC=aL))).map bD.To).length) c5)::(14,aF ((k:Nat):Int))::l0/\mJ=ls.length - k/\k<=ls.length/\Hp b S wJ (aS dQ 3 A5 c5 (((ls.take k).filter (fun(x:bD)=>decide (x.aC=aL))).map bD.To)::rk)) ⟨0,none,0,Y,Y,fJ _,(H3.rm s1)⟩ Y ?_;rintro _ _ w1 ⟨k,A5,c5,rfl,rfl,hk,K1⟩;refine rg<|ev (fC Y Y)<|dn<|pQ Y (λtY=>?_) (λtY=>?_)
 ·refine jm ?_;refine aW<|cB<|rg ?_
  obtain⟨x1,bP⟩:=bC (xs:=ls) (i:=k) aj;refine ev (cu (i:=k) oI Gq Y Y Y (aJ bP) ((K1.o s2).some_ bP))<|ev (gI I4 Y Y ((K1.o s2).fE bP))<|al QH Y K1 λg1 w2 K2=>sty Y K2 s0 Y λw3 K3=>dn<|rg<|jT g1 0 QG K3 s0 Y<|mv Y<|ev (iA Y Y)<|dn<|mQ Y (λhc21=>?_) (λhc21=>?_)
  ·refine jy<|mv Y<|jT g1 3 xS K3 s0 Y<|Az (τ:=dQ) (x:=x1.To) Y (by intro _; apply pW) rfl K3 (λ_ _=>rfl) λg2 w4 K4=>ap (ys:=([x1.To]:List Int)) K4 s2 rfl rfl (K4.o s0) fB Lh (by have:=hq k; simp only [jY]; omega) av rfl λoL oM w5 K5=>iI rfl<|jA<|iE (gG ?_)
   refine jy<|ev (dO Y Y)<|mv Y<|jA ?_
   have fQ:(((((ls.take k).filter (fun(x:bD)=>decide (x.aC=aL))).map bD.To)++([x1.To]:List Int)):List Int)=(((ls.take (k+1)).filter (fun(x:bD)=>decide (x.aC=aL))).map bD.To):=by rw [lX bP]; simp [hc21]
   refine jq (t:=5) Y (aR (λz=>Value.slice oL (List.length z) oM) fQ) ?_;rw [fQ] at K5;exact dI ⟨(k+1),oL,oM,Y,Y,aj,(K5.cU 1 2)⟩ rfl aj
  refine xQ ?_;refine jy<|ev (dO Y Y)<|mv Y<|jA ?_
  have jW:((((ls.take k).filter (fun(x:bD)=>decide (x.aC=aL))).map bD.To):List Int)=(((ls.take (k+1)).filter (fun(x:bD)=>decide (x.aC=aL))).map bD.To):=by rw [lX bP]; simp [hc21]
  refine jq (t:=5) Y (aR (λz=>Value.slice A5 (List.length z) c5) jW) ?_;rw [jW] at K3;exact dI ⟨(k+1),A5,c5,Y,Y,aj,(K3.rm s0)⟩ rfl aj
 refine wE ?_;refine bQ Y<|bU Y<|jc Y ?_
 have hfx:(((ls.take k).filter (fun(x:bD)=>decide (x.aC=aL))).map bD.To)=(jX ls aL):=by rw [iH aj]; rfl
 rw [hfx] at K1;exact⟨_,_,by rw [hfx] <;> rfl,K1⟩
theorem aa0{g:Nat}{v7 v8 v10 v12 v15:Value}{cL:Nat}{AN:ah}{cN:Nat}{ns:List aV}{AK:ah}{cK:Nat}{ks:List aH} (H0:Hp b S w (dY g 195 [v0,.slice AL ls.length cL,v2,.slice AN ns.length cN,.slice AK ks.length cK,v5,v6,v7,v8,v9,v10,v11,v12,v13,v14,v15,v16]::aS dJ 117 AL cL ls::dP cZ AN cN ns::dP bJ AK cK ks::F))(hl:ls.length<=1000)(hn:ns.length<=1000)(hc:ks.length<=1000) :
    bS prog 242 #[gD g] w λv w'=>∃ A c,v=.slice A (jZ ks ns ls).length c/\Hp b S w' (aS mX 219 A c (jZ ks ns ls)::dY g 195 [v0,.slice AL ls.length cL,v2,.slice AN ns.length cN,.slice AK ks.length cK,v5,v6,v7,v8,v9,v10,v11,v12,v13,v14,v15,v16]::aS dJ 117 AL cL ls::dP cZ AN cN ns::dP bJ AK cK ks::F):=by
 refine sV func242 ntmps242 Y<|iZ Y<|He H0 (λ_ K=>K) (λl0 rk lJ wJ=>∃(jR:ah)(jO:Nat),lJ=(3,.slice jR ((oH ks ns).length) jO)::l0/\Hp b S wJ (aS mX 219 jR jO (oH ks ns)::rk)) (λhns H1=>?_) ?_
 ·refine uw 0 g 3 Ew Y H1<|ng 3 4 g 4 jE s0 Y H1<|uw 5 g 3 Ew Y H1<|ng 8 9 g 3 pY s0 Y H1<|O1 10 Y<|gX Y (TB _ (H1.s s3).any (H1.s s2).any aj) ?_
  rintro _ w1 ⟨j6,kg,rfl,h1⟩;have K1:=H1.f1 h1;have Lj:=(K1.o s0).bH;have k1:=(K1.rm s0);refine aQ k1<|xI 11 Y Y k1<|Dn ⟨j6,kg,Y,K1⟩ Y
 rintro _ w2 ⟨jR,jO,rfl,K2⟩;refine aW<|bQ Y<|ev (eX Y)<|yA g 0 sF Y<|jT g 1 yC K2 s1 Y<|ev (eU oI Y)<|mv Y<|dn<|cB ?_
 have eO:(oH ks ns:List gq)=(jZ ks ns (ls.take 0)):=by rfl
 refine lC (t:=3) Y (aR (λz=>Value.slice jR (List.length z) jO) eO) ?_;rw [eO] at K2;refine pK (λmJ lJ wJ=>∃(k:Nat)(A3:ah)(c3:Nat),lJ=[(3,.slice A3 ((jZ ks ns (ls.take k)).length) c3),(21,.slice AL ls.length cL),(22,aF ((ls.length:Nat):Int)),(23,aF ((k:Nat):Int))]/\mJ=ls.length - k/\k<=ls.length/\Hp b S wJ (aS mX 219 A3 c3 (jZ ks ns (ls.take k))::dY g 195 [v0,.slice AL ls.length cL,v2,.slice AN ns.length cN,.slice AK ks.length cK,v5,v6,v7,v8,v9,v10,v11,v12,v13,v14,v15,v16]::aS dJ 117 AL cL ls::dP cZ AN cN ns::dP bJ AK cK ks::F)) ⟨0,jR,jO,Y,Y,fJ _,K2⟩ Y ?_;rintro _ _ w3 ⟨k,A3,c3,rfl,rfl,hk,K3⟩;refine rg<|ev (fC Y Y)<|dn<|pQ Y (λhc24=>?_) (λhc24=>?_)
 ·refine jm ?_;refine aW<|cB<|rg ?_
  obtain⟨x1,bP⟩:=bC (xs:=ls) (i:=k) aj;refine ev (cu (i:=k) oI Gq Y Y Y (aJ bP) ((K3.o s2).some_ bP))<|ev (gI I4 Y Y ((K3.o s2).fE bP))<|al QH Y K3 λg1 w4 K4=>sty Y K4 s0 Y λw5 K5=>dn ?_
  have hgb:=aaZ ks ns (ls.take k)
  simp only [fO] at hgb
  have hpb:0<=nL (jZ ks ns (ls.take k)) x1.To/\nL (jZ ks ns (ls.take k)) x1.To<=2000:=akw (P:=λz=>0<=z/\z<=2000) aj (λx hx=>by have:=hgb.1 x hx; omega) _;refine Hf K5 (λ_ K=>(K.rm s1)) (λl0 rk lJ wJ=>∃(ql:ah)(cj2:Nat),lJ=(3,.slice ql (((jZ ks ns (ls.take k)).take 0++[(⟨x1.To,nL (jZ ks ns (ls.take k)) x1.To+1⟩:gq)]++(jZ ks ns (ls.take k)).drop 0).length) cj2)::l0/\Hp b S wJ (aS mX 219 ql cj2 ((jZ ks ns (ls.take k)).take 0++[(⟨x1.To,nL (jZ ks ns (ls.take k)) x1.To+1⟩:gq)]++(jZ ks ns (ls.take k)).drop 0)::rk)) (λhns H2=>?_) ?_
  ·have k2:=(H2.rm s1);refine kX 0 Y Y k2<|ng 1 2 g1 3 xS s0 Y k2<|kX 3 Y Y k2<|ng 4 5 g1 3 xS s0 Y k2<|O1 6 Y<|mU H2 Y (u7 _ (H2.o s1) x1.To) λw6 K6=>?_
   have k3:=(K6.rm s1);refine aQ k3<|lD 7 Y (λ_ _=>dO Y Y) k3<|lD 8 Y (λ_ _=>iY (vs:=[(0,aF x1.To),(1,aF (nL (jZ ks ns (ls.take k)) x1.To+1))]) (cs:=[aF x1.To,aF (nL (jZ ks ns (ls.take k)) x1.To+1)]) Y (by apply IL)) k3<|O1 9 rfl<|Az (τ:=mX) (x:=(⟨x1.To,nL (jZ ks ns (ls.take k)) x1.To+1⟩:gq)) rfl (by intro _; apply Ls) rfl K6 (λ_ _=>rfl) λg2 w7 K7=>?_
   have k4:=((K7.rm s2).rm s0);refine aQ k4<|O1 10 Y<|gX Y (OI (i:=0) K7 s2 s0 aj aj) ?_
   rintro _ w8 ⟨oL,oM,rfl,K8⟩;have k5:=(K8.rm s0);refine aQ k5<|xI 11 Y Y k5<|Dn ⟨oL,oM,Y,K8⟩ Y
  rintro _ w9 ⟨ql,cj2,rfl,K9⟩;refine iE (gG ?_);refine jy<|ev (dO Y Y)<|mv Y<|jA ?_
  have fQ:(((jZ ks ns (ls.take k)).take 0++[(⟨x1.To,nL (jZ ks ns (ls.take k)) x1.To+1⟩:gq)]++(jZ ks ns (ls.take k)).drop 0):List gq)=(jZ ks ns (ls.take (k+1))):=by rw [afL bP]; rfl
  refine jq (t:=3) Y (aR (λz=>Value.slice ql (List.length z) cj2) fQ) ?_;rw [fQ] at K9;exact dI ⟨(k+1),ql,cj2,Y,Y,aj,(K9.rm s1)⟩ rfl aj
 refine wE ?_;refine bQ Y<|bU Y<|jc Y ?_
 have hfx:(jZ ks ns (ls.take k))=(jZ ks ns ls):=by rw [iH aj]
 rw [hfx] at K3;exact⟨_,_,by rw [hfx] <;> rfl,K3⟩
abbrev FP(c:aH)(fr ni u:Int):bD:=⟨c.ID,c.aB,fr,ni,u⟩
abbrev VA(c:aH)(fr ni u:Int):aM:=⟨0,c.ID,c.aB,c.Sum,fr,ni,u⟩
def Kq(ls:List bD)(dV all:Int)(c:aH)(fr ni u:Int):Bool:=decide (pO ls (FP c fr ni u) dV all=0)
def BU(ls:List bD)(dV all:Int)(c:aH)(fr ni u:Int):List bD:=if Kq ls dV all c fr ni u=true then ls++[FP c fr ni u] else ls
def Df(ls:List bD)(os:List aM)(dV all:Int)(c:aH)(fr ni u:Int):List aM:=if Kq ls dV all c fr ni u=true then os++[VA c fr ni u] else os
theorem au6{c:aH}{fr ni u:Int}(h:¬ pO ls (FP c fr ni u) dV all=0):Kq ls dV all c fr ni u=false/\BU ls dV all c fr ni u=ls/\∀ os,Df ls os dV all c fr ni u=os:=by
  have hb:Kq ls dV all c fr ni u=false:=decide_eq_false h;refine⟨hb,aK (by rw [hb]; decide),λos=>aK (by rw [hb]; decide)⟩
theorem aqt{c:aH}{fr ni u:Int}(h:pO ls (FP c fr ni u) dV all=0):Kq ls dV all c fr ni u=true/\BU ls dV all c fr ni u=ug ls (FP c fr ni u) dV all/\∀ os,Df ls os dV all c fr ni u=os++[VA c fr ni u]:=by
  have hb:Kq ls dV all c fr ni u=true:=F8 h;refine⟨hb,?_,λos=>aO hb⟩;unfold BU ug; rw [aO hb,aO h]
theorem afM:eu prog 195 3 12:=ay
theorem BX:eu prog 195 2 6:=ay
theorem KD(a0:Int)(a1:Int)(a2:Int)(a3:Int)(a4:Int):prog.built 117 [(0,aF a0),(1,aF a1),(2,aF a2),(3,aF a3),(4,aF a4)]=some #[aF a0,aF a1,aF a2,aF a3,aF a4]:=ak
theorem Hl:eu prog 195 6 15:=ay
theorem nU(a0:Int)(a1:Int)(a2:Int)(a3:Int)(a4:Int)(a5:Int)(a6:Int):prog.built 112 [(0,aF a0),(1,aF a1),(2,aF a2),(3,gK a3),(4,aF a4),(5,aF a5),(6,aF a6)]=some #[aF a0,aF a1,aF a2,gK a3,aF a4,aF a5,aF a6]:=ak
theorem gu(a0:Int)(a1:Int)(a2:Int)(a3:Int)(a4:Int)(a5:Int)(a6:Int):∀ w,(Instr.buildSlice 49 1 (List.toArray [(0,.agg #[aF a0,aF a1,aF a2,gK a3,aF a4,aF a5,aF a6])])).run prog w=.ok (.slice (some ⟨w.heap.size,0,none⟩) 1 1) (w.alloc (.cells (List.toArray [aF a0,aF a1,aF a2,gK a3,aF a4,aF a5,aF a6]) 112)):=ay
abbrev QW(iD:aH)(ji uS wV ES:Int):=([(⟨0,iD.ID,iD.aB,iD.Sum,ji,uS,wV+ES⟩:aM)]:List aM)
abbrev Du(iD:aH)(ji uS wV ES:Int):=(⟨iD.ID,iD.aB,ji,uS,wV+ES⟩:bD)
set_option maxHeartbeats 1000000 in
theorem X9{g:Nat}{v3 v4:Value}{AO Bc:ah}{cL cO dc:Nat}{os:List aM}{eZ aN:Int}(H0:Hp b S w (dY g 195 [v0,.slice AL ls.length cL,v2,v3,v4,v5,v6,aF dV,aF all,v9,aF eZ,v11,aF aN,v13,v14,.slice AO os.length cO,v16]::aS dJ 117 AL cL ls::aS bG 112 AO cO os::F))(c:aH)(fr ni:Int)(hn:ls.length<=100)(ho:os.length<=100000)(hu:-1099511627776<=aN/\aN<=4398046511104/\-1099511627776<=eZ/\eZ<=1099511627776) :
    bS prog 244 #[gD g,.agg #[aF c.ID,aF c.aB,gK c.Sum,.slice Bc c.aD.length dc],aF fr,aF ni] w λv w'=>v=.bool (Kq ls dV all c fr ni (aN+eZ))/\∃ AL' cL' AO' cO',Hp b S w' (dY g 195 [v0,.slice AL' ((BU ls dV all c fr ni (aN+eZ)).length) cL',v2,v3,v4,v5,v6,aF dV,aF all,v9,aF eZ,v11,aF aN,v13,v14,.slice AO' ((Df ls os dV all c fr ni (aN+eZ)).length) cO',v16]::aS dJ 117 AL' cL' (BU ls dV all c fr ni (aN+eZ))::aS bG 112 AO' cO' (Df ls os dV all c fr ni (aN+eZ))::F):=by
 refine sV func244 ntmps244 Y<|rg<|bx Y Y H0 λg1 w1 K1=>bU Y<|qo ak ak<|bA (bf Y) Y<|bA (eX Y) Y<|bA (dW (q:=⟨g,12,none⟩) afM Y Y) Y<|bA (dx jD Y (K1.x s1) Y) Y<|bA (bf Y) Y<|bA (eX Y) Y<|bA (dW (q:=⟨g,6,none⟩) BX Y Y) Y<|bA (dW (q:=⟨g,10,none⟩) Vz Y Y) Y<|bA (dx jD Y (K1.x s1) Y) Y<|bA (dO Y Y) Y<|bA (om Y) Y<|qp λw2 e2=>?_
 have K2:=K1.grow e2;refine He K2 (λ_ K=>K) (λl0 rk lJ wJ=>∃(jR:ah)(jO:Nat),lJ=(10,.slice jR ((ug ls (Du c fr ni aN eZ) dV all).length) jO)::(11,aF (pO ls (Du c fr ni aN eZ) dV all))::l0/\Hp b S wJ (aS dJ 117 jR jO (ug ls (Du c fr ni aN eZ) dV all)::rk)) (λhns H1=>?_) ?_
 ·refine uw 0 g 0 sF Y H1<|ng 3 4 g 1 yC s1 Y H1<|ng 5 6 g1 0 pq s0 Y H1<|ng 7 8 g1 1 tH s0 Y H1<|kX 9 Y Y H1<|kX 10 Y Y H1<|kX 11 Y Y H1<|lD 12 Y (λ_ _=>iY (vs:=[(0,aF c.ID),(1,aF c.aB),(2,aF fr),(3,aF ni),(4,aF (aN+eZ))]) (cs:=[aF c.ID,aF c.aB,aF fr,aF ni,aF (aN+eZ)]) Y (by apply KD)) H1<|uw 13 g 6 BX rfl H1<|ng 16 17 g 7 acH s1 rfl H1<|uw 18 g 6 BX rfl H1<|ng 21 22 g 8 akt s1 rfl H1<|O1 23 rfl<|gX rfl (aiJ _ (H1.o s2) (Du c fr ni aN eZ) dV all aj) ?_
  rintro _ w3 ⟨nR,nS,rfl,h3⟩;have K3:=H1.f1 h3;have k1:=(K3.rm s0);refine aQ k1<|kX 24 Y Y k1<|zL 25 Y (vs:=[.slice nR ((ug ls (Du c fr ni aN eZ) dV all).length) nS,aF (pO ls (Du c fr ni aN eZ) dV all)]) Y Y k1<|zL 26 Y (vs:=[.slice nR ((ug ls (Du c fr ni aN eZ) dV all).length) nS,aF (pO ls (Du c fr ni aN eZ) dV all)]) Y Y k1<|xI 27 Y Y k1<|xI 28 Y Y k1<|Dn ⟨nR,nS,Y,K3⟩ Y
 rintro _ w4 ⟨jR,jO,rfl,K4⟩;refine aW<|bQ Y<|ev (nQ Y Y)<|dn<|bK Y (λai0=>?_) (λai0=>?_)
 ·replace ai0:=oQ ai0;refine iZ Y<|uX Y ?_
  have H2:=(K4.cU 0 2);have hcn:=au6 (c:=c) (fr:=fr) (ni:=ni) (u:=aN+eZ) ai0;exact⟨by rw [hcn.1]; rfl,_,_,_,_,by rw [hcn.2.1,hcn.2.2 os]; exact H2⟩
 replace ai0:=oU ai0;refine jm ?_;refine bQ Y<|mv Y<|ev (eX Y)<|yA g 0 sF Y<|yA g 1 yC Y<|xP Y K4 s2 Y λw5 K5=>dn<|He K5 (λ_ K=>((K.rm s4).rm s0)) (λl0 rk lJ wJ=>∃(ql:ah)(cj2:Nat),lJ=l0/\Hp b S wJ (dY g 195 [v0,.slice jR ((ug ls (Du c fr ni aN eZ) dV all).length) jO,v2,v3,v4,v5,v6,aF dV,aF all,v9,aF eZ,v11,aF aN,v13,v14,.slice ql ((os++(QW c fr ni aN eZ)).length) cj2,v16]::aS bG 112 ql cj2 (os++(QW c fr ni aN eZ))::rk)) (λhns H3=>?_) ?_
 ·have k2:=((H3.rm s4).rm s0);refine kX 0 Y Y k2<|uw 1 g 15 Hl Y k2<|ng 5 6 g1 0 pq s1 Y k2<|ng 7 8 g1 1 tH s1 Y k2<|ng 9 10 g1 2 IE s1 Y k2<|kX 11 Y Y k2<|kX 12 Y Y k2<|kX 13 Y Y k2<|lD 14 Y (λ_ _=>iY (vs:=[(0,aF 0),(1,aF c.ID),(2,aF c.aB),(3,gK c.Sum),(4,aF fr),(5,aF ni),(6,aF (aN+eZ))]) (cs:=[aF 0,aF c.ID,aF c.aB,gK c.Sum,aF fr,aF ni,aF (aN+eZ)]) Y (by apply nU)) k2<|Jn H3 (λl0 rk lJ wJ=>∃(g2:Nat),lJ=(60,.slice AO os.length cO)::(71,.slice (some ⟨g2,0,none⟩) ((QW c fr ni aN eZ).length) 1)::l0/\Hp b S wJ (aS bG 112 (some ⟨g2,0,none⟩) 1 (QW c fr ni aN eZ)::rk)) 4 65535 ?_ λhS1=>?_
  ·rintro _ Oz ⟨g2,rfl,K10⟩;refine O1 16 Y<|ap (ys:=(QW c fr ni aN eZ)) K10 s5 Y Y (K10.o s0) kY Eu (by first | omega | (simp; omega) | (simp; done)) av rfl λVs cp2 Ti tZ=>?_
   have k7:=(tZ.cU 0 3);refine aQ k7<|SX 17 g 15 Hl Y k7<|O1 19 Y<|xP Y tZ s2 Y λSm sJ=>?_
   have k8:=(sJ.cU 0 3);refine aQ k8<|Dn ⟨Vs,cp2,Y,(sJ.rm s2)⟩ Y
  refine O2 4 15 Y Y ?_ ?_
  ·refine nO H3 s0 Y<|aQ k2<|O1 15 Y<|Az (τ:=bG) (x:=(⟨0,c.ID,c.aB,c.Sum,fr,ni,aN+eZ⟩:aM)) Y (by intro _; apply gu) rfl H3 (λ_ _=>rfl) λg4 Xu wz=>?_
   have k9:=((wz.rm s5).cU 0 2);exact Kj hS1 k9 ⟨g4,Y,wz⟩ Y
  ·refine Az (τ:=bG) (x:=(⟨0,c.ID,c.aB,c.Sum,fr,ni,aN+eZ⟩:aM)) Y (by intro _; apply gu) rfl H3 (λ_ _=>rfl) λg5 Z0 wB=>?_;have k10:=((wB.rm s5).cU 0 2);refine aQ k10<|O1 4 Y<|nO wB s1 Y<|Kj hS1 k10 ⟨g5,Y,wB⟩ Y
 rintro _ Z4 ⟨ql,cj2,rfl,zB⟩;refine iZ Y<|jc Y ?_
 have H4:=(zB.cU 3 2);have hcy:=aqt (c:=c) (fr:=fr) (ni:=ni) (u:=aN+eZ) ai0;exact⟨by rw [hcy.1]; rfl,_,_,_,_,by rw [hcy.2.1,hcy.2.2 os]; exact((H4.sel s1).mV 1 2)⟩
end Go.Proofs.YtlhnnmlenkahlaaGreat
