/- Lemmas. -/
import Derived.Test.YtlhnnmlenkahlaaGreatvG11
set_option maxRecDepth 4000
set_option linter.all false
namespace Go.Proofs.YtlhnnmlenkahlaaGreat
open Go.RowKit Go.Proofs.Tryz
def af2:=@List.set_append_right
def kR:=@underlying49
def Di:=@Int.le_refl
variable {iQ:List aM}{l:List aI}{S0 S:Nat->Prop}{u7 SL AL:ah}{b w:World}{F:List lC}{SN:Nat}{ls:List bB}{v0 v2 v5 v6 v9 v11 v13 v14 v16:Value}{dD all:Int}
structure ARules where
  ku:Int
  l5:Int
  All:Int
  qj:Int
  jy:Int
  fA:Int
  deriving DecidableEq
def ARules.enc(x:ARules):List Value:=[.int .i64 x.ku,.int .i64 x.l5,.int .i64 x.All,.int .i64 x.qj,.int .i64 x.jy,.int .i64 x.fA]
theorem ARules.kC(x:ARules):∀ u∈x.enc,u.oneCell'=true:=by
  intro u hu
  simp only [ARules.enc,iN,kY,qW] at hu
  rcases hu with rfl | rfl | rfl | rfl | rfl | rfl <;> rfl
def ARules.wf(x:ARules):Prop:=uJ x.ku/\uJ x.l5/\uJ x.All/\uJ x.qj/\uJ x.jy/\uJ x.fA
def tRules:Ty ARules:=Ty.flat 6 ARules.enc au (λ_=>rfl) ARules.kC
instance:Flat tRules:=⟨λh=>h⟩
structure iM where
  dX:List eZ
  bY:List bB
  dM:List aM
  deriving DecidableEq
def oV(n most:Int):Bool:=decide (1<=n)&&decide (n<=most)
def nM(r:ARules):Bool:=((((oV r.ku 1048576&&oV r.jy 1048576)&&oV r.l5 64)&&oV r.All 64)&&oV r.qj 8)&&oV r.fA 16
def sN(iQ:List aM)(aL:Int):List Int:=(iQ.filter fun(o:aM)=>decide (o.aB=aL)).map aM.To
def Vt(aN:Int)(o:aM):Bool:=decide (o.kG<aN)
def gY(s:iM)(aN:Int):iM:=⟨s.dX,s.bY.filter (Yh aN),s.dM.filter fun(x9:aM)=>!(Vt aN x9)⟩
def RP(iQ:List aM)(c:aI):aI:={ c with aF:=c.aF.filter fun(x9:Int)=>!((sN iQ c.ID).contains x9) }
abbrev tY(iQ:List aM)(l:List aI)(k:Nat):List aI:=(l.take k).map (RP iQ)++l.drop k
def RQ(l:List aI)(iQ:List aM):List aI:=l.map (RP iQ)
theorem Yr(iQ:List aM)(l:List aI)(k:Nat):(tY iQ l k).length=l.length:=by simp [tY]; omega
theorem Yt{k:Nat}{x:aI}(hx:(tY iQ l k)[k]? = some x):l[k]? = some x:=by
  have hk:=aJ hx;rw [Yr] at hk;rw [Nu (by simp; omega)] at hx;rw [Cc] at hx
  simp only [jN,fE] at hx
  rwa [show k+(k - min k l.length)=k by omega] at hx
abbrev D6(gJ:List aM)(iK:aI)(tF:Int):=(sN gJ iK.ID).contains tF
theorem ajK{k:Nat}{x:aI}(hx0:(tY iQ l k)[k]? = some x):(tY iQ l k).set k { x with aF:=x.aF.filter fun(x9:Int)=>!(D6 iQ x x9) }=tY iQ l (k+1):=by
  have hx:=Yt hx0;have hk:=aJ hx;have hd:l.drop k=x::l.drop (k+1):=by rw [yu hk,(mM.1 hx).2]
  have hl:((l.take k).map (RP iQ)).length=k:=by simp; omega
  show((l.take k).map (RP iQ)++l.drop k).set k (RP iQ x)=_;unfold tY;rw [fI hx,pR,hd,af2 _ _ aj,hl,Nat.sub_self]
  simp
theorem ajL(iQ:List aM)(aL:Int):(sN iQ aL).length<=iQ.length:=by unfold sN; rw [jN]; exact lX _ _
theorem amQ  : ∀ w,(Instr.buildSlice 49 0 (List.toArray [])).run prog w=.ok (.slice (some ⟨w.heap.size,0,none⟩) 0 0) (w.alloc (.cells (List.toArray []) 112)):=ay
abbrev ZR:Value:=.agg #[aD 0,aD 0,aD 0,fT 0,aD 0,aD 0,aD 0]
theorem Dj:kQ prog 112 7 56:=by
  obtain⟨i,h1,h2,h3,h4⟩:=rT (show(prog.info? 112).map (λi=>(i.zero,i.size,i.bytes))=some (some ZR,7,56) by kernel_rfl);exact⟨i,_,h1,h2,h3,h4,Y⟩
theorem amR:tT prog 112 7 56:=by
  obtain⟨i,h1,h2,h3,h4⟩:=rT (show(prog.info? 112).map (λi=>(i.zero,i.size,i.bytes))=some (some ZR,7,56) by kernel_rfl);exact⟨i,_,h1,h2,h3,h4,Y,λv hv=>mZ.1 (show(Value.cells ZR).toList.all (λv=>v.oneCell')=true from Y) v hv⟩
theorem ZT:dH prog 23 0 0:=ay
theorem acY:bI prog 94:=ay
theorem SQ:dH prog 23 4 4:=ay
theorem SS:dH prog 23 1 1:=ay
theorem ZU:dH prog 23 2 2:=ay
theorem Ov:dH prog 23 3 3:=ay
theorem ahv:dH prog 23 5 5:=ay
theorem yA:dH prog 112 5 5:=ay
theorem Vu:dH prog 112 6 6:=ay
theorem Ox:∀ w,(zeroValue 51).run prog w=.ok (.agg #[.slice none 0 0,.slice none 0 0,.slice none 0 0]) w:=ay
theorem D7:dH prog 51 0 0:=ay
theorem wS:dH prog 51 1 1:=ay
theorem ahw:kW prog 48:=ay
theorem asX:Size prog 48 1:=ay
theorem Bz:dH prog 51 2 2:=ay
theorem asY:kW prog 49:=ay
theorem ayh:bI prog 65:=ay
theorem asZ:Size prog 51 3:=ay
theorem Ij:XY prog 51 3:=⟨λ_=>by kernel_rfl,asZ⟩
theorem zI(w:World){tN:Nat}{s:List aM}(lK:Sl bF S0 w u7 tN s)(hn:s.length<=1000000) :
    bO prog 64 #[.slice u7 s.length tN] w λv w'=>∃(A0:ah)(c0:Nat),v=.slice A0 s.length c0/\Hp w S0 w' [aR bF 112 A0 c0 s]:=by
 refine j4 S0 func64 ntmps64 Y λH0=>iY Y<|aZ<|bQ Y<|ev (Lx kR Y Y)<|dn<|bR Y (λhc4=>?_) (λhc4=>?_)
 ·refine iY Y<|vG Y ?_
  have H1:=H0.nil bF 112;have d9:(([]:List aM):List aM)=s:=by have h1:=lK.nil (by simpa using hc4); have h2:=lK.cap; exact(uI aj).symm
  have H2:=(d9▸H1:Hp w S0 w (aR bF 112 none 0 s::[]));exact⟨none,0,by rw [<- d9] <;> rfl,H2⟩
 refine jh ?_;refine rg<|bs0 (τ:=bF) (vs:=[]) Y (by intro _; apply amQ) rfl H0 λg1 w1 K1=>mv rfl<|ap (ys:=s) K1 s0 rfl rfl (K1.a lK).any kR Dj av (by first | omega | (simp; omega) | (simp; done)) rfl λnY nZ w2 K2=>bS rfl<|iI rfl ?_
 have fG:((([]:List aM)++s):List aM)=s:=by simp
 rw [fG] at K2;exact⟨nY,nZ,by rw [fG] <;> rfl,K2⟩
abbrev ahx(gJ:aM):=([.agg #[aD gJ.Kind,aD gJ.aB,aD gJ.aC,fT gJ.Sum,aD gJ.jw,aD gJ.To,aD gJ.kG]]:List Value)
theorem D8(w:World){tN:Nat}{s:List aM}(lK:Sl bF S0 w u7 tN s){yS:FuncId}{yV:List Value}(IG:bI prog yS)(f:aM->Bool)(II:∀(w':World)(x:aM),Ext w w'->x∈s->bO prog yS ((ahx x)++yV).toArray w' λv w''=>v=.bool (f x)/\Ext w' w'') :
    bO prog 121 #[.slice u7 s.length tN,.func (.func yS) #[] yV.toArray] w λv w'=>v=aD (idxOf f s)/\Hp w S0 w' []:=by
 refine j4 S0 func121 ntmps121 Y λH0=>?_;have NI:=lK.bN;refine iY Y<|aZ<|bQ Y<|ev (eY kR Y)<|mv Y<|dn<|cZ<|Lp H0 (λl0 rk mJ lJ wJ=>∃(k:Nat),lJ=(8,aD ((k:Nat):Int))::l0/\mJ=s.length - k/\k<=s.length/\(∀ y∈s.take k,f y=false)/\Hp w S0 wJ rk) ⟨0,Y,Y,fK _,av,H0⟩ rfl ?_
 rintro _ _ w1 ⟨k,rfl,rfl,hk,hno,K1⟩;refine rg<|ev (fB Y Y)<|dn<|oC Y (λFQ=>?_) (λFQ=>?_)
 ·refine jh ?_;refine aZ<|cZ<|bQ Y<|bS Y<|bQ Y<|mv Y<|mv Y ?_
  obtain⟨x1,bP⟩:=bC (xs:=s) (i:=k) aj;refine ev (eU (i:=k) kR xC Y Y Y (aJ bP) ((K1.a lK).some_ bP))<|ev (fV vk Y Y ((K1.a lK).eX bP))<|wo Y Y Y IG (II _ x1 K1.ext (dA bP)) Y ?_
  rintro _ w2 ⟨rfl,e2⟩;have K2:=K1.grow e2;refine dn<|bR Y (λhc16=>?_) (λhc16=>?_)
  ·refine bQ Y<|bS Y<|je (jH (gL (gL (jH (gL (zD Y ?_))))))
   have d9:(((k:Nat):Int):Int)=(idxOf f s):=by exact(qD hno bP hc16).symm
   exact⟨by rw [d9] <;> rfl,K2⟩
  refine zF ?_;refine jr<|ev (dW Y Y)<|mv Y<|jv<|dQ ⟨(k+1),Y,Y,aj,by exact tQ (q:=λy=>f y=false) hno bP hc16,K2⟩ rfl aj
 refine wQ ?_;refine iY Y<|iI Y ?_
 have fG:((-1):Int)=(idxOf f s):=by exact(sQ (uW hno aj)).symm
 exact⟨by rw [<- fG] <;> rfl,K1⟩
theorem MN{A:ah}{c:Nat}{xs:List aM}(H0:Hp b S w (aR bF 112 A c xs::F)){fd:FuncId}{kd:List Value}(qd:bI prog fd)(p:aM->Bool)
    (hd:∀(w':World)(ys:List aM)(x:aM),ys.length=xs.length->Hp b S w' (aR bF 112 A c ys::F)->bO prog fd ((ahx x)++kd).toArray w' λv w''=>v=.bool (p x)/\Ext w' w'') (hn:xs.length<=1000000) :
    bO prog 63 #[.slice A xs.length c,.func (.func fd) #[] kd.toArray] w λv w'=>v=.slice A (xs.filter λx=>!p x).length c/\Hp b S w' (aR bF 112 A c (xs.filter λx=>!p x)::F):=by
 refine sF func63 ntmps63 Y ?_;have Uw:=(H0.o s0).bN;have hcap0:=(H0.o s0).cap;have hlt:=CB (p:=p) xs;have hge:=EU (p:=p) xs;refine iY Y<|bQ Y<|mv Y<|gW Y (D8 (S0:=Any) (yV:=kd) w ((H0.o s0)) qd p (λw' x ex _=>hd w' xs x Y (H0.grow ex))) ?_
 rintro _ w1 ⟨rfl,e1⟩;have K1:=H0.grow e1.ext;refine bS Y<|aZ<|bQ Y<|ev (iP Y Y)<|dn<|kX Y (λnQ=>?_) (λnQ=>?_)
 ·refine bQ Y<|bS Y<|vG Y ?_
  have hall:=NY (p:=p) (xs:=xs) aj;exact⟨by rw [hall]; rfl,by rw [hall]; exact K1⟩
 refine jh ?_;refine aZ ?_;obtain⟨k0,hk0,hkl⟩:∃ k0:Nat,idxOf p xs=(k0:Int)/\k0<xs.length:=⟨(idxOf p xs).toNat,aj,aj⟩;have afn:=NZ hk0;refine kP (t:=5) Y (aS (Value.int .i64) hk0)<|bQ Y<|ev (dW Y Y)<|bS Y<|cZ<|Lp (K1.rm s0) (λl0 rk mJ lJ wJ=>∃(i j:Nat)(ys:List aM),lJ=(0,.slice A ys.length c)::(5,aD ((i:Nat):Int))::(6,aD ((j:Nat):Int))::l0/\mJ=xs.length - j/\(ys.length=xs.length)/\(i<j/\j<=xs.length)/\(ys.take i=(xs.take j).filter λx=>!p x)/\(ys.drop j=xs.drop j)/\Hp b S wJ (aR bF 112 A c ys::rk)) ⟨k0,(k0+1),xs,Y,Y,by rfl,aj,by exact afn.1,by rfl,K1⟩ rfl ?_
 rintro _ _ w2 ⟨i,j,ys,rfl,rfl,hys,hij,htk,hdr,K2⟩;refine aZ<|bQ Y<|mv Y<|ev (eY kR Y)<|ev (fB Y Y)<|dn<|kX Y (λhc19=>?_) (λhc19=>?_)
 ·refine jh ?_;refine aZ<|cZ<|bQ Y<|mv Y ?_
  obtain⟨x1,bP⟩:=bC (xs:=ys) (i:=j) aj;refine ev (eU (i:=j) kR xC Y Y Y (aJ bP) ((K2.o s0).some_ bP))<|ev (fV vk Y Y ((K2.o s0).eX bP))<|al zQ Y K2 λg1 w3 K3=>sty Y K3 s0 Y λw4 K4=>dn<|bQ Y<|ev (dK vk Y Y (K4.x s0))<|wo Y Y Y qd (hd _ _ x1 (by first | exact hys | omega) (K4.rm s0)) rfl ?_
  rintro _ w5 ⟨rfl,e5⟩;have K5:=K4.grow e5;refine ev (gZ Y)<|dn<|bR Y (λhc29=>?_) (λhc29=>?_)
  ·try simp only [eO,dN,bK,dZ,eu,fC,bL,bU] at hc29
   refine bQ Y<|mv Y<|ev (dK vk Y Y (K5.x s0)) ?_
   obtain⟨x2,kK⟩:=bC (xs:=ys) (i:=i) aj;refine ev (eU (i:=i) kR xC Y Y Y (aJ kK) ((K5.o s1).some_ kK))<|se (i:=i) (f:=0) (x:=x2) (x':=x1) (ds:=[aD x1.Kind,aD x1.aB,aD x1.aC,fT x1.Sum,aD x1.jw,aD x1.To,aD x1.kG]) K5 s1 Y Y Y kK Y xC (oJ Y) Y (by rintro _ _ _ ⟨⟩; rfl) λw6 K6=>?_
   have hl1:(ys.set i x1).length=ys.length:=fQ ..;refine fJ (t:=0) (u:=.slice A ys.length c) (v:=.slice A ((ys.set i x1).length) c) Y (by rw [hl1])<|fJ (t:=17) (u:=.slice A ys.length c) (v:=.slice A ((ys.set i x1).length) c) rfl (by rw [hl1])<|fJ (t:=22) (u:=.slice A ys.length c) (v:=.slice A ((ys.set i x1).length) c) rfl (by rw [hl1])<|fJ (t:=30) (u:=.slice A ys.length c) (v:=.slice A ((ys.set i x1).length) c) rfl (by rw [hl1]) ?_
   have hx3:(ys.set i x1)[i]? = some x1:=pQ (aJ kK);refine dn<|jr<|mv Y<|ev (dW Y Y)<|iA Y<|jv<|ig (gB ?_)
   refine jr<|mv Y<|ev (dW Y Y)<|iA Y<|jv<|dQ ⟨(i+1),(j+1),(ys.set i x1),Y,Y,by first | exact hys | (rw [fQ]; exact hys),aj,by first | exact(rE hij.1 htk hdr bP (by simp [hc29])).1 | exact(rF htk hdr bP (by simp [hc29])).1,by first | exact(rE hij.1 htk hdr bP (by simp [hc29])).2 | exact(rF htk hdr bP (by simp [hc29])).2,(K6.rm s1)⟩ rfl aj
  try simp only [eO,dN,bK,dZ,eu,fC,bL,bU] at hc29
  refine zF ?_;refine jr<|mv Y<|ev (dW Y Y)<|iA Y<|jv<|dQ ⟨i,(j+1),ys,Y,Y,by first | exact hys | (rw [fQ]; exact hys),aj,by first | exact(rE hij.1 htk hdr bP (by simp [hc29])).1 | exact(rF htk hdr bP (by simp [hc29])).1,by first | exact(rE hij.1 htk hdr bP (by simp [hc29])).2 | exact(rF htk hdr bP (by simp [hc29])).2,(K5.rm s0)⟩ rfl aj
 refine wQ ?_;have hcap:ys.length<=c:=aj;have hil:(ys.take i).length=i:=by simp only [fE]; omega
 have hfin:ys.take i=xs.filter λx=>!p x:=by rw [htk,iD aj]
 refine kP (t:=5) (u:=aD ((i:Nat):Int)) (v:=aD (((ys.take i).length:Nat):Int)) Y (by rw [hil]) ?_;have H1:=K2.Uf (hi:=i) s0 aj;refine bQ Y<|mv Y<|ev (CO (lo:=(ys.take i).length) kR xC Y Y Y (by first | omega | (simp only [fE]; omega)) hcap)<|abV (τ:=bF) (m:=ys.length - (ys.take i).length) H1 s0 rfl kR amR (by simp only [fE]; omega) λw7 K7=>dn<|bQ rfl<|mv rfl<|ev (P9 (hi:=(ys.take i).length) kR xC rfl rfl rfl (by simp only [fE]; omega))<|bS rfl<|iI rfl ?_
 exact⟨by rw [<- hfin]; rfl,by rw [<- hfin]; exact K7⟩
theorem Fp(w:World)(n:Int)(most:Int) :
    bO prog 94 #[aD n,aD most] w λv w'=>v=.bool (oV n most)/\Hp w S0 w' []:=by
 refine j4 S0 func94 ntmps94 Y λH0=>iY Y<|bQ Y<|ev (pK Y Y)<|mv Y<|iG 4 11 ((decide (1<=n))&&(decide (n<=most))) ?_ ?_
 ·cases hb7:decide (1<=n) with
  | true=>
   refine bG Y (bA Y) Y<|bG Y (bA Y) Y<|bG Y (uK Y Y) Y<|ev (dY Y Y)<|dI Y
  | false=>
   refine eB<|eB<|eB<|ev (eG Y Y)<|dI Y
 refine bS Y<|iI Y ?_
 have d9:(((decide (1<=n))&&(decide (n<=most))):Bool)=(oV n most):=by rfl
 exact⟨by rw [d9] <;> rfl,H0⟩
theorem ZV(w:World)(r:ARules) :
    bO prog 38 #[.agg #[aD r.ku,aD r.l5,aD r.All,aD r.qj,aD r.jy,aD r.fA]] w λv w'=>v=.bool (nM r)/\Hp w S0 w' []:=by
 refine j4 S0 func38 ntmps38 Y λH0=>rg<|bx Y Y H0 λg1 w1 K1=>bS Y<|rg<|jD g1 0 ZT K1 s0 Y<|lF K1 Y (Fp (S0:=Any) _ r.ku 1048576) λw2 K2=>mv Y<|nA 4 10 ((oV r.ku 1048576)&&(oV r.jy 1048576)) ?_ ?_
 ·cases hb6:oV r.ku 1048576 with
  | true=>
   refine wP g1 4 SQ K2 s0 Y<|nu Y Y Y Y acY (Fp (S0:=Any) _ r.jy 1048576) Y ?_
   rintro _ w3 ⟨rfl,h3⟩;refine ev (dY Y Y)<|iH Y h3.ext
  | false=>
   refine eB<|eB<|eB<|ev (eG Y Y)<|iH Y (om _)
 intro w4 e4;have K4:=K2.grow e4;refine mv Y<|nA 4 15 (((oV r.ku 1048576)&&(oV r.jy 1048576))&&(oV r.l5 64)) ?_ ?_
 ·cases Qu:((oV r.ku 1048576)&&(oV r.jy 1048576)) with
  | true=>
   have Jg:=Qu
   try simp only [bK,dZ,bL,bU] at Jg
   refine wP g1 1 SS K4 s0 Y<|nu Y Y Y Y acY (Fp (S0:=Any) _ r.l5 64) Y ?_
   rintro _ w5 ⟨rfl,h5⟩;refine ev (dY Y Y)<|iH Y h5.ext
  | false=>
   refine eB<|eB<|eB<|ev (eG Y Y)<|iH Y (om _)
 intro w6 e6;have K6:=K4.grow e6;refine mv Y<|nA 4 20 ((((oV r.ku 1048576)&&(oV r.jy 1048576))&&(oV r.l5 64))&&(oV r.All 64)) ?_ ?_
 ·cases UN:(((oV r.ku 1048576)&&(oV r.jy 1048576))&&(oV r.l5 64)) with
  | true=>
   have NW:=UN
   try simp only [bK,dZ,bL,bU] at NW
   refine wP g1 2 ZU K6 s0 Y<|nu Y Y Y Y acY (Fp (S0:=Any) _ r.All 64) Y ?_
   rintro _ w7 ⟨rfl,h7⟩;refine ev (dY Y Y)<|iH Y h7.ext
  | false=>
   refine eB<|eB<|eB<|ev (eG Y Y)<|iH Y (om _)
 intro w8 e8;have K8:=K6.grow e8;refine mv Y<|nA 4 25 (((((oV r.ku 1048576)&&(oV r.jy 1048576))&&(oV r.l5 64))&&(oV r.All 64))&&(oV r.qj 8)) ?_ ?_
 ·cases R6:((((oV r.ku 1048576)&&(oV r.jy 1048576))&&(oV r.l5 64))&&(oV r.All 64)) with
  | true=>
   have ayi:=R6
   try simp only [bK,dZ,bL,bU] at ayi
   refine wP g1 3 Ov K8 s0 Y<|nu Y Y Y Y acY (Fp (S0:=Any) _ r.qj 8) Y ?_
   rintro _ w9 ⟨rfl,h9⟩;refine ev (dY Y Y)<|iH Y h9.ext
  | false=>
   refine eB<|eB<|eB<|ev (eG Y Y)<|iH Y (om _)
 intro Nn e10;have K10:=K8.grow e10;refine mv Y<|nA 4 30 ((((((oV r.ku 1048576)&&(oV r.jy 1048576))&&(oV r.l5 64))&&(oV r.All 64))&&(oV r.qj 8))&&(oV r.fA 16)) ?_ ?_
 ·cases aDg:(((((oV r.ku 1048576)&&(oV r.jy 1048576))&&(oV r.l5 64))&&(oV r.All 64))&&(oV r.qj 8)) with
  | true=>
   have ayj:=aDg
   try simp only [bK,dZ,bL,bU] at ayj
   refine wP g1 5 ahv K10 s0 Y<|nu Y Y Y Y acY (Fp (S0:=Any) _ r.fA 16) Y ?_
   rintro _ RG ⟨rfl,h11⟩;refine ev (dY Y Y)<|iH Y h11.ext
  | false=>
   refine eB<|eB<|eB<|ev (eG Y Y)<|iH Y (om _)
 intro Qp e12;have rW:=K10.grow e12;refine bS Y<|iI Y ?_
 have d9:(((((((oV r.ku 1048576)&&(oV r.jy 1048576))&&(oV r.l5 64))&&(oV r.All 64))&&(oV r.qj 8))&&(oV r.fA 16)):Bool)=(nM r):=by rfl
 exact⟨by rw [d9] <;> rfl,(rW.rm s0)⟩
theorem acZ(w:World)(Oy:Sl bF S0 w SL SN iQ)(aL:Int)(hn:iQ.length<=100000) :
    bO prog 234 #[.slice SL iQ.length SN,aD aL] w λv w'=>∃(A0:ah)(c0:Nat),v=.slice A0 ((sN iQ aL).length) c0/\Hp w S0 w' [aR dL 3 A0 c0 (sN iQ aL)]:=by
 refine j4 S0 func234 ntmps234 Y λH0=>?_;have hq:=λk=>lX (fun(o:aM)=>decide (o.aB=aL)) (iQ.take k)
 simp only [fE] at hq
 refine iY Y<|iY Y<|aZ<|bQ Y<|ev (eY kR Y)<|mv Y<|dn<|cZ ?_
 have H1:=H0.nil dL 3;have d9:(([]:List Int):List Int)=(((iQ.take 0).filter (fun(o:aM)=>decide (o.aB=aL))).map aM.To):=by rfl
 refine kP (t:=5) Y (aS (λz=>Value.slice none (List.length z) 0) d9) ?_;have H2:=H1.nil dL 3;have H3:=(d9▸H2:Hp w S0 w (aR dL 3 none 0 (((iQ.take 0).filter (fun(o:aM)=>decide (o.aB=aL))).map aM.To)::[aR dL 3 none 0 []]));refine Lp (H3.cU 0 2) (λl0 rk mJ lJ wJ=>∃(k:Nat)(A5:ah)(c5:Nat),lJ=(5,.slice A5 ((((iQ.take k).filter (fun(o:aM)=>decide (o.aB=aL))).map aM.To).length) c5)::(10,aD ((k:Nat):Int))::l0/\mJ=iQ.length - k/\k<=iQ.length/\Hp w S0 wJ (aR dL 3 A5 c5 (((iQ.take k).filter (fun(o:aM)=>decide (o.aB=aL))).map aM.To)::rk)) ⟨0,none,0,Y,Y,fK _,(H3.rm s1)⟩ Y ?_;rintro _ _ w1 ⟨k,A5,c5,rfl,rfl,hk,K1⟩;refine rg<|ev (fB Y Y)<|dn<|oC Y (λGj=>?_) (λGj=>?_)
 ·refine jh ?_;refine aZ<|cZ<|rg ?_
  obtain⟨x1,bP⟩:=bC (xs:=iQ) (i:=k) aj;refine ev (eU (i:=k) kR xC Y Y Y (aJ bP) ((K1.a Oy).some_ bP))<|ev (fV vk Y Y ((K1.a Oy).eX bP))<|al zQ Y K1 λg1 w2 K2=>sty Y K2 s0 Y λw3 K3=>dn<|rg<|jD g1 1 rY K3 s0 Y<|mv Y<|ev (iP Y Y)<|dn<|kX Y (λhc17=>?_) (λhc17=>?_)
  ·refine jr<|mv Y<|jD g1 5 yA K3 s0 Y<|yU (τ:=dL) (x:=x1.To) Y (by intro _; apply pE) rfl K3 (λ_ _=>rfl) λg2 w4 K4=>ap (ys:=([x1.To]:List Int)) K4 s2 rfl rfl (K4.o s0) fq KY (by have:=hq k; simp only [jN]; omega) av rfl λnY nZ w5 K5=>iA rfl<|jv<|ig (gB ?_)
   refine jr<|ev (dW Y Y)<|mv Y<|jv ?_
   have fG:(((((iQ.take k).filter (fun(o:aM)=>decide (o.aB=aL))).map aM.To)++([x1.To]:List Int)):List Int)=(((iQ.take (k+1)).filter (fun(o:aM)=>decide (o.aB=aL))).map aM.To):=by rw [mP bP]; simp [hc17]
   refine ji (t:=5) Y (aS (λz=>Value.slice nY (List.length z) nZ) fG) ?_;rw [fG] at K5;exact dQ ⟨(k+1),nY,nZ,Y,Y,aj,(K5.cU 1 2)⟩ rfl aj
  refine zF ?_;refine jr<|ev (dW Y Y)<|mv Y<|jv ?_
  have jQ:((((iQ.take k).filter (fun(o:aM)=>decide (o.aB=aL))).map aM.To):List Int)=(((iQ.take (k+1)).filter (fun(o:aM)=>decide (o.aB=aL))).map aM.To):=by rw [mP bP]; simp [hc17]
  refine ji (t:=5) Y (aS (λz=>Value.slice A5 (List.length z) c5) jQ) ?_;rw [jQ] at K3;exact dQ ⟨(k+1),A5,c5,Y,Y,aj,(K3.rm s0)⟩ rfl aj
 refine wQ ?_;refine bQ Y<|bS Y<|iI Y ?_
 have lV:((((iQ.take k).filter (fun(o:aM)=>decide (o.aB=aL))).map aM.To):List Int)=(sN iQ aL):=by rw [iD aj]; rfl
 rw [lV] at K1;exact⟨A5,c5,by rw [lV] <;> rfl,K1⟩
theorem ajM(w:World)(o:aM){as0:Nat}(aN:Int)(ayk:Bx w as0 3 [aD aN]) :
    bO prog 65 #[.agg #[aD o.Kind,aD o.aB,aD o.aC,fT o.Sum,aD o.jw,aD o.To,aD o.kG],fP as0] w λv w'=>v=.bool (Vt aN o)/\Hp w S0 w' []:=by
 refine j4 S0 func65 ntmps65 Y λH0=>rg<|bx Y Y H0 λg1 w1 K1=>bS Y<|rg<|jD g1 6 Vu K1 s0 Y<|ev (cu jG Y (ayk.ext K1.ext) Y)<|ev (fB Y Y)<|bS Y<|iI Y ?_
 have d9:(decide (o.kG<aN):Bool)=(Vt aN o):=by rfl
 exact⟨by rw [d9] <;> rfl,(K1.rm s0)⟩
theorem ac0(w:World)(s:iM){ZW:ah}{ZX:Nat}(aqC:Sl iL S0 w ZW ZX s.dX){ZY:ah}{Z0:Nat}(aqD:Sl dB S0 w ZY Z0 s.bY){Z4:ah}{Z5:Nat}(aqE:Sl bF S0 w Z4 Z5 s.dM)(aN:Int)(hb:s.dX.length<=100000)(hl:s.bY.length<=1000)(hd:s.dM.length<=100000) :
    bO prog 17 #[.agg #[.slice ZW s.dX.length ZX,.slice ZY s.bY.length Z0,.slice Z4 s.dM.length Z5],aD aN] w λv w'=>∃(uP:ah)(uQ:Nat)(xU:ah)(xV:Nat)(xW:ah)(xX:Nat),v=.agg #[.slice uP (((gY s aN).dX).length) uQ,.slice xU (((gY s aN).bY).length) xV,.slice xW (((gY s aN).dM).length) xX]/\Hp w S0 w' [aR iL 107 uP uQ ((gY s aN).dX),aR dB 117 xU xV ((gY s aN).bY),aR bF 112 xW xX ((gY s aN).dM)]:=by
 refine j4 S0 func17 ntmps17 Y λH0=>rg<|bx Y Y H0 λg1 w1 K1=>bx Y Y K1 λg2 w2 K2=>al Ox Y K2 λg3 w3 K3=>dn<|rg<|jD g1 0 D7 K3 s2 Y<|gW Y (Bw _ (K3.a aqC).any aj) ?_
 rintro _ w4 ⟨qY,qZ,rfl,h4⟩;have K4:=K3.f1 h4;refine wC g1 0 D7 Y<|wD Y K4 s3 Y λw5 K5=>dn<|rg<|jD g1 1 wS K5 s0 Y<|mK K5 s3 Y<|gW Y (acC _ (K5.a aqD).any aN aj) ?_
 rintro _ w6 ⟨CU,CV,aHq,aHr,rfl,h6⟩;have K6:=K5.f2 h6;refine mv Y<|xt Y Y<|xt Y Y<|wC g1 1 wS Y<|wD Y K6 s2 Y λw7 K7=>dn<|rg<|jD g1 2 Bz K7 s0 Y<|gW Y (zI _ (K7.a aqE).any aj) ?_
 rintro _ w8 ⟨E8,E9,rfl,h8⟩;have K8:=K7.f1 h8;refine ev (qC Y)<|gW Y (MN (kd:=[fP g2]) (K8.sel s0) ayh (λx9=>Vt aN x9) (λw9 ys x9 hl9 K9=>(ajM (S0:=Any) w9 x9 aN (K9.x s6)).mono (by rintro _ w8 ⟨rfl,K8⟩; exact⟨rfl,K8.ext⟩)) aj) ?_
 rintro _ w9 ⟨rfl,K9⟩;refine wC g1 2 Bz Y<|wD Y K9 s1 Y λNn K10=>dn<|rg<|ev (dK Ij Y Y (K10.x s0))<|sty Y K10 s5 Y λRG tO=>dn<|je (oW Y ⟨_,_,Y,⟨_,Y,jm (cs:=[.slice qY s.dX.length qZ,.slice CU ((s.bY.filter (Yh aN)).length) CV,.slice E8 ((s.dM.filter λx9=>!(Vt aN x9)).length) E9]) Ij Y (tO.x s0)⟩,Y⟩ ?_)
 have d9:((⟨s.dX,s.bY.filter (Yh aN),(s.dM.filter λx9=>!(Vt aN x9))⟩:iM):iM)=(gY s aN):=by rfl
 have fG:(s.dX:List eZ)=((gY s aN).dX):=by rw [<- d9]
 have jQ:(s.bY.filter (Yh aN):List bB)=((gY s aN).bY):=by rw [<- d9]
 have lV:((s.dM.filter λx9=>!(Vt aN x9)):List aM)=((gY s aN).dM):=by rw [<- d9]
 exact⟨qY,qZ,CU,CV,E8,E9,by rw [fG,jQ,lV] <;> rfl,by rw [<- fG,<- jQ,<- lV]; exact((((((tO.rm s6).rm s4).cU 0 2).sel s0).sel s1).sel s2)⟩
theorem auY:bI prog 235:=ay
theorem ajN(w:World)(id:Int){amS:Nat}{amT:ah}{amU:Nat}{went:List Int}(auZ:Bx w amS 55 [.slice amT went.length amU])(au0:Sl dL S0 w amT amU went) :
    bO prog 235 #[aD id,fP amS] w λv w'=>v=.bool (went.contains id)/\Hp w S0 w' []:=by
 refine j4 S0 func235 ntmps235 Y λH0=>iY Y<|rg<|ev (cu CQ Y (auZ.ext H0.ext) Y)<|mv Y<|lF H0 Y (jT _ (H0.a au0).any id) λw1 K1=>bS Y<|iI Y ?_
 exact⟨Y,K1⟩
theorem amV(w:World){jl:ah}{jg:Nat}(iR:Sl bH S0 w jl jg l)(Oy:Sl bF Any w SL SN iQ)(hn:l.length<=100000)(hd:iQ.length<=100000)(hh:∀ x∈l,x.aF.length<=100000) :
    bO prog 153 #[.slice jl l.length jg,.slice SL iQ.length SN] w λv w'=>∃(A0:ah)(c0:Nat),v=.slice A0 ((RQ l iQ).length) c0/\Hp w S0 w' [aR bH 59 A0 c0 (RQ l iQ)]:=by
 refine j4 S0 func153 ntmps153 Y λH0=>?_;have EG:=iR.bN;have ayl:=Oy.bN;refine iY Y<|bQ Y<|gW Y (uw _ (H0.a iR) aj) ?_
 rintro _ w1 ⟨jK,jL,rfl,h1⟩;have K1:=H0.c1 h1;refine bS Y<|aZ<|bQ Y<|ev (eY jf Y)<|mv Y<|dn<|cZ ?_
 have d9:(l:List aI)=(tY iQ l 0):=by simp [tY]
 refine kP (t:=5) Y (aS (λz=>Value.slice jK (List.length z) jL) d9)<|kP (t:=11) Y (aS (λz=>Value.slice jK (List.length z) jL) d9) ?_
 rw [d9] at K1;refine Lp (K1.rm s0) (λl0 rk mJ lJ wJ=>∃(k:Nat)(A5:ah)(c5:Nat),lJ=(5,.slice A5 ((tY iQ l k).length) c5)::(11,.slice A5 ((tY iQ l k).length) c5)::(13,aD ((k:Nat):Int))::l0/\mJ=l.length - k/\k<=l.length/\Hp w S0 wJ (aR bH 59 A5 c5 (tY iQ l k)::rk)) ⟨0,jK,jL,Y,Y,fK _,K1⟩ Y ?_;rintro _ _ w2 ⟨k,A5,c5,rfl,rfl,hk,K2⟩;have hml:=Yr iQ l k;refine rg<|ev (fB Y Y)<|dn<|oC Y (λtC=>?_) (λtC=>?_)
 ·refine jh ?_;refine aZ<|cZ<|bQ Y ?_
  obtain⟨x1,bP⟩:=bC (xs:=(tY iQ l k)) (i:=k) aj;refine ev (eU (i:=k) jf qG Y Y Y (aJ bP) ((K2.o s0).some_ bP)) ?_;obtain⟨B1,d1,Ak,hi1⟩:=Aj (K2.oi s0 bP);have H1:=K2.push hi1;refine ev (fV (cs:=[aD x1.ID,aD x1.aC,fT x1.Sum,.slice B1 x1.aF.length d1]) pU Y Y (Ib Ak))<|al kZ Y H1 λg1 w3 K3=>iA Y<|sty Y K3 s0 Y λw4 K4=>dn<|bQ Y<|jD g1 0 qH K4 s0 Y<|gW Y (acZ _ (Oy.ext K4.ext) x1.ID aj) ?_
  rintro _ w5 ⟨xA,xB,rfl,h5⟩;have K5:=K4.f1 h5;have ax7:=(K5.o s0).bN;refine al ZJ Y K5 λg2 w6 K6=>wD Y K6 s0 Y λw7 K7=>dn ?_;have hhx:=hh _ (dA (Yt bP));refine jr<|mv Y<|mv Y<|jD g1 3 kD K7 s2 Y<|gW Y (sM _ (K7.s s3).any aj) ?_
  rintro _ w8 ⟨E8,E9,rfl,h8⟩;have K8:=K7.f1 h8;refine ev (qC Y)<|gW Y (nV (kd:=[fP g2]) (K8.sel s0) auY (λx9=>(sN iQ x1.ID).contains x9) (λw9 ys x9 hl9 K9=>(ajN (S0:=Any) w9 x9 (K9.x s1) (K9.o s2)).mono (by rintro _ w8 ⟨rfl,K8⟩; exact⟨rfl,K8.ext⟩)) aj) ?_
  rintro _ w9 ⟨rfl,K9⟩;refine ev (eU (i:=k) jf qG Y Y Y (aJ bP) ((K9.o s5).some_ bP))<|ev (eF kD Y (gI _ _ _)) ?_
  have H2:=K9.fz s0;refine se (i:=k) (f:=3) (x:=x1) (x':={ x1 with aF:=(x1.aF.filter λx9=>!(D6 iQ x1 x9)) }) (ds:=[.slice E8 ((x1.aF.filter λx9=>!(D6 iQ x1 x9)).length) E9]) H2 s5 Y Y Y bP Y NH (oJ Y) Y (λ_ _ hk h=>by obtain⟨_,_,rfl,_⟩:=h; exact⟨_,_,rfl,hk (H2.s s0)⟩) λNn K10=>?_;have hl1:((tY iQ l k).set k ({ x1 with aF:=(x1.aF.filter λx9=>!(D6 iQ x1 x9)) })).length=(tY iQ l k).length:=fQ ..;refine fJ (t:=5) (u:=.slice A5 ((tY iQ l k).length) c5) (v:=.slice A5 (((tY iQ l k).set k ({ x1 with aF:=(x1.aF.filter λx9=>!(D6 iQ x1 x9)) })).length) c5) Y (by rw [hl1])<|fJ (t:=11) (u:=.slice A5 ((tY iQ l k).length) c5) (v:=.slice A5 (((tY iQ l k).set k ({ x1 with aF:=(x1.aF.filter λx9=>!(D6 iQ x1 x9)) })).length) c5) rfl (by rw [hl1])<|fJ (t:=22) (u:=.slice A5 ((tY iQ l k).length) c5) (v:=.slice A5 (((tY iQ l k).set k ({ x1 with aF:=(x1.aF.filter λx9=>!(D6 iQ x1 x9)) })).length) c5) rfl (by rw [hl1]) ?_
  refine jv<|ig (gB ?_)
  refine jr<|ev (dW Y Y)<|mv Y<|jv ?_
  have fG:(((tY iQ l k).set k ({ x1 with aF:=(x1.aF.filter λx9=>!(D6 iQ x1 x9)) })):List aI)=(tY iQ l (k+1)):=by exact ajK bP
  refine ji (t:=5) Y (aS (λz=>Value.slice A5 (List.length z) c5) fG)<|ji (t:=11) Y (aS (λz=>Value.slice A5 (List.length z) c5) fG) ?_
  rw [fG] at K10;exact dQ ⟨(k+1),A5,c5,Y,Y,aj,(K10.cU 1 5)⟩ rfl aj
 refine wQ ?_;refine bQ Y<|bS Y<|iI Y ?_
 have jQ:((tY iQ l k):List aI)=(RQ l iQ):=by have hk':k=l.length:=aj; rw [hk']; unfold tY RQ; rw [Y7,List.drop_length,Ad]
 rw [jQ] at K2;exact⟨A5,c5,by rw [jQ] <;> rfl,K2⟩
structure aU where
  Client:Int
  Seq:Int
  Answer:Int
  deriving DecidableEq
def aU.enc(x:aU):List Value:=[.int .i64 x.Client,.int .i64 x.Seq,.int .i64 x.Answer]
theorem aU.kC(x:aU):∀ u∈x.enc,u.oneCell'=true:=by
  intro u hu
  simp only [aU.enc,iN,kY,qW] at hu
  rcases hu with rfl | rfl | rfl <;> rfl
def bZ:Ty aU:=Ty.flat 3 aU.enc au (λ_=>rfl) aU.kC
instance:Flat bZ:=⟨λh=>h⟩
structure gD where
  Client:Int
  Seq:Int
  Kind:Int
  A:Int
  B:Int
  C:Int
  deriving DecidableEq
def gD.enc(x:gD):List Value:=[.int .i64 x.Client,.int .i64 x.Seq,.int .i64 x.Kind,.int .i64 x.A,.int .i64 x.B,.int .i64 x.C]
theorem gD.kC(x:gD):∀ u∈x.enc,u.oneCell'=true:=by
  intro u hu
  simp only [gD.enc,iN,kY,qW] at hu
  rcases hu with rfl | rfl | rfl | rfl | rfl | rfl <;> rfl
def yY:Ty gD:=Ty.flat 6 gD.enc au (λ_=>rfl) gD.kC
instance:Flat yY:=⟨λh=>h⟩
structure dU where
  aY:List aW
  aA:List aI
  aQ:List aU
  deriving DecidableEq
def jM(ls:List bB)(aL:Int):List Int:=(ls.filter fun(x:bB)=>decide (x.aB=aL)).map bB.To
theorem ac1(ls:List bB)(aL:Int):(jM ls aL).length<=ls.length:=by unfold jM; rw [jN]; exact lX _ _
def Vv(l:List gq)(x:bB):List gq:=⟨x.To,nK l x.To+1⟩::l
def jS(cs:List aI)(ns:List aW)(ls:List bB):List gq:=ls.foldl Vv (oN cs ns)
theorem ac2{cs:List aI}{ns:List aW}{k:Nat}{x:bB}(hx:ls[k]? = some x):jS cs ns (ls.take (k+1))=Vv (jS cs ns (ls.take k)) x:=by
  unfold jS; rw [fI hx,xD]; rfl
theorem ahy{P:Int->Prop}{l:List gq}(h0:P 0)(h:∀ x∈l,P x.N)(id:Int):P (nK l id):=by
  unfold nK; split
  · rename_i x hx; exact h x (QA hx)
  · exact h0
theorem Yu(cs:List aI)(ns:List aW)(ls:List bB):(∀ x∈jS cs ns ls,0<=x.N/\x.N<=cs.length+ls.length)/\(jS cs ns ls).length<=ns.length+ls.length:=by
  have key:∀(ls:List bB)(l:List gq)(m:Nat),(∀ x∈l,0<=x.N/\x.N<=(m:Int))->(∀ x∈ls.foldl Vv l,0<=x.N/\x.N<=(m:Int)+ls.length)/\(ls.foldl Vv l).length=l.length+ls.length:=by
    intro ls
    induction ls with
    | nil=>intro l m h; exact⟨λx hx=>by have:=h x hx; simp; omega,av⟩
    | cons y ls ih=>
      intro l m h;have hp:0<=nK l y.To/\nK l y.To<=(m:Int):=ahy (P:=λz=>0<=z/\z<=(m:Int)) ⟨Di _,aj⟩ h y.To
      have h1:=ih (Vv l y) (m+1) (λx hx=>by
        rcases iN.1 hx with rfl | hx
        · simp only; omega
        · have:=h x hx; omega)
      refine⟨λx hx=>?_,?_⟩
      · have:=h1.1 x hx
        simp only [oI]; omega
      · rw [Ae,h1.2]; simp only [Vv,oI]; omega
  have h0:(∀ x∈oN cs ns,0<=x.N/\x.N<=(cs.length:Int))/\(oN cs ns).length<=ns.length:=by
    unfold oN; split
    · refine⟨λx hx=>?_,av⟩
      obtain⟨n,_,rfl⟩:=jI.1 hx;have:=UR cs n.ID
      simp only; omega
    · simp
  have h1:=key ls (oN cs ns) cs.length h0.1;exact⟨h1.1,by show(ls.foldl Vv (oN cs ns)).length<=_; rw [h1.2]; omega⟩
theorem au1:tT prog 219 2 16:=by
  obtain⟨i,h1,h2,h3,h4⟩:=rT (show(prog.info? 219).map (λi=>(i.zero,i.size,i.bytes))=some (some (.agg #[aD 0,aD 0]),2,16) by kernel_rfl);exact⟨i,_,h1,h2,h3,h4,Y,λv hv=>mZ.1 (show(Value.cells (.agg #[aD 0,aD 0])).toList.all (λv=>v.oneCell')=true from Y) v hv⟩
theorem qM:dH prog 195 0 0:=ay
theorem Dk:dH prog 195 1 3:=ay
theorem kE:dH prog 45 1 1:=ay
theorem nD:dH prog 45 0 0:=ay
theorem aqF:Zo 174 268 269 154 219 2 16 Tryz.f174.name:=⟨func174.trans (aS some ak),⟨_,func268,ak,ak,ak,ak⟩,MF,iw,Zw,ak,afm,au1⟩
def LV:=@MB _ _ _ _ _ _ _ _ lU aqF
theorem QS{g:Nat}{v3 v4 v7 v8 v10 v12 v15:Value}{cL:Nat} (H0:Hp b S w (dJ g 195 [v0,.slice AL ls.length cL,v2,v3,v4,v5,v6,v7,v8,v9,v10,v11,v12,v13,v14,v15,v16]::aR dB 117 AL cL ls::F))(hl:ls.length<=1000)(aL:Int) :
    bO prog 240 #[fP g,aD aL] w λv w'=>∃ A c,v=.slice A (jM ls aL).length c/\Hp b S w' (aR dL 3 A c (jM ls aL)::dJ g 195 [v0,.slice AL ls.length cL,v2,v3,v4,v5,v6,v7,v8,v9,v10,v11,v12,v13,v14,v15,v16]::aR dB 117 AL cL ls::F):=by
 refine sF func240 ntmps240 Y ?_;have hq:=λk=>lX (fun(x:bB)=>decide (x.aB=aL)) (ls.take k)
 simp only [fE] at hq
 refine iY Y<|iY Y<|aZ<|bQ Y<|ev (dS Y)<|wC g 0 qM Y<|jD g 1 wS H0 s0 Y<|ev (eY mG Y)<|mv Y<|dn<|cZ ?_
 have H1:=H0.nil dL 3;have d9:(([]:List Int):List Int)=(((ls.take 0).filter (fun(x:bB)=>decide (x.aB=aL))).map bB.To):=by rfl
 refine kP (t:=5) Y (aS (λz=>Value.slice none (List.length z) 0) d9) ?_;have H2:=H1.nil dL 3;have H3:=(d9▸H2:Hp b S w (aR dL 3 none 0 (((ls.take 0).filter (fun(x:bB)=>decide (x.aB=aL))).map bB.To)::(aR dL 3 none 0 []::dJ g 195 [v0,.slice AL ls.length cL,v2,v3,v4,v5,v6,v7,v8,v9,v10,v11,v12,v13,v14,v15,v16]::aR dB 117 AL cL ls::F)));refine Lp (H3.cU 0 2) (λl0 rk mJ lJ wJ=>∃(k:Nat)(A5:ah)(c5:Nat),lJ=(5,.slice A5 ((((ls.take k).filter (fun(x:bB)=>decide (x.aB=aL))).map bB.To).length) c5)::(14,aD ((k:Nat):Int))::l0/\mJ=ls.length - k/\k<=ls.length/\Hp b S wJ (aR dL 3 A5 c5 (((ls.take k).filter (fun(x:bB)=>decide (x.aB=aL))).map bB.To)::rk)) ⟨0,none,0,Y,Y,fK _,(H3.rm s1)⟩ Y ?_;rintro _ _ w1 ⟨k,A5,c5,rfl,rfl,hk,K1⟩;refine rg<|ev (fB Y Y)<|dn<|oC Y (λrU=>?_) (λrU=>?_)
 ·refine jh ?_;refine aZ<|cZ<|rg ?_
  obtain⟨x1,bP⟩:=bC (xs:=ls) (i:=k) aj;refine ev (eU (i:=k) mG Db Y Y Y (aJ bP) ((K1.o s2).some_ bP))<|ev (fV Dc Y Y ((K1.o s2).eX bP))<|al Jq Y K1 λg1 w2 K2=>sty Y K2 s0 Y λw3 K3=>dn<|rg<|jD g1 0 Jp K3 s0 Y<|mv Y<|ev (iP Y Y)<|dn<|kX Y (λhc21=>?_) (λhc21=>?_)
  ·refine jr<|mv Y<|jD g1 3 tX K3 s0 Y<|yU (τ:=dL) (x:=x1.To) Y (by intro _; apply pE) rfl K3 (λ_ _=>rfl) λg2 w4 K4=>ap (ys:=([x1.To]:List Int)) K4 s2 rfl rfl (K4.o s0) fq KY (by have:=hq k; simp only [jN]; omega) av rfl λnY nZ w5 K5=>iA rfl<|jv<|ig (gB ?_)
   refine jr<|ev (dW Y Y)<|mv Y<|jv ?_
   have fG:(((((ls.take k).filter (fun(x:bB)=>decide (x.aB=aL))).map bB.To)++([x1.To]:List Int)):List Int)=(((ls.take (k+1)).filter (fun(x:bB)=>decide (x.aB=aL))).map bB.To):=by rw [mP bP]; simp [hc21]
   refine ji (t:=5) Y (aS (λz=>Value.slice nY (List.length z) nZ) fG) ?_;rw [fG] at K5;exact dQ ⟨(k+1),nY,nZ,Y,Y,aj,(K5.cU 1 2)⟩ rfl aj
  refine zF ?_;refine jr<|ev (dW Y Y)<|mv Y<|jv ?_
  have jQ:((((ls.take k).filter (fun(x:bB)=>decide (x.aB=aL))).map bB.To):List Int)=(((ls.take (k+1)).filter (fun(x:bB)=>decide (x.aB=aL))).map bB.To):=by rw [mP bP]; simp [hc21]
  refine ji (t:=5) Y (aS (λz=>Value.slice A5 (List.length z) c5) jQ) ?_;rw [jQ] at K3;exact dQ ⟨(k+1),A5,c5,Y,Y,aj,(K3.rm s0)⟩ rfl aj
 refine wQ ?_;refine bQ Y<|bS Y<|iI Y ?_
 have hfx:(((ls.take k).filter (fun(x:bB)=>decide (x.aB=aL))).map bB.To)=(jM ls aL):=by rw [iD aj]; rfl
 rw [hfx] at K1;exact⟨_,_,by rw [hfx] <;> rfl,K1⟩
theorem Yv{g:Nat}{v7 v8 v10 v12 v15:Value}{cL:Nat}{AN:ah}{cN:Nat}{ns:List aW}{AK:ah}{cK:Nat}{ks:List aI} (H0:Hp b S w (dJ g 195 [v0,.slice AL ls.length cL,v2,.slice AN ns.length cN,.slice AK ks.length cK,v5,v6,v7,v8,v9,v10,v11,v12,v13,v14,v15,v16]::aR dB 117 AL cL ls::dP bX AN cN ns::dP bH AK cK ks::F))(hl:ls.length<=1000)(hn:ns.length<=1000)(hc:ks.length<=1000) :
    bO prog 242 #[fP g] w λv w'=>∃ A c,v=.slice A (jS ks ns ls).length c/\Hp b S w' (aR lU 219 A c (jS ks ns ls)::dJ g 195 [v0,.slice AL ls.length cL,v2,.slice AN ns.length cN,.slice AK ks.length cK,v5,v6,v7,v8,v9,v10,v11,v12,v13,v14,v15,v16]::aR dB 117 AL cL ls::dP bX AN cN ns::dP bH AK cK ks::F):=by
 refine sF func242 ntmps242 Y<|iY Y<|He H0 (λ_ K=>K) (λl0 rk lJ wJ=>∃(jE:ah)(jB:Nat),lJ=(3,.slice jE ((oN ks ns).length) jB)::l0/\Hp b S wJ (aR lU 219 jE jB (oN ks ns)::rk)) (λhns H1=>?_) ?_
 ·refine sw 0 g 3 Dk Y H1<|mD 3 4 g 4 kE s0 Y H1<|sw 5 g 3 Dk Y H1<|mD 8 9 g 3 nD s0 Y H1<|O1 10 Y<|gW Y (Qx _ (H1.s s3).any (H1.s s2).any aj) ?_
  rintro _ w1 ⟨jK,jL,rfl,h1⟩;have K1:=H1.f1 h1;have LC:=(K1.o s0).bN;have k1:=(K1.rm s0);refine aP k1<|xJ 11 Y Y k1<|Dn ⟨jK,jL,Y,K1⟩ Y
 rintro _ w2 ⟨jE,jB,rfl,K2⟩;refine aZ<|bQ Y<|ev (dS Y)<|wC g 0 qM Y<|jD g 1 wS K2 s1 Y<|ev (eY mG Y)<|mv Y<|dn<|cZ ?_
 have d9:(oN ks ns:List gq)=(jS ks ns (ls.take 0)):=by rfl
 refine kP (t:=3) Y (aS (λz=>Value.slice jE (List.length z) jB) d9) ?_;rw [d9] at K2;refine rR (λmJ lJ wJ=>∃(k:Nat)(A3:ah)(c3:Nat),lJ=[(3,.slice A3 ((jS ks ns (ls.take k)).length) c3),(21,.slice AL ls.length cL),(22,aD ((ls.length:Nat):Int)),(23,aD ((k:Nat):Int))]/\mJ=ls.length - k/\k<=ls.length/\Hp b S wJ (aR lU 219 A3 c3 (jS ks ns (ls.take k))::dJ g 195 [v0,.slice AL ls.length cL,v2,.slice AN ns.length cN,.slice AK ks.length cK,v5,v6,v7,v8,v9,v10,v11,v12,v13,v14,v15,v16]::aR dB 117 AL cL ls::dP bX AN cN ns::dP bH AK cK ks::F)) ⟨0,jE,jB,Y,Y,fK _,K2⟩ Y ?_;rintro _ _ w3 ⟨k,A3,c3,rfl,rfl,hk,K3⟩;refine rg<|ev (fB Y Y)<|dn<|oC Y (λhc24=>?_) (λhc24=>?_)
 ·refine jh ?_;refine aZ<|cZ<|rg ?_
  obtain⟨x1,bP⟩:=bC (xs:=ls) (i:=k) aj;refine ev (eU (i:=k) mG Db Y Y Y (aJ bP) ((K3.o s2).some_ bP))<|ev (fV Dc Y Y ((K3.o s2).eX bP))<|al Jq Y K3 λg1 w4 K4=>sty Y K4 s0 Y λw5 K5=>dn ?_
  have hgb:=Yu ks ns (ls.take k)
  simp only [fE] at hgb
  have hpb:0<=nK (jS ks ns (ls.take k)) x1.To/\nK (jS ks ns (ls.take k)) x1.To<=2000:=ahy (P:=λz=>0<=z/\z<=2000) aj (λx hx=>by have:=hgb.1 x hx; omega) _;refine Hf K5 (λ_ K=>(K.rm s1)) (λl0 rk lJ wJ=>∃(oQ:ah)(cj2:Nat),lJ=(3,.slice oQ (((jS ks ns (ls.take k)).take 0++[(⟨x1.To,nK (jS ks ns (ls.take k)) x1.To+1⟩:gq)]++(jS ks ns (ls.take k)).drop 0).length) cj2)::l0/\Hp b S wJ (aR lU 219 oQ cj2 ((jS ks ns (ls.take k)).take 0++[(⟨x1.To,nK (jS ks ns (ls.take k)) x1.To+1⟩:gq)]++(jS ks ns (ls.take k)).drop 0)::rk)) (λhns H2=>?_) ?_
  ·have k2:=(H2.rm s1);refine kT 0 Y Y k2<|mD 1 2 g1 3 tX s0 Y k2<|kT 3 Y Y k2<|mD 4 5 g1 3 tX s0 Y k2<|O1 6 Y<|lF H2 Y (tV _ (H2.o s1) x1.To) λw6 K6=>?_
   have k3:=(K6.rm s1);refine aP k3<|lH 7 Y (λ_ _=>dW Y Y) k3<|lH 8 Y (λ_ _=>iE (vs:=[(0,aD x1.To),(1,aD (nK (jS ks ns (ls.take k)) x1.To+1))]) (cs:=[aD x1.To,aD (nK (jS ks ns (ls.take k)) x1.To+1)]) Y (by apply Gi)) k3<|O1 9 rfl<|yU (τ:=lU) (x:=(⟨x1.To,nK (jS ks ns (ls.take k)) x1.To+1⟩:gq)) rfl (by intro _; apply Ji) rfl K6 (λ_ _=>rfl) λg2 w7 K7=>?_
   have k4:=((K7.rm s2).rm s0);refine aP k4<|O1 10 Y<|gW Y (LV (i:=0) K7 s2 s0 aj aj) ?_
   rintro _ w8 ⟨nY,nZ,rfl,K8⟩;have k5:=(K8.rm s0);refine aP k5<|xJ 11 Y Y k5<|Dn ⟨nY,nZ,Y,K8⟩ Y
  rintro _ w9 ⟨oQ,cj2,rfl,K9⟩;refine ig (gB ?_);refine jr<|ev (dW Y Y)<|mv Y<|jv ?_
  have fG:(((jS ks ns (ls.take k)).take 0++[(⟨x1.To,nK (jS ks ns (ls.take k)) x1.To+1⟩:gq)]++(jS ks ns (ls.take k)).drop 0):List gq)=(jS ks ns (ls.take (k+1))):=by rw [ac2 bP]; rfl
  refine ji (t:=3) Y (aS (λz=>Value.slice oQ (List.length z) cj2) fG) ?_;rw [fG] at K9;exact dQ ⟨(k+1),oQ,cj2,Y,Y,aj,(K9.rm s1)⟩ rfl aj
 refine wQ ?_;refine bQ Y<|bS Y<|iI Y ?_
 have hfx:(jS ks ns (ls.take k))=(jS ks ns ls):=by rw [iD aj]
 rw [hfx] at K3;exact⟨_,_,by rw [hfx] <;> rfl,K3⟩
abbrev D9(c:aI)(fr l6 u:Int):bB:=⟨c.ID,c.aC,fr,l6,u⟩
abbrev ahz(c:aI)(fr l6 u:Int):aM:=⟨0,c.ID,c.aC,c.Sum,fr,l6,u⟩
def Ik(ls:List bB)(dD all:Int)(c:aI)(fr l6 u:Int):Bool:=decide (oD ls (D9 c fr l6 u) dD all=0)
def zT(ls:List bB)(dD all:Int)(c:aI)(fr l6 u:Int):List bB:=if Ik ls dD all c fr l6 u=true then ls++[D9 c fr l6 u] else ls
def Ea(ls:List bB)(os:List aM)(dD all:Int)(c:aI)(fr l6 u:Int):List aM:=if Ik ls dD all c fr l6 u=true then os++[ahz c fr l6 u] else os
theorem aqG{c:aI}{fr l6 u:Int}(h:¬ oD ls (D9 c fr l6 u) dD all=0):Ik ls dD all c fr l6 u=false/\zT ls dD all c fr l6 u=ls/\∀ os,Ea ls os dD all c fr l6 u=os:=by
  have hb:Ik ls dD all c fr l6 u=false:=decide_eq_false h;refine⟨hb,aK (by rw [hb]; decide),λos=>aK (by rw [hb]; decide)⟩
theorem amW{c:aI}{fr l6 u:Int}(h:oD ls (D9 c fr l6 u) dD all=0):Ik ls dD all c fr l6 u=true/\zT ls dD all c fr l6 u=rZ ls (D9 c fr l6 u) dD all/\∀ os,Ea ls os dD all c fr l6 u=os++[ahz c fr l6 u]:=by
  have hb:Ik ls dD all c fr l6 u=true:=L6 h;refine⟨hb,?_,λos=>aO hb⟩;unfold zT rZ; rw [aO hb,aO h]
theorem ac3:dH prog 195 3 12:=ay
theorem zU:dH prog 195 2 6:=ay
theorem Iz(a0:Int)(a1:Int)(a2:Int)(a3:Int)(a4:Int):prog.built 117 [(0,aD a0),(1,aD a1),(2,aD a2),(3,aD a3),(4,aD a4)]=some #[aD a0,aD a1,aD a2,aD a3,aD a4]:=ak
theorem Fq:dH prog 195 6 15:=ay
theorem mY(a0:Int)(a1:Int)(a2:Int)(a3:Int)(a4:Int)(a5:Int)(a6:Int):prog.built 112 [(0,aD a0),(1,aD a1),(2,aD a2),(3,fT a3),(4,aD a4),(5,aD a5),(6,aD a6)]=some #[aD a0,aD a1,aD a2,fT a3,aD a4,aD a5,aD a6]:=ak
theorem fF(a0:Int)(a1:Int)(a2:Int)(a3:Int)(a4:Int)(a5:Int)(a6:Int):∀ w,(Instr.buildSlice 49 1 (List.toArray [(0,.agg #[aD a0,aD a1,aD a2,fT a3,aD a4,aD a5,aD a6])])).run prog w=.ok (.slice (some ⟨w.heap.size,0,none⟩) 1 1) (w.alloc (.cells (List.toArray [aD a0,aD a1,aD a2,fT a3,aD a4,aD a5,aD a6]) 112)):=ay
abbrev Oz(gJ:aI)(iK tF vP DI:Int):=([(⟨0,gJ.ID,gJ.aC,gJ.Sum,iK,tF,vP+DI⟩:aM)]:List aM)
abbrev BA(gJ:aI)(iK tF vP DI:Int):=(⟨gJ.ID,gJ.aC,iK,tF,vP+DI⟩:bB)
set_option maxHeartbeats 1000000 in
theorem Vw{g:Nat}{v3 v4:Value}{AO Bc:ah}{cL cO dc:Nat}{os:List aM}{eH aN:Int}(H0:Hp b S w (dJ g 195 [v0,.slice AL ls.length cL,v2,v3,v4,v5,v6,aD dD,aD all,v9,aD eH,v11,aD aN,v13,v14,.slice AO os.length cO,v16]::aR dB 117 AL cL ls::aR bF 112 AO cO os::F))(c:aI)(fr l6:Int)(hn:ls.length<=100)(ho:os.length<=100000)(hu:-1099511627776<=aN/\aN<=4398046511104/\-1099511627776<=eH/\eH<=1099511627776) :
    bO prog 244 #[fP g,.agg #[aD c.ID,aD c.aC,fT c.Sum,.slice Bc c.aF.length dc],aD fr,aD l6] w λv w'=>v=.bool (Ik ls dD all c fr l6 (aN+eH))/\∃ AL' cL' AO' cO',Hp b S w' (dJ g 195 [v0,.slice AL' ((zT ls dD all c fr l6 (aN+eH)).length) cL',v2,v3,v4,v5,v6,aD dD,aD all,v9,aD eH,v11,aD aN,v13,v14,.slice AO' ((Ea ls os dD all c fr l6 (aN+eH)).length) cO',v16]::aR dB 117 AL' cL' (zT ls dD all c fr l6 (aN+eH))::aR bF 112 AO' cO' (Ea ls os dD all c fr l6 (aN+eH))::F):=by
 refine sF func244 ntmps244 Y<|rg<|bx Y Y H0 λg1 w1 K1=>bS Y<|qo ak ak<|bD (bA Y) Y<|bD (dS Y) Y<|bD (eF (q:=⟨g,12,none⟩) ac3 Y Y) Y<|bD (cu jG Y (K1.x s1) Y) Y<|bD (bA Y) Y<|bD (dS Y) Y<|bD (eF (q:=⟨g,6,none⟩) zU Y Y) Y<|bD (eF (q:=⟨g,10,none⟩) SQ Y Y) Y<|bD (cu jG Y (K1.x s1) Y) Y<|bD (dW Y Y) Y<|bD (nP Y) Y<|qp λw2 e2=>?_
 have K2:=K1.grow e2;refine He K2 (λ_ K=>K) (λl0 rk lJ wJ=>∃(jE:ah)(jB:Nat),lJ=(10,.slice jE ((rZ ls (BA c fr l6 aN eH) dD all).length) jB)::(11,aD (oD ls (BA c fr l6 aN eH) dD all))::l0/\Hp b S wJ (aR dB 117 jE jB (rZ ls (BA c fr l6 aN eH) dD all)::rk)) (λhns H1=>?_) ?_
 ·refine sw 0 g 0 qM Y H1<|mD 3 4 g 1 wS s1 Y H1<|mD 5 6 g1 0 qH s0 Y H1<|mD 7 8 g1 1 tu s0 Y H1<|kT 9 Y Y H1<|kT 10 Y Y H1<|kT 11 Y Y H1<|lH 12 Y (λ_ _=>iE (vs:=[(0,aD c.ID),(1,aD c.aC),(2,aD fr),(3,aD l6),(4,aD (aN+eH))]) (cs:=[aD c.ID,aD c.aC,aD fr,aD l6,aD (aN+eH)]) Y (by apply Iz)) H1<|sw 13 g 6 zU rfl H1<|mD 16 17 g 7 SS s1 rfl H1<|sw 18 g 6 zU rfl H1<|mD 21 22 g 8 ZU s1 rfl H1<|O1 23 rfl<|gW rfl (afM _ (H1.o s2) (BA c fr l6 aN eH) dD all aj) ?_
  rintro _ w3 ⟨mR,mU,rfl,h3⟩;have K3:=H1.f1 h3;have k1:=(K3.rm s0);refine aP k1<|kT 24 Y Y k1<|yj 25 Y (vs:=[.slice mR ((rZ ls (BA c fr l6 aN eH) dD all).length) mU,aD (oD ls (BA c fr l6 aN eH) dD all)]) Y Y k1<|yj 26 Y (vs:=[.slice mR ((rZ ls (BA c fr l6 aN eH) dD all).length) mU,aD (oD ls (BA c fr l6 aN eH) dD all)]) Y Y k1<|xJ 27 Y Y k1<|xJ 28 Y Y k1<|Dn ⟨mR,mU,Y,K3⟩ Y
 rintro _ w4 ⟨jE,jB,rfl,K4⟩;refine aZ<|bQ Y<|ev (rz Y Y)<|dn<|bR Y (λaf3=>?_) (λaf3=>?_)
 ·replace af3:=nS af3;refine iY Y<|vG Y ?_
  have H2:=(K4.cU 0 2);have hcn:=aqG (c:=c) (fr:=fr) (l6:=l6) (u:=aN+eH) af3;exact⟨by rw [hcn.1]; rfl,_,_,_,_,by rw [hcn.2.1,hcn.2.2 os]; exact H2⟩
 replace af3:=nT af3;refine jh ?_;refine bQ Y<|mv Y<|ev (dS Y)<|wC g 0 qM Y<|wC g 1 wS Y<|wD Y K4 s2 Y λw5 K5=>dn<|He K5 (λ_ K=>((K.rm s4).rm s0)) (λl0 rk lJ wJ=>∃(oQ:ah)(cj2:Nat),lJ=l0/\Hp b S wJ (dJ g 195 [v0,.slice jE ((rZ ls (BA c fr l6 aN eH) dD all).length) jB,v2,v3,v4,v5,v6,aD dD,aD all,v9,aD eH,v11,aD aN,v13,v14,.slice oQ ((os++(Oz c fr l6 aN eH)).length) cj2,v16]::aR bF 112 oQ cj2 (os++(Oz c fr l6 aN eH))::rk)) (λhns H3=>?_) ?_
 ·have k2:=((H3.rm s4).rm s0);refine kT 0 Y Y k2<|sw 1 g 15 Fq Y k2<|mD 5 6 g1 0 qH s1 Y k2<|mD 7 8 g1 1 tu s1 Y k2<|mD 9 10 g1 2 Kt s1 Y k2<|kT 11 Y Y k2<|kT 12 Y Y k2<|kT 13 Y Y k2<|lH 14 Y (λ_ _=>iE (vs:=[(0,aD 0),(1,aD c.ID),(2,aD c.aC),(3,fT c.Sum),(4,aD fr),(5,aD l6),(6,aD (aN+eH))]) (cs:=[aD 0,aD c.ID,aD c.aC,fT c.Sum,aD fr,aD l6,aD (aN+eH)]) Y (by apply mY)) k2<|Jn H3 (λl0 rk lJ wJ=>∃(g2:Nat),lJ=(60,.slice AO os.length cO)::(71,.slice (some ⟨g2,0,none⟩) ((Oz c fr l6 aN eH).length) 1)::l0/\Hp b S wJ (aR bF 112 (some ⟨g2,0,none⟩) 1 (Oz c fr l6 aN eH)::rk)) 4 65535 ?_ λhS1=>?_
  ·rintro _ Nn ⟨g2,rfl,K10⟩;refine O1 16 Y<|ap (ys:=(Oz c fr l6 aN eH)) K10 s5 Y Y (K10.o s0) kR Dj (by first | omega | (simp; omega) | (simp; done)) av rfl λSC cp2 RG tO=>?_
   have k7:=(tO.cU 0 3);refine aP k7<|Qk 17 g 15 Fq Y k7<|O1 19 Y<|wD Y tO s2 Y λQp rW=>?_
   have k8:=(rW.cU 0 3);refine aP k8<|Dn ⟨SC,cp2,Y,(rW.rm s2)⟩ Y
  refine O2 4 15 Y Y ?_ ?_
  ·refine mK H3 s0 Y<|aP k2<|O1 15 Y<|yU (τ:=bF) (x:=(⟨0,c.ID,c.aC,c.Sum,fr,l6,aN+eH⟩:aM)) Y (by intro _; apply fF) rfl H3 (λ_ _=>rfl) λg4 WO vC=>?_
   have k9:=((vC.rm s5).cU 0 2);exact Kj hS1 k9 ⟨g4,Y,vC⟩ Y
  ·refine yU (τ:=bF) (x:=(⟨0,c.ID,c.aC,c.Sum,fr,l6,aN+eH⟩:aM)) Y (by intro _; apply fF) rfl H3 (λ_ _=>rfl) λg5 Xv vo=>?_;have k10:=((vo.rm s5).cU 0 2);refine aP k10<|O1 4 Y<|mK vo s1 Y<|Kj hS1 k10 ⟨g5,Y,vo⟩ Y
 rintro _ Yg ⟨oQ,cj2,rfl,yX⟩;refine iY Y<|iI Y ?_
 have H4:=(yX.cU 3 2);have hcy:=amW (c:=c) (fr:=fr) (l6:=l6) (u:=aN+eH) af3;exact⟨by rw [hcy.1]; rfl,_,_,_,_,by rw [hcy.2.1,hcy.2.2 os]; exact((H4.sel s1).mV 1 2)⟩
end Go.Proofs.YtlhnnmlenkahlaaGreat
