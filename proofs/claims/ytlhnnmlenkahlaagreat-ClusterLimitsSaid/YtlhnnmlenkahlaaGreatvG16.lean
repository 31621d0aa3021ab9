/- Lemmas. -/
import Derived.Test.YtlhnnmlenkahlaaGreatvG15
set_option maxRecDepth 4000
set_option linter.all false
namespace Go.Proofs.YtlhnnmlenkahlaaGreat
open Go.RowKit Go.Proofs.Tryz
variable {b w:World}{S:Nat->Prop}{F:List lC}{g cn cc cs:Nat}{An Ac As:ah}{m:dU}{c:gD}
theorem wM:dH prog 283 1 3:=ay
theorem yE:dH prog 281 0 0:=ay
theorem pW:dH prog 283 0 0:=ay
theorem atn:kW prog 27:=ay
theorem VG:dH prog 281 1 1:=ay
theorem uf:dH prog 120 3 3:=ay
theorem sj:dH prog 120 4 4:=ay
theorem ady:dH prog 120 5 5:=ay
theorem VH(a0:Int)(a1:Int)(a2:Int):prog.built 78 [(0,aD a0),(1,aD a1),(2,aD a2)]=some #[aD a0,aD a1,aD a2,aD 0]:=ak
theorem avo:bI prog 350:=ay
theorem BF:(prog.underlying 3).isSome=true/\prog.underlying 57=some (.int (prog.intKind 57))/\prog.intKind 57=.u32:=⟨ak,ak,ak⟩
theorem agh:Size prog 120 6:=ay
theorem AA:XY prog 120 6:=⟨λ_=>by kernel_rfl,agh⟩
def QY(e n:Int):Int:=if e≠0 then -e else n
def vH(put:List aI->Int->Int->List aI × Int)(cs:List aI)(c:gD):List aI × Int × Int:=
  if c.B<0∨4294967295<c.B then(cs,1,0) else
    ((if(put cs c.A (IntKind.u32.wrap c.B)).2=0 then(put cs c.A (IntKind.u32.wrap c.B)).1 else cs),(put cs c.A (IntKind.u32.wrap c.B)).2,(aV (if(put cs c.A (IntKind.u32.wrap c.B)).2=0 then(put cs c.A (IntKind.u32.wrap c.B)).1 else cs) c.A).aC)
theorem MR{A0 Al:ah}{c0 cl:Nat}{xs ll:List aW}{u1 u2 u4:Value}{e0 e:Int}(H0:Hp b S w (dJ g 283 [.slice A0 xs.length c0,u1,u2,aD e0,u4]::dP bX A0 c0 xs::dP bX Al cl ll::F)) :
    bO prog 347 #[fP g,.slice Al ll.length cl,aD e] w λv w'=>∃(A:ah)(c:Nat),v=.tuple #[]/\Hp b S w' (dJ g 283 [.slice A ((if e=0 then ll else xs).length) c,u1,u2,aD e,u4]::dP bX A c (if e=0 then ll else xs)::F):=by
 refine sF func347 ntmps347 Y<|bQ Y<|mv Y<|ev (dS Y)<|wC g 3 wM Y<|wC g 3 yE Y<|wD Y H0 s0 Y λw1 K1=>dn<|bQ Y<|ev (iP Y Y)<|dn<|kX Y (λnQ=>?_) (λnQ=>?_)
 ·refine jr<|mv Y<|mv Y<|ev (dS Y)<|wC g 0 pW Y<|wC g 0 nD Y<|wD Y K1 s0 Y λw2 K2=>jv<|qA (zD Y ?_)
  exact⟨Al,cl,Y,by rw [aO nQ]; exact(K2.rm s1)⟩
 refine xH (qA (zD Y ?_));exact⟨A0,c0,Y,by rw [aK nQ]; exact(K1.rm s2)⟩
theorem FC{A0 Al:ah}{c0 cl:Nat}{xs ll:List aI}{u0 u2 u4:Value}{e0 e:Int}(H0:Hp b S w (dJ g 283 [u0,.slice A0 xs.length c0,u2,aD e0,u4]::dP bH A0 c0 xs::dP bH Al cl ll::F)) :
    bO prog 358 #[fP g,.slice Al ll.length cl,aD e] w λv w'=>∃(A:ah)(c:Nat),v=.tuple #[]/\Hp b S w' (dJ g 283 [u0,.slice A ((if e=0 then ll else xs).length) c,u2,aD e,u4]::dP bH A c (if e=0 then ll else xs)::F):=by
 refine sF func358 ntmps358 Y<|bQ Y<|mv Y<|ev (dS Y)<|wC g 3 wM Y<|wC g 3 yE Y<|wD Y H0 s0 Y λw1 K1=>dn<|bQ Y<|ev (iP Y Y)<|dn<|kX Y (λnQ=>?_) (λnQ=>?_)
 ·refine jr<|mv Y<|mv Y<|ev (dS Y)<|wC g 0 pW Y<|wC g 1 kE Y<|wD Y K1 s0 Y λw2 K2=>jv<|qA (zD Y ?_)
  exact⟨Al,cl,Y,by rw [aO nQ]; exact(K2.rm s1)⟩
 refine xH (qA (zD Y ?_));exact⟨A0,c0,Y,by rw [aK nQ]; exact(K1.rm s2)⟩
structure VI where
  e:Int
  n:Int
  deriving DecidableEq
def VI.enc(x:VI):List Value:=[.int .i64 x.e,.int .i64 x.n]
theorem VI.kC(x:VI):∀ u∈x.enc,u.oneCell'=true:=by
  intro u hu
  simp only [VI.enc,iN,kY,qW] at hu
  rcases hu with rfl | rfl <;> rfl
def aDF:Ty VI:=Ty.flat 2 VI.enc au (λ_=>rfl) VI.kC
instance:Flat aDF:=⟨λh=>h⟩
theorem ajU{S0:Nat->Prop}(w:World)(a:VI)(he:0<=a.e/\a.e<=10) :
    bO prog 258 #[.agg #[aD a.e,aD a.n]] w λv w'=>v=aD (QY a.e a.n)/\Hp w S0 w' []:=by
 refine j4 S0 func258 ntmps258 Y λH0=>rg<|bx Y Y H0 λg1 w1 K1=>bS Y<|aZ<|rg<|jD g1 0 yE K1 s0 Y<|ev (rz Y Y)<|dn<|bR Y (λhc5=>?_) (λhc5=>?_)
 ·replace hc5:=nS hc5;refine rg<|jD g1 0 yE K1 s0 Y<|ev (Ev.neg Y (vM aj aj))<|bS Y<|vG Y ?_
  have d9:(-a.e:Int)=(QY a.e a.n):=by exact(aO hc5).symm
  exact⟨by rw [d9] <;> rfl,(K1.rm s0)⟩
 replace hc5:=nT hc5;refine jh ?_;refine rg<|jD g1 1 VG K1 s0 Y<|bS Y<|iI Y ?_
 exact⟨aS (Value.int .i64) (show a.n=QY a.e a.n by unfold QY; rw [aK (by simpa using hc5)]),(K1.rm s0)⟩
abbrev anf(gJ:ah)(iK:dU)(tF:Nat)(vP:ah)(DI:Nat)(OD:ah)(RU:Nat):List Value:=[.slice gJ iK.aY.length tF,.slice vP iK.aA.length DI,.slice OD iK.aQ.length RU,aD 0,aD 0]
abbrev BG(gJ:Nat)(iK:ah)(tF:dU)(vP:Nat)(DI:ah)(OD:Nat)(RU:ah)(XC:Nat)(y8z:List lC):=dJ gJ 283 (anf iK tF vP DI OD RU XC)::dP bX iK vP tF.aY::dP bH DI OD tF.aA::dP bZ RU XC tF.aQ::y8z
theorem aqU (H0:Hp b S w (BG g An m cn Ac cc As cs F))(hn:m.aY.length<=100000)(hc:m.aA.length<=100000)(hh:∀ x∈m.aA,x.aF.length<=100000) :
    bO prog 345 #[fP g,.agg #[aD c.Client,aD c.Seq,aD c.Kind,aD c.A,aD c.B,aD c.C]] w λv w'=>∃(MS:ah)(MV:Nat)(Le:ah)(Lh:Nat),v=.tuple #[]/\Hp b S w' (BG g MS m MV Le Lh As cs F):=by
 refine sF func345 ntmps345 Y<|jr<|bx Y Y H0 λg1 w1 K1=>jv<|qA (zD Y ?_)
 exact⟨An,cn,Ac,cc,Y,by exact(K1.rm s0)⟩
abbrev BH(gJ:dU)(iK:gD):=nR gJ.aY (⟨iK.A,iK.B,iK.C,0⟩:aW)
abbrev VJ(gJ:dU)(iK:gD):=if(nR gJ.aY ⟨iK.A,iK.B,iK.C,0⟩).2=0 then(nR gJ.aY ⟨iK.A,iK.B,iK.C,0⟩).1 else gJ.aY
abbrev VK(gJ:dU)(iK:gD):=if(BH gJ iK).2=0 then((BH gJ iK).1) else gJ.aY
theorem aqV (H0:Hp b S w (BG g An m cn Ac cc As cs F))(hn:m.aY.length<=100000)(hc:m.aA.length<=100000)(hh:∀ x∈m.aA,x.aF.length<=100000) :
    bO prog 346 #[fP g,.agg #[aD c.Client,aD c.Seq,aD c.Kind,aD c.A,aD c.B,aD c.C]] w λv w'=>∃(MS:ah)(MV:Nat)(Le:ah)(Lh:Nat),v=.tuple #[]/\Hp b S w' (dJ g 283 [.slice MS ((VJ m c).length) MV,.slice Le m.aA.length Lh,.slice As m.aQ.length cs,aD ((nR m.aY ⟨c.A,c.B,c.C,0⟩).2),aD 0]::dP bX MS MV (VJ m c)::dP bH Le Lh m.aA::dP bZ As cs m.aQ::F):=by
 refine sF func346 ntmps346 Y<|rg<|bx Y Y H0 λg1 w1 K1=>dn<|Hf K1 (λ_ K=>(K.rm s1)) (λl0 rk lJ wJ=>∃(jE:ah)(jB:Nat),lJ=l0/\Hp b S wJ (dJ g 283 [.slice jE ((VK m c).length) jB,.slice Ac m.aA.length cc,.slice As m.aQ.length cs,aD ((BH m c).2),aD 0]::dP bX jE jB (VK m c)::rk)) (λhns H1=>?_) ?_
 ·have k1:=(H1.rm s1);refine kT 0 Y Y k1<|sw 1 g 0 pW Y k1<|Ko 4 g 0 nD Y k1<|mD 6 7 g1 3 uf s0 Y k1<|mD 8 9 g1 4 sj s0 Y k1<|mD 10 11 g1 5 ady s0 Y k1<|lH 12 Y (λ_ _=>iE (vs:=[(0,aD c.A),(1,aD c.B),(2,aD c.C)]) (cs:=[aD c.A,aD c.B,aD c.C,aD 0]) Y (by apply VH)) k1<|O1 5 rfl<|mK H1 s1 rfl<|aP k1<|O1 13 rfl<|gW rfl (aqb _ (H1.s s2).any (⟨c.A,c.B,c.C,0⟩:aW) aj) ?_
  rintro _ w2 ⟨ni,nk,rfl,h2⟩;have K2:=H1.f1 h2;have k2:=((K2.rm s2).rm s0);refine aP k2<|yj 14 Y (vs:=[.slice ni (((BH m c).1).length) nk,aD ((BH m c).2)]) Y Y k2<|yj 15 Y (vs:=[.slice ni (((BH m c).1).length) nk,aD ((BH m c).2)]) Y Y k2<|O1 16 Y ?_
  have H2:=K2.fz s0;have H3:=H2.push (H2.s s0);have H4:=H3.push (H3.s s4);refine gW Y (MR (e:=((BH m c).2)) ((H4.mV 0 4).sel s4)) ?_;rintro _ w3 ⟨As1,cs1,rfl,K3⟩;have k3:=(K3.cU 0 3);refine aP k3<|Dn ⟨As1,cs1,Y,(K3.rm s2)⟩ Y
 rintro _ w4 ⟨jE,jB,rfl,K4⟩;refine qA (zD Y ?_);have d9:((VK m c):List aW)=(VJ m c):=by rfl
 have fG:((BH m c).2:Int)=((nR m.aY ⟨c.A,c.B,c.C,0⟩).2):=by rfl
 exact⟨jE,jB,Ac,cc,Y,by rw [<- d9,<- fG]; exact(K4.cU 2 2)⟩
abbrev nE(gJ:dU)(iK:gD):=kL gJ.aY iK.A iK.B
abbrev OP(gJ:gD)(iK:dU):=if gJ.B=2/\(ofL iK.aA gJ.A).length>0 then iK.aY else if(nE iK gJ).2=0 then(nE iK gJ).1 else iK.aY
abbrev KD(gJ:dU)(iK:gD):=if(nE gJ iK).2=0 then((nE gJ iK).1) else gJ.aY
abbrev Tq(gJ:gD)(iK:dU):=if gJ.B=2/\(ofL iK.aA gJ.A).length>0 then 8 else(nE iK gJ).2
abbrev ayS:=List.toArray [true,true,true,true,true,true,true,true,true,true,true,true,true,true,true]
theorem aqW (H0:Hp b S w (BG g An m cn Ac cc As cs F))(hn:m.aY.length<=100000)(hc:m.aA.length<=100000)(hh:∀ x∈m.aA,x.aF.length<=100000) :
    bO prog 349 #[fP g,.agg #[aD c.Client,aD c.Seq,aD c.Kind,aD c.A,aD c.B,aD c.C]] w λv w'=>∃(MS:ah)(MV:Nat)(Le:ah)(Lh:Nat),v=.tuple #[]/\Hp b S w' (dJ g 283 [.slice MS ((OP c m).length) MV,.slice Le m.aA.length Lh,.slice As m.aQ.length cs,aD (Tq c m),aD 0]::dP bX MS MV (OP c m)::dP bH Le Lh m.aA::dP bZ As cs m.aQ::F):=by
 refine sF func349 ntmps349 Y<|rg<|bx Y Y H0 λg1 w1 K1=>dn<|aZ<|WP.dr ak ?_
 have H1:=K1.grow (om w1).drew;refine X7 H1 [(0,4,.pointer (some ⟨g1,4,none⟩)),(1,5,aD c.B),(2,6,.bool (decide (c.B=2))),(3,7,.bool (decide (c.B=2)))] 11 ak (ER Y (λ_ hK=>(eF (q:=⟨g1,4,none⟩) sj Y Y))<|ER Y (λ_ hK=>(cu jG Y (hK.x s0) Y))<|ER Y (λ_ hK=>(iP Y Y))<|ER Y (λ_ hK=>(bA Y))<|X8) λw2 K2=>?_
 cases hb7:decide (c.B=2) with
 | true=>
  have aDG:=jC hb7;refine X7 K2 [(4,8,fP g),(9,13,.pointer (some ⟨g1,3,none⟩)),(5,9,fP g),(10,14,aD c.A),(6,10,fP g),(7,11,.pointer (some ⟨g,1,none⟩)),(8,12,.slice Ac m.aA.length cc)] 4 (Zi ak) (KX Y (λ_ hK=>(bA Y))<|KX Y (λ_ hK=>(eF (q:=⟨g1,3,none⟩) uf Y Y))<|KX Y (λ_ hK=>(dS Y))<|KX Y (λ_ hK=>(cu jG Y (hK.x s0) Y))<|KX Y (λ_ hK=>(eF (q:=⟨g,0,none⟩) pW Y Y))<|KX Y (λ_ hK=>(eF (q:=⟨g,1,none⟩) kE Y Y))<|KX Y (λ_ hK=>(cu al2 Y (hK.x s1) Y))<|X8) λw3 K3=>?_;refine WI.one 11 ak Y<|nu Y Y Y Y avo (axC _ (K3.s s3).any c.A aj hh) Y ?_
  rintro _ w4 ⟨qY,qZ,rfl,h4⟩;have K4:=K3.f1 h4;refine WI.nx<|X7 K4 [(12,16,aD (((ofL m.aA c.A).length:Nat):Int)),(13,17,.bool (decide (0<(((ofL m.aA c.A).length:Nat):Int)))),(14,18,.bool (decide (0<(((ofL m.aA c.A).length:Nat):Int))))] 0 ak (KX Y (λ_ hK=>(eY fq Y))<|KX Y (λ_ hK=>(pJ Y Y))<|ER Y (λ_ hK=>(dY Y Y))<|X8) λw5 K5=>?_
  refine WI.dn ak<|kX Y (λhc18=>?_) (λhc18=>?_)
  ·refine bQ Y<|ev (dS Y)<|wC g 3 wM Y<|wC g 3 yE Y<|wD Y K5 s2 Y λw6 K6=>dn<|vG Y ?_
   have d9:(m.aY:List aW)=(OP c m):=by first | exact(aO ⟨aj,aj⟩).symm | exact(aK aj).symm
   have fG:(8:Int)=(Tq c m):=by first | exact(aO ⟨aj,aj⟩).symm | exact(aK aj).symm
   exact⟨An,cn,Ac,cc,Y,by rw [<- d9,<- fG]; exact(K6.cU 1 2)⟩
  refine jh ?_;refine Hf K5 (λ_ K=>(K.rm s2)) (λl0 rk lJ wJ=>∃(jE:ah)(jB:Nat),lJ=l0/\Hp b S wJ (dJ g 283 [.slice jE ((KD m c).length) jB,.slice Ac m.aA.length cc,.slice As m.aQ.length cs,aD ((nE m c).2),aD 0]::dP bX jE jB (KD m c)::rk)) (λhns H2=>?_) ?_
  ·have k1:=(H2.rm s2);refine kT 0 Y Y k1<|sw 1 g 0 pW Y k1<|Ko 4 g 0 nD Y k1<|mD 6 7 g1 3 uf s1 Y k1<|mD 8 9 g1 4 sj s1 Y k1<|O1 5 Y<|mK H2 s2 Y<|aP k1<|O1 10 Y<|gW Y (ag9 _ (H2.s s3).any c.A c.B aj) ?_
   rintro _ w7 ⟨aqX,aqY,rfl,h7⟩;have K7:=H2.f1 h7;have k2:=((K7.rm s3).rm s0);refine aP k2<|yj 11 Y (vs:=[.slice aqX (((nE m c).1).length) aqY,aD ((nE m c).2)]) Y Y k2<|yj 12 Y (vs:=[.slice aqX (((nE m c).1).length) aqY,aD ((nE m c).2)]) Y Y k2<|O1 13 Y ?_
   have H3:=K7.fz s0;have H4:=H3.push (H3.s s0);have H5:=H4.push (H4.s s5);refine gW Y (MR (e:=((nE m c).2)) ((H5.mV 0 5).sel s5)) ?_;rintro _ w8 ⟨As1,cs1,rfl,K8⟩;have k3:=(K8.cU 0 3);refine aP k3<|Dn ⟨As1,cs1,Y,(K8.rm s2)⟩ Y
  rintro _ w9 ⟨jE,jB,rfl,K9⟩;refine qA (zD Y ?_);have jQ:((KD m c):List aW)=(OP c m):=by first | exact(aO ⟨aj,aj⟩).symm | exact(aK aj).symm
  have lV:((nE m c).2:Int)=(Tq c m):=by first | exact(aO ⟨aj,aj⟩).symm | exact(aK aj).symm
  exact⟨jE,jB,Ac,cc,Y,by rw [<- jQ,<- lV]; exact(K9.cU 2 3)⟩
 | false=>
  have aDG:=kg hb7;refine X7 K2 [(4,8,undef),(9,13,undef),(5,9,undef),(10,14,undef),(6,10,undef),(7,11,undef),(8,12,undef),(11,15,undef),(12,16,undef),(13,17,undef),(14,18,.bool false)] 0 (Zi ak) (yt Y<|yt Y<|yt Y<|yt Y<|yt Y<|yt Y<|yt Y<|yt Y<|yt Y<|yt Y<|ER Y (λ_ hK=>(eG Y Y))<|X8) λNn K10=>?_;refine WI.dn ak<|bR Y nofun (λ_h=>?_)
  refine jh ?_;refine Hf K10 (λ_ K=>(K.rm s1)) (λl0 rk lJ wJ=>∃(wm:ah)(vD:Nat),lJ=l0/\Hp b S wJ (dJ g 283 [.slice wm ((KD m c).length) vD,.slice Ac m.aA.length cc,.slice As m.aQ.length cs,aD ((nE m c).2),aD 0]::dP bX wm vD (KD m c)::rk)) (λhns H6=>?_) ?_
  ·have k4:=(H6.rm s1);refine kT 0 Y Y k4<|sw 1 g 0 pW Y k4<|Ko 4 g 0 nD Y k4<|mD 6 7 g1 3 uf s0 Y k4<|mD 8 9 g1 4 sj s0 Y k4<|O1 5 Y<|mK H6 s1 Y<|aP k4<|O1 10 Y<|gW Y (ag9 _ (H6.s s2).any c.A c.B aj) ?_
   rintro _ RG ⟨YB,YC,rfl,h11⟩;have tO:=H6.f1 h11;have k5:=((tO.rm s2).rm s0);refine aP k5<|yj 11 Y (vs:=[.slice YB (((nE m c).1).length) YC,aD ((nE m c).2)]) Y Y k5<|yj 12 Y (vs:=[.slice YB (((nE m c).1).length) YC,aD ((nE m c).2)]) Y Y k5<|O1 13 Y ?_
   have H7:=tO.fz s0;have H8:=H7.push (H7.s s0);have H9:=H8.push (H8.s s4);refine gW Y (MR (e:=((nE m c).2)) ((H9.mV 0 4).sel s4)) ?_;rintro _ Qp ⟨As2,cs2,rfl,rW⟩;have k6:=(rW.cU 0 3);refine aP k6<|Dn ⟨As2,cs2,Y,(rW.rm s2)⟩ Y
  rintro _ WO ⟨wm,vD,rfl,vC⟩;refine qA (zD Y ?_);have qU:((KD m c):List aW)=(OP c m):=by first | exact(aO ⟨aj,aj⟩).symm | exact(aK aj).symm
  have vY:((nE m c).2:Int)=(Tq c m):=by first | exact(aO ⟨aj,aj⟩).symm | exact(aK aj).symm
  exact⟨wm,vD,Ac,cc,Y,by rw [<- qU,<- vY]; exact(vC.cU 2 2)⟩
abbrev nO(gJ:dU)(iK:gD):=aV (if(eD gJ.aA iK.A (IntKind.u32.wrap iK.B)).2=0 then((eD gJ.aA iK.A (IntKind.u32.wrap iK.B)).1) else gJ.aA) iK.A
abbrev OQ(gJ:dU)(iK:gD):=gU (if(eD gJ.aA iK.A (IntKind.u32.wrap iK.B)).2=0 then((eD gJ.aA iK.A (IntKind.u32.wrap iK.B)).1) else gJ.aA) iK.A
abbrev FD(gJ:dU)(iK:gD):=((nO gJ iK).aF).length
theorem agi (H0:Hp b S w (dJ g 283 [.slice An m.aY.length cn,.slice Ac m.aA.length cc,.slice As m.aQ.length cs,aD 0,aD 0]::dP bX An cn m.aY::dP bH Ac cc m.aA::dP bZ As cs m.aQ::F))(hn:m.aY.length<=100000)(hc:m.aA.length<=100000)(hh:∀ x∈m.aA,x.aF.length<=100000) :
    bO prog 353 #[fP g,.agg #[aD c.Client,aD c.Seq,aD c.Kind,aD c.A,aD c.B,aD c.C],.func (.func 354) #[] #[]] w λv w'=>∃(MS:ah)(MV:Nat)(Le:ah)(Lh:Nat),v=.tuple #[]/\Hp b S w' (dJ g 283 [.slice MS m.aY.length MV,.slice Le (((vH eD m.aA c).1).length) Lh,.slice As m.aQ.length cs,aD ((vH eD m.aA c).2.1),aD ((vH eD m.aA c).2.2)]::dP bX MS MV m.aY::dP bH Le Lh ((vH eD m.aA c).1)::dP bZ As cs m.aQ::F):=by
 refine sF func353 ntmps353 Y<|rg<|bx Y Y H0 λg1 w1 K1=>dn<|aZ<|rg<|jD g1 4 sj K1 s0 Y<|ev (fB Y Y)<|mv Y<|iG 4 15 ((decide (c.B<0))||(decide (4294967295<c.B))) ?_ ?_
 ·cases Qu:decide (c.B<0) with
  | true=>
   refine eB<|eB<|eB<|ev (dY Y Y)<|dI Y
  | false=>
   refine wP g1 4 sj K1 s0 Y<|bG Y (pJ Y Y) Y<|ev (eG Y Y)<|dI Y
 refine dn<|bR Y (λrU=>?_) (λrU=>?_)
 ·try simp only [eO,dN,bL,bU] at rU
  refine bQ Y<|ev (dS Y)<|wC g 3 wM Y<|wC g 3 yE Y<|wD Y K1 s1 Y λw2 K2=>dn<|vG Y ?_
  have d9:(m.aA:List aI)=((vH eD m.aA c).1):=by unfold vH; rw [aO rU]
  have fG:(1:Int)=((vH eD m.aA c).2.1):=by unfold vH; rw [aO rU]
  have jQ:(0:Int)=((vH eD m.aA c).2.2):=by unfold vH; rw [aO rU]
  exact⟨An,cn,Ac,cc,Y,by rw [<- d9,<- fG,<- jQ]; exact(K2.rm s1)⟩
 try simp only [eO,dN,bL,bU] at rU
 refine jh ?_;refine He K1 (λ_ K=>(K.rm s1)) (λl0 rk lJ wJ=>∃(jE:ah)(jB:Nat),lJ=l0/\Hp b S wJ (dJ g 283 [.slice An m.aY.length cn,.slice jE ((if(eD m.aA c.A (IntKind.u32.wrap c.B)).2=0 then((eD m.aA c.A (IntKind.u32.wrap c.B)).1) else m.aA).length) jB,.slice As m.aQ.length cs,aD ((eD m.aA c.A (IntKind.u32.wrap c.B)).2),aD 0]::dP bH jE jB (if(eD m.aA c.A (IntKind.u32.wrap c.B)).2=0 then((eD m.aA c.A (IntKind.u32.wrap c.B)).1) else m.aA)::rk)) (λhns H1=>?_) ?_
 ·have k1:=(H1.rm s1);refine kT 0 Y Y k1<|kT 1 Y Y k1<|sw 2 g 0 pW Y k1<|Ko 5 g 1 kE Y k1<|mD 7 8 g1 3 uf s0 Y k1<|mD 9 10 g1 4 sj s0 Y k1<|lH 11 Y (λ_ _=>FV BF.1 BF.2.1 BF.2.2 Y) k1<|O1 6 Y<|mK H1 s1 Y<|aP k1<|O1 12 Y<|gW Y (ai3 _ (H1.s s3) c.A (IntKind.u32.wrap c.B) aj hh) ?_
  rintro _ w3 ⟨mR,mU,rfl,h3⟩;have K3:=H1.c1 h3;have k2:=((K3.rm s2).rm s0);refine aP k2<|lH 13 Y (λ_ _=>vN (vs:=[.slice mR (((eD m.aA c.A (IntKind.u32.wrap c.B)).1).length) mU,aD ((eD m.aA c.A (IntKind.u32.wrap c.B)).2)]) Y Y) k2<|lH 14 Y (λ_ _=>vN (vs:=[.slice mR (((eD m.aA c.A (IntKind.u32.wrap c.B)).1).length) mU,aD ((eD m.aA c.A (IntKind.u32.wrap c.B)).2)]) Y Y) k2<|O1 15 Y ?_
  have H2:=K3.fz s0;have H3:=H2.push (H2.s s0);have H4:=H3.push (H3.s s5);refine gW Y (FC (e:=((eD m.aA c.A (IntKind.u32.wrap c.B)).2)) ((H4.mV 0 4).sel s4)) ?_;rintro _ w4 ⟨As1,cs1,rfl,K4⟩;have k3:=(K4.cU 0 3);refine aP k3<|Dn ⟨As1,cs1,Y,(K4.rm s2)⟩ Y
 rintro _ w5 ⟨jE,jB,rfl,K5⟩;refine He K5 (λ_ K=>K) (λl0 rk lJ wJ=>∃(rH:Nat)(wm:ah)(vD:Nat),lJ=(6,fP rH)::l0/\Hp b S wJ (dJ rH 59 [aD ((nO m c).ID),aD ((nO m c).aC),fT ((nO m c).Sum),.slice wm (FD m c) vD]::dP dL wm vD ((nO m c).aF)::rk)) (λhns H5=>?_) ?_
 ·refine sw 0 g 0 pW Y H5<|mD 3 4 g 1 kE s0 Y H5<|mD 5 6 g1 3 uf s2 Y H5<|Jn H5 (λl0 rk lJ wJ=>∃(g2:Nat)(Dl:ah)(Dm:Nat),lJ=(6,fP g2)::(46,.bool (OQ m c))::l0/\Hp b S wJ (dJ g2 59 [aD ((nO m c).ID),aD ((nO m c).aC),fT ((nO m c).Sum),.slice Dl (FD m c) Dm]::dP dL Dl Dm ((nO m c).aF)::rk)) 1 8191 ?_ λhS1=>?_
  ·rintro _ Qp ⟨g2,Dl,Dm,rfl,rW⟩;have k9:=(rW.cU 0 2);refine xJ 13 Y Y k9<|Dn ⟨g2,Dl,Dm,Y,rW⟩ Y
  refine O2 7 11 Y Y ?_ ?_
  ·refine gW Y (find_ok _ (H5.s s1) c.A (by split; have:=(zq (CY m.aA c.A (IntKind.u32.wrap c.B)).1).1; omega; omega) (by split; exact(λx hx=>(by have:=(zq (CY m.aA c.A (IntKind.u32.wrap c.B)).1).2 x hx; omega)); exact hh)) ?_;rintro _ WO ⟨oL,oM,rfl,h13⟩;have vC:=H5.c1 h13;have k10:=(vC.rm s0);refine aP k10<|kT 8 Y Y k10<|yj 9 Y (vs:=[.agg #[aD ((nO m c).ID),aD ((nO m c).aC),fT ((nO m c).Sum),.slice oL (FD m c) oM],.bool (OQ m c)]) Y Y k10<|yj 10 Y (vs:=[.agg #[aD ((nO m c).ID),aD ((nO m c).aC),fT ((nO m c).Sum),.slice oL (FD m c) oM],.bool (OQ m c)]) Y Y k10<|O1 11 Y<|al kZ Y vC λg4 Xv vo=>?_
   have k11:=(vo.cU 0 2);refine aP k11<|O1 12 Y<|sty Y vo s0 Y λYg yX=>?_
   have k12:=(yX.cU 0 2);exact Kj hS1 k12 ⟨g4,oL,oM,Y,yX⟩ Y
  ·refine al kZ Y H5 λg5 w16 Bv=>?_;have k13:=(Bv.rm s0);refine aP k13<|O1 7 Y<|gW Y (find_ok _ (Bv.s s2) c.A (by split; have:=(zq (CY m.aA c.A (IntKind.u32.wrap c.B)).1).1; omega; omega) (by split; exact(λx hx=>(by have:=(zq (CY m.aA c.A (IntKind.u32.wrap c.B)).1).2 x hx; omega)); exact hh)) ?_
   rintro _ w17 ⟨GJ,GK,rfl,h17⟩;have xS:=Bv.c1 h17;have k14:=(xS.cU 0 2);refine aP k14<|kT 8 Y Y k14<|yj 9 Y (vs:=[.agg #[aD ((nO m c).ID),aD ((nO m c).aC),fT ((nO m c).Sum),.slice GJ (FD m c) GK],.bool (OQ m c)]) Y Y k14<|yj 10 Y (vs:=[.agg #[aD ((nO m c).ID),aD ((nO m c).aC),fT ((nO m c).Sum),.slice GJ (FD m c) GK],.bool (OQ m c)]) Y Y k14<|O1 12 Y<|sty Y xS s1 Y λw18 FR=>?_
   have k15:=(FR.cU 0 2);exact Kj hS1 k15 ⟨g5,GJ,GK,Y,FR⟩ Y
 rintro _ w19 ⟨rH,wm,vD,rfl,Bf⟩;refine jr<|mv Y<|jD rH 1 tu Bf s0 Y<|ev (dS Y)<|wC g 3 wM Y<|wC g 4 VG Y<|wD Y Bf s2 Y λw20 DL=>jv<|qA (zD Y ?_)
 have lV:((if(eD m.aA c.A (IntKind.u32.wrap c.B)).2=0 then((eD m.aA c.A (IntKind.u32.wrap c.B)).1) else m.aA):List aI)=((vH eD m.aA c).1):=by unfold vH; rw [aK (show ¬ (c.B<0∨4294967295<c.B) by omega)]
 have qU:((eD m.aA c.A (IntKind.u32.wrap c.B)).2:Int)=((vH eD m.aA c).2.1):=by unfold vH; rw [aK (show ¬ (c.B<0∨4294967295<c.B) by omega)]
 have vY:((nO m c).aC:Int)=((vH eD m.aA c).2.2):=by unfold vH; rw [aK (show ¬ (c.B<0∨4294967295<c.B) by omega)]
 exact⟨An,cn,jE,jB,Y,by rw [<- lV,<- qU,<- vY]; exact(((((DL.rm s6).rm s4).cU 1 2).sel s1).mV 1 2)⟩
theorem agj (H0:Hp b S w (dJ g 283 [.slice An m.aY.length cn,.slice Ac m.aA.length cc,.slice As m.aQ.length cs,aD 0,aD 0]::dP bX An cn m.aY::dP bH Ac cc m.aA::dP bZ As cs m.aQ::F))(hn:m.aY.length<=100000)(hc:m.aA.length<=100000)(hh:∀ x∈m.aA,x.aF.length<=100000) :
    bO prog 353 #[fP g,.agg #[aD c.Client,aD c.Seq,aD c.Kind,aD c.A,aD c.B,aD c.C],.func (.func 356) #[] #[]] w λv w'=>∃(MS:ah)(MV:Nat)(Le:ah)(Lh:Nat),v=.tuple #[]/\Hp b S w' (dJ g 283 [.slice MS m.aY.length MV,.slice Le (((vH (fun(l:List aI) (id sum:Int)=>gy l id (dz sum)) m.aA c).1).length) Lh,.slice As m.aQ.length cs,aD ((vH (fun(l:List aI) (id sum:Int)=>gy l id (dz sum)) m.aA c).2.1),aD ((vH (fun(l:List aI) (id sum:Int)=>gy l id (dz sum)) m.aA c).2.2)]::dP bX MS MV m.aY::dP bH Le Lh ((vH (fun(l:List aI) (id sum:Int)=>gy l id (dz sum)) m.aA c).1)::dP bZ As cs m.aQ::F):=by
 refine sF func353 ntmps353 Y<|rg<|bx Y Y H0 λg1 w1 K1=>dn<|aZ<|rg<|jD g1 4 sj K1 s0 Y<|ev (fB Y Y)<|mv Y<|iG 4 15 ((decide (c.B<0))||(decide (4294967295<c.B))) ?_ ?_
 ·cases Qu:decide (c.B<0) with
  | true=>
   refine eB<|eB<|eB<|ev (dY Y Y)<|dI Y
  | false=>
   refine wP g1 4 sj K1 s0 Y<|bG Y (pJ Y Y) Y<|ev (eG Y Y)<|dI Y
 refine dn<|bR Y (λrU=>?_) (λrU=>?_)
 ·try simp only [eO,dN,bL,bU] at rU
  refine bQ Y<|ev (dS Y)<|wC g 3 wM Y<|wC g 3 yE Y<|wD Y K1 s1 Y λw2 K2=>dn<|vG Y ?_
  have d9:(m.aA:List aI)=((vH (fun(l:List aI) (id sum:Int)=>gy l id (dz sum)) m.aA c).1):=by unfold vH; rw [aO rU]
  have fG:(1:Int)=((vH (fun(l:List aI) (id sum:Int)=>gy l id (dz sum)) m.aA c).2.1):=by unfold vH; rw [aO rU]
  have jQ:(0:Int)=((vH (fun(l:List aI) (id sum:Int)=>gy l id (dz sum)) m.aA c).2.2):=by unfold vH; rw [aO rU]
  exact⟨An,cn,Ac,cc,Y,by rw [<- d9,<- fG,<- jQ]; exact(K2.rm s1)⟩
 try simp only [eO,dN,bL,bU] at rU
 refine jh ?_;refine He K1 (λ_ K=>(K.rm s1)) (λl0 rk lJ wJ=>∃(jE:ah)(jB:Nat),lJ=l0/\Hp b S wJ (dJ g 283 [.slice An m.aY.length cn,.slice jE ((if(gy m.aA c.A (dz (IntKind.u32.wrap c.B))).2=0 then((gy m.aA c.A (dz (IntKind.u32.wrap c.B))).1) else m.aA).length) jB,.slice As m.aQ.length cs,aD ((gy m.aA c.A (dz (IntKind.u32.wrap c.B))).2),aD 0]::dP bH jE jB (if(gy m.aA c.A (dz (IntKind.u32.wrap c.B))).2=0 then((gy m.aA c.A (dz (IntKind.u32.wrap c.B))).1) else m.aA)::rk)) (λhns H1=>?_) ?_
 ·have k1:=(H1.rm s1);refine kT 0 Y Y k1<|kT 1 Y Y k1<|sw 2 g 0 pW Y k1<|Ko 5 g 1 kE Y k1<|mD 7 8 g1 3 uf s0 Y k1<|mD 9 10 g1 4 sj s0 Y k1<|lH 11 Y (λ_ _=>FV BF.1 BF.2.1 BF.2.2 Y) k1<|O1 6 Y<|mK H1 s1 Y<|aP k1<|O1 12 Y<|gW Y (alJ _ (H1.s s3) c.A (IntKind.u32.wrap c.B) aj hh) ?_
  rintro _ w3 ⟨mR,mU,rfl,h3⟩;have K3:=H1.c1 h3;have k2:=((K3.rm s2).rm s0);refine aP k2<|lH 13 Y (λ_ _=>vN (vs:=[.slice mR (((gy m.aA c.A (dz (IntKind.u32.wrap c.B))).1).length) mU,aD ((gy m.aA c.A (dz (IntKind.u32.wrap c.B))).2)]) Y Y) k2<|lH 14 Y (λ_ _=>vN (vs:=[.slice mR (((gy m.aA c.A (dz (IntKind.u32.wrap c.B))).1).length) mU,aD ((gy m.aA c.A (dz (IntKind.u32.wrap c.B))).2)]) Y Y) k2<|O1 15 Y ?_
  have H2:=K3.fz s0;have H3:=H2.push (H2.s s0);have H4:=H3.push (H3.s s5);refine gW Y (FC (e:=((gy m.aA c.A (dz (IntKind.u32.wrap c.B))).2)) ((H4.mV 0 4).sel s4)) ?_;rintro _ w4 ⟨As1,cs1,rfl,K4⟩;have k3:=(K4.cU 0 3);refine aP k3<|Dn ⟨As1,cs1,Y,(K4.rm s2)⟩ Y
 rintro _ w5 ⟨jE,jB,rfl,K5⟩;refine He K5 (λ_ K=>K) (λl0 rk lJ wJ=>∃(rH:Nat)(wm:ah)(vD:Nat),lJ=(6,fP rH)::l0/\Hp b S wJ (dJ rH 59 [aD ((aV (if(gy m.aA c.A (dz (IntKind.u32.wrap c.B))).2=0 then((gy m.aA c.A (dz (IntKind.u32.wrap c.B))).1) else m.aA) c.A).ID),aD ((aV (if(gy m.aA c.A (dz (IntKind.u32.wrap c.B))).2=0 then((gy m.aA c.A (dz (IntKind.u32.wrap c.B))).1) else m.aA) c.A).aC),fT ((aV (if(gy m.aA c.A (dz (IntKind.u32.wrap c.B))).2=0 then((gy m.aA c.A (dz (IntKind.u32.wrap c.B))).1) else m.aA) c.A).Sum),.slice wm (((aV (if(gy m.aA c.A (dz (IntKind.u32.wrap c.B))).2=0 then((gy m.aA c.A (dz (IntKind.u32.wrap c.B))).1) else m.aA) c.A).aF).length) vD]::dP dL wm vD ((aV (if(gy m.aA c.A (dz (IntKind.u32.wrap c.B))).2=0 then((gy m.aA c.A (dz (IntKind.u32.wrap c.B))).1) else m.aA) c.A).aF)::rk)) (λhns H5=>?_) ?_
 ·refine sw 0 g 0 pW Y H5<|mD 3 4 g 1 kE s0 Y H5<|mD 5 6 g1 3 uf s2 Y H5<|Jn H5 (λl0 rk lJ wJ=>∃(g2:Nat)(Dl:ah)(Dm:Nat),lJ=(6,fP g2)::(46,.bool (gU (if(gy m.aA c.A (dz (IntKind.u32.wrap c.B))).2=0 then((gy m.aA c.A (dz (IntKind.u32.wrap c.B))).1) else m.aA) c.A))::l0/\Hp b S wJ (dJ g2 59 [aD ((aV (if(gy m.aA c.A (dz (IntKind.u32.wrap c.B))).2=0 then((gy m.aA c.A (dz (IntKind.u32.wrap c.B))).1) else m.aA) c.A).ID),aD ((aV (if(gy m.aA c.A (dz (IntKind.u32.wrap c.B))).2=0 then((gy m.aA c.A (dz (IntKind.u32.wrap c.B))).1) else m.aA) c.A).aC),fT ((aV (if(gy m.aA c.A (dz (IntKind.u32.wrap c.B))).2=0 then((gy m.aA c.A (dz (IntKind.u32.wrap c.B))).1) else m.aA) c.A).Sum),.slice Dl (((aV (if(gy m.aA c.A (dz (IntKind.u32.wrap c.B))).2=0 then((gy m.aA c.A (dz (IntKind.u32.wrap c.B))).1) else m.aA) c.A).aF).length) Dm]::dP dL Dl Dm ((aV (if(gy m.aA c.A (dz (IntKind.u32.wrap c.B))).2=0 then((gy m.aA c.A (dz (IntKind.u32.wrap c.B))).1) else m.aA) c.A).aF)::rk)) 1 8191 ?_ λhS1=>?_
  ·rintro _ Qp ⟨g2,Dl,Dm,rfl,rW⟩;have k9:=(rW.cU 0 2);refine xJ 13 Y Y k9<|Dn ⟨g2,Dl,Dm,Y,rW⟩ Y
  refine O2 7 11 Y Y ?_ ?_
  ·refine gW Y (find_ok _ (H5.s s1) c.A (by split; have:=(zq (F9 m.aA c.A (zw (IntKind.u32.wrap c.B))).1).1; omega; omega) (by split; exact(λx hx=>(by have:=(zq (F9 m.aA c.A (zw (IntKind.u32.wrap c.B))).1).2 x hx; omega)); exact hh)) ?_;rintro _ WO ⟨oL,oM,rfl,h13⟩;have vC:=H5.c1 h13;have k10:=(vC.rm s0);refine aP k10<|kT 8 Y Y k10<|lH 9 Y (λ_ _=>vN (vs:=[.agg #[aD ((aV (if(gy m.aA c.A (dz (IntKind.u32.wrap c.B))).2=0 then((gy m.aA c.A (dz (IntKind.u32.wrap c.B))).1) else m.aA) c.A).ID),aD ((aV (if(gy m.aA c.A (dz (IntKind.u32.wrap c.B))).2=0 then((gy m.aA c.A (dz (IntKind.u32.wrap c.B))).1) else m.aA) c.A).aC),fT ((aV (if(gy m.aA c.A (dz (IntKind.u32.wrap c.B))).2=0 then((gy m.aA c.A (dz (IntKind.u32.wrap c.B))).1) else m.aA) c.A).Sum),.slice oL (((aV (if(gy m.aA c.A (dz (IntKind.u32.wrap c.B))).2=0 then((gy m.aA c.A (dz (IntKind.u32.wrap c.B))).1) else m.aA) c.A).aF).length) oM],.bool (gU (if(gy m.aA c.A (dz (IntKind.u32.wrap c.B))).2=0 then((gy m.aA c.A (dz (IntKind.u32.wrap c.B))).1) else m.aA) c.A)]) Y Y) k10<|lH 10 Y (λ_ _=>vN (vs:=[.agg #[aD ((aV (if(gy m.aA c.A (dz (IntKind.u32.wrap c.B))).2=0 then((gy m.aA c.A (dz (IntKind.u32.wrap c.B))).1) else m.aA) c.A).ID),aD ((aV (if(gy m.aA c.A (dz (IntKind.u32.wrap c.B))).2=0 then((gy m.aA c.A (dz (IntKind.u32.wrap c.B))).1) else m.aA) c.A).aC),fT ((aV (if(gy m.aA c.A (dz (IntKind.u32.wrap c.B))).2=0 then((gy m.aA c.A (dz (IntKind.u32.wrap c.B))).1) else m.aA) c.A).Sum),.slice oL (((aV (if(gy m.aA c.A (dz (IntKind.u32.wrap c.B))).2=0 then((gy m.aA c.A (dz (IntKind.u32.wrap c.B))).1) else m.aA) c.A).aF).length) oM],.bool (gU (if(gy m.aA c.A (dz (IntKind.u32.wrap c.B))).2=0 then((gy m.aA c.A (dz (IntKind.u32.wrap c.B))).1) else m.aA) c.A)]) Y Y) k10<|O1 11 Y<|al kZ Y vC λg4 Xv vo=>?_
   have k11:=(vo.cU 0 2);refine aP k11<|O1 12 Y<|sty Y vo s0 Y λYg yX=>?_
   have k12:=(yX.cU 0 2);exact Kj hS1 k12 ⟨g4,oL,oM,Y,yX⟩ Y
  ·refine al kZ Y H5 λg5 w16 Bv=>?_;have k13:=(Bv.rm s0);refine aP k13<|O1 7 Y<|gW Y (find_ok _ (Bv.s s2) c.A (by split; have:=(zq (F9 m.aA c.A (zw (IntKind.u32.wrap c.B))).1).1; omega; omega) (by split; exact(λx hx=>(by have:=(zq (F9 m.aA c.A (zw (IntKind.u32.wrap c.B))).1).2 x hx; omega)); exact hh)) ?_
   rintro _ w17 ⟨GJ,GK,rfl,h17⟩;have xS:=Bv.c1 h17;have k14:=(xS.cU 0 2);refine aP k14<|kT 8 Y Y k14<|lH 9 Y (λ_ _=>vN (vs:=[.agg #[aD ((aV (if(gy m.aA c.A (dz (IntKind.u32.wrap c.B))).2=0 then((gy m.aA c.A (dz (IntKind.u32.wrap c.B))).1) else m.aA) c.A).ID),aD ((aV (if(gy m.aA c.A (dz (IntKind.u32.wrap c.B))).2=0 then((gy m.aA c.A (dz (IntKind.u32.wrap c.B))).1) else m.aA) c.A).aC),fT ((aV (if(gy m.aA c.A (dz (IntKind.u32.wrap c.B))).2=0 then((gy m.aA c.A (dz (IntKind.u32.wrap c.B))).1) else m.aA) c.A).Sum),.slice GJ (((aV (if(gy m.aA c.A (dz (IntKind.u32.wrap c.B))).2=0 then((gy m.aA c.A (dz (IntKind.u32.wrap c.B))).1) else m.aA) c.A).aF).length) GK],.bool (gU (if(gy m.aA c.A (dz (IntKind.u32.wrap c.B))).2=0 then((gy m.aA c.A (dz (IntKind.u32.wrap c.B))).1) else m.aA) c.A)]) Y Y) k14<|lH 10 Y (λ_ _=>vN (vs:=[.agg #[aD ((aV (if(gy m.aA c.A (dz (IntKind.u32.wrap c.B))).2=0 then((gy m.aA c.A (dz (IntKind.u32.wrap c.B))).1) else m.aA) c.A).ID),aD ((aV (if(gy m.aA c.A (dz (IntKind.u32.wrap c.B))).2=0 then((gy m.aA c.A (dz (IntKind.u32.wrap c.B))).1) else m.aA) c.A).aC),fT ((aV (if(gy m.aA c.A (dz (IntKind.u32.wrap c.B))).2=0 then((gy m.aA c.A (dz (IntKind.u32.wrap c.B))).1) else m.aA) c.A).Sum),.slice GJ (((aV (if(gy m.aA c.A (dz (IntKind.u32.wrap c.B))).2=0 then((gy m.aA c.A (dz (IntKind.u32.wrap c.B))).1) else m.aA) c.A).aF).length) GK],.bool (gU (if(gy m.aA c.A (dz (IntKind.u32.wrap c.B))).2=0 then((gy m.aA c.A (dz (IntKind.u32.wrap c.B))).1) else m.aA) c.A)]) Y Y) k14<|O1 12 Y<|sty Y xS s1 Y λw18 FR=>?_
   have k15:=(FR.cU 0 2);exact Kj hS1 k15 ⟨g5,GJ,GK,Y,FR⟩ Y
 rintro _ w19 ⟨rH,wm,vD,rfl,Bf⟩;refine jr<|mv Y<|jD rH 1 tu Bf s0 Y<|ev (dS Y)<|wC g 3 wM Y<|wC g 4 VG Y<|wD Y Bf s2 Y λw20 DL=>jv<|qA (zD Y ?_)
 have lV:((if(gy m.aA c.A (dz (IntKind.u32.wrap c.B))).2=0 then((gy m.aA c.A (dz (IntKind.u32.wrap c.B))).1) else m.aA):List aI)=((vH (fun(l:List aI) (id sum:Int)=>gy l id (dz sum)) m.aA c).1):=by unfold vH; rw [aK (show ¬ (c.B<0∨4294967295<c.B) by omega)]
 have qU:((gy m.aA c.A (dz (IntKind.u32.wrap c.B))).2:Int)=((vH (fun(l:List aI) (id sum:Int)=>gy l id (dz sum)) m.aA c).2.1):=by unfold vH; rw [aK (show ¬ (c.B<0∨4294967295<c.B) by omega)]
 have vY:((aV (if(gy m.aA c.A (dz (IntKind.u32.wrap c.B))).2=0 then((gy m.aA c.A (dz (IntKind.u32.wrap c.B))).1) else m.aA) c.A).aC:Int)=((vH (fun(l:List aI) (id sum:Int)=>gy l id (dz sum)) m.aA c).2.2):=by unfold vH; rw [aK (show ¬ (c.B<0∨4294967295<c.B) by omega)]
 exact⟨An,cn,jE,jB,Y,by rw [<- lV,<- qU,<- vY]; exact(((((DL.rm s6).rm s4).cU 1 2).sel s1).mV 1 2)⟩
theorem aqZ (H0:Hp b S w (BG g An m cn Ac cc As cs F))(hn:m.aY.length<=100000)(hc:m.aA.length<=100000)(hh:∀ x∈m.aA,x.aF.length<=100000) :
    bO prog 352 #[fP g,.agg #[aD c.Client,aD c.Seq,aD c.Kind,aD c.A,aD c.B,aD c.C]] w λv w'=>∃(MS:ah)(MV:Nat)(Le:ah)(Lh:Nat),v=.tuple #[]/\Hp b S w' (dJ g 283 [.slice MS m.aY.length MV,.slice Le (((vH eD m.aA c).1).length) Lh,.slice As m.aQ.length cs,aD ((vH eD m.aA c).2.1),aD ((vH eD m.aA c).2.2)]::dP bX MS MV m.aY::dP bH Le Lh ((vH eD m.aA c).1)::dP bZ As cs m.aQ::F):=by
 refine sF func352 ntmps352 Y<|rg<|bx Y Y H0 λg1 w1 K1=>dn<|jr<|mv Y<|ev (dK AA Y Y (K1.x s0))<|gW Y (agi ((K1.sel s0).mV 1 4) hn hc hh) ?_
 rintro _ w2 ⟨An2,cn2,Ac2,cc2,rfl,K2⟩;refine jv<|qA (zD Y ?_)
 exact⟨An2,cn2,Ac2,cc2,Y,by exact(K2.rm s4)⟩
theorem aq0 (H0:Hp b S w (dJ g 283 [.slice An m.aY.length cn,.slice Ac m.aA.length cc,.slice As m.aQ.length cs,aD 0,aD 0]::dP bX An cn m.aY::dP bH Ac cc m.aA::dP bZ As cs m.aQ::F))(hn:m.aY.length<=100000)(hc:m.aA.length<=100000)(hh:∀ x∈m.aA,x.aF.length<=100000) :
    bO prog 355 #[fP g,.agg #[aD c.Client,aD c.Seq,aD c.Kind,aD c.A,aD c.B,aD c.C]] w λv w'=>∃(MS:ah)(MV:Nat)(Le:ah)(Lh:Nat),v=.tuple #[]/\Hp b S w' (dJ g 283 [.slice MS m.aY.length MV,.slice Le (((vH (fun(l:List aI) (id sum:Int)=>gy l id (dz sum)) m.aA c).1).length) Lh,.slice As m.aQ.length cs,aD ((vH (fun(l:List aI) (id sum:Int)=>gy l id (dz sum)) m.aA c).2.1),aD ((vH (fun(l:List aI) (id sum:Int)=>gy l id (dz sum)) m.aA c).2.2)]::dP bX MS MV m.aY::dP bH Le Lh ((vH (fun(l:List aI) (id sum:Int)=>gy l id (dz sum)) m.aA c).1)::dP bZ As cs m.aQ::F):=by
 refine sF func355 ntmps355 Y<|rg<|bx Y Y H0 λg1 w1 K1=>dn<|jr<|mv Y<|ev (dK AA Y Y (K1.x s0))<|gW Y (agj ((K1.sel s0).mV 1 4) hn hc hh) ?_
 rintro _ w2 ⟨An2,cn2,Ac2,cc2,rfl,K2⟩;refine jv<|qA (zD Y ?_)
 exact⟨An2,cn2,Ac2,cc2,Y,by exact(K2.rm s4)⟩
abbrev xg(gJ:dU)(iK:gD):=lN gJ.aA iK.A iK.B iK.C
abbrev Tt(gJ:dU)(iK:gD):=if lq gJ.aY iK.B=true then(if(xg gJ iK).2=0 then(xg gJ iK).1 else gJ.aA) else gJ.aA
abbrev VL(gJ:dU)(iK:gD):=if lq gJ.aY iK.B=true then(xg gJ iK).2 else 5
abbrev VN(gJ:dU)(iK:gD):=if(xg gJ iK).2=0 then((xg gJ iK).1) else gJ.aA
theorem aq1 (H0:Hp b S w (BG g An m cn Ac cc As cs F))(hn:m.aY.length<=100000)(hc:m.aA.length<=100000)(hh:∀ x∈m.aA,x.aF.length<=100000) :
    bO prog 357 #[fP g,.agg #[aD c.Client,aD c.Seq,aD c.Kind,aD c.A,aD c.B,aD c.C]] w λv w'=>∃(MS:ah)(MV:Nat)(Le:ah)(Lh:Nat),v=.tuple #[]/\Hp b S w' (dJ g 283 [.slice MS m.aY.length MV,.slice Le ((Tt m c).length) Lh,.slice As m.aQ.length cs,aD (VL m c),aD 0]::dP bX MS MV m.aY::dP bH Le Lh (Tt m c)::dP bZ As cs m.aQ::F):=by
 refine sF func357 ntmps357 Y<|rg<|bx Y Y H0 λg1 w1 K1=>dn<|aZ<|qo ak ak<|bD (bA Y) Y<|bD (dS Y) Y<|bD (eF (q:=⟨g,0,none⟩) pW Y Y) Y<|bD (eF (q:=⟨g,0,none⟩) nD Y Y) Y<|bD (cu acs Y (K1.x s1) Y) Y<|bD (eF (q:=⟨g1,4,none⟩) sj Y Y) Y<|bD (cu jG Y (K1.x s0) Y) Y<|IU (v:=.bool (lq m.aY c.B)) Y Y Y avj (λwq eq=>(YA wq ((K1.s s2).any.ext eq) c.B aj).mono (by rintro _ _ ⟨rfl,fG⟩; exact⟨rfl,fG.ext⟩)) rfl<|bD (gZ rfl) rfl<|qp λw2 e2=>?_
 have K2:=K1.grow e2;refine bR Y (λnQ=>?_) (λnQ=>?_)
 ·try simp only [eO,dN,bK,dZ,eu,fC,bL,bU] at nQ
  refine bQ Y<|ev (dS Y)<|wC g 3 wM Y<|wC g 3 yE Y<|wD Y K2 s1 Y λw3 K3=>dn<|vG Y ?_
  have d9:(m.aA:List aI)=(Tt m c):=by exact(aK (by rw [nQ]; decide)).symm
  have fG:(5:Int)=(VL m c):=by exact(aK (by rw [nQ]; decide)).symm
  exact⟨An,cn,Ac,cc,Y,by rw [<- d9,<- fG]; exact(K3.rm s1)⟩
 try simp only [eO,dN,bK,dZ,eu,fC,bL,bU] at nQ
 refine jh ?_;refine Hf K2 (λ_ K=>(K.rm s1)) (λl0 rk lJ wJ=>∃(jE:ah)(jB:Nat),lJ=l0/\Hp b S wJ (dJ g 283 [.slice An m.aY.length cn,.slice jE ((VN m c).length) jB,.slice As m.aQ.length cs,aD ((xg m c).2),aD 0]::dP bH jE jB (VN m c)::rk)) (λhns H1=>?_) ?_
 ·have k1:=(H1.rm s1);refine kT 0 Y Y k1<|sw 1 g 0 pW Y k1<|Ko 4 g 1 kE Y k1<|mD 6 7 g1 3 uf s0 Y k1<|mD 8 9 g1 4 sj s0 Y k1<|mD 10 11 g1 5 ady s0 Y k1<|O1 5 Y<|mK H1 s1 Y<|aP k1<|O1 12 Y<|gW Y (alK _ (H1.s s3) c.A c.B c.C aj hh) ?_
  rintro _ w4 ⟨qY,qZ,rfl,h4⟩;have K4:=H1.c1 h4;have k2:=((K4.rm s2).rm s0);refine aP k2<|yj 13 Y (vs:=[.slice qY (((xg m c).1).length) qZ,aD ((xg m c).2)]) Y Y k2<|yj 14 Y (vs:=[.slice qY (((xg m c).1).length) qZ,aD ((xg m c).2)]) Y Y k2<|O1 15 Y ?_
  have H2:=K4.fz s0;have H3:=H2.push (H2.s s0);have H4:=H3.push (H3.s s5);refine gW Y (FC (e:=((xg m c).2)) ((H4.mV 0 4).sel s4)) ?_;rintro _ w5 ⟨As1,cs1,rfl,K5⟩;have k3:=(K5.cU 0 3);refine aP k3<|Dn ⟨As1,cs1,Y,(K5.rm s2)⟩ Y
 rintro _ w6 ⟨jE,jB,rfl,K6⟩;refine qA (zD Y ?_);have jQ:((VN m c):List aI)=(Tt m c):=by exact(aO nQ).symm
 have lV:((xg m c).2:Int)=(VL m c):=by exact(aO nQ).symm
 exact⟨An,cn,jE,jB,Y,by rw [<- jQ,<- lV]; exact((((K6.rm s4).rm s2).sel s1).mV 1 2)⟩
abbrev yF(gJ:dU)(iK:gD):=gy gJ.aA iK.A (jZ iK.B)
abbrev VO(gJ:dU)(iK:gD):=if(yF gJ iK).2=0 then((yF gJ iK).1) else gJ.aA
abbrev VP(gJ:dU)(iK:gD):=if(yF gJ iK).2=0 then(yF gJ iK).1 else gJ.aA
theorem aq2 (H0:Hp b S w (BG g An m cn Ac cc As cs F))(hn:m.aY.length<=100000)(hc:m.aA.length<=100000)(hh:∀ x∈m.aA,x.aF.length<=100000) :
    bO prog 360 #[fP g,.agg #[aD c.Client,aD c.Seq,aD c.Kind,aD c.A,aD c.B,aD c.C]] w λv w'=>∃(MS:ah)(MV:Nat)(Le:ah)(Lh:Nat),v=.tuple #[]/\Hp b S w' (dJ g 283 [.slice MS m.aY.length MV,.slice Le ((VP m c).length) Lh,.slice As m.aQ.length cs,aD ((yF m c).2),aD 0]::dP bX MS MV m.aY::dP bH Le Lh (VP m c)::dP bZ As cs m.aQ::F):=by
 refine sF func360 ntmps360 Y<|rg<|bx Y Y H0 λg1 w1 K1=>dn<|Hf K1 (λ_ K=>(K.rm s1)) (λl0 rk lJ wJ=>∃(jE:ah)(jB:Nat),lJ=l0/\Hp b S wJ (dJ g 283 [.slice An m.aY.length cn,.slice jE ((VO m c).length) jB,.slice As m.aQ.length cs,aD ((yF m c).2),aD 0]::dP bH jE jB (VO m c)::rk)) (λhns H1=>?_) ?_
 ·have k1:=(H1.rm s1);refine kT 0 Y Y k1<|sw 1 g 0 pW Y k1<|Ko 4 g 1 kE Y k1<|mD 6 7 g1 3 uf s0 Y k1<|mD 8 9 g1 4 sj s0 Y k1<|O1 5 Y<|mK H1 s1 Y<|aP k1<|O1 10 Y<|gW Y (afd _ (H1.s s3) c.A c.B aj hh) ?_
  rintro _ w2 ⟨ni,nk,rfl,h2⟩;have K2:=H1.c1 h2;have k2:=((K2.rm s2).rm s0);refine aP k2<|yj 11 Y (vs:=[.slice ni (((yF m c).1).length) nk,aD ((yF m c).2)]) Y Y k2<|yj 12 Y (vs:=[.slice ni (((yF m c).1).length) nk,aD ((yF m c).2)]) Y Y k2<|O1 13 Y ?_
  have H2:=K2.fz s0;have H3:=H2.push (H2.s s0);have H4:=H3.push (H3.s s5);refine gW Y (FC (e:=((yF m c).2)) ((H4.mV 0 4).sel s4)) ?_;rintro _ w3 ⟨As1,cs1,rfl,K3⟩;have k3:=(K3.cU 0 3);refine aP k3<|Dn ⟨As1,cs1,Y,(K3.rm s2)⟩ Y
 rintro _ w4 ⟨jE,jB,rfl,K4⟩;refine qA (zD Y ?_);have d9:((VO m c):List aI)=(VP m c):=by rfl
 exact⟨An,cn,jE,jB,Y,by rw [<- d9]; exact((((K4.rm s4).rm s2).sel s1).mV 1 2)⟩
abbrev VQ(gJ:dU)(iK:gD):=if(iB gJ.aA iK.A).2=0 then((iB gJ.aA iK.A).1) else gJ.aA
abbrev VR(gJ:dU)(iK:gD):=if(iB gJ.aA iK.A).2=0 then(iB gJ.aA iK.A).1 else gJ.aA
theorem aq3 (H0:Hp b S w (BG g An m cn Ac cc As cs F))(hn:m.aY.length<=100000)(hc:m.aA.length<=100000)(hh:∀ x∈m.aA,x.aF.length<=100000) :
    bO prog 362 #[fP g,.agg #[aD c.Client,aD c.Seq,aD c.Kind,aD c.A,aD c.B,aD c.C]] w λv w'=>∃(MS:ah)(MV:Nat)(Le:ah)(Lh:Nat),v=.tuple #[]/\Hp b S w' (dJ g 283 [.slice MS m.aY.length MV,.slice Le ((VR m c).length) Lh,.slice As m.aQ.length cs,aD ((iB m.aA c.A).2),aD 0]::dP bX MS MV m.aY::dP bH Le Lh (VR m c)::dP bZ As cs m.aQ::F):=by
 refine sF func362 ntmps362 Y<|rg<|bx Y Y H0 λg1 w1 K1=>dn<|Hf K1 (λ_ K=>(K.rm s1)) (λl0 rk lJ wJ=>∃(jE:ah)(jB:Nat),lJ=l0/\Hp b S wJ (dJ g 283 [.slice An m.aY.length cn,.slice jE ((VQ m c).length) jB,.slice As m.aQ.length cs,aD ((iB m.aA c.A).2),aD 0]::dP bH jE jB (VQ m c)::rk)) (λhns H1=>?_) ?_
 ·have k1:=(H1.rm s1);refine kT 0 Y Y k1<|sw 1 g 0 pW Y k1<|Ko 4 g 1 kE Y k1<|mD 6 7 g1 3 uf s0 Y k1<|O1 5 Y<|mK H1 s1 Y<|aP k1<|O1 8 Y<|gW Y (ai4 _ (H1.s s3) c.A aj hh) ?_
  rintro _ w2 ⟨ni,nk,rfl,h2⟩;have K2:=H1.c1 h2;have k2:=((K2.rm s2).rm s0);refine aP k2<|yj 9 Y (vs:=[.slice ni (((iB m.aA c.A).1).length) nk,aD ((iB m.aA c.A).2)]) Y Y k2<|yj 10 Y (vs:=[.slice ni (((iB m.aA c.A).1).length) nk,aD ((iB m.aA c.A).2)]) Y Y k2<|O1 11 Y ?_
  have H2:=K2.fz s0;have H3:=H2.push (H2.s s0);have H4:=H3.push (H3.s s5);refine gW Y (FC (e:=((iB m.aA c.A).2)) ((H4.mV 0 4).sel s4)) ?_;rintro _ w3 ⟨As1,cs1,rfl,K3⟩;have k3:=(K3.cU 0 3);refine aP k3<|Dn ⟨As1,cs1,Y,(K3.rm s2)⟩ Y
 rintro _ w4 ⟨jE,jB,rfl,K4⟩;refine qA (zD Y ?_);have d9:((VQ m c):List aI)=(VR m c):=by rfl
 exact⟨An,cn,jE,jB,Y,by rw [<- d9]; exact((((K4.rm s4).rm s2).sel s1).mV 1 2)⟩
end Go.Proofs.YtlhnnmlenkahlaaGreat
