/- Lemmas. -/
import Derived.Test.YtlhnnmlenkahlaaGreatrG15
set_option maxRecDepth 4000
set_option linter.all false
namespace Go.Proofs.YtlhnnmlenkahlaaGreat
open Go.RowKit Go.Proofs.Tryz
variable {b w:World}{S:Nat->Prop}{F:List lH}{g cn cc cs:Nat}{An Ac As:ah}{m:dF}{c:fV}
theorem yc:eu prog 283 1 3:=ay
theorem zZ:eu prog 281 0 0:=ay
theorem qO:eu prog 283 0 0:=ay
theorem axR:l9 prog 27:=ay
theorem Yh:eu prog 281 1 1:=ay
theorem vo:eu prog 120 3 3:=ay
theorem uj:eu prog 120 4 4:=ay
theorem agf:eu prog 120 5 5:=ay
theorem Yi(a0:Int)(a1:Int)(a2:Int):prog.built 78 [(0,aF a0),(1,aF a1),(2,aF a2)]=some #[aF a0,aF a1,aF a2,aF 0]:=ak
theorem azL:bF prog 350:=ay
theorem Dw:(prog.underlying 3).isSome=true/\prog.underlying 57=some (.int (prog.intKind 57))/\prog.intKind 57=.u32:=⟨ak,ak,ak⟩
theorem ai8:Size prog 120 6:=ay
theorem CO:Agg prog 120 6:=⟨λ_=>by kernel_rfl,ai8⟩
def Gy(e n:Int):Int:=if e≠0 then -e else n
def um(put:List aH->Int->Int->List aH × Int)(cs:List aH)(c:fV):List aH × Int × Int:=
  if c.B<0∨4294967295<c.B then(cs,1,0) else
    ((if(put cs c.A (IntKind.u32.wrap c.B)).2=0 then(put cs c.A (IntKind.u32.wrap c.B)).1 else cs),(put cs c.A (IntKind.u32.wrap c.B)).2,(aU (if(put cs c.A (IntKind.u32.wrap c.B)).2=0 then(put cs c.A (IntKind.u32.wrap c.B)).1 else cs) c.A).aB)
theorem Pq{A0 Al:ah}{c0 cl:Nat}{xs ll:List aV}{u1 u2 u4:Value}{e0 e:Int}(H0:Hp b S w (dY g 283 [.slice A0 xs.length c0,u1,u2,aF e0,u4]::dP cZ A0 c0 xs::dP cZ Al cl ll::F)) :
    bS prog 347 #[gD g,.slice Al ll.length cl,aF e] w λv w'=>∃(A:ah)(c:Nat),v=.tuple #[]/\Hp b S w' (dY g 283 [.slice A ((if e=0 then ll else xs).length) c,u1,u2,aF e,u4]::dP cZ A c (if e=0 then ll else xs)::F):=by
 refine sV func347 ntmps347 Y<|bQ Y<|mv Y<|ev (eX Y)<|yA g 3 yc Y<|yA g 3 zZ Y<|xP Y H0 s0 Y λw1 K1=>dn<|bQ Y<|ev (iA Y Y)<|dn<|mQ Y (λoN=>?_) (λoN=>?_)
 ·refine jy<|mv Y<|mv Y<|ev (eX Y)<|yA g 0 qO Y<|yA g 0 pY Y<|xP Y K1 s0 Y λw2 K2=>jA<|rU (zA Y ?_)
  exact⟨Al,cl,Y,by rw [aO oN]; exact(K2.rm s1)⟩
 refine ze (rU (zA Y ?_));exact⟨A0,c0,Y,by rw [aK oN]; exact(K1.rm s2)⟩
theorem Hu{A0 Al:ah}{c0 cl:Nat}{xs ll:List aH}{u0 u2 u4:Value}{e0 e:Int}(H0:Hp b S w (dY g 283 [u0,.slice A0 xs.length c0,u2,aF e0,u4]::dP bJ A0 c0 xs::dP bJ Al cl ll::F)) :
    bS prog 358 #[gD g,.slice Al ll.length cl,aF e] w λv w'=>∃(A:ah)(c:Nat),v=.tuple #[]/\Hp b S w' (dY g 283 [u0,.slice A ((if e=0 then ll else xs).length) c,u2,aF e,u4]::dP bJ A c (if e=0 then ll else xs)::F):=by
 refine sV func358 ntmps358 Y<|bQ Y<|mv Y<|ev (eX Y)<|yA g 3 yc Y<|yA g 3 zZ Y<|xP Y H0 s0 Y λw1 K1=>dn<|bQ Y<|ev (iA Y Y)<|dn<|mQ Y (λoN=>?_) (λoN=>?_)
 ·refine jy<|mv Y<|mv Y<|ev (eX Y)<|yA g 0 qO Y<|yA g 1 jE Y<|xP Y K1 s0 Y λw2 K2=>jA<|rU (zA Y ?_)
  exact⟨Al,cl,Y,by rw [aO oN]; exact(K2.rm s1)⟩
 refine ze (rU (zA Y ?_));exact⟨A0,c0,Y,by rw [aK oN]; exact(K1.rm s2)⟩
structure Vi where
  e:Int
  n:Int
  deriving DecidableEq
def Vi.enc(x:Vi):List Value:=[.int .i64 x.e,.int .i64 x.n]
theorem Vi.lF(x:Vi):∀ u∈x.enc,u.oneCell'=true:=by
  intro u hu
  simp only [Vi.enc,iX,lM,sN] at hu
  rcases hu with rfl | rfl <;> rfl
def aHF:Ty Vi:=Ty.flat 2 Vi.enc au (λ_=>rfl) Vi.lF
instance:Flat aHF:=⟨λh=>h⟩
theorem anh{S0:Nat->Prop}(w:World)(a:Vi)(he:0<=a.e/\a.e<=10) :
    bS prog 258 #[.agg #[aF a.e,aF a.n]] w λv w'=>v=aF (Gy a.e a.n)/\Hp w S0 w' []:=by
 refine kP S0 func258 ntmps258 Y λH0=>rg<|bx Y Y H0 λg1 w1 K1=>bU Y<|aW<|rg<|jT g1 0 zZ K1 s0 Y<|ev (nQ Y Y)<|dn<|bK Y (λhc5=>?_) (λhc5=>?_)
 ·replace hc5:=oQ hc5;refine rg<|jT g1 0 zZ K1 s0 Y<|ev (Ev.neg Y (wQ aj aj))<|bU Y<|uX Y ?_
  have eO:(-a.e:Int)=(Gy a.e a.n):=by exact(aO hc5).symm
  exact⟨by rw [eO] <;> rfl,(K1.rm s0)⟩
 replace hc5:=oU hc5;refine jm ?_;refine rg<|jT g1 1 Yh K1 s0 Y<|bU Y<|jc Y ?_
 exact⟨aR (Value.int .i64) (show a.n=Gy a.e a.n by unfold Gy; rw [aK (by simpa using hc5)]),(K1.rm s0)⟩
abbrev aqQ(iD:ah)(ji:dF)(uS:Nat)(wV:ah)(ES:Nat)(Q0:ah)(UO:Nat):List Value:=[.slice iD ji.aT.length uS,.slice wV ji.aA.length ES,.slice Q0 ji.aP.length UO,aF 0,aF 0]
abbrev Dx(iD:Nat)(ji:ah)(uS:dF)(wV:Nat)(ES:ah)(Q0:Nat)(UO:ah)(y7z:Nat)(y8z:List lH):=dY iD 283 (aqQ ji uS wV ES Q0 UO y7z)::dP cZ ji wV uS.aT::dP bJ ES Q0 uS.aA::dP bX UO y7z uS.aP::y8z
theorem avl (H0:Hp b S w (Dx g An m cn Ac cc As cs F))(hn:m.aT.length<=100000)(hc:m.aA.length<=100000)(hh:∀ x∈m.aA,x.aD.length<=100000) :
    bS prog 345 #[gD g,.agg #[aF c.Client,aF c.Seq,aF c.Kind,aF c.A,aF c.B,aF c.C]] w λv w'=>∃(Pv:ah)(Px:Nat)(Oj:ah)(Ol:Nat),v=.tuple #[]/\Hp b S w' (Dx g Pv m Px Oj Ol As cs F):=by
 refine sV func345 ntmps345 Y<|jy<|bx Y Y H0 λg1 w1 K1=>jA<|rU (zA Y ?_)
 exact⟨An,cn,Ac,cc,Y,by exact(K1.rm s0)⟩
abbrev Dy(iD:dF)(ji:fV):=oO iD.aT (⟨ji.A,ji.B,ji.C,0⟩:aV)
abbrev Yj(iD:dF)(ji:fV):=if(oO iD.aT ⟨ji.A,ji.B,ji.C,0⟩).2=0 then(oO iD.aT ⟨ji.A,ji.B,ji.C,0⟩).1 else iD.aT
abbrev Yk(iD:dF)(ji:fV):=if(Dy iD ji).2=0 then((Dy iD ji).1) else iD.aT
theorem avm (H0:Hp b S w (Dx g An m cn Ac cc As cs F))(hn:m.aT.length<=100000)(hc:m.aA.length<=100000)(hh:∀ x∈m.aA,x.aD.length<=100000) :
    bS prog 346 #[gD g,.agg #[aF c.Client,aF c.Seq,aF c.Kind,aF c.A,aF c.B,aF c.C]] w λv w'=>∃(Pv:ah)(Px:Nat)(Oj:ah)(Ol:Nat),v=.tuple #[]/\Hp b S w' (dY g 283 [.slice Pv ((Yj m c).length) Px,.slice Oj m.aA.length Ol,.slice As m.aP.length cs,aF ((oO m.aT ⟨c.A,c.B,c.C,0⟩).2),aF 0]::dP cZ Pv Px (Yj m c)::dP bJ Oj Ol m.aA::dP bX As cs m.aP::F):=by
 refine sV func346 ntmps346 Y<|rg<|bx Y Y H0 λg1 w1 K1=>dn<|Hf K1 (λ_ K=>(K.rm s1)) (λl0 rk lJ wJ=>∃(jR:ah)(jO:Nat),lJ=l0/\Hp b S wJ (dY g 283 [.slice jR ((Yk m c).length) jO,.slice Ac m.aA.length cc,.slice As m.aP.length cs,aF ((Dy m c).2),aF 0]::dP cZ jR jO (Yk m c)::rk)) (λhns H1=>?_) ?_
 ·have k1:=(H1.rm s1);refine kX 0 Y Y k1<|uw 1 g 0 qO Y k1<|Np 4 g 0 pY Y k1<|ng 6 7 g1 3 vo s0 Y k1<|ng 8 9 g1 4 uj s0 Y k1<|ng 10 11 g1 5 agf s0 Y k1<|lD 12 Y (λ_ _=>iY (vs:=[(0,aF c.A),(1,aF c.B),(2,aF c.C)]) (cs:=[aF c.A,aF c.B,aF c.C,aF 0]) Y (by apply Yi)) k1<|O1 5 rfl<|nO H1 s1 rfl<|aQ k1<|O1 13 rfl<|gX rfl (auB _ (H1.s s2).any (⟨c.A,c.B,c.C,0⟩:aV) aj) ?_
  rintro _ w2 ⟨oo,oq,rfl,h2⟩;have K2:=H1.f1 h2;have k2:=((K2.rm s2).rm s0);refine aQ k2<|zL 14 Y (vs:=[.slice oo (((Dy m c).1).length) oq,aF ((Dy m c).2)]) Y Y k2<|zL 15 Y (vs:=[.slice oo (((Dy m c).1).length) oq,aF ((Dy m c).2)]) Y Y k2<|O1 16 Y ?_
  have H2:=K2.fz s0;have H3:=H2.push (H2.s s0);have H4:=H3.push (H3.s s4);refine gX Y (Pq (e:=((Dy m c).2)) ((H4.mV 0 4).sel s4)) ?_;rintro _ w3 ⟨As1,cs1,rfl,K3⟩;have k3:=(K3.cU 0 3);refine aQ k3<|Dn ⟨As1,cs1,Y,(K3.rm s2)⟩ Y
 rintro _ w4 ⟨jR,jO,rfl,K4⟩;refine rU (zA Y ?_);have eO:((Yk m c):List aV)=(Yj m c):=by rfl
 have fQ:((Dy m c).2:Int)=((oO m.aT ⟨c.A,c.B,c.C,0⟩).2):=by rfl
 exact⟨jR,jO,Ac,cc,Y,by rw [<- eO,<- fQ]; exact(K4.cU 2 2)⟩
abbrev oz(iD:dF)(ji:fV):=lS iD.aT ji.A ji.B
abbrev Rj(iD:fV)(ji:dF):=if iD.B=2/\(Xb ji.aA iD.A).length>0 then ji.aT else if(oz ji iD).2=0 then(oz ji iD).1 else ji.aT
abbrev NI(iD:dF)(ji:fV):=if(oz iD ji).2=0 then((oz iD ji).1) else iD.aT
abbrev VL(iD:fV)(ji:dF):=if iD.B=2/\(Xb ji.aA iD.A).length>0 then 8 else(oz ji iD).2
theorem avn (H0:Hp b S w (Dx g An m cn Ac cc As cs F))(hn:m.aT.length<=100000)(hc:m.aA.length<=100000)(hh:∀ x∈m.aA,x.aD.length<=100000) :
    bS prog 349 #[gD g,.agg #[aF c.Client,aF c.Seq,aF c.Kind,aF c.A,aF c.B,aF c.C]] w λv w'=>∃(Pv:ah)(Px:Nat)(Oj:ah)(Ol:Nat),v=.tuple #[]/\Hp b S w' (dY g 283 [.slice Pv ((Rj c m).length) Px,.slice Oj m.aA.length Ol,.slice As m.aP.length cs,aF (VL c m),aF 0]::dP cZ Pv Px (Rj c m)::dP bJ Oj Ol m.aA::dP bX As cs m.aP::F):=by
 refine sV func349 ntmps349 Y<|rg<|bx Y Y H0 λg1 w1 K1=>dn<|aW<|WP.dr ak ?_
 have H1:=K1.grow (pI w1).drew;refine wiz H1 [(0,4,.pointer (some ⟨g1,4,none⟩)),(1,5,aF c.B),(2,6,.bool (decide (c.B=2))),(3,7,.bool (decide (c.B=2)))] 11 ak (GL Y (λ_ hK=>(dW (q:=⟨g1,4,none⟩) uj Y Y))<|GL Y (λ_ hK=>(dx jD Y (hK.x s0) Y))<|GL Y (λ_ hK=>(iA Y Y))<|GL Y (λ_ hK=>(bf Y))<|qnz) λw2 K2=>?_
 cases hb7:decide (c.B=2) with
 | true=>
  have aHG:=gW hb7;refine wiz K2 [(4,8,gD g),(9,13,.pointer (some ⟨g1,3,none⟩)),(5,9,gD g),(10,14,aF c.A),(6,10,gD g),(7,11,.pointer (some ⟨g,1,none⟩)),(8,12,.slice Ac m.aA.length cc)] 4 (abZ ak) (Oh Y (λ_ hK=>(bf Y))<|Oh Y (λ_ hK=>(dW (q:=⟨g1,3,none⟩) vo Y Y))<|Oh Y (λ_ hK=>(eX Y))<|Oh Y (λ_ hK=>(dx jD Y (hK.x s0) Y))<|Oh Y (λ_ hK=>(dW (q:=⟨g,0,none⟩) qO Y Y))<|Oh Y (λ_ hK=>(dW (q:=⟨g,1,none⟩) jE Y Y))<|Oh Y (λ_ hK=>(dx Xr Y (hK.x s1) Y))<|qnz) λw3 K3=>?_;refine WI.one 11 ak Y<|oh Y Y Y Y azL (aBX _ (K3.s s3).any c.A aj hh) Y ?_
  rintro _ w4 ⟨sO,sP,rfl,h4⟩;have K4:=K3.f1 h4;refine WI.nx<|wiz K4 [(12,16,aF (((Xb m.aA c.A).length:Nat):Int)),(13,17,.bool (decide (0<(((Xb m.aA c.A).length:Nat):Int)))),(14,18,.bool (decide (0<(((Xb m.aA c.A).length:Nat):Int))))] 0 ak (Oh Y (λ_ hK=>(eU fB Y))<|Oh Y (λ_ hK=>(pV Y Y))<|GL Y (λ_ hK=>(dH Y Y))<|qnz) λw5 K5=>?_
  refine WI.dn ak<|mQ Y (λhc18=>?_) (λhc18=>?_)
  ·refine bQ Y<|ev (eX Y)<|yA g 3 yc Y<|yA g 3 zZ Y<|xP Y K5 s2 Y λw6 K6=>dn<|uX Y ?_
   have eO:(m.aT:List aV)=(Rj c m):=by first | exact(aO ⟨aj,aj⟩).symm | exact(aK aj).symm
   have fQ:(8:Int)=(VL c m):=by first | exact(aO ⟨aj,aj⟩).symm | exact(aK aj).symm
   exact⟨An,cn,Ac,cc,Y,by rw [<- eO,<- fQ]; exact(K6.cU 1 2)⟩
  refine jm ?_;refine Hf K5 (λ_ K=>(K.rm s2)) (λl0 rk lJ wJ=>∃(jR:ah)(jO:Nat),lJ=l0/\Hp b S wJ (dY g 283 [.slice jR ((NI m c).length) jO,.slice Ac m.aA.length cc,.slice As m.aP.length cs,aF ((oz m c).2),aF 0]::dP cZ jR jO (NI m c)::rk)) (λhns H2=>?_) ?_
  ·have k1:=(H2.rm s2);refine kX 0 Y Y k1<|uw 1 g 0 qO Y k1<|Np 4 g 0 pY Y k1<|ng 6 7 g1 3 vo s1 Y k1<|ng 8 9 g1 4 uj s1 Y k1<|O1 5 Y<|nO H2 s2 Y<|aQ k1<|O1 10 Y<|gX Y (aj7 _ (H2.s s3).any c.A c.B aj) ?_
   rintro _ w7 ⟨avo,avp,rfl,h7⟩;have K7:=H2.f1 h7;have k2:=((K7.rm s3).rm s0);refine aQ k2<|zL 11 Y (vs:=[.slice avo (((oz m c).1).length) avp,aF ((oz m c).2)]) Y Y k2<|zL 12 Y (vs:=[.slice avo (((oz m c).1).length) avp,aF ((oz m c).2)]) Y Y k2<|O1 13 Y ?_
   have H3:=K7.fz s0;have H4:=H3.push (H3.s s0);have H5:=H4.push (H4.s s5);refine gX Y (Pq (e:=((oz m c).2)) ((H5.mV 0 5).sel s5)) ?_;rintro _ w8 ⟨As1,cs1,rfl,K8⟩;have k3:=(K8.cU 0 3);refine aQ k3<|Dn ⟨As1,cs1,Y,(K8.rm s2)⟩ Y
  rintro _ w9 ⟨jR,jO,rfl,K9⟩;refine rU (zA Y ?_);have jW:((NI m c):List aV)=(Rj c m):=by first | exact(aO ⟨aj,aj⟩).symm | exact(aK aj).symm
  have mH:((oz m c).2:Int)=(VL c m):=by first | exact(aO ⟨aj,aj⟩).symm | exact(aK aj).symm
  exact⟨jR,jO,Ac,cc,Y,by rw [<- jW,<- mH]; exact(K9.cU 2 3)⟩
 | false=>
  have aHG:=iJ hb7;refine wiz K2 [(4,8,undef),(9,13,undef),(5,9,undef),(10,14,undef),(6,10,undef),(7,11,undef),(8,12,undef),(11,15,undef),(12,16,undef),(13,17,undef),(14,18,.bool false)] 0 (abZ ak) (zM Y<|zM Y<|zM Y<|zM Y<|zM Y<|zM Y<|zM Y<|zM Y<|zM Y<|zM Y<|GL Y (λ_ hK=>(dL Y Y))<|qnz) λOz K10=>?_;refine WI.dn ak<|bK Y nofun (λ_h=>?_)
  refine jm ?_;refine Hf K10 (λ_ K=>(K.rm s1)) (λl0 rk lJ wJ=>∃(wF:ah)(vM:Nat),lJ=l0/\Hp b S wJ (dY g 283 [.slice wF ((NI m c).length) vM,.slice Ac m.aA.length cc,.slice As m.aP.length cs,aF ((oz m c).2),aF 0]::dP cZ wF vM (NI m c)::rk)) (λhns H6=>?_) ?_
  ·have k4:=(H6.rm s1);refine kX 0 Y Y k4<|uw 1 g 0 qO Y k4<|Np 4 g 0 pY Y k4<|ng 6 7 g1 3 vo s0 Y k4<|ng 8 9 g1 4 uj s0 Y k4<|O1 5 Y<|nO H6 s1 Y<|aQ k4<|O1 10 Y<|gX Y (aj7 _ (H6.s s2).any c.A c.B aj) ?_
   rintro _ Ti ⟨aa7,aa8,rfl,h11⟩;have tZ:=H6.f1 h11;have k5:=((tZ.rm s2).rm s0);refine aQ k5<|zL 11 Y (vs:=[.slice aa7 (((oz m c).1).length) aa8,aF ((oz m c).2)]) Y Y k5<|zL 12 Y (vs:=[.slice aa7 (((oz m c).1).length) aa8,aF ((oz m c).2)]) Y Y k5<|O1 13 Y ?_
   have H7:=tZ.fz s0;have H8:=H7.push (H7.s s0);have H9:=H8.push (H8.s s4);refine gX Y (Pq (e:=((oz m c).2)) ((H9.mV 0 4).sel s4)) ?_;rintro _ Sm ⟨As2,cs2,rfl,sJ⟩;have k6:=(sJ.cU 0 3);refine aQ k6<|Dn ⟨As2,cs2,Y,(sJ.rm s2)⟩ Y
  rintro _ Xu ⟨wF,vM,rfl,wz⟩;refine rU (zA Y ?_);have rR:((NI m c):List aV)=(Rj c m):=by first | exact(aO ⟨aj,aj⟩).symm | exact(aK aj).symm
  have wM:((oz m c).2:Int)=(VL c m):=by first | exact(aO ⟨aj,aj⟩).symm | exact(aK aj).symm
  exact⟨wF,vM,Ac,cc,Y,by rw [<- rR,<- wM]; exact(wz.cU 2 2)⟩
abbrev oK(iD:dF)(ji:fV):=aU (if(eB iD.aA ji.A (IntKind.u32.wrap ji.B)).2=0 then((eB iD.aA ji.A (IntKind.u32.wrap ji.B)).1) else iD.aA) ji.A
abbrev Rk(iD:dF)(ji:fV):=gY (if(eB iD.aA ji.A (IntKind.u32.wrap ji.B)).2=0 then((eB iD.aA ji.A (IntKind.u32.wrap ji.B)).1) else iD.aA) ji.A
abbrev Hy(iD:dF)(ji:fV):=((oK iD ji).aD).length
theorem ai9 (H0:Hp b S w (dY g 283 [.slice An m.aT.length cn,.slice Ac m.aA.length cc,.slice As m.aP.length cs,aF 0,aF 0]::dP cZ An cn m.aT::dP bJ Ac cc m.aA::dP bX As cs m.aP::F))(hn:m.aT.length<=100000)(hc:m.aA.length<=100000)(hh:∀ x∈m.aA,x.aD.length<=100000) :
    bS prog 353 #[gD g,.agg #[aF c.Client,aF c.Seq,aF c.Kind,aF c.A,aF c.B,aF c.C],.func (.func 354) #[] #[]] w λv w'=>∃(Pv:ah)(Px:Nat)(Oj:ah)(Ol:Nat),v=.tuple #[]/\Hp b S w' (dY g 283 [.slice Pv m.aT.length Px,.slice Oj (((um eB m.aA c).1).length) Ol,.slice As m.aP.length cs,aF ((um eB m.aA c).2.1),aF ((um eB m.aA c).2.2)]::dP cZ Pv Px m.aT::dP bJ Oj Ol ((um eB m.aA c).1)::dP bX As cs m.aP::F):=by
 refine sV func353 ntmps353 Y<|rg<|bx Y Y H0 λg1 w1 K1=>dn<|aW<|rg<|jT g1 4 uj K1 s0 Y<|ev (fC Y Y)<|mv Y<|iP 4 15 ((decide (c.B<0))||(decide (4294967295<c.B))) ?_ ?_
 ·cases Tv:decide (c.B<0) with
  | true=>
   refine dN<|dN<|dN<|ev (dH Y Y)<|dM Y
  | false=>
   refine wL g1 4 uj K1 s0 Y<|bn Y (pV Y Y) Y<|ev (dL Y Y)<|dM Y
 refine dn<|bK Y (λtY=>?_) (λtY=>?_)
 ·try simp only [fq,dX,bO,bV] at tY
  refine bQ Y<|ev (eX Y)<|yA g 3 yc Y<|yA g 3 zZ Y<|xP Y K1 s1 Y λw2 K2=>dn<|uX Y ?_
  have eO:(m.aA:List aH)=((um eB m.aA c).1):=by unfold um; rw [aO tY]
  have fQ:(1:Int)=((um eB m.aA c).2.1):=by unfold um; rw [aO tY]
  have jW:(0:Int)=((um eB m.aA c).2.2):=by unfold um; rw [aO tY]
  exact⟨An,cn,Ac,cc,Y,by rw [<- eO,<- fQ,<- jW]; exact(K2.rm s1)⟩
 try simp only [fq,dX,bO,bV] at tY
 refine jm ?_;refine He K1 (λ_ K=>(K.rm s1)) (λl0 rk lJ wJ=>∃(jR:ah)(jO:Nat),lJ=l0/\Hp b S wJ (dY g 283 [.slice An m.aT.length cn,.slice jR ((if(eB m.aA c.A (IntKind.u32.wrap c.B)).2=0 then((eB m.aA c.A (IntKind.u32.wrap c.B)).1) else m.aA).length) jO,.slice As m.aP.length cs,aF ((eB m.aA c.A (IntKind.u32.wrap c.B)).2),aF 0]::dP bJ jR jO (if(eB m.aA c.A (IntKind.u32.wrap c.B)).2=0 then((eB m.aA c.A (IntKind.u32.wrap c.B)).1) else m.aA)::rk)) (λhns H1=>?_) ?_
 ·have k1:=(H1.rm s1);refine kX 0 Y Y k1<|kX 1 Y Y k1<|uw 2 g 0 qO Y k1<|Np 5 g 1 jE Y k1<|ng 7 8 g1 3 vo s0 Y k1<|ng 9 10 g1 4 uj s0 Y k1<|lD 11 Y (λ_ _=>Ir Dw.1 Dw.2.1 Dw.2.2 Y) k1<|O1 6 Y<|nO H1 s1 Y<|aQ k1<|O1 12 Y<|gX Y (ams _ (H1.s s3) c.A (IntKind.u32.wrap c.B) aj hh) ?_
  rintro _ w3 ⟨nR,nS,rfl,h3⟩;have K3:=H1.c1 h3;have k2:=((K3.rm s2).rm s0);refine aQ k2<|lD 13 Y (λ_ _=>wS (vs:=[.slice nR (((eB m.aA c.A (IntKind.u32.wrap c.B)).1).length) nS,aF ((eB m.aA c.A (IntKind.u32.wrap c.B)).2)]) Y Y) k2<|lD 14 Y (λ_ _=>wS (vs:=[.slice nR (((eB m.aA c.A (IntKind.u32.wrap c.B)).1).length) nS,aF ((eB m.aA c.A (IntKind.u32.wrap c.B)).2)]) Y Y) k2<|O1 15 Y ?_
  have H2:=K3.fz s0;have H3:=H2.push (H2.s s0);have H4:=H3.push (H3.s s5);refine gX Y (Hu (e:=((eB m.aA c.A (IntKind.u32.wrap c.B)).2)) ((H4.mV 0 4).sel s4)) ?_;rintro _ w4 ⟨As1,cs1,rfl,K4⟩;have k3:=(K4.cU 0 3);refine aQ k3<|Dn ⟨As1,cs1,Y,(K4.rm s2)⟩ Y
 rintro _ w5 ⟨jR,jO,rfl,K5⟩;refine He K5 (λ_ K=>K) (λl0 rk lJ wJ=>∃(tN:Nat)(wF:ah)(vM:Nat),lJ=(6,gD tN)::l0/\Hp b S wJ (dY tN 59 [aF ((oK m c).ID),aF ((oK m c).aB),gK ((oK m c).Sum),.slice wF (Hy m c) vM]::dP dQ wF vM ((oK m c).aD)::rk)) (λhns H5=>?_) ?_
 ·refine uw 0 g 0 qO Y H5<|ng 3 4 g 1 jE s0 Y H5<|ng 5 6 g1 3 vo s2 Y H5<|Jn H5 (λl0 rk lJ wJ=>∃(g2:Nat)(Jo:ah)(Jp:Nat),lJ=(6,gD g2)::(46,.bool (Rk m c))::l0/\Hp b S wJ (dY g2 59 [aF ((oK m c).ID),aF ((oK m c).aB),gK ((oK m c).Sum),.slice Jo (Hy m c) Jp]::dP dQ Jo Jp ((oK m c).aD)::rk)) 1 8191 ?_ λhS1=>?_
  ·rintro _ Sm ⟨g2,Jo,Jp,rfl,sJ⟩;have k9:=(sJ.cU 0 2);refine xI 13 Y Y k9<|Dn ⟨g2,Jo,Jp,Y,sJ⟩ Y
  refine O2 7 11 Y Y ?_ ?_
  ·refine gX Y (find_ok _ (H5.s s1) c.A (by split; have:=(zQ (Ej m.aA c.A (IntKind.u32.wrap c.B)).1).1; omega; omega) (by split; exact(λx hx=>(by have:=(zQ (Ej m.aA c.A (IntKind.u32.wrap c.B)).1).2 x hx; omega)); exact hh)) ?_;rintro _ Xu ⟨p8,p9,rfl,h13⟩;have wz:=H5.c1 h13;have k10:=(wz.rm s0);refine aQ k10<|kX 8 Y Y k10<|zL 9 Y (vs:=[.agg #[aF ((oK m c).ID),aF ((oK m c).aB),gK ((oK m c).Sum),.slice p8 (Hy m c) p9],.bool (Rk m c)]) Y Y k10<|zL 10 Y (vs:=[.agg #[aF ((oK m c).ID),aF ((oK m c).aB),gK ((oK m c).Sum),.slice p8 (Hy m c) p9],.bool (Rk m c)]) Y Y k10<|O1 11 Y<|al lU Y wz λg4 Z0 wB=>?_
   have k11:=(wB.cU 0 2);refine aQ k11<|O1 12 Y<|sty Y wB s0 Y λZ4 zB=>?_
   have k12:=(zB.cU 0 2);exact Kj hS1 k12 ⟨g4,p8,p9,Y,zB⟩ Y
  ·refine al lU Y H5 λg5 w16 BR=>?_;have k13:=(BR.rm s0);refine aQ k13<|O1 7 Y<|gX Y (find_ok _ (BR.s s2) c.A (by split; have:=(zQ (Ej m.aA c.A (IntKind.u32.wrap c.B)).1).1; omega; omega) (by split; exact(λx hx=>(by have:=(zQ (Ej m.aA c.A (IntKind.u32.wrap c.B)).1).2 x hx; omega)); exact hh)) ?_
   rintro _ w17 ⟨Jq,Jr,rfl,h17⟩;have yB:=BR.c1 h17;have k14:=(yB.cU 0 2);refine aQ k14<|kX 8 Y Y k14<|zL 9 Y (vs:=[.agg #[aF ((oK m c).ID),aF ((oK m c).aB),gK ((oK m c).Sum),.slice Jq (Hy m c) Jr],.bool (Rk m c)]) Y Y k14<|zL 10 Y (vs:=[.agg #[aF ((oK m c).ID),aF ((oK m c).aB),gK ((oK m c).Sum),.slice Jq (Hy m c) Jr],.bool (Rk m c)]) Y Y k14<|O1 12 Y<|sty Y yB s1 Y λw18 ET=>?_
   have k15:=(ET.cU 0 2);exact Kj hS1 k15 ⟨g5,Jq,Jr,Y,ET⟩ Y
 rintro _ w19 ⟨tN,wF,vM,rfl,Cc⟩;refine jy<|mv Y<|jT tN 1 tH Cc s0 Y<|ev (eX Y)<|yA g 3 yc Y<|yA g 4 Yh Y<|xP Y Cc s2 Y λw20 C8=>jA<|rU (zA Y ?_)
 have mH:((if(eB m.aA c.A (IntKind.u32.wrap c.B)).2=0 then((eB m.aA c.A (IntKind.u32.wrap c.B)).1) else m.aA):List aH)=((um eB m.aA c).1):=by unfold um; rw [aK (show ¬ (c.B<0∨4294967295<c.B) by omega)]
 have rR:((eB m.aA c.A (IntKind.u32.wrap c.B)).2:Int)=((um eB m.aA c).2.1):=by unfold um; rw [aK (show ¬ (c.B<0∨4294967295<c.B) by omega)]
 have wM:((oK m c).aB:Int)=((um eB m.aA c).2.2):=by unfold um; rw [aK (show ¬ (c.B<0∨4294967295<c.B) by omega)]
 exact⟨An,cn,jR,jO,Y,by rw [<- mH,<- rR,<- wM]; exact(((((C8.rm s6).rm s4).cU 1 2).sel s1).mV 1 2)⟩
theorem aja (H0:Hp b S w (dY g 283 [.slice An m.aT.length cn,.slice Ac m.aA.length cc,.slice As m.aP.length cs,aF 0,aF 0]::dP cZ An cn m.aT::dP bJ Ac cc m.aA::dP bX As cs m.aP::F))(hn:m.aT.length<=100000)(hc:m.aA.length<=100000)(hh:∀ x∈m.aA,x.aD.length<=100000) :
    bS prog 353 #[gD g,.agg #[aF c.Client,aF c.Seq,aF c.Kind,aF c.A,aF c.B,aF c.C],.func (.func 356) #[] #[]] w λv w'=>∃(Pv:ah)(Px:Nat)(Oj:ah)(Ol:Nat),v=.tuple #[]/\Hp b S w' (dY g 283 [.slice Pv m.aT.length Px,.slice Oj (((um (fun(l:List aH) (id sum:Int)=>gy l id (dB sum)) m.aA c).1).length) Ol,.slice As m.aP.length cs,aF ((um (fun(l:List aH) (id sum:Int)=>gy l id (dB sum)) m.aA c).2.1),aF ((um (fun(l:List aH) (id sum:Int)=>gy l id (dB sum)) m.aA c).2.2)]::dP cZ Pv Px m.aT::dP bJ Oj Ol ((um (fun(l:List aH) (id sum:Int)=>gy l id (dB sum)) m.aA c).1)::dP bX As cs m.aP::F):=by
 refine sV func353 ntmps353 Y<|rg<|bx Y Y H0 λg1 w1 K1=>dn<|aW<|rg<|jT g1 4 uj K1 s0 Y<|ev (fC Y Y)<|mv Y<|iP 4 15 ((decide (c.B<0))||(decide (4294967295<c.B))) ?_ ?_
 ·cases Tv:decide (c.B<0) with
  | true=>
   refine dN<|dN<|dN<|ev (dH Y Y)<|dM Y
  | false=>
   refine wL g1 4 uj K1 s0 Y<|bn Y (pV Y Y) Y<|ev (dL Y Y)<|dM Y
 refine dn<|bK Y (λtY=>?_) (λtY=>?_)
 ·try simp only [fq,dX,bO,bV] at tY
  refine bQ Y<|ev (eX Y)<|yA g 3 yc Y<|yA g 3 zZ Y<|xP Y K1 s1 Y λw2 K2=>dn<|uX Y ?_
  have eO:(m.aA:List aH)=((um (fun(l:List aH) (id sum:Int)=>gy l id (dB sum)) m.aA c).1):=by unfold um; rw [aO tY]
  have fQ:(1:Int)=((um (fun(l:List aH) (id sum:Int)=>gy l id (dB sum)) m.aA c).2.1):=by unfold um; rw [aO tY]
  have jW:(0:Int)=((um (fun(l:List aH) (id sum:Int)=>gy l id (dB sum)) m.aA c).2.2):=by unfold um; rw [aO tY]
  exact⟨An,cn,Ac,cc,Y,by rw [<- eO,<- fQ,<- jW]; exact(K2.rm s1)⟩
 try simp only [fq,dX,bO,bV] at tY
 refine jm ?_;refine He K1 (λ_ K=>(K.rm s1)) (λl0 rk lJ wJ=>∃(jR:ah)(jO:Nat),lJ=l0/\Hp b S wJ (dY g 283 [.slice An m.aT.length cn,.slice jR ((if(gy m.aA c.A (dB (IntKind.u32.wrap c.B))).2=0 then((gy m.aA c.A (dB (IntKind.u32.wrap c.B))).1) else m.aA).length) jO,.slice As m.aP.length cs,aF ((gy m.aA c.A (dB (IntKind.u32.wrap c.B))).2),aF 0]::dP bJ jR jO (if(gy m.aA c.A (dB (IntKind.u32.wrap c.B))).2=0 then((gy m.aA c.A (dB (IntKind.u32.wrap c.B))).1) else m.aA)::rk)) (λhns H1=>?_) ?_
 ·have k1:=(H1.rm s1);refine kX 0 Y Y k1<|kX 1 Y Y k1<|uw 2 g 0 qO Y k1<|Np 5 g 1 jE Y k1<|ng 7 8 g1 3 vo s0 Y k1<|ng 9 10 g1 4 uj s0 Y k1<|lD 11 Y (λ_ _=>Ir Dw.1 Dw.2.1 Dw.2.2 Y) k1<|O1 6 Y<|nO H1 s1 Y<|aQ k1<|O1 12 Y<|gX Y (aph _ (H1.s s3) c.A (IntKind.u32.wrap c.B) aj hh) ?_
  rintro _ w3 ⟨nR,nS,rfl,h3⟩;have K3:=H1.c1 h3;have k2:=((K3.rm s2).rm s0);refine aQ k2<|lD 13 Y (λ_ _=>wS (vs:=[.slice nR (((gy m.aA c.A (dB (IntKind.u32.wrap c.B))).1).length) nS,aF ((gy m.aA c.A (dB (IntKind.u32.wrap c.B))).2)]) Y Y) k2<|lD 14 Y (λ_ _=>wS (vs:=[.slice nR (((gy m.aA c.A (dB (IntKind.u32.wrap c.B))).1).length) nS,aF ((gy m.aA c.A (dB (IntKind.u32.wrap c.B))).2)]) Y Y) k2<|O1 15 Y ?_
  have H2:=K3.fz s0;have H3:=H2.push (H2.s s0);have H4:=H3.push (H3.s s5);refine gX Y (Hu (e:=((gy m.aA c.A (dB (IntKind.u32.wrap c.B))).2)) ((H4.mV 0 4).sel s4)) ?_;rintro _ w4 ⟨As1,cs1,rfl,K4⟩;have k3:=(K4.cU 0 3);refine aQ k3<|Dn ⟨As1,cs1,Y,(K4.rm s2)⟩ Y
 rintro _ w5 ⟨jR,jO,rfl,K5⟩;refine He K5 (λ_ K=>K) (λl0 rk lJ wJ=>∃(tN:Nat)(wF:ah)(vM:Nat),lJ=(6,gD tN)::l0/\Hp b S wJ (dY tN 59 [aF ((aU (if(gy m.aA c.A (dB (IntKind.u32.wrap c.B))).2=0 then((gy m.aA c.A (dB (IntKind.u32.wrap c.B))).1) else m.aA) c.A).ID),aF ((aU (if(gy m.aA c.A (dB (IntKind.u32.wrap c.B))).2=0 then((gy m.aA c.A (dB (IntKind.u32.wrap c.B))).1) else m.aA) c.A).aB),gK ((aU (if(gy m.aA c.A (dB (IntKind.u32.wrap c.B))).2=0 then((gy m.aA c.A (dB (IntKind.u32.wrap c.B))).1) else m.aA) c.A).Sum),.slice wF (((aU (if(gy m.aA c.A (dB (IntKind.u32.wrap c.B))).2=0 then((gy m.aA c.A (dB (IntKind.u32.wrap c.B))).1) else m.aA) c.A).aD).length) vM]::dP dQ wF vM ((aU (if(gy m.aA c.A (dB (IntKind.u32.wrap c.B))).2=0 then((gy m.aA c.A (dB (IntKind.u32.wrap c.B))).1) else m.aA) c.A).aD)::rk)) (λhns H5=>?_) ?_
 ·refine uw 0 g 0 qO Y H5<|ng 3 4 g 1 jE s0 Y H5<|ng 5 6 g1 3 vo s2 Y H5<|Jn H5 (λl0 rk lJ wJ=>∃(g2:Nat)(Jo:ah)(Jp:Nat),lJ=(6,gD g2)::(46,.bool (gY (if(gy m.aA c.A (dB (IntKind.u32.wrap c.B))).2=0 then((gy m.aA c.A (dB (IntKind.u32.wrap c.B))).1) else m.aA) c.A))::l0/\Hp b S wJ (dY g2 59 [aF ((aU (if(gy m.aA c.A (dB (IntKind.u32.wrap c.B))).2=0 then((gy m.aA c.A (dB (IntKind.u32.wrap c.B))).1) else m.aA) c.A).ID),aF ((aU (if(gy m.aA c.A (dB (IntKind.u32.wrap c.B))).2=0 then((gy m.aA c.A (dB (IntKind.u32.wrap c.B))).1) else m.aA) c.A).aB),gK ((aU (if(gy m.aA c.A (dB (IntKind.u32.wrap c.B))).2=0 then((gy m.aA c.A (dB (IntKind.u32.wrap c.B))).1) else m.aA) c.A).Sum),.slice Jo (((aU (if(gy m.aA c.A (dB (IntKind.u32.wrap c.B))).2=0 then((gy m.aA c.A (dB (IntKind.u32.wrap c.B))).1) else m.aA) c.A).aD).length) Jp]::dP dQ Jo Jp ((aU (if(gy m.aA c.A (dB (IntKind.u32.wrap c.B))).2=0 then((gy m.aA c.A (dB (IntKind.u32.wrap c.B))).1) else m.aA) c.A).aD)::rk)) 1 8191 ?_ λhS1=>?_
  ·rintro _ Sm ⟨g2,Jo,Jp,rfl,sJ⟩;have k9:=(sJ.cU 0 2);refine xI 13 Y Y k9<|Dn ⟨g2,Jo,Jp,Y,sJ⟩ Y
  refine O2 7 11 Y Y ?_ ?_
  ·refine gX Y (find_ok _ (H5.s s1) c.A (by split; have:=(zQ (II m.aA c.A (yQ (IntKind.u32.wrap c.B))).1).1; omega; omega) (by split; exact(λx hx=>(by have:=(zQ (II m.aA c.A (yQ (IntKind.u32.wrap c.B))).1).2 x hx; omega)); exact hh)) ?_;rintro _ Xu ⟨p8,p9,rfl,h13⟩;have wz:=H5.c1 h13;have k10:=(wz.rm s0);refine aQ k10<|kX 8 Y Y k10<|lD 9 Y (λ_ _=>wS (vs:=[.agg #[aF ((aU (if(gy m.aA c.A (dB (IntKind.u32.wrap c.B))).2=0 then((gy m.aA c.A (dB (IntKind.u32.wrap c.B))).1) else m.aA) c.A).ID),aF ((aU (if(gy m.aA c.A (dB (IntKind.u32.wrap c.B))).2=0 then((gy m.aA c.A (dB (IntKind.u32.wrap c.B))).1) else m.aA) c.A).aB),gK ((aU (if(gy m.aA c.A (dB (IntKind.u32.wrap c.B))).2=0 then((gy m.aA c.A (dB (IntKind.u32.wrap c.B))).1) else m.aA) c.A).Sum),.slice p8 (((aU (if(gy m.aA c.A (dB (IntKind.u32.wrap c.B))).2=0 then((gy m.aA c.A (dB (IntKind.u32.wrap c.B))).1) else m.aA) c.A).aD).length) p9],.bool (gY (if(gy m.aA c.A (dB (IntKind.u32.wrap c.B))).2=0 then((gy m.aA c.A (dB (IntKind.u32.wrap c.B))).1) else m.aA) c.A)]) Y Y) k10<|lD 10 Y (λ_ _=>wS (vs:=[.agg #[aF ((aU (if(gy m.aA c.A (dB (IntKind.u32.wrap c.B))).2=0 then((gy m.aA c.A (dB (IntKind.u32.wrap c.B))).1) else m.aA) c.A).ID),aF ((aU (if(gy m.aA c.A (dB (IntKind.u32.wrap c.B))).2=0 then((gy m.aA c.A (dB (IntKind.u32.wrap c.B))).1) else m.aA) c.A).aB),gK ((aU (if(gy m.aA c.A (dB (IntKind.u32.wrap c.B))).2=0 then((gy m.aA c.A (dB (IntKind.u32.wrap c.B))).1) else m.aA) c.A).Sum),.slice p8 (((aU (if(gy m.aA c.A (dB (IntKind.u32.wrap c.B))).2=0 then((gy m.aA c.A (dB (IntKind.u32.wrap c.B))).1) else m.aA) c.A).aD).length) p9],.bool (gY (if(gy m.aA c.A (dB (IntKind.u32.wrap c.B))).2=0 then((gy m.aA c.A (dB (IntKind.u32.wrap c.B))).1) else m.aA) c.A)]) Y Y) k10<|O1 11 Y<|al lU Y wz λg4 Z0 wB=>?_
   have k11:=(wB.cU 0 2);refine aQ k11<|O1 12 Y<|sty Y wB s0 Y λZ4 zB=>?_
   have k12:=(zB.cU 0 2);exact Kj hS1 k12 ⟨g4,p8,p9,Y,zB⟩ Y
  ·refine al lU Y H5 λg5 w16 BR=>?_;have k13:=(BR.rm s0);refine aQ k13<|O1 7 Y<|gX Y (find_ok _ (BR.s s2) c.A (by split; have:=(zQ (II m.aA c.A (yQ (IntKind.u32.wrap c.B))).1).1; omega; omega) (by split; exact(λx hx=>(by have:=(zQ (II m.aA c.A (yQ (IntKind.u32.wrap c.B))).1).2 x hx; omega)); exact hh)) ?_
   rintro _ w17 ⟨Jq,Jr,rfl,h17⟩;have yB:=BR.c1 h17;have k14:=(yB.cU 0 2);refine aQ k14<|kX 8 Y Y k14<|lD 9 Y (λ_ _=>wS (vs:=[.agg #[aF ((aU (if(gy m.aA c.A (dB (IntKind.u32.wrap c.B))).2=0 then((gy m.aA c.A (dB (IntKind.u32.wrap c.B))).1) else m.aA) c.A).ID),aF ((aU (if(gy m.aA c.A (dB (IntKind.u32.wrap c.B))).2=0 then((gy m.aA c.A (dB (IntKind.u32.wrap c.B))).1) else m.aA) c.A).aB),gK ((aU (if(gy m.aA c.A (dB (IntKind.u32.wrap c.B))).2=0 then((gy m.aA c.A (dB (IntKind.u32.wrap c.B))).1) else m.aA) c.A).Sum),.slice Jq (((aU (if(gy m.aA c.A (dB (IntKind.u32.wrap c.B))).2=0 then((gy m.aA c.A (dB (IntKind.u32.wrap c.B))).1) else m.aA) c.A).aD).length) Jr],.bool (gY (if(gy m.aA c.A (dB (IntKind.u32.wrap c.B))).2=0 then((gy m.aA c.A (dB (IntKind.u32.wrap c.B))).1) else m.aA) c.A)]) Y Y) k14<|lD 10 Y (λ_ _=>wS (vs:=[.agg #[aF ((aU (if(gy m.aA c.A (dB (IntKind.u32.wrap c.B))).2=0 then((gy m.aA c.A (dB (IntKind.u32.wrap c.B))).1) else m.aA) c.A).ID),aF ((aU (if(gy m.aA c.A (dB (IntKind.u32.wrap c.B))).2=0 then((gy m.aA c.A (dB (IntKind.u32.wrap c.B))).1) else m.aA) c.A).aB),gK ((aU (if(gy m.aA c.A (dB (IntKind.u32.wrap c.B))).2=0 then((gy m.aA c.A (dB (IntKind.u32.wrap c.B))).1) else m.aA) c.A).Sum),.slice Jq (((aU (if(gy m.aA c.A (dB (IntKind.u32.wrap c.B))).2=0 then((gy m.aA c.A (dB (IntKind.u32.wrap c.B))).1) else m.aA) c.A).aD).length) Jr],.bool (gY (if(gy m.aA c.A (dB (IntKind.u32.wrap c.B))).2=0 then((gy m.aA c.A (dB (IntKind.u32.wrap c.B))).1) else m.aA) c.A)]) Y Y) k14<|O1 12 Y<|sty Y yB s1 Y λw18 ET=>?_
   have k15:=(ET.cU 0 2);exact Kj hS1 k15 ⟨g5,Jq,Jr,Y,ET⟩ Y
 rintro _ w19 ⟨tN,wF,vM,rfl,Cc⟩;refine jy<|mv Y<|jT tN 1 tH Cc s0 Y<|ev (eX Y)<|yA g 3 yc Y<|yA g 4 Yh Y<|xP Y Cc s2 Y λw20 C8=>jA<|rU (zA Y ?_)
 have mH:((if(gy m.aA c.A (dB (IntKind.u32.wrap c.B))).2=0 then((gy m.aA c.A (dB (IntKind.u32.wrap c.B))).1) else m.aA):List aH)=((um (fun(l:List aH) (id sum:Int)=>gy l id (dB sum)) m.aA c).1):=by unfold um; rw [aK (show ¬ (c.B<0∨4294967295<c.B) by omega)]
 have rR:((gy m.aA c.A (dB (IntKind.u32.wrap c.B))).2:Int)=((um (fun(l:List aH) (id sum:Int)=>gy l id (dB sum)) m.aA c).2.1):=by unfold um; rw [aK (show ¬ (c.B<0∨4294967295<c.B) by omega)]
 have wM:((aU (if(gy m.aA c.A (dB (IntKind.u32.wrap c.B))).2=0 then((gy m.aA c.A (dB (IntKind.u32.wrap c.B))).1) else m.aA) c.A).aB:Int)=((um (fun(l:List aH) (id sum:Int)=>gy l id (dB sum)) m.aA c).2.2):=by unfold um; rw [aK (show ¬ (c.B<0∨4294967295<c.B) by omega)]
 exact⟨An,cn,jR,jO,Y,by rw [<- mH,<- rR,<- wM]; exact(((((C8.rm s6).rm s4).cU 1 2).sel s1).mV 1 2)⟩
theorem avq (H0:Hp b S w (Dx g An m cn Ac cc As cs F))(hn:m.aT.length<=100000)(hc:m.aA.length<=100000)(hh:∀ x∈m.aA,x.aD.length<=100000) :
    bS prog 352 #[gD g,.agg #[aF c.Client,aF c.Seq,aF c.Kind,aF c.A,aF c.B,aF c.C]] w λv w'=>∃(Pv:ah)(Px:Nat)(Oj:ah)(Ol:Nat),v=.tuple #[]/\Hp b S w' (dY g 283 [.slice Pv m.aT.length Px,.slice Oj (((um eB m.aA c).1).length) Ol,.slice As m.aP.length cs,aF ((um eB m.aA c).2.1),aF ((um eB m.aA c).2.2)]::dP cZ Pv Px m.aT::dP bJ Oj Ol ((um eB m.aA c).1)::dP bX As cs m.aP::F):=by
 refine sV func352 ntmps352 Y<|rg<|bx Y Y H0 λg1 w1 K1=>dn<|jy<|mv Y<|ev (dU CO Y Y (K1.x s0))<|gX Y (ai9 ((K1.sel s0).mV 1 4) hn hc hh) ?_
 rintro _ w2 ⟨An2,cn2,Ac2,cc2,rfl,K2⟩;refine jA<|rU (zA Y ?_)
 exact⟨An2,cn2,Ac2,cc2,Y,by exact(K2.rm s4)⟩
theorem avr (H0:Hp b S w (dY g 283 [.slice An m.aT.length cn,.slice Ac m.aA.length cc,.slice As m.aP.length cs,aF 0,aF 0]::dP cZ An cn m.aT::dP bJ Ac cc m.aA::dP bX As cs m.aP::F))(hn:m.aT.length<=100000)(hc:m.aA.length<=100000)(hh:∀ x∈m.aA,x.aD.length<=100000) :
    bS prog 355 #[gD g,.agg #[aF c.Client,aF c.Seq,aF c.Kind,aF c.A,aF c.B,aF c.C]] w λv w'=>∃(Pv:ah)(Px:Nat)(Oj:ah)(Ol:Nat),v=.tuple #[]/\Hp b S w' (dY g 283 [.slice Pv m.aT.length Px,.slice Oj (((um (fun(l:List aH) (id sum:Int)=>gy l id (dB sum)) m.aA c).1).length) Ol,.slice As m.aP.length cs,aF ((um (fun(l:List aH) (id sum:Int)=>gy l id (dB sum)) m.aA c).2.1),aF ((um (fun(l:List aH) (id sum:Int)=>gy l id (dB sum)) m.aA c).2.2)]::dP cZ Pv Px m.aT::dP bJ Oj Ol ((um (fun(l:List aH) (id sum:Int)=>gy l id (dB sum)) m.aA c).1)::dP bX As cs m.aP::F):=by
 refine sV func355 ntmps355 Y<|rg<|bx Y Y H0 λg1 w1 K1=>dn<|jy<|mv Y<|ev (dU CO Y Y (K1.x s0))<|gX Y (aja ((K1.sel s0).mV 1 4) hn hc hh) ?_
 rintro _ w2 ⟨An2,cn2,Ac2,cc2,rfl,K2⟩;refine jA<|rU (zA Y ?_)
 exact⟨An2,cn2,Ac2,cc2,Y,by exact(K2.rm s4)⟩
abbrev yK(iD:dF)(ji:fV):=kS iD.aA ji.A ji.B ji.C
abbrev VN(iD:dF)(ji:fV):=if kI iD.aT ji.B=true then(if(yK iD ji).2=0 then(yK iD ji).1 else iD.aA) else iD.aA
abbrev Yl(iD:dF)(ji:fV):=if kI iD.aT ji.B=true then(yK iD ji).2 else 5
abbrev Ym(iD:dF)(ji:fV):=if(yK iD ji).2=0 then((yK iD ji).1) else iD.aA
theorem avs (H0:Hp b S w (Dx g An m cn Ac cc As cs F))(hn:m.aT.length<=100000)(hc:m.aA.length<=100000)(hh:∀ x∈m.aA,x.aD.length<=100000) :
    bS prog 357 #[gD g,.agg #[aF c.Client,aF c.Seq,aF c.Kind,aF c.A,aF c.B,aF c.C]] w λv w'=>∃(Pv:ah)(Px:Nat)(Oj:ah)(Ol:Nat),v=.tuple #[]/\Hp b S w' (dY g 283 [.slice Pv m.aT.length Px,.slice Oj ((VN m c).length) Ol,.slice As m.aP.length cs,aF (Yl m c),aF 0]::dP cZ Pv Px m.aT::dP bJ Oj Ol (VN m c)::dP bX As cs m.aP::F):=by
 refine sV func357 ntmps357 Y<|rg<|bx Y Y H0 λg1 w1 K1=>dn<|aW<|qo ak ak<|bA (bf Y) Y<|bA (eX Y) Y<|bA (dW (q:=⟨g,0,none⟩) qO Y Y) Y<|bA (dW (q:=⟨g,0,none⟩) pY Y Y) Y<|bA (dx aff Y (K1.x s1) Y) Y<|bA (dW (q:=⟨g1,4,none⟩) uj Y Y) Y<|bA (dx jD Y (K1.x s0) Y) Y<|Fv (v:=.bool (kI m.aT c.B)) Y Y Y azG (λwq eq=>(aa6 wq ((K1.s s2).any.ext eq) c.B aj).mono (by rintro _ _ ⟨rfl,fQ⟩; exact⟨rfl,fQ.ext⟩)) rfl<|bA (iB rfl) rfl<|qp λw2 e2=>?_
 have K2:=K1.grow e2;refine bK Y (λoN=>?_) (λoN=>?_)
 ·try simp only [fq,dX,bN,eH,eG,fP,bO,bV] at oN
  refine bQ Y<|ev (eX Y)<|yA g 3 yc Y<|yA g 3 zZ Y<|xP Y K2 s1 Y λw3 K3=>dn<|uX Y ?_
  have eO:(m.aA:List aH)=(VN m c):=by exact(aK (by rw [oN]; decide)).symm
  have fQ:(5:Int)=(Yl m c):=by exact(aK (by rw [oN]; decide)).symm
  exact⟨An,cn,Ac,cc,Y,by rw [<- eO,<- fQ]; exact(K3.rm s1)⟩
 try simp only [fq,dX,bN,eH,eG,fP,bO,bV] at oN
 refine jm ?_;refine Hf K2 (λ_ K=>(K.rm s1)) (λl0 rk lJ wJ=>∃(jR:ah)(jO:Nat),lJ=l0/\Hp b S wJ (dY g 283 [.slice An m.aT.length cn,.slice jR ((Ym m c).length) jO,.slice As m.aP.length cs,aF ((yK m c).2),aF 0]::dP bJ jR jO (Ym m c)::rk)) (λhns H1=>?_) ?_
 ·have k1:=(H1.rm s1);refine kX 0 Y Y k1<|uw 1 g 0 qO Y k1<|Np 4 g 1 jE Y k1<|ng 6 7 g1 3 vo s0 Y k1<|ng 8 9 g1 4 uj s0 Y k1<|ng 10 11 g1 5 agf s0 Y k1<|O1 5 Y<|nO H1 s1 Y<|aQ k1<|O1 12 Y<|gX Y (apj _ (H1.s s3) c.A c.B c.C aj hh) ?_
  rintro _ w4 ⟨sO,sP,rfl,h4⟩;have K4:=H1.c1 h4;have k2:=((K4.rm s2).rm s0);refine aQ k2<|zL 13 Y (vs:=[.slice sO (((yK m c).1).length) sP,aF ((yK m c).2)]) Y Y k2<|zL 14 Y (vs:=[.slice sO (((yK m c).1).length) sP,aF ((yK m c).2)]) Y Y k2<|O1 15 Y ?_
  have H2:=K4.fz s0;have H3:=H2.push (H2.s s0);have H4:=H3.push (H3.s s5);refine gX Y (Hu (e:=((yK m c).2)) ((H4.mV 0 4).sel s4)) ?_;rintro _ w5 ⟨As1,cs1,rfl,K5⟩;have k3:=(K5.cU 0 3);refine aQ k3<|Dn ⟨As1,cs1,Y,(K5.rm s2)⟩ Y
 rintro _ w6 ⟨jR,jO,rfl,K6⟩;refine rU (zA Y ?_);have jW:((Ym m c):List aH)=(VN m c):=by exact(aO oN).symm
 have mH:((yK m c).2:Int)=(Yl m c):=by exact(aO oN).symm
 exact⟨An,cn,jR,jO,Y,by rw [<- jW,<- mH]; exact((((K6.rm s4).rm s2).sel s1).mV 1 2)⟩
abbrev Aa(iD:dF)(ji:fV):=gy iD.aA ji.A (jw ji.B)
abbrev Yn(iD:dF)(ji:fV):=if(Aa iD ji).2=0 then((Aa iD ji).1) else iD.aA
abbrev Yo(iD:dF)(ji:fV):=if(Aa iD ji).2=0 then(Aa iD ji).1 else iD.aA
theorem avt (H0:Hp b S w (Dx g An m cn Ac cc As cs F))(hn:m.aT.length<=100000)(hc:m.aA.length<=100000)(hh:∀ x∈m.aA,x.aD.length<=100000) :
    bS prog 360 #[gD g,.agg #[aF c.Client,aF c.Seq,aF c.Kind,aF c.A,aF c.B,aF c.C]] w λv w'=>∃(Pv:ah)(Px:Nat)(Oj:ah)(Ol:Nat),v=.tuple #[]/\Hp b S w' (dY g 283 [.slice Pv m.aT.length Px,.slice Oj ((Yo m c).length) Ol,.slice As m.aP.length cs,aF ((Aa m c).2),aF 0]::dP cZ Pv Px m.aT::dP bJ Oj Ol (Yo m c)::dP bX As cs m.aP::F):=by
 refine sV func360 ntmps360 Y<|rg<|bx Y Y H0 λg1 w1 K1=>dn<|Hf K1 (λ_ K=>(K.rm s1)) (λl0 rk lJ wJ=>∃(jR:ah)(jO:Nat),lJ=l0/\Hp b S wJ (dY g 283 [.slice An m.aT.length cn,.slice jR ((Yn m c).length) jO,.slice As m.aP.length cs,aF ((Aa m c).2),aF 0]::dP bJ jR jO (Yn m c)::rk)) (λhns H1=>?_) ?_
 ·have k1:=(H1.rm s1);refine kX 0 Y Y k1<|uw 1 g 0 qO Y k1<|Np 4 g 1 jE Y k1<|ng 6 7 g1 3 vo s0 Y k1<|ng 8 9 g1 4 uj s0 Y k1<|O1 5 Y<|nO H1 s1 Y<|aQ k1<|O1 10 Y<|gX Y (aic _ (H1.s s3) c.A c.B aj hh) ?_
  rintro _ w2 ⟨oo,oq,rfl,h2⟩;have K2:=H1.c1 h2;have k2:=((K2.rm s2).rm s0);refine aQ k2<|zL 11 Y (vs:=[.slice oo (((Aa m c).1).length) oq,aF ((Aa m c).2)]) Y Y k2<|zL 12 Y (vs:=[.slice oo (((Aa m c).1).length) oq,aF ((Aa m c).2)]) Y Y k2<|O1 13 Y ?_
  have H2:=K2.fz s0;have H3:=H2.push (H2.s s0);have H4:=H3.push (H3.s s5);refine gX Y (Hu (e:=((Aa m c).2)) ((H4.mV 0 4).sel s4)) ?_;rintro _ w3 ⟨As1,cs1,rfl,K3⟩;have k3:=(K3.cU 0 3);refine aQ k3<|Dn ⟨As1,cs1,Y,(K3.rm s2)⟩ Y
 rintro _ w4 ⟨jR,jO,rfl,K4⟩;refine rU (zA Y ?_);have eO:((Yn m c):List aH)=(Yo m c):=by rfl
 exact⟨An,cn,jR,jO,Y,by rw [<- eO]; exact((((K4.rm s4).rm s2).sel s1).mV 1 2)⟩
abbrev Yp(iD:dF)(ji:fV):=if(iV iD.aA ji.A).2=0 then((iV iD.aA ji.A).1) else iD.aA
abbrev Yq(iD:dF)(ji:fV):=if(iV iD.aA ji.A).2=0 then(iV iD.aA ji.A).1 else iD.aA
theorem avu (H0:Hp b S w (Dx g An m cn Ac cc As cs F))(hn:m.aT.length<=100000)(hc:m.aA.length<=100000)(hh:∀ x∈m.aA,x.aD.length<=100000) :
    bS prog 362 #[gD g,.agg #[aF c.Client,aF c.Seq,aF c.Kind,aF c.A,aF c.B,aF c.C]] w λv w'=>∃(Pv:ah)(Px:Nat)(Oj:ah)(Ol:Nat),v=.tuple #[]/\Hp b S w' (dY g 283 [.slice Pv m.aT.length Px,.slice Oj ((Yq m c).length) Ol,.slice As m.aP.length cs,aF ((iV m.aA c.A).2),aF 0]::dP cZ Pv Px m.aT::dP bJ Oj Ol (Yq m c)::dP bX As cs m.aP::F):=by
 refine sV func362 ntmps362 Y<|rg<|bx Y Y H0 λg1 w1 K1=>dn<|Hf K1 (λ_ K=>(K.rm s1)) (λl0 rk lJ wJ=>∃(jR:ah)(jO:Nat),lJ=l0/\Hp b S wJ (dY g 283 [.slice An m.aT.length cn,.slice jR ((Yp m c).length) jO,.slice As m.aP.length cs,aF ((iV m.aA c.A).2),aF 0]::dP bJ jR jO (Yp m c)::rk)) (λhns H1=>?_) ?_
 ·have k1:=(H1.rm s1);refine kX 0 Y Y k1<|uw 1 g 0 qO Y k1<|Np 4 g 1 jE Y k1<|ng 6 7 g1 3 vo s0 Y k1<|O1 5 Y<|nO H1 s1 Y<|aQ k1<|O1 8 Y<|gX Y (amu _ (H1.s s3) c.A aj hh) ?_
  rintro _ w2 ⟨oo,oq,rfl,h2⟩;have K2:=H1.c1 h2;have k2:=((K2.rm s2).rm s0);refine aQ k2<|zL 9 Y (vs:=[.slice oo (((iV m.aA c.A).1).length) oq,aF ((iV m.aA c.A).2)]) Y Y k2<|zL 10 Y (vs:=[.slice oo (((iV m.aA c.A).1).length) oq,aF ((iV m.aA c.A).2)]) Y Y k2<|O1 11 Y ?_
  have H2:=K2.fz s0;have H3:=H2.push (H2.s s0);have H4:=H3.push (H3.s s5);refine gX Y (Hu (e:=((iV m.aA c.A).2)) ((H4.mV 0 4).sel s4)) ?_;rintro _ w3 ⟨As1,cs1,rfl,K3⟩;have k3:=(K3.cU 0 3);refine aQ k3<|Dn ⟨As1,cs1,Y,(K3.rm s2)⟩ Y
 rintro _ w4 ⟨jR,jO,rfl,K4⟩;refine rU (zA Y ?_);have eO:((Yp m c):List aH)=(Yq m c):=by rfl
 exact⟨An,cn,jR,jO,Y,by rw [<- eO]; exact((((K4.rm s4).rm s2).sel s1).mV 1 2)⟩
end Go.Proofs.YtlhnnmlenkahlaaGreat
