/- Lemmas. -/
import Derived.Test.YthcmboepffiliaaGreatvG7
set_option maxRecDepth 4000
set_option linter.all false
namespace Go.Proofs.YthcmboepffiliaaGreat
open Go.RowKit Go.Proofs.Tryz
def aen:=@List.any_eq_false
def pE:=@underlying135
section
variable {b w:World}{S:Nat->Prop}{F:List kF}{g cn cc cs:Nat}{An Ac As:ah}{m:bY}{c:eU}
def yM:bU prog 301 1 3:=ay
def Bf:bU prog 299 0 0:=ay
def qR:bU prog 301 0 0:=ay
def aBj:kW prog 27:=ay
def Zy:bU prog 299 1 1:=ay
def vP:bU prog 118 3 3:=ay
def uJ:bU prog 118 4 4:=ay
def aht:bU prog 118 5 5:=ay
def Zz(a0:Int)(a1:Int)(a2:Int):prog.built 72 [(0,O a0),(1,O a1),(2,O a2)]=some #[O a0,O a1,O a2,O 0]:=ak
def aDB:bC prog 282:=ay
def Ez:(prog.underlying 3).isSome=true/\prog.underlying 45=some (.int (prog.intKind 45))/\prog.intKind 45=.u32:=⟨ak,ak,ak⟩
def aky:Size prog 118 6:=ay
def Bg:WC prog 118 6:=⟨λ_=>by kernel_rfl,aky⟩
def Ie(e n:Int):Int:=if e≠0 then -e else n
def uT(put:List aH->Int->Int->List aH × Int)(cs:List aH)(c:eU):List aH × Int × Int:=
  if c.B<0∨4294967295<c.B then(cs,1,0) else
    ((if(put cs c.A (IntKind.u32.wrap c.B)).2=0 then(put cs c.A (IntKind.u32.wrap c.B)).1 else cs),(put cs c.A (IntKind.u32.wrap c.B)).2,(aV (if(put cs c.A (IntKind.u32.wrap c.B)).2=0 then(put cs c.A (IntKind.u32.wrap c.B)).1 else cs) c.A).E)
def Qo{A0 Al:ah}{c0 cl:Nat}{xs ll:V aT}{u1 u2 u4:Value}{e0 e:Int}(H0:Hp b S w (dJ g 301 [.slice A0 xs.length c0,u1,u2,O e0,u4]::dI bW A0 c0 xs::dI bW Al cl ll::F)):bM prog 279 #[fK g,.slice Al ll.length cl,O e] w λv w'=>∃ A c,v=.tuple #[]/\Hp b S w' (dJ g 301 [.slice A ((if e=0 then ll else xs).length) c,u1,u2,O e,u4]::dI bW A c (if e=0 then ll else xs)::F):=by
 refine qN func279 ntmps279 Y<|pC 4 Y<|zA g 3 yM Y<|zA g 3 Bf Y<|xD Y H0 U Y λw1 K1=>pA 5 Y<|o8 Y (λoD=>?_) (λoD=>?_)
 ·refine jN<|pq 3 Y<|zA g 0 qR Y<|zA g 0 lQ Y<|xD Y K1 U Y λw2 K2=>jO<|o7 (uo Y ?_)
  exact⟨Al,cl,Y,by rw [aS oD]; exact(K2.rm s1)⟩
 refine yC (o7 (uo Y ?_));exact⟨A0,c0,Y,by rw [aQ oD]; exact(K1.rm s2)⟩
def I5{A0 Al:ah}{c0 cl:Nat}{xs ll:V aH}{u0 u2 u4:Value}{e0 e:Int}(H0:Hp b S w (dJ g 301 [u0,.slice A0 xs.length c0,u2,O e0,u4]::dI bD A0 c0 xs::dI bD Al cl ll::F)):bM prog 290 #[fK g,.slice Al ll.length cl,O e] w λv w'=>∃ A c,v=.tuple #[]/\Hp b S w' (dJ g 301 [u0,.slice A ((if e=0 then ll else xs).length) c,u2,O e,u4]::dI bD A c (if e=0 then ll else xs)::F):=by
 refine qN func290 ntmps290 Y<|pC 4 Y<|zA g 3 yM Y<|zA g 3 Bf Y<|xD Y H0 U Y λw1 K1=>pA 5 Y<|o8 Y (λoD=>?_) (λoD=>?_)
 ·refine jN<|pq 3 Y<|zA g 0 qR Y<|zA g 1 jC Y<|xD Y K1 U Y λw2 K2=>jO<|o7 (uo Y ?_)
  exact⟨Al,cl,Y,by rw [aS oD]; exact(K2.rm s1)⟩
 refine yC (o7 (uo Y ?_));exact⟨A0,c0,Y,by rw [aQ oD]; exact(K1.rm s2)⟩
structure aeo where
  e:Int
  n:Int
  deriving DecidableEq
def aeo.enc(x:aeo):List Value:=[.int .i64 x.e,.int .i64 x.n]
def aeo.kP(x:aeo):∀ u∈x.enc,u.oneCell'=true:=by
 intro u hu
 simp only [aeo.enc,gW,lH,qM] at hu
 rcases hu with rfl | rfl <;> rfl
def ao5{S0:Nat->Prop}(w:World)(a:aeo)(he:0<=a.e/\a.e<=10):bM prog 214 #[.agg #[O a.e,O a.n]] w λv w'=>v=O (Ie a.e a.n)/\Hp w S0 w' []:=by
 refine lg S0 func214 ntmps214 Y λH0=>rg<|bx Y Y H0 λg1 w1 K1=>fE Y<|aZ<|rg<|jP g1 0 Bf K1 U Y<|pA 2 Y<|bS Y (λhc5=>?_) (λhc5=>?_)
 ·replace hc5:=oL hc5;refine rg<|jP g1 0 Bf K1 U Y<|ev (Ev.neg Y (xR aj aj))<|fE Y<|Aw Y ?_
  have gy:(-a.e:Int)=(Ie a.e a.n):=by exact(aS hc5).symm
  exact⟨by rw [gy] <;> rfl,(K1.rm U)⟩
 replace hc5:=oM hc5;refine jQ ?_;refine rg<|jP g1 1 Zy K1 U Y<|fE Y<|iU Y ?_
 exact⟨aY (Value.int .i64) (show a.n=Ie a.e a.n by unfold Ie; rw [aQ (by simpa using hc5)]),(K1.rm U)⟩
abbrev atm(gX:ah)(iP:bY)(xE:Nat)(AU:ah)(Gg:Nat)(R5:ah)(V9:Nat):List Value:=[.slice gX iP.aM.length xE,.slice AU iP.J.length Gg,.slice R5 iP.aU.length V9,O 0,O 0]
abbrev EA(gX:Nat)(iP:ah)(xE:bY)(AU:Nat)(Gg:ah)(R5:Nat)(V9:ah)(y7z:Nat)(y8z:List kF):=dJ gX 301 (atm iP xE AU Gg R5 V9 y7z)::dI bW iP AU xE.aM::dI bD Gg R5 xE.J::dI cB V9 y7z xE.aU::y8z
def ayw (H0:Hp b S w (EA g An m cn Ac cc As cs F))(hn:m.aM.length<=100000)(hc:m.J.length<=100000)(hh:∀ x∈m.J,x.aD.length<=100000):bM prog 277 #[fK g,.agg #[O c.Client,O c.Seq,O c.Kind,O c.A,O c.B,O c.C]] w λv w'=>∃ Qp Qq Pm Pn,v=.tuple #[]/\Hp b S w' (EA g Qp m Qq Pm Pn As cs F):=by
 refine qN func277 ntmps277 Y<|jN<|bx Y Y H0 λg1 w1 K1=>jO<|o7 (uo Y ?_)
 exact⟨An,cn,Ac,cc,Y,by exact(K1.rm U)⟩
abbrev Xu(gX:bY)(iP:eU):=oG gX.aM (⟨iP.A,iP.B,iP.C,0⟩:aT)
abbrev ZA(gX:bY)(iP:eU):=if(oG gX.aM ⟨iP.A,iP.B,iP.C,0⟩).2=0 then(oG gX.aM ⟨iP.A,iP.B,iP.C,0⟩).1 else gX.aM
abbrev ZB(gX:bY)(iP:eU):=if(Xu gX iP).2=0 then((Xu gX iP).1) else gX.aM
def ayx (H0:Hp b S w (EA g An m cn Ac cc As cs F))(hn:m.aM.length<=100000)(hc:m.J.length<=100000)(hh:∀ x∈m.J,x.aD.length<=100000):bM prog 278 #[fK g,.agg #[O c.Client,O c.Seq,O c.Kind,O c.A,O c.B,O c.C]] w λv w'=>∃ Qp Qq Pm Pn,v=.tuple #[]/\Hp b S w' (dJ g 301 [.slice Qp ((ZA m c).length) Qq,.slice Pm m.J.length Pn,.slice As m.aU.length cs,O ((oG m.aM ⟨c.A,c.B,c.C,0⟩).2),O 0]::dI bW Qp Qq (ZA m c)::dI bD Pm Pn m.J::dI cB As cs m.aU::F):=by
 refine qN func278 ntmps278 Y<|rg<|bx Y Y H0 λg1 w1 K1=>dn<|Hf K1 (λ_ K=>(K.rm s1)) (λl0 rk lJ wJ=>∃ jG jr,lJ=l0/\Hp b S wJ (dJ g 301 [.slice jG ((ZB m c).length) jr,.slice Ac m.J.length cc,.slice As m.aU.length cs,O ((Xu m c).2),O 0]::dI bW jG jr (ZB m c)::rk)) (λhns H1=>?_) ?_
 ·have k1:=(H1.rm s1);refine lF 0 Y Y k1<|qp 1 g 0 qR Y k1<|Iy 4 g 0 lQ Y k1<|mK 6 7 g1 3 vP U Y k1<|mK 8 9 g1 4 uJ U Y k1<|mK 10 11 g1 5 aht U Y k1<|kI 12 Y (λ_ _=>iT Y (by apply Zz)) k1<|O1 5 rfl<|lY H1 s1 rfl<|aO k1<|O1 13 rfl<|gu rfl (axK _ (H1.s s2).any (⟨c.A,c.B,c.C,0⟩:aT) aj) ?_
  rintro _ w2 ⟨qj,ql,rfl,h2⟩;have K2:=H1.f1 h2;have k2:=((K2.rm s2).rm U);refine aO k2<|yj 14 Y Y Y k2<|yj 15 Y Y Y k2<|O1 16 Y ?_
  have H2:=K2.fz U;have H3:=H2.push (H2.s U);have H4:=H3.push (H3.s s4);refine gu Y (Qo ((H4.mV 0 4).sel s4)) ?_;rintro _ w3 ⟨As1,cs1,rfl,K3⟩;have k3:=(K3.cU 0 3);refine aO k3<|Dn ⟨As1,cs1,Y,(K3.rm s2)⟩ Y
 rintro _ w4 ⟨jG,jr,rfl,K4⟩;refine o7 (uo Y ?_);have gy:((ZB m c):V aT)=(ZA m c):=by rfl
 have gH:((Xu m c).2:Int)=((oG m.aM ⟨c.A,c.B,c.C,0⟩).2):=by rfl
 exact⟨jG,jr,Ac,cc,Y,by rw [<- gy,<- gH]; exact(K4.cU 2 2)⟩
abbrev Bh(gX:bY)(iP:eU):=lW gX.aM iP.A iP.B
abbrev Si(gX:eU)(iP:bY):=if gX.B=2/\(ofL iP.J gX.A).length>0 then iP.aM else if(Bh iP gX).2=0 then(Bh iP gX).1 else iP.aM
abbrev Oq(gX:bY)(iP:eU):=if(Bh gX iP).2=0 then((Bh gX iP).1) else gX.aM
abbrev Xv(gX:eU)(iP:bY):=if gX.B=2/\(ofL iP.J gX.A).length>0 then 8 else(Bh iP gX).2
def ayy (H0:Hp b S w (EA g An m cn Ac cc As cs F))(hn:m.aM.length<=100000)(hc:m.J.length<=100000)(hh:∀ x∈m.J,x.aD.length<=100000):bM prog 281 #[fK g,.agg #[O c.Client,O c.Seq,O c.Kind,O c.A,O c.B,O c.C]] w λv w'=>∃ Qp Qq Pm Pn,v=.tuple #[]/\Hp b S w' (dJ g 301 [.slice Qp ((Si c m).length) Qq,.slice Pm m.J.length Pn,.slice As m.aU.length cs,O (Xv c m),O 0]::dI bW Qp Qq (Si c m)::dI bD Pm Pn m.J::dI cB As cs m.aU::F):=by
 refine qN func281 ntmps281 Y<|rg<|bx Y Y H0 λg1 w1 K1=>dn<|aZ<|WP.dr ak ?_
 have H1:=K1.grow (oW w1).drew;refine wiz H1 [(0,4,.pointer (some ⟨g1,4,none⟩)),(1,5,O c.B),(2,6,.bool (decide (c.B=2))),(3,7,.bool (decide (c.B=2)))] 11 ak (Ik Y (λ_ hK=>(fq uJ Y Y))<|Ik Y (λ_ hK=>(dU jF Y (hK.x U) Y))<|Ik Y (λ_ hK=>(wQ Y Y))<|Ik Y (λ_ hK=>(dP Y))<|qnz) λw2 K2=>?_
 cases hb7:decide (c.B=2) with
 | true=>
  have aOb:=iY hb7;refine wiz K2 [(4,8,fK g),(9,13,.pointer (some ⟨g1,3,none⟩)),(5,9,fK g),(10,14,O c.A),(6,10,fK g),(7,11,.pointer (some ⟨g,1,none⟩)),(8,12,.slice Ac m.J.length cc)] 4 (ada ak) (O9 Y (λ_ hK=>(dP Y))<|O9 Y (λ_ hK=>(fq vP Y Y))<|O9 Y (λ_ hK=>(nH Y))<|O9 Y (λ_ hK=>(dU jF Y (hK.x U) Y))<|O9 Y (λ_ hK=>(fq qR Y Y))<|O9 Y (λ_ hK=>(fq jC Y Y))<|O9 Y (λ_ hK=>(dU alX Y (hK.x s1) Y))<|qnz) λw3 K3=>?_;refine WI.one 11 ak Y<|om Y Y Y Y aDB (aGD _ (K3.s s3).any c.A aj hh) Y ?_
  rintro _ w4 ⟨sG,sH,rfl,h4⟩;have K4:=K3.f1 h4;refine WI.nx<|wiz K4 [(12,16,O (((ofL m.J c.A).length:Nat):Int)),(13,17,.bool (decide (0<(((ofL m.J c.A).length:Nat):Int)))),(14,18,.bool (decide (0<(((ofL m.J c.A).length:Nat):Int))))] 0 ak (O9 Y (λ_ hK=>(jf gq Y))<|O9 Y (λ_ hK=>(Ev.gtr Y Y))<|Ik Y (λ_ hK=>(oP Y Y))<|qnz) λw5 K5=>?_
  refine WI.dn ak<|o8 Y (λhc18=>?_) (λhc18=>?_)
  ·refine pC 3 Y<|zA g 3 yM Y<|zA g 3 Bf Y<|xD Y K5 s2 Y λw6 K6=>dn<|Aw Y ?_
   have gy:(m.aM:V aT)=(Si c m):=by first | exact(aS ⟨aj,aj⟩).symm | exact(aQ aj).symm
   have gH:(8:Int)=(Xv c m):=by first | exact(aS ⟨aj,aj⟩).symm | exact(aQ aj).symm
   exact⟨An,cn,Ac,cc,Y,by rw [<- gy,<- gH]; exact(K6.cU 1 2)⟩
  refine jQ ?_;refine Hf K5 (λ_ K=>(K.rm s2)) (λl0 rk lJ wJ=>∃ jG jr,lJ=l0/\Hp b S wJ (dJ g 301 [.slice jG ((Oq m c).length) jr,.slice Ac m.J.length cc,.slice As m.aU.length cs,O ((Bh m c).2),O 0]::dI bW jG jr (Oq m c)::rk)) (λhns H2=>?_) ?_
  ·have k1:=(H2.rm s2);refine lF 0 Y Y k1<|qp 1 g 0 qR Y k1<|Iy 4 g 0 lQ Y k1<|mK 6 7 g1 3 vP s1 Y k1<|mK 8 9 g1 4 uJ s1 Y k1<|O1 5 Y<|lY H2 s2 Y<|aO k1<|O1 10 Y<|gu Y (alU _ (H2.s s3).any c.A c.B aj) ?_
   rintro _ w7 ⟨aHS,aHT,rfl,h7⟩;have K7:=H2.f1 h7;have k2:=((K7.rm s3).rm U);refine aO k2<|yj 11 Y Y Y k2<|yj 12 Y Y Y k2<|O1 13 Y ?_
   have H3:=K7.fz U;have H4:=H3.push (H3.s U);have H5:=H4.push (H4.s s5);refine gu Y (Qo ((H5.mV 0 5).sel s5)) ?_;rintro _ w8 ⟨As1,cs1,rfl,K8⟩;have k3:=(K8.cU 0 3);refine aO k3<|Dn ⟨As1,cs1,Y,(K8.rm s2)⟩ Y
  rintro _ w9 ⟨jG,jr,rfl,K9⟩;refine o7 (uo Y ?_);have kN:((Oq m c):V aT)=(Si c m):=by first | exact(aS ⟨aj,aj⟩).symm | exact(aQ aj).symm
  have nM:((Bh m c).2:Int)=(Xv c m):=by first | exact(aS ⟨aj,aj⟩).symm | exact(aQ aj).symm
  exact⟨jG,jr,Ac,cc,Y,by rw [<- kN,<- nM]; exact(K9.cU 2 3)⟩
 | false=>
  have aOb:=jX hb7;refine wiz K2 [(4,8,undef),(9,13,undef),(5,9,undef),(10,14,undef),(6,10,undef),(7,11,undef),(8,12,undef),(11,15,undef),(12,16,undef),(13,17,undef),(14,18,.bool false)] 0 (ada ak) (AA Y<|AA Y<|AA Y<|AA Y<|AA Y<|AA Y<|AA Y<|AA Y<|AA Y<|AA Y<|Ik Y (λ_ hK=>(oU Y Y))<|qnz) λPE K10=>?_;refine WI.dn ak<|bS Y nofun (λ_h=>?_)
  refine jQ ?_;refine Hf K10 (λ_ K=>(K.rm s1)) (λl0 rk lJ wJ=>∃ wH vG,lJ=l0/\Hp b S wJ (dJ g 301 [.slice wH ((Oq m c).length) vG,.slice Ac m.J.length cc,.slice As m.aU.length cs,O ((Bh m c).2),O 0]::dI bW wH vG (Oq m c)::rk)) (λhns H6=>?_) ?_
  ·have k4:=(H6.rm s1);refine lF 0 Y Y k4<|qp 1 g 0 qR Y k4<|Iy 4 g 0 lQ Y k4<|mK 6 7 g1 3 vP U Y k4<|mK 8 9 g1 4 uJ U Y k4<|O1 5 Y<|lY H6 s1 Y<|aO k4<|O1 10 Y<|gu Y (alU _ (H6.s s2).any c.A c.B aj) ?_
   rintro _ VY ⟨atn,ato,rfl,h11⟩;have vF:=H6.f1 h11;have k5:=((vF.rm s2).rm U);refine aO k5<|yj 11 Y Y Y k5<|yj 12 Y Y Y k5<|O1 13 Y ?_
   have H7:=vF.fz U;have H8:=H7.push (H7.s U);have H9:=H8.push (H8.s s4);refine gu Y (Qo ((H9.mV 0 4).sel s4)) ?_;rintro _ Uy ⟨As2,cs2,rfl,uR⟩;have k6:=(uR.cU 0 3);refine aO k6<|Dn ⟨As2,cs2,Y,(uR.rm s2)⟩ Y
  rintro _ YX ⟨wH,vG,rfl,xk⟩;refine o7 (uo Y ?_);have uO:((Oq m c):V aT)=(Si c m):=by first | exact(aS ⟨aj,aj⟩).symm | exact(aQ aj).symm
  have zC:((Bh m c).2:Int)=(Xv c m):=by first | exact(aS ⟨aj,aj⟩).symm | exact(aQ aj).symm
  exact⟨wH,vG,Ac,cc,Y,by rw [<- uO,<- zC]; exact(xk.cU 2 2)⟩
abbrev xJ(gX:bY)(iP:eU):=aV (if(dO gX.J iP.A (IntKind.u32.wrap iP.B)).2=0 then((dO gX.J iP.A (IntKind.u32.wrap iP.B)).1) else gX.J) iP.A
abbrev amo(gX:bY)(iP:eU):=gQ (if(dO gX.J iP.A (IntKind.u32.wrap iP.B)).2=0 then((dO gX.J iP.A (IntKind.u32.wrap iP.B)).1) else gX.J) iP.A
abbrev ZC(gX:bY)(iP:eU):=((xJ gX iP).aD).length
def akz (H0:Hp b S w (dJ g 301 [.slice An m.aM.length cn,.slice Ac m.J.length cc,.slice As m.aU.length cs,O 0,O 0]::dI bW An cn m.aM::dI bD Ac cc m.J::dI cB As cs m.aU::F))(hn:m.aM.length<=100000)(hc:m.J.length<=100000)(hh:∀ x∈m.J,x.aD.length<=100000):bM prog 285 #[fK g,.agg #[O c.Client,O c.Seq,O c.Kind,O c.A,O c.B,O c.C],.func (.func 286) #[] #[]] w λv w'=>∃ Qp Qq Pm Pn,v=.tuple #[]/\Hp b S w' (dJ g 301 [.slice Qp m.aM.length Qq,.slice Pm (((uT dO m.J c).1).length) Pn,.slice As m.aU.length cs,O ((uT dO m.J c).2.1),O ((uT dO m.J c).2.2)]::dI bW Qp Qq m.aM::dI bD Pm Pn ((uT dO m.J c).1)::dI cB As cs m.aU::F):=by
 refine qN func285 ntmps285 Y<|rg<|bx Y Y H0 λg1 w1 K1=>dn<|aZ<|rg<|jP g1 4 uJ K1 U Y<|pq 2 Y<|iJ 4 15 ((decide (c.B<0))||(decide (4294967295<c.B))) ?_ ?_
 ·cases UD:decide (c.B<0) with
  | true=>
   refine pq 4 Y<|dK Y
  | false=>
   refine wW g1 4 uJ K1 U Y<|pq 2 Y<|dK Y
 refine dn<|bS Y (λzB=>?_) (λzB=>?_)
 ·try simp only [aA] at zB
  refine pC 3 Y<|zA g 3 yM Y<|zA g 3 Bf Y<|xD Y K1 s1 Y λw2 K2=>dn<|Aw Y ?_
  have gy:(m.J:V aH)=((uT dO m.J c).1):=by unfold uT; rw [aS zB]
  have gH:(1:Int)=((uT dO m.J c).2.1):=by unfold uT; rw [aS zB]
  have kN:(0:Int)=((uT dO m.J c).2.2):=by unfold uT; rw [aS zB]
  exact⟨An,cn,Ac,cc,Y,by rw [<- gy,<- gH,<- kN]; exact(K2.rm s1)⟩
 try simp only [aA] at zB
 refine jQ ?_;refine He K1 (λ_ K=>(K.rm s1)) (λl0 rk lJ wJ=>∃ jG jr,lJ=l0/\Hp b S wJ (dJ g 301 [.slice An m.aM.length cn,.slice jG ((if(dO m.J c.A (IntKind.u32.wrap c.B)).2=0 then((dO m.J c.A (IntKind.u32.wrap c.B)).1) else m.J).length) jr,.slice As m.aU.length cs,O ((dO m.J c.A (IntKind.u32.wrap c.B)).2),O 0]::dI bD jG jr (if(dO m.J c.A (IntKind.u32.wrap c.B)).2=0 then((dO m.J c.A (IntKind.u32.wrap c.B)).1) else m.J)::rk)) (λhns H1=>?_) ?_
 ·have k1:=(H1.rm s1);refine lF 0 Y Y k1<|lF 1 Y Y k1<|qp 2 g 0 qR Y k1<|Iy 5 g 1 jC Y k1<|mK 7 8 g1 3 vP U Y k1<|mK 9 10 g1 4 uJ U Y k1<|kI 11 Y (λ_ _=>Pz Ez.1 Ez.2.1 Ez.2.2 Y) k1<|O1 6 Y<|lY H1 s1 Y<|aO k1<|O1 12 Y<|gu Y (aol _ (H1.s s3) c.A (IntKind.u32.wrap c.B) aj hh) ?_
  rintro _ w3 ⟨rE,rF,rfl,h3⟩;have K3:=H1.c1 h3;have k2:=((K3.rm s2).rm U);refine aO k2<|kI 13 Y (λ_ _=>yE Y Y) k2<|kI 14 Y (λ_ _=>yE Y Y) k2<|O1 15 Y ?_
  have H2:=K3.fz U;have H3:=H2.push (H2.s U);have H4:=H3.push (H3.s s5);refine gu Y (I5 ((H4.mV 0 4).sel s4)) ?_;rintro _ w4 ⟨As1,cs1,rfl,K4⟩;have k3:=(K4.cU 0 3);refine aO k3<|Dn ⟨As1,cs1,Y,(K4.rm s2)⟩ Y
 rintro _ w5 ⟨jG,jr,rfl,K5⟩;refine He K5 (λ_ K=>K) (λl0 rk lJ wJ=>∃ qF wH vG,lJ=(6,fK qF)::l0/\Hp b S wJ (dJ qF 48 [O ((xJ m c).ID),O ((xJ m c).E),gP ((xJ m c).Sum),.slice wH (ZC m c) vG]::dI dN wH vG ((xJ m c).aD)::rk)) (λhns H5=>?_) ?_
 ·refine qp 0 g 0 qR Y H5<|mK 3 4 g 1 jC U Y H5<|mK 5 6 g1 3 vP s2 Y H5<|Jn H5 (λl0 rk lJ wJ=>∃ g2 Ko Kq,lJ=(6,fK g2)::(46,.bool (amo m c))::l0/\Hp b S wJ (dJ g2 48 [O ((xJ m c).ID),O ((xJ m c).E),gP ((xJ m c).Sum),.slice Ko (ZC m c) Kq]::dI dN Ko Kq ((xJ m c).aD)::rk)) 1 8191 ?_ λhS1=>?_
  ·rintro _ Uy ⟨g2,Ko,Kq,rfl,uR⟩;have k9:=(uR.cU 0 2);refine xC 13 Y Y k9<|Dn ⟨g2,Ko,Kq,Y,uR⟩ Y
  refine O2 7 11 Y Y ?_ ?_
  ·refine gu Y (find_ok _ (H5.s s1) c.A (by split; have:=(vo (E8 m.J c.A (IntKind.u32.wrap c.B)).1).1; omega; omega) (by split; exact(λx hx=>(by have:=(vo (E8 m.J c.A (IntKind.u32.wrap c.B)).1).2 x hx; omega)); exact hh)) ?_;rintro _ YX ⟨tV,tX,rfl,h13⟩;have xk:=H5.c1 h13;have k10:=(xk.rm U);refine aO k10<|lF 8 Y Y k10<|yj 9 Y Y Y k10<|yj 10 Y Y Y k10<|O1 11 Y<|al lX Y xk λg4 w14 wF=>?_
   have k11:=(wF.cU 0 2);refine aO k11<|O1 12 Y<|sty Y wF U Y λw15 zI=>?_
   have k12:=(zI.cU 0 2);exact Kj hS1 k12 ⟨g4,tV,tX,Y,zI⟩ Y
  ·refine al lX Y H5 λg5 w16 BZ=>?_;have k13:=(BZ.rm U);refine aO k13<|O1 7 Y<|gu Y (find_ok _ (BZ.s s2) c.A (by split; have:=(vo (E8 m.J c.A (IntKind.u32.wrap c.B)).1).1; omega; omega) (by split; exact(λx hx=>(by have:=(vo (E8 m.J c.A (IntKind.u32.wrap c.B)).1).2 x hx; omega)); exact hh)) ?_
   rintro _ w17 ⟨Sj,Sm,rfl,h17⟩;have zT:=BZ.c1 h17;have k14:=(zT.cU 0 2);refine aO k14<|lF 8 Y Y k14<|yj 9 Y Y Y k14<|yj 10 Y (vs:=[.agg #[O ((xJ m c).ID),O ((xJ m c).E),gP ((xJ m c).Sum),.slice Sj (ZC m c) Sm],.bool (amo m c)]) Y Y k14<|O1 12 Y<|sty Y zT s1 Y λw18 EL=>?_
   have k15:=(EL.cU 0 2);exact Kj hS1 k15 ⟨g5,Sj,Sm,Y,EL⟩ Y
 rintro _ w19 ⟨qF,wH,vG,rfl,Ai⟩;refine jN<|mv Y<|jP qF 1 tO Ai U Y<|pq 1 Y<|zA g 3 yM Y<|zA g 4 Zy Y<|xD Y Ai s2 Y λw20 Fg=>jO<|o7 (uo Y ?_)
 have nM:((if(dO m.J c.A (IntKind.u32.wrap c.B)).2=0 then((dO m.J c.A (IntKind.u32.wrap c.B)).1) else m.J):V aH)=((uT dO m.J c).1):=by unfold uT; rw [aQ (show ¬ (c.B<0∨4294967295<c.B) by omega)]
 have uO:((dO m.J c.A (IntKind.u32.wrap c.B)).2:Int)=((uT dO m.J c).2.1):=by unfold uT; rw [aQ (show ¬ (c.B<0∨4294967295<c.B) by omega)]
 have zC:((xJ m c).E:Int)=((uT dO m.J c).2.2):=by unfold uT; rw [aQ (show ¬ (c.B<0∨4294967295<c.B) by omega)]
 exact⟨An,cn,jG,jr,Y,by rw [<- nM,<- uO,<- zC]; exact(((((Fg.rm s6).rm s4).cU 1 2).sel s1).mV 1 2)⟩
def akA (H0:Hp b S w (dJ g 301 [.slice An m.aM.length cn,.slice Ac m.J.length cc,.slice As m.aU.length cs,O 0,O 0]::dI bW An cn m.aM::dI bD Ac cc m.J::dI cB As cs m.aU::F))(hn:m.aM.length<=100000)(hc:m.J.length<=100000)(hh:∀ x∈m.J,x.aD.length<=100000):bM prog 285 #[fK g,.agg #[O c.Client,O c.Seq,O c.Kind,O c.A,O c.B,O c.C],.func (.func 288) #[] #[]] w λv w'=>∃ Qp Qq Pm Pn,v=.tuple #[]/\Hp b S w' (dJ g 301 [.slice Qp m.aM.length Qq,.slice Pm (((uT (fun(l:V aH) (id sum:Int)=>gU l id (eu sum)) m.J c).1).length) Pn,.slice As m.aU.length cs,O ((uT (fun(l:V aH) (id sum:Int)=>gU l id (eu sum)) m.J c).2.1),O ((uT (fun(l:V aH) (id sum:Int)=>gU l id (eu sum)) m.J c).2.2)]::dI bW Qp Qq m.aM::dI bD Pm Pn ((uT (fun(l:V aH) (id sum:Int)=>gU l id (eu sum)) m.J c).1)::dI cB As cs m.aU::F):=by
 refine qN func285 ntmps285 Y<|rg<|bx Y Y H0 λg1 w1 K1=>dn<|aZ<|rg<|jP g1 4 uJ K1 U Y<|pq 2 Y<|iJ 4 15 ((decide (c.B<0))||(decide (4294967295<c.B))) ?_ ?_
 ·cases UD:decide (c.B<0) with
  | true=>
   refine pq 4 Y<|dK Y
  | false=>
   refine wW g1 4 uJ K1 U Y<|pq 2 Y<|dK Y
 refine dn<|bS Y (λzB=>?_) (λzB=>?_)
 ·try simp only [aA] at zB
  refine pC 3 Y<|zA g 3 yM Y<|zA g 3 Bf Y<|xD Y K1 s1 Y λw2 K2=>dn<|Aw Y ?_
  have gy:(m.J:V aH)=((uT (fun(l:V aH) (id sum:Int)=>gU l id (eu sum)) m.J c).1):=by unfold uT; rw [aS zB]
  have gH:(1:Int)=((uT (fun(l:V aH) (id sum:Int)=>gU l id (eu sum)) m.J c).2.1):=by unfold uT; rw [aS zB]
  have kN:(0:Int)=((uT (fun(l:V aH) (id sum:Int)=>gU l id (eu sum)) m.J c).2.2):=by unfold uT; rw [aS zB]
  exact⟨An,cn,Ac,cc,Y,by rw [<- gy,<- gH,<- kN]; exact(K2.rm s1)⟩
 try simp only [aA] at zB
 refine jQ ?_;refine He K1 (λ_ K=>(K.rm s1)) (λl0 rk lJ wJ=>∃ jG jr,lJ=l0/\Hp b S wJ (dJ g 301 [.slice An m.aM.length cn,.slice jG ((if(gU m.J c.A (eu (IntKind.u32.wrap c.B))).2=0 then((gU m.J c.A (eu (IntKind.u32.wrap c.B))).1) else m.J).length) jr,.slice As m.aU.length cs,O ((gU m.J c.A (eu (IntKind.u32.wrap c.B))).2),O 0]::dI bD jG jr (if(gU m.J c.A (eu (IntKind.u32.wrap c.B))).2=0 then((gU m.J c.A (eu (IntKind.u32.wrap c.B))).1) else m.J)::rk)) (λhns H1=>?_) ?_
 ·have k1:=(H1.rm s1);refine lF 0 Y Y k1<|lF 1 Y Y k1<|qp 2 g 0 qR Y k1<|Iy 5 g 1 jC Y k1<|mK 7 8 g1 3 vP U Y k1<|mK 9 10 g1 4 uJ U Y k1<|kI 11 Y (λ_ _=>Pz Ez.1 Ez.2.1 Ez.2.2 Y) k1<|O1 6 Y<|lY H1 s1 Y<|aO k1<|O1 12 Y<|gu Y (arB _ (H1.s s3) c.A (IntKind.u32.wrap c.B) aj hh) ?_
  rintro _ w3 ⟨rE,rF,rfl,h3⟩;have K3:=H1.c1 h3;have k2:=((K3.rm s2).rm U);refine aO k2<|kI 13 Y (λ_ _=>yE Y Y) k2<|kI 14 Y (λ_ _=>yE Y Y) k2<|O1 15 Y ?_
  have H2:=K3.fz U;have H3:=H2.push (H2.s U);have H4:=H3.push (H3.s s5);refine gu Y (I5 ((H4.mV 0 4).sel s4)) ?_;rintro _ w4 ⟨As1,cs1,rfl,K4⟩;have k3:=(K4.cU 0 3);refine aO k3<|Dn ⟨As1,cs1,Y,(K4.rm s2)⟩ Y
 rintro _ w5 ⟨jG,jr,rfl,K5⟩;refine He K5 (λ_ K=>K) (λl0 rk lJ wJ=>∃ qF wH vG,lJ=(6,fK qF)::l0/\Hp b S wJ (dJ qF 48 [O ((aV (if(gU m.J c.A (eu (IntKind.u32.wrap c.B))).2=0 then((gU m.J c.A (eu (IntKind.u32.wrap c.B))).1) else m.J) c.A).ID),O ((aV (if(gU m.J c.A (eu (IntKind.u32.wrap c.B))).2=0 then((gU m.J c.A (eu (IntKind.u32.wrap c.B))).1) else m.J) c.A).E),gP ((aV (if(gU m.J c.A (eu (IntKind.u32.wrap c.B))).2=0 then((gU m.J c.A (eu (IntKind.u32.wrap c.B))).1) else m.J) c.A).Sum),.slice wH (((aV (if(gU m.J c.A (eu (IntKind.u32.wrap c.B))).2=0 then((gU m.J c.A (eu (IntKind.u32.wrap c.B))).1) else m.J) c.A).aD).length) vG]::dI dN wH vG ((aV (if(gU m.J c.A (eu (IntKind.u32.wrap c.B))).2=0 then((gU m.J c.A (eu (IntKind.u32.wrap c.B))).1) else m.J) c.A).aD)::rk)) (λhns H5=>?_) ?_
 ·refine qp 0 g 0 qR Y H5<|mK 3 4 g 1 jC U Y H5<|mK 5 6 g1 3 vP s2 Y H5<|Jn H5 (λl0 rk lJ wJ=>∃ g2 Ko Kq,lJ=(6,fK g2)::(46,.bool (gQ (if(gU m.J c.A (eu (IntKind.u32.wrap c.B))).2=0 then((gU m.J c.A (eu (IntKind.u32.wrap c.B))).1) else m.J) c.A))::l0/\Hp b S wJ (dJ g2 48 [O ((aV (if(gU m.J c.A (eu (IntKind.u32.wrap c.B))).2=0 then((gU m.J c.A (eu (IntKind.u32.wrap c.B))).1) else m.J) c.A).ID),O ((aV (if(gU m.J c.A (eu (IntKind.u32.wrap c.B))).2=0 then((gU m.J c.A (eu (IntKind.u32.wrap c.B))).1) else m.J) c.A).E),gP ((aV (if(gU m.J c.A (eu (IntKind.u32.wrap c.B))).2=0 then((gU m.J c.A (eu (IntKind.u32.wrap c.B))).1) else m.J) c.A).Sum),.slice Ko (((aV (if(gU m.J c.A (eu (IntKind.u32.wrap c.B))).2=0 then((gU m.J c.A (eu (IntKind.u32.wrap c.B))).1) else m.J) c.A).aD).length) Kq]::dI dN Ko Kq ((aV (if(gU m.J c.A (eu (IntKind.u32.wrap c.B))).2=0 then((gU m.J c.A (eu (IntKind.u32.wrap c.B))).1) else m.J) c.A).aD)::rk)) 1 8191 ?_ λhS1=>?_
  ·rintro _ Uy ⟨g2,Ko,Kq,rfl,uR⟩;have k9:=(uR.cU 0 2);refine xC 13 Y Y k9<|Dn ⟨g2,Ko,Kq,Y,uR⟩ Y
  refine O2 7 11 Y Y ?_ ?_
  ·refine gu Y (find_ok _ (H5.s s1) c.A (by split; have:=(vo (JJ m.J c.A (zD (IntKind.u32.wrap c.B))).1).1; omega; omega) (by split; exact(λx hx=>(by have:=(vo (JJ m.J c.A (zD (IntKind.u32.wrap c.B))).1).2 x hx; omega)); exact hh)) ?_;rintro _ YX ⟨tV,tX,rfl,h13⟩;have xk:=H5.c1 h13;have k10:=(xk.rm U);refine aO k10<|lF 8 Y Y k10<|kI 9 Y (λ_ _=>yE Y Y) k10<|kI 10 Y (λ_ _=>yE Y Y) k10<|O1 11 Y<|al lX Y xk λg4 w14 wF=>?_
   have k11:=(wF.cU 0 2);refine aO k11<|O1 12 Y<|sty Y wF U Y λw15 zI=>?_
   have k12:=(zI.cU 0 2);exact Kj hS1 k12 ⟨g4,tV,tX,Y,zI⟩ Y
  ·refine al lX Y H5 λg5 w16 BZ=>?_;have k13:=(BZ.rm U);refine aO k13<|O1 7 Y<|gu Y (find_ok _ (BZ.s s2) c.A (by split; have:=(vo (JJ m.J c.A (zD (IntKind.u32.wrap c.B))).1).1; omega; omega) (by split; exact(λx hx=>(by have:=(vo (JJ m.J c.A (zD (IntKind.u32.wrap c.B))).1).2 x hx; omega)); exact hh)) ?_
   rintro _ w17 ⟨Sj,Sm,rfl,h17⟩;have zT:=BZ.c1 h17;have k14:=(zT.cU 0 2);refine aO k14<|lF 8 Y Y k14<|kI 9 Y (λ_ _=>yE Y Y) k14<|kI 10 Y (λ_ _=>yE (vs:=[.agg #[O ((aV (if(gU m.J c.A (eu (IntKind.u32.wrap c.B))).2=0 then((gU m.J c.A (eu (IntKind.u32.wrap c.B))).1) else m.J) c.A).ID),O ((aV (if(gU m.J c.A (eu (IntKind.u32.wrap c.B))).2=0 then((gU m.J c.A (eu (IntKind.u32.wrap c.B))).1) else m.J) c.A).E),gP ((aV (if(gU m.J c.A (eu (IntKind.u32.wrap c.B))).2=0 then((gU m.J c.A (eu (IntKind.u32.wrap c.B))).1) else m.J) c.A).Sum),.slice Sj (((aV (if(gU m.J c.A (eu (IntKind.u32.wrap c.B))).2=0 then((gU m.J c.A (eu (IntKind.u32.wrap c.B))).1) else m.J) c.A).aD).length) Sm],.bool (gQ (if(gU m.J c.A (eu (IntKind.u32.wrap c.B))).2=0 then((gU m.J c.A (eu (IntKind.u32.wrap c.B))).1) else m.J) c.A)]) Y Y) k14<|O1 12 Y<|sty Y zT s1 Y λw18 EL=>?_
   have k15:=(EL.cU 0 2);exact Kj hS1 k15 ⟨g5,Sj,Sm,Y,EL⟩ Y
 rintro _ w19 ⟨qF,wH,vG,rfl,Ai⟩;refine jN<|mv Y<|jP qF 1 tO Ai U Y<|pq 1 Y<|zA g 3 yM Y<|zA g 4 Zy Y<|xD Y Ai s2 Y λw20 Fg=>jO<|o7 (uo Y ?_)
 have nM:((if(gU m.J c.A (eu (IntKind.u32.wrap c.B))).2=0 then((gU m.J c.A (eu (IntKind.u32.wrap c.B))).1) else m.J):V aH)=((uT (fun(l:V aH) (id sum:Int)=>gU l id (eu sum)) m.J c).1):=by unfold uT; rw [aQ (show ¬ (c.B<0∨4294967295<c.B) by omega)]
 have uO:((gU m.J c.A (eu (IntKind.u32.wrap c.B))).2:Int)=((uT (fun(l:V aH) (id sum:Int)=>gU l id (eu sum)) m.J c).2.1):=by unfold uT; rw [aQ (show ¬ (c.B<0∨4294967295<c.B) by omega)]
 have zC:((aV (if(gU m.J c.A (eu (IntKind.u32.wrap c.B))).2=0 then((gU m.J c.A (eu (IntKind.u32.wrap c.B))).1) else m.J) c.A).E:Int)=((uT (fun(l:V aH) (id sum:Int)=>gU l id (eu sum)) m.J c).2.2):=by unfold uT; rw [aQ (show ¬ (c.B<0∨4294967295<c.B) by omega)]
 exact⟨An,cn,jG,jr,Y,by rw [<- nM,<- uO,<- zC]; exact(((((Fg.rm s6).rm s4).cU 1 2).sel s1).mV 1 2)⟩
def ayz (H0:Hp b S w (EA g An m cn Ac cc As cs F))(hn:m.aM.length<=100000)(hc:m.J.length<=100000)(hh:∀ x∈m.J,x.aD.length<=100000):bM prog 284 #[fK g,.agg #[O c.Client,O c.Seq,O c.Kind,O c.A,O c.B,O c.C]] w λv w'=>∃ Qp Qq Pm Pn,v=.tuple #[]/\Hp b S w' (dJ g 301 [.slice Qp m.aM.length Qq,.slice Pm (((uT dO m.J c).1).length) Pn,.slice As m.aU.length cs,O ((uT dO m.J c).2.1),O ((uT dO m.J c).2.2)]::dI bW Qp Qq m.aM::dI bD Pm Pn ((uT dO m.J c).1)::dI cB As cs m.aU::F):=by
 refine qN func284 ntmps284 Y<|rg<|bx Y Y H0 λg1 w1 K1=>dn<|jN<|mv Y<|ev (fA Bg Y Y (K1.x U))<|gu Y (akz ((K1.sel U).mV 1 4) hn hc hh) ?_
 rintro _ w2 ⟨An2,cn2,Ac2,cc2,rfl,K2⟩;refine jO<|o7 (uo Y ?_)
 exact⟨An2,cn2,Ac2,cc2,Y,by exact(K2.rm s4)⟩
def ayA (H0:Hp b S w (dJ g 301 [.slice An m.aM.length cn,.slice Ac m.J.length cc,.slice As m.aU.length cs,O 0,O 0]::dI bW An cn m.aM::dI bD Ac cc m.J::dI cB As cs m.aU::F))(hn:m.aM.length<=100000)(hc:m.J.length<=100000)(hh:∀ x∈m.J,x.aD.length<=100000):bM prog 287 #[fK g,.agg #[O c.Client,O c.Seq,O c.Kind,O c.A,O c.B,O c.C]] w λv w'=>∃ Qp Qq Pm Pn,v=.tuple #[]/\Hp b S w' (dJ g 301 [.slice Qp m.aM.length Qq,.slice Pm (((uT (fun(l:V aH) (id sum:Int)=>gU l id (eu sum)) m.J c).1).length) Pn,.slice As m.aU.length cs,O ((uT (fun(l:V aH) (id sum:Int)=>gU l id (eu sum)) m.J c).2.1),O ((uT (fun(l:V aH) (id sum:Int)=>gU l id (eu sum)) m.J c).2.2)]::dI bW Qp Qq m.aM::dI bD Pm Pn ((uT (fun(l:V aH) (id sum:Int)=>gU l id (eu sum)) m.J c).1)::dI cB As cs m.aU::F):=by
 refine qN func287 ntmps287 Y<|rg<|bx Y Y H0 λg1 w1 K1=>dn<|jN<|mv Y<|ev (fA Bg Y Y (K1.x U))<|gu Y (akA ((K1.sel U).mV 1 4) hn hc hh) ?_
 rintro _ w2 ⟨An2,cn2,Ac2,cc2,rfl,K2⟩;refine jO<|o7 (uo Y ?_)
 exact⟨An2,cn2,Ac2,cc2,Y,by exact(K2.rm s4)⟩
abbrev GR(gX:bY)(iP:eU):=lu gX.J iP.A iP.B iP.C
abbrev Xw(gX:bY)(iP:eU):=if iZ gX.aM iP.B=true then(if(GR gX iP).2=0 then(GR gX iP).1 else gX.J) else gX.J
abbrev ZE(gX:bY)(iP:eU):=if iZ gX.aM iP.B=true then(GR gX iP).2 else 5
abbrev ZF(gX:bY)(iP:eU):=if(GR gX iP).2=0 then((GR gX iP).1) else gX.J
def ayB (H0:Hp b S w (EA g An m cn Ac cc As cs F))(hn:m.aM.length<=100000)(hc:m.J.length<=100000)(hh:∀ x∈m.J,x.aD.length<=100000):bM prog 289 #[fK g,.agg #[O c.Client,O c.Seq,O c.Kind,O c.A,O c.B,O c.C]] w λv w'=>∃ Qp Qq Pm Pn,v=.tuple #[]/\Hp b S w' (dJ g 301 [.slice Qp m.aM.length Qq,.slice Pm ((Xw m c).length) Pn,.slice As m.aU.length cs,O (ZE m c),O 0]::dI bW Qp Qq m.aM::dI bD Pm Pn (Xw m c)::dI cB As cs m.aU::F):=by
 refine qN func289 ntmps289 Y<|rg<|bx Y Y H0 λg1 w1 K1=>dn<|aZ<|pW ak ak<|bf (dP Y) Y<|bf (nH Y) Y<|bf (fq qR Y Y) Y<|bf (fq lQ Y Y) Y<|bf (dU abT Y (K1.x s1) Y) Y<|bf (fq uJ Y Y) Y<|bf (dU jF Y (K1.x U) Y) Y<|LZ Y Y Y aDw (λwq eq=>(acd wq ((K1.s s2).any.ext eq) c.B aj).mono (by rintro _ _ ⟨rfl,gH⟩; exact⟨rfl,gH.ext⟩)) rfl<|bf (wC rfl) rfl<|pX λw2 e2=>?_
 have K2:=K1.grow e2;refine bS Y (λoD=>?_) (λoD=>?_)
 ·try simp only [aA] at oD
  refine pC 3 Y<|zA g 3 yM Y<|zA g 3 Bf Y<|xD Y K2 s1 Y λw3 K3=>dn<|Aw Y ?_
  have gy:(m.J:V aH)=(Xw m c):=by exact(aQ (by rw [oD]; decide)).symm
  have gH:(5:Int)=(ZE m c):=by exact(aQ (by rw [oD]; decide)).symm
  exact⟨An,cn,Ac,cc,Y,by rw [<- gy,<- gH]; exact(K3.rm s1)⟩
 try simp only [aA] at oD
 refine jQ ?_;refine Hf K2 (λ_ K=>(K.rm s1)) (λl0 rk lJ wJ=>∃ jG jr,lJ=l0/\Hp b S wJ (dJ g 301 [.slice An m.aM.length cn,.slice jG ((ZF m c).length) jr,.slice As m.aU.length cs,O ((GR m c).2),O 0]::dI bD jG jr (ZF m c)::rk)) (λhns H1=>?_) ?_
 ·have k1:=(H1.rm s1);refine lF 0 Y Y k1<|qp 1 g 0 qR Y k1<|Iy 4 g 1 jC Y k1<|mK 6 7 g1 3 vP U Y k1<|mK 8 9 g1 4 uJ U Y k1<|mK 10 11 g1 5 aht U Y k1<|O1 5 Y<|lY H1 s1 Y<|aO k1<|O1 12 Y<|gu Y (arC _ (H1.s s3) c.A c.B c.C aj hh) ?_
  rintro _ w4 ⟨sG,sH,rfl,h4⟩;have K4:=H1.c1 h4;have k2:=((K4.rm s2).rm U);refine aO k2<|yj 13 Y Y Y k2<|yj 14 Y Y Y k2<|O1 15 Y ?_
  have H2:=K4.fz U;have H3:=H2.push (H2.s U);have H4:=H3.push (H3.s s5);refine gu Y (I5 (e:=((GR m c).2)) ((H4.mV 0 4).sel s4)) ?_;rintro _ w5 ⟨As1,cs1,rfl,K5⟩;have k3:=(K5.cU 0 3);refine aO k3<|Dn ⟨As1,cs1,Y,(K5.rm s2)⟩ Y
 rintro _ w6 ⟨jG,jr,rfl,K6⟩;refine o7 (uo Y ?_);have kN:((ZF m c):V aH)=(Xw m c):=by exact(aS oD).symm
 have nM:((GR m c).2:Int)=(ZE m c):=by exact(aS oD).symm
 exact⟨An,cn,jG,jr,Y,by rw [<- kN,<- nM]; exact((((K6.rm s4).rm s2).sel s1).mV 1 2)⟩
abbrev Ot(gX:bY)(iP:eU):=gU gX.J iP.A (jk iP.B)
abbrev ahu(gX:bY)(iP:eU):=if(Ot gX iP).2=0 then((Ot gX iP).1) else gX.J
abbrev ahv(gX:bY)(iP:eU):=if(Ot gX iP).2=0 then(Ot gX iP).1 else gX.J
def ayC (H0:Hp b S w (EA g An m cn Ac cc As cs F))(hn:m.aM.length<=100000)(hc:m.J.length<=100000)(hh:∀ x∈m.J,x.aD.length<=100000):bM prog 292 #[fK g,.agg #[O c.Client,O c.Seq,O c.Kind,O c.A,O c.B,O c.C]] w λv w'=>∃ Qp Qq Pm Pn,v=.tuple #[]/\Hp b S w' (dJ g 301 [.slice Qp m.aM.length Qq,.slice Pm ((ahv m c).length) Pn,.slice As m.aU.length cs,O ((Ot m c).2),O 0]::dI bW Qp Qq m.aM::dI bD Pm Pn (ahv m c)::dI cB As cs m.aU::F):=by
 refine qN func292 ntmps292 Y<|rg<|bx Y Y H0 λg1 w1 K1=>dn<|Hf K1 (λ_ K=>(K.rm s1)) (λl0 rk lJ wJ=>∃ jG jr,lJ=l0/\Hp b S wJ (dJ g 301 [.slice An m.aM.length cn,.slice jG ((ahu m c).length) jr,.slice As m.aU.length cs,O ((Ot m c).2),O 0]::dI bD jG jr (ahu m c)::rk)) (λhns H1=>?_) ?_
 ·have k1:=(H1.rm s1);refine lF 0 Y Y k1<|qp 1 g 0 qR Y k1<|Iy 4 g 1 jC Y k1<|mK 6 7 g1 3 vP U Y k1<|mK 8 9 g1 4 uJ U Y k1<|O1 5 Y<|lY H1 s1 Y<|aO k1<|O1 10 Y<|gu Y (ajO _ (H1.s s3) c.A c.B aj hh) ?_
  rintro _ w2 ⟨qj,ql,rfl,h2⟩;have K2:=H1.c1 h2;have k2:=((K2.rm s2).rm U);refine aO k2<|yj 11 Y Y Y k2<|yj 12 Y Y Y k2<|O1 13 Y ?_
  have H2:=K2.fz U;have H3:=H2.push (H2.s U);have H4:=H3.push (H3.s s5);refine gu Y (I5 ((H4.mV 0 4).sel s4)) ?_;rintro _ w3 ⟨As1,cs1,rfl,K3⟩;have k3:=(K3.cU 0 3);refine aO k3<|Dn ⟨As1,cs1,Y,(K3.rm s2)⟩ Y
 rintro _ w4 ⟨jG,jr,rfl,K4⟩;refine o7 (uo Y ?_);exact⟨An,cn,jG,jr,Y,by skip; exact((((K4.rm s4).rm s2).sel s1).mV 1 2)⟩
abbrev ahw(gX:bY)(iP:eU):=if(iN gX.J iP.A).2=0 then((iN gX.J iP.A).1) else gX.J
abbrev ahx(gX:bY)(iP:eU):=if(iN gX.J iP.A).2=0 then(iN gX.J iP.A).1 else gX.J
def ayD (H0:Hp b S w (EA g An m cn Ac cc As cs F))(hn:m.aM.length<=100000)(hc:m.J.length<=100000)(hh:∀ x∈m.J,x.aD.length<=100000):bM prog 294 #[fK g,.agg #[O c.Client,O c.Seq,O c.Kind,O c.A,O c.B,O c.C]] w λv w'=>∃ Qp Qq Pm Pn,v=.tuple #[]/\Hp b S w' (dJ g 301 [.slice Qp m.aM.length Qq,.slice Pm ((ahx m c).length) Pn,.slice As m.aU.length cs,O ((iN m.J c.A).2),O 0]::dI bW Qp Qq m.aM::dI bD Pm Pn (ahx m c)::dI cB As cs m.aU::F):=by
 refine qN func294 ntmps294 Y<|rg<|bx Y Y H0 λg1 w1 K1=>dn<|Hf K1 (λ_ K=>(K.rm s1)) (λl0 rk lJ wJ=>∃ jG jr,lJ=l0/\Hp b S wJ (dJ g 301 [.slice An m.aM.length cn,.slice jG ((ahw m c).length) jr,.slice As m.aU.length cs,O ((iN m.J c.A).2),O 0]::dI bD jG jr (ahw m c)::rk)) (λhns H1=>?_) ?_
 ·have k1:=(H1.rm s1);refine lF 0 Y Y k1<|qp 1 g 0 qR Y k1<|Iy 4 g 1 jC Y k1<|mK 6 7 g1 3 vP U Y k1<|O1 5 Y<|lY H1 s1 Y<|aO k1<|O1 8 Y<|gu Y (aom _ (H1.s s3) c.A aj hh) ?_
  rintro _ w2 ⟨qj,ql,rfl,h2⟩;have K2:=H1.c1 h2;have k2:=((K2.rm s2).rm U);refine aO k2<|yj 9 Y Y Y k2<|yj 10 Y Y Y k2<|O1 11 Y ?_
  have H2:=K2.fz U;have H3:=H2.push (H2.s U);have H4:=H3.push (H3.s s5);refine gu Y (I5 ((H4.mV 0 4).sel s4)) ?_;rintro _ w3 ⟨As1,cs1,rfl,K3⟩;have k3:=(K3.cU 0 3);refine aO k3<|Dn ⟨As1,cs1,Y,(K3.rm s2)⟩ Y
 rintro _ w4 ⟨jG,jr,rfl,K4⟩;refine o7 (uo Y ?_);exact⟨An,cn,jG,jr,Y,by skip; exact((((K4.rm s4).rm s2).sel s1).mV 1 2)⟩
end
section
variable {m:bY}{c:eU}{f:aH->aH × Int}{S0:Nat->Prop}{xw wm uS:ah}{α:Type}{l:List aT}{id:Int}{key:α->Int}{x:α}
def xK:∀ w,(zeroValue 37).run prog w=.ok (.agg #[.slice none 0 0,.slice none 0 0,.slice none 0 0]) w:=by simp
def ao7(RJ:ah)(V5 V6:Nat)(Zv:ah)(ahi ahj:Nat)(ahk:ah)(ahl ahm:Nat):prog.built 301 [(0,.agg #[.slice RJ V5 V6,.slice Zv ahi ahj,.slice ahk ahl ahm])]=some #[.slice RJ V5 V6,.slice Zv ahi ahj,.slice ahk ahl ahm,O 0,O 0]:=by rfl
def ZG:bU prog 118 2 2:=λ_ _=>by rfl
def aDC:Size prog 299 2:=λ_=>by rfl
def aDD:WC prog 299 2:=⟨av,aDC⟩
def atp:∀ w,(zeroValue 302).run prog w=.ok (.nilFunc) w:=by simp
def yN(m:bY)(c:eU):List aT × List aH × Int × Int:=
  if c.Kind=0 then((m.aM),(m.J),(0),(0)) else if c.Kind=1 then((if(oG m.aM ⟨c.A,c.B,c.C,0⟩).2=0 then(oG m.aM ⟨c.A,c.B,c.C,0⟩).1 else m.aM),(m.J),((oG m.aM ⟨c.A,c.B,c.C,0⟩).2),(0)) else if c.Kind=2 then((if c.B=2/\(ofL m.J c.A).length>0 then m.aM else if(lW m.aM c.A c.B).2=0 then(lW m.aM c.A c.B).1 else m.aM),(m.J),(if c.B=2/\(ofL m.J c.A).length>0 then 8 else(lW m.aM c.A c.B).2),(0)) else if c.Kind=3 then((m.aM),((uT dO m.J c).1),((uT dO m.J c).2.1),((uT dO m.J c).2.2)) else if c.Kind=4 then((m.aM),((uT (fun(l:List aH) (id sum:Int)=>gU l id (eu sum)) m.J c).1),((uT (fun(l:List aH) (id sum:Int)=>gU l id (eu sum)) m.J c).2.1),((uT (fun(l:List aH) (id sum:Int)=>gU l id (eu sum)) m.J c).2.2)) else if c.Kind=5 then((m.aM),(if iZ m.aM c.B=true then(if(lu m.J c.A c.B c.C).2=0 then(lu m.J c.A c.B c.C).1 else m.J) else m.J),(if iZ m.aM c.B=true then(lu m.J c.A c.B c.C).2 else 5),(0)) else if c.Kind=6 then((m.aM),(if(gU m.J c.A (jk c.B)).2=0 then(gU m.J c.A (jk c.B)).1 else m.J),((gU m.J c.A (jk c.B)).2),(0)) else if c.Kind=7 then((m.aM),(if(iN m.J c.A).2=0 then(iN m.J c.A).1 else m.J),((iN m.J c.A).2),(0)) else(m.aM,m.J,1,0)
def uK(m:bY)(c:eU):bY × Int:=(⟨(yN m c).1,(yN m c).2.1,m.aU⟩,Ie (yN m c).2.2.1 (yN m c).2.2.2)
theorem ahy(h:c.Kind=0):yN m c=((m.aM),(m.J),(0),(0)):=by grind [yN]
abbrev Sn(gX:bY)(iP:eU):=oG gX.aM ⟨iP.A,iP.B,iP.C,0⟩
abbrev ayE(gX:bY)(iP:eU):=if(Sn gX iP).2=0 then(Sn gX iP).1 else gX.aM
theorem ahz(h:c.Kind=1):yN m c=((ayE m c),(m.J),((Sn m c).2),(0)):=by grind [yN]
abbrev ayF(gX:eU)(iP:bY):=if gX.B=2/\(ofL iP.J gX.A).length>0 then iP.aM else if(lW iP.aM gX.A gX.B).2=0 then(lW iP.aM gX.A gX.B).1 else iP.aM
abbrev ayG(gX:eU)(iP:bY):=if gX.B=2/\(ofL iP.J gX.A).length>0 then 8 else(lW iP.aM gX.A gX.B).2
theorem ahA(h:c.Kind=2):yN m c=((ayF c m),(m.J),(ayG c m),(0)):=by grind [yN]
theorem ace(h:c.Kind=3):yN m c=((m.aM),((uT dO m.J c).1),((uT dO m.J c).2.1),((uT dO m.J c).2.2)):=by grind [yN]
theorem acf(h:c.Kind=4):yN m c=((m.aM),((uT (fun(l:V aH) (id sum:Int)=>gU l id (eu sum)) m.J c).1),((uT (fun(l:V aH) (id sum:Int)=>gU l id (eu sum)) m.J c).2.1),((uT (fun(l:V aH) (id sum:Int)=>gU l id (eu sum)) m.J c).2.2)):=by grind [yN]
abbrev ayH(gX:bY)(iP:eU):=if iZ gX.aM iP.B=true then(if(lu gX.J iP.A iP.B iP.C).2=0 then(lu gX.J iP.A iP.B iP.C).1 else gX.J) else gX.J
abbrev ayI(gX:bY)(iP:eU):=if iZ gX.aM iP.B=true then(lu gX.J iP.A iP.B iP.C).2 else 5
theorem ZH(h:c.Kind=5):yN m c=((m.aM),(ayH m c),(ayI m c),(0)):=by grind [yN]
abbrev Sr(gX:bY)(iP:eU):=gU gX.J iP.A (jk iP.B)
abbrev atq(gX:bY)(iP:eU):=if(Sr gX iP).2=0 then(Sr gX iP).1 else gX.J
theorem ZI(h:c.Kind=6):yN m c=((m.aM),(atq m c),((Sr m c).2),(0)):=by grind [yN]
abbrev ayJ(gX:bY)(iP:eU):=if(iN gX.J iP.A).2=0 then(iN gX.J iP.A).1 else gX.J
theorem ahB(h:c.Kind=7):yN m c=((m.aM),(ayJ m c),((iN m.J c.A).2),(0)):=by grind [yN]
theorem ahC(h:c.Kind≠0/\c.Kind≠1/\c.Kind≠2/\c.Kind≠3/\c.Kind≠4/\c.Kind≠5/\c.Kind≠6/\c.Kind≠7):yN m c=(m.aM,m.J,1,0):=by
 grind [yN]
def kinds(k:Int):k=0∨k=1∨k=2∨k=3∨k=4∨k=5∨k=6∨k=7∨(k≠0/\k≠1/\k≠2/\k≠3/\k≠4/\k≠5/\k≠6/\k≠7):=aj
def aDE(l:V aT)(n:aT):0<=(oG l n).2/\(oG l n).2<=10:=by grind [oG]
def aDF(l:V aT)(id st:Int):0<=(lW l id st).2/\(lW l id st).2<=10:=by grind [lW]
def atr(l:V aH)(id sum:Int):0<=(dO l id sum).2/\(dO l id sum).2<=10:=by grind [dO]
def att(l:V aH)(id:Int):0<=(iN l id).2/\(iN l id).2<=10:=by grind [iN]
def atu(l:V aH)(id:Int)(hf:∀ c,0<=(f c).2/\(f c).2<=10):0<=(gU l id f).2/\(gU l id f).2<=10:=by
 rcases abQ l id f with ⟨_,h⟩ | ⟨_,_,h⟩ | ⟨_,_,n,_,_,h⟩
 all_goals grind
def ayK(sum:Int)(c:aH):0<=(eu sum c).2/\(eu sum c).2<=10:=by grind [eu]
def atv(n v:Int)(c:aH):0<=(pK n v c).2/\(pK n v c).2<=10:=by grind [pK]
def ao8(n:Int)(c:aH):0<=(jk n c).2/\(jk n c).2<=10:=by grind [jk]
def ayL(l:V aH)(id n v:Int):0<=(lu l id n v).2/\(lu l id n v).2<=10:=by
 unfold lu; split
 all_goals simp [atu,atv]
def aHU(m:bY)(c:eU):0<=(0:Int)/\(0:Int)<=10:=by simp
def atw(m:bY)(c:eU):0<=((Sn m c).2:Int)/\((Sn m c).2:Int)<=10:=by exact aDE _ _
theorem atx(m:bY)(c:eU):0<=(if c.B=2/\(ofL m.J c.A).length>0 then 8 else(lW m.aM c.A c.B).2:Int)/\(if c.B=2/\(ofL m.J c.A).length>0 then 8 else(lW m.aM c.A c.B).2:Int)<=10:=by split <;> first | exact aDF _ _ _ | simp
def aty(m:bY)(c:eU):0<=((uT dO m.J c).2.1:Int)/\((uT dO m.J c).2.1:Int)<=10:=by unfold uT; split <;> first | exact atr _ _ _ | simp
def atz(m:bY)(c:eU):0<=((uT (fun(l:V aH) (id sum:Int)=>gU l id (eu sum)) m.J c).2.1:Int)/\((uT (fun(l:V aH) (id sum:Int)=>gU l id (eu sum)) m.J c).2.1:Int)<=10:=by unfold uT; split <;> first | exact atu _ _ (ayK _) | simp
def atA(m:bY)(c:eU):0<=(if iZ m.aM c.B=true then(lu m.J c.A c.B c.C).2 else 5:Int)/\(if iZ m.aM c.B=true then(lu m.J c.A c.B c.C).2 else 5:Int)<=10:=by split <;> first | exact ayL _ _ _ _ | simp
def atB(m:bY)(c:eU):0<=((Sr m c).2:Int)/\((Sr m c).2:Int)<=10:=by simp [atu,ao8]
def atC(m:bY)(c:eU):0<=((iN m.J c.A).2:Int)/\((iN m.J c.A).2:Int)<=10:=by exact att _ _
abbrev amq:=Array.push (Array.push (Array.push (Array.push (Array.push (Array.push (Array.push (Array.push (#[]:Array MapEntry) ⟨O 0,.func (.func 277) #[] #[],0⟩) ⟨O 1,.func (.func 278) #[] #[],1⟩) ⟨O 2,.func (.func 281) #[] #[],2⟩) ⟨O 3,.func (.func 284) #[] #[],3⟩) ⟨O 4,.func (.func 287) #[] #[],4⟩) ⟨O 5,.func (.func 289) #[] #[],5⟩) ⟨O 6,.func (.func 292) #[] #[],6⟩) ⟨O 7,.func (.func 294) #[] #[],7⟩
def Ev.aHV{P:Program}{n:Cx}{l:V (Nat × Value)}{b w:World}{S:Nat->Prop}{rs rest:V kF}{g BK:Nat}{es:Array MapEntry}{ky:Operand}{k:Int}{t kt et:TypeId}{m:Operand}{z:Value}{r:Option (Nat × Value)}(H:Hp b S w rs)(s:nY rs (nK g (.map es BK)) rest)(hx:fM l m=some (.map (some g)))(hkey:fM l ky=some (O k))
  (hm:P.underlying t=some (.map kt et)) (hk:P.underlying kt=some (.int .i64)) (hz:∀ w,(zeroValue et).run P w=.ok z w) (hf:Instr.findNow (.int .i64) (O k) es.toList 0=some r):Ev P n l w (.lookup t m ky false) (r.elim z (·.2)):=by
 cases r
 ·exact Ev.aAv H s hx hkey hm hk hz hf
 ·exact yc H s hx hkey hm hk hf
def aOe(m:bY)(c:eU)(N:List aT)(C:List aH)(e n:Int)(f:FuncId):Prop:=∀ {b w:World} {S:Nat->Prop} {g:Nat} {An:ah} {cn:Nat} {Ac:ah} {cc:Nat} {As:ah} {cs:Nat} {F:List kF},Hp b S w (EA g An m cn Ac cc As cs F)->
  bM prog f #[fK g,.agg #[O c.Client,O c.Seq,O c.Kind,O c.A,O c.B,O c.C]] w λv w'=>∃(Qp:ah)(Qq:Nat)(Pm:ah)(Pn:Nat),v=.tuple #[]/\Hp b S w' (dJ g 301 [.slice Qp N.length Qq,.slice Pm C.length Pn,.slice As m.aU.length cs,O e,O n]::dI bW Qp Qq N::dI bD Pm Pn C::dI cB As cs m.aU::F)
def atD{m:bY}{c:eU}(hn:m.aM.length<=100000)(hc:m.J.length<=100000)(hh:∀ x∈m.J,x.aD.length<=100000){N:V aT}{C:V aH}{e n:Int}(hD:yN m c=(N,C,e,n)):(0<=e/\e<=10)/\∃ r,Instr.findNow (.int .i64) (O c.Kind) amq.toList 0=some r/\((r=none/\N=m.aM/\C=m.J/\e=1/\n=0)∨∃ i f,r=some (i,.func (.func f) #[] #[])/\bC prog f/\aOe m c N C e n f):=by
 rcases kinds c.Kind with h | h | h | h | h | h | h | h | h
 ·rw [ahy h] at hD; cases hD; exact⟨aHU m c,_,by rw [h]; rfl,.inr ⟨0,277,rfl,λ_ _=>by kernel_rfl,λH=>ayw H hn hc hh⟩⟩
 ·rw [ahz h] at hD; cases hD; exact⟨atw m c,_,by rw [h]; rfl,.inr ⟨1,278,rfl,λ_ _=>by kernel_rfl,λH=>ayx H hn hc hh⟩⟩
 ·rw [ahA h] at hD; cases hD; exact⟨atx m c,_,by rw [h]; rfl,.inr ⟨2,281,rfl,λ_ _=>by kernel_rfl,λH=>ayy H hn hc hh⟩⟩
 ·rw [ace h] at hD; cases hD; exact⟨aty m c,_,by rw [h]; rfl,.inr ⟨3,284,rfl,λ_ _=>by kernel_rfl,λH=>ayz H hn hc hh⟩⟩
 ·rw [acf h] at hD; cases hD; exact⟨atz m c,_,by rw [h]; rfl,.inr ⟨4,287,rfl,λ_ _=>by kernel_rfl,λH=>ayA H hn hc hh⟩⟩
 ·rw [ZH h] at hD; cases hD; exact⟨atA m c,_,by rw [h]; rfl,.inr ⟨5,289,rfl,λ_ _=>by kernel_rfl,λH=>ayB H hn hc hh⟩⟩
 ·rw [ZI h] at hD; cases hD; exact⟨atB m c,_,by rw [h]; rfl,.inr ⟨6,292,rfl,λ_ _=>by kernel_rfl,λH=>ayC H hn hc hh⟩⟩
 ·rw [ahB h] at hD; cases hD; exact⟨atC m c,_,by rw [h]; rfl,.inr ⟨7,294,rfl,λ_ _=>by kernel_rfl,λH=>ayD H hn hc hh⟩⟩
 ·rw [ahC h] at hD; cases hD; exact⟨av,none,(by obtain⟨k0,k1,k2,k3,k4,k5,k6,k7⟩:=h; have e0:(c.Kind == 0)=false:=(by grind); have e1:(c.Kind == 1)=false:=(by grind); have e2:(c.Kind == 2)=false:=(by grind); have e3:(c.Kind == 3)=false:=(by grind); have e4:(c.Kind == 4)=false:=(by grind); have e5:(c.Kind == 5)=false:=(by grind); have e6:(c.Kind == 6)=false:=(by grind); have e7:(c.Kind == 7)=false:=(by grind); simp [Instr.findNow,Instr.sameNow,e0,e1,e2,e3,e4,e5,e6,e7]),av⟩
def ayM(w:World)(m:bY){wO:Nat}(CV:Sl bW S0 w xw wO m.aM){vO:Nat}(IY:Sl bD S0 w wm vO m.J){uI:Nat}(Ql:Sl cB S0 w uS uI m.aU)(c:eU)(hn:m.aM.length<=100000)(hc:m.J.length<=100000)(hh:∀ x∈m.J,x.aD.length<=100000):bM prog 134 #[.agg #[.slice xw m.aM.length wO,.slice wm m.J.length vO,.slice uS m.aU.length uI],.agg #[O c.Client,O c.Seq,O c.Kind,O c.A,O c.B,O c.C]] w λv w'=>∃ wM wN Ab Ad Ae Af,v=.tuple #[.agg #[.slice wM ((((uK m c).1).aM).length) wN,.slice Ab ((((uK m c).1).J).length) Ad,.slice Ae ((((uK m c).1).aU).length) Af],O ((uK m c).2)]/\Hp w S0 w' [dI bW wM wN (((uK m c).1).aM),dI bD Ab Ad (((uK m c).1).J),dI cB Ae Af (((uK m c).1).aU)]:=by
 obtain⟨⟨N,C,e,n⟩,hD⟩:∃ y,yN m c=y:=⟨_,rfl⟩;obtain⟨he,r,hf,hr⟩:=atD hn hc hh hD;refine lg S0 func134 ntmps134 Y λH0=>rg<|bx Y Y H0 λg1 w1 K1=>bx Y Y K1 λg2 w2 K2=>al xK Y K2 λg3 w3 K3=>fE Y<|rg<|ev (fA xW Y Y (K3.x s2))<|ev (iT Y (by apply ao7))<|bx rfl rfl K3 λg4 w4 K4=>fE rfl<|aZ<|cjz K4 (λ_ K=>K.rm U) (λl0 rk lJ wJ=>lJ=l0/\∃ An cn Ac cc,Hp w S0 wJ (dJ g4 301 [.slice An N.length cn,.slice Ac C.length cc,.slice uS m.aU.length uI,O e,O n]::dI bW An cn N::dI bD Ac cc C::dI cB uS uI m.aU::rk)) ?_ λtl=>?_
 ·rintro _ _ ⟨rfl,An,cn,Ac,cc,K7⟩;refine He K7 (λ_ K=>(K.rm s4)) (λl0 rk lJ wJ=>lJ=(5,O (Ie e n))::l0/\Hp w S0 wJ (dJ g3 37 [.slice An N.length cn,.slice Ac C.length cc,.slice uS m.aU.length uI]::rk)) (λhns H5=>?_) ?_
  ·have k2:=(H5.rm s4);refine qp 0 g4 0 qR Y k2<|kI 3 Y (λ_ hK=>wD (cs':=[.slice An N.length cn,.slice Ac C.length cc,.slice uS m.aU.length uI]) xW Y Y (hK.x U) Y) k2<|qp 4 g4 3 yM Y k2<|kI 7 Y (λ_ hK=>wD (cs':=[O e,O n]) aDD Y Y (hK.x U) Y) k2<|O1 8 Y<|mX H5 Y (ao5 (S0:=Any) _ (⟨e,n⟩:aeo) he) λw8 K8=>?_
   have k3:=(K8.rm s4);refine aO k3<|O1 9 Y<|sty Y K8 s4 Y λw9 K9=>?_
   have k4:=(K9.rm U);refine aO k4<|xC 10 Y Y k4<|Dn ⟨Y,K9⟩ Y
  rintro _ PE ⟨rfl,K10⟩;refine jE (qL Y ⟨_,_,Y,⟨_,Y,jo (cs:=[.slice An N.length cn,.slice Ac C.length cc,.slice uS m.aU.length uI]) xW Y (K10.x U)⟩,⟨_,_,Y,Y,Y⟩⟩ ?_);have hd:uK m c=(⟨N,C,m.aU⟩,Ie e n):=by unfold uK; rw [hD]
  rw [hd];exact⟨An,cn,Ac,cc,uS,uI,Y,((K10.cU 5 2).cU 0 2)⟩
 refine He K4 (λ_ K=>K) (λl0 rk lJ wJ=>∃ qF,lJ=(7,r.elim .nilFunc (·.2))::l0/\Hp w S0 wJ (nK qF (.map amq 8)::rk)) (λhns H1=>?_) ?_
 ·refine mK 1 2 g2 2 ZG s2 Y H1<|O1 0 Y<|gu Y (ahs (S0:=Any) _ ) ?_
  rintro _ w5 ⟨aOf,rfl,h5⟩;have K5:=H1.f1 h5;have k1:=(K5.rm U);refine aO k1<|O1 3 Y<|ev (Ev.aHV K5 U Y Y J5 ig atp hf)<|aO k1<|xC 4 Y Y k1<|Dn ⟨aOf,Y,K5⟩ Y
 rintro _ w6 ⟨qF,rfl,K6⟩
 rcases hr with ⟨rfl,rfl,rfl,rfl,rfl⟩ | ⟨i,f,rfl,Ir,hR⟩
 ·refine gD Y<|ev (Ev.aMX underlying302 Y)<|dn<|bS Y nofun (λ_h=>?_)
  refine jN<|pq 2 Y<|zA g4 3 yM Y<|zA g4 3 Bf Y<|xD Y K6 s1 Y λw55 K55=>jO<|fV ?_
  have H2:=K55.push (K55.a CV);have H3:=H2.push (H2.a IY);have H4:=H3.push (H3.a Ql);exact(tl _ _ ⟨Y,xw,wO,wm,vO,((((H4.rm s4).sel s1).sel s2).sel s3)⟩).kz Y
 refine gD Y<|ev (Ev.aMW underlying302 Y)<|dn<|bS Y (λ_h=>?_) nofun
 refine jN<|pq 2 Y<|ev (fA Bg Y Y (K6.x s3)) ?_
 have H2:=K6.push (K6.a CV);have H3:=H2.push (H2.a IY);have H4:=H3.push (H3.a Ql);refine KY Y Y Y Ir (hR (((((H4.sel s3).sel s1).sel s2).sel s3).sel s4)) Y ?_;rintro _ w7 ⟨An7,cn7,Ac7,cc7,rfl,K7⟩;exact jO<|fV<|(tl _ _ ⟨Y,An7,cn7,Ac7,cc7,K7.rm s4⟩).kz Y
def ahD{l:V α}(hu:Up key l){k:Nat}(hx:l[k]? = some x):key x<id↔k<low (fun(y:α)=>bL (key y) id) l:=by
 have hm:=hu.mono id
 constructor
 ·intro h
  rcases G6 k (low (fun(y:α)=>bL (key y) id) l) with h1 | h1
  ·exact h1
  ·exfalso
   have h2:low (fun(y:α)=>bL (key y) id) l≥k+1:=by
    have e:l=l.take (k+1)++l.drop (k+1):=by simp
    have h3:(l.take (k+1)).countP (fun(y:α)=>decide (bL (key y) id<0))=(l.take (k+1)).length:=by
     rw [List.countP_eq_length];intro y hy;obtain⟨a,ha⟩:=uq hy;have ha1:=aP ha
     simp only [iX] at ha1
     rw [YL aj] at ha
     simp only [bN]
     exact hm a k y x aj ha hx (qK.2 h)
    unfold low;rw [e,UK,h3,iX];have:=aP hx;omega
   omega
 ·intro h
  rcases(by omega:key x<id∨id<=key x) with h1 | h1
  ·exact h1
  ·exfalso
   have h2:low (fun(y:α)=>bL (key y) id) l<=k:=by
    have e:l=l.take k++l.drop k:=by simp
    have h3:(l.drop k).countP (fun(y:α)=>decide (bL (key y) id<0))=0:=by
     rw [List.countP_eq_zero];intro y hy;obtain⟨a,ha⟩:=uq hy;rw [G5] at ha
     simp only [bN]
     intro hlt;have:=qK.1 (hm k (k+a) x y aj hx ha hlt);omega
    simp only [low]
    rw [e,UK,h3];have:=Ya (p:=fun(y:α)=>decide (bL (key y) id<0)) (l:=l.take k)
    simp only [iX] at this
    omega
   omega
def acg{l:V α}(hu:Up key l)(h:x∈l.take (low (fun(y:α)=>bL (key y) id) l)):key x<id:=by
 obtain⟨a,ha⟩:=uq h;have h1:=aP ha
 simp only [iX] at h1
 rw [YL aj] at ha;exact(ahD hu ha).2 aj
def ach{l:V α}(hu:Up key l)(h:x∈l.drop (low (fun(y:α)=>bL (key y) id) l)):id<=key x:=by
 obtain⟨a,ha⟩:=uq h;rw [G5] at ha;have h1:=(ahD (id:=id) hu ha)
 grind
theorem FH{l:V α}{c:α}(n:Nat):x∈l.take n++[c]++l.drop n↔x=c∨x∈l:=by
 grind [List.take_append_drop]
theorem aep{l:V α}(hu:Up key l){c:α}(hn:∀ x∈l,key x≠key c):Up key (l.take (low (fun(y:α)=>bL (key y) (key c)) l)++[c]++l.drop (low (fun(y:α)=>bL (key y) (key c)) l)):=by
 have h5:(l.take (low (fun(y:α)=>bL (key y) (key c)) l)++l.drop (low (fun(y:α)=>bL (key y) (key c)) l)).Pairwise (λx y=>key x<key y):=by rw [Gp]; exact hu
 have h6:=zO.1 h5
 have h2':∀ x∈l.drop (low (fun(y:α)=>bL (key y) (key c)) l),key c<key x:=λx hx=>by
  have h3:=ach hu hx
  grind
 unfold Up;rw [o9];refine zO.2 ⟨h6.1,zO.2 ⟨Ui _ _,h6.2.1,λx hx y hy=>?_⟩,λx hx y hy=>?_⟩
 ·rw [mU.1 hx]; exact h2' y hy
 ·rcases j5.1 hy with hy | hy
  ·rw [mU.1 hy]; exact acg hu hx
  ·exact h6.2.2 x hx y hy
theorem aer{l:V α}(hu:Up key l){i:Nat}{y:α}(hx:l[i]? = some x)(hk:key y=key x):Up key (l.set i y):=by
 have h1:(l.set i y).map key=l.map key:=by grind [List.map_set,II]
 have h2:(l.map key).Pairwise (λa b=>a<b):=by rw [JD]; exact hu
 rw [<- h1,JD] at h2;exact h2
def ahE:∀(l:V aT)(z:Int),Up aT.ID l->(∀ n∈l,z<n.ID/\LC n=true)->Dt z l=true
 | [],_,_,_=>rfl
 | m::l,z,hu,h=>by
  have h1:=nT.1 hu;have h2:=h m av
  simp only [Dt,bK,dZ,dQ,fG,bV]
  exact⟨⟨h2.2,aj⟩,ahE l _ h1.2 λn hn=>⟨h1.1 n hn,(h n (by simp [hn])).2⟩⟩
def Ou{n:aT}(h:LC n=true):1<=n.ID/\n.ID<=16:=by grind [LC]
theorem qV:tN l=true↔Up aT.ID l/\∀ n∈l,LC n=true:=
 ⟨λh=>⟨E9 l 0 h,λn hn=>(Q8 l 0 h n hn).2⟩,λh=>ahE l 0 h.1 λn hn=>⟨by have:=Ou (h.2 n hn); omega,h.2 n hn⟩⟩
theorem yO(h:tN l=true):l.length<=16:=by
 have h1:=qV.1 h;have h2:nQ 16 1 (l.map aT.ID)=true:=(CP _ _).2 ⟨by rw [JD]; exact h1.1,by simp_all [eX,Ou]⟩
 rcases JI _ _ h2 with h3 | h3
 all_goals grind [List.length_map]
theorem ao9(h:tN l=true):jY l id=true↔∃ n∈l,n.ID=id:=by
 unfold jY; rw [xg h]; exact uh (qV.1 h).1 id
theorem FI(h:tN l=true)(hb:jY l id=true):gJ l id∈l/\(gJ l id).ID=id:=by
 obtain⟨x,hx,hk⟩:=qc hb;rw [qP hb hx]; grind [xg]
theorem atE(h:tN l=true){n:aT}(hn:n∈l):jY l n.ID=true/\gJ l n.ID=n:=by
 grind [ao9,FI,lI,qV]
theorem zJ(h:tN l=true):iZ l id=true↔∃ n∈l,n.ID=id/\n.fT≠2:=by
 unfold iZ
 simp only [aA]
 grind [FI,atE]
def Qr(h:tN l=true)(n:aT):(oG l n).2≠0∨((oG l n).2=0/\tN (oG l n).1=true/\∀ x,x∈(oG l n).1↔x=n∨x∈l):=by
 have h1:=qV.1 h;unfold oG; rw [xg h]
 split
 ·simp
 ·rename_i hn
  split
  ·simp
  ·rename_i hh
   right
   have hno:∀ x∈l,x.ID≠n.ID:=by simp_all [uh]
   grind [qV,aep,FH]
def ZJ(h:tN l=true)(id st:Int):(lW l id st).2≠0∨((lW l id st).2=0/\tN (lW l id st).1=true/\(0<=st/\st<=2)/\jY l id=true/\(gJ l id).fT≠2/\{ gJ l id with fT:=st }∈(lW l id st).1/\(∀ x∈l,x.ID≠id->x∈(lW l id st).1)/\∀ x∈(lW l id st).1,x={ gJ l id with fT:=st }∨(x∈l/\x.ID≠id)):=by
 have h1:=qV.1 h;unfold lW; rw [xg h]
 split
 ·rename_i hb
  split
  ·rename_i hst
   split
   ·simp
   ·rename_i hs
    right
    have hb':jY l id=true:=by grind [jY,xg]
    obtain⟨x,hx,hk⟩:=qc hb;have hlt:=aP hx;have hfx:gJ l id=x:=by grind [qP,xg]
    have hone:=h1.2 x (dz hx);refine⟨Y,qV.2 ⟨by grind [aer],λy hy=>?_⟩,hst,hb',by grind,dz (u7 hlt),λy hy hne=>?_,λy hy=>?_⟩
    ·rcases aCm hy with hy | rfl
     ·exact h1.2 y hy
     ·rw [hfx]; simp only [LC,bK,bN] at hone ⊢; omega
    ·obtain⟨q,hq⟩:=uq hy
     by_cases e:low (fun(y:aT)=>bL y.ID id) l=q
     ·grind
     ·exact dz (show(l.set _ _)[q]? = some y by rw [Jv e]; exact hq)
    ·obtain⟨q,hq⟩:=uq hy
     by_cases e:low (fun(y:aT)=>bL y.ID id) l=q
     ·grind
     ·rw [Jv e] at hq
      refine .inr ⟨dz hq,λhid=>?_⟩
      rcases adn q (low (fun(y:aT)=>bL y.ID id) l) with h3 | h3 | h3
      ·have:=h1.1.get h3 hq hx; omega
      ·omega
      ·have:=h1.1.get h3 hx hq; omega
  simp
 simp
theorem ayN{l:V aH}(h:ku l=true){n:Int}(h0:¬ (ofL l n).length>0):∀ c∈l,n∉c.aD:=by
 intro c hc hn;apply h0
 have:c.ID∈ofL l n:=by
  unfold ofL; rw [wY h];exact eX.2 ⟨c,jJ.2 ⟨hc,by rw [nG]; exact hn⟩,rfl⟩
 exact List.length_pos_of_mem this
def amr(ns:List aT)(cs:List aH):Prop:=∀ c∈cs,∀ id∈c.aD,∃ n∈ns,n.ID=id/\n.fT≠2
theorem dD:lU m=true↔tN m.aM=true/\ku m.J=true/\LP m.aU=true/\amr m.aM m.J:=by
 unfold lU
 simp only [bK,dZ]
 constructor
 ·rintro⟨⟨⟨h1,h2⟩,h3⟩,h4⟩
  refine⟨h1,h2,h3,λc hc id hid=>(zJ h1).1 ?_⟩
  grind
 ·rintro⟨h1,h2,h3,h4⟩
  refine⟨by grind,?_⟩;rw [aen];intro c hc;rw [Bool.not_eq_true,aen];intro id hid;rw [(zJ h1).2 (h4 c hc id hid)]; simp
theorem Nn{ns:V aT}{cs cs':V aH}(h:amr ns cs)(hs:∀ c'∈cs',∀ id∈c'.aD,(∃ c∈cs,id∈c.aD)∨∃ n∈ns,n.ID=id/\n.fT≠2):amr ns cs':=by
 intro c' hc' id hid
 rcases hs c' hc' id hid with ⟨c,hc,h1⟩ | h1
 ·exact h c hc id h1
 grind
theorem ahF{l:V aH}(hl:ku l=true)(id sum:Int):∀ c'∈(dO l id sum).1,∀ n∈c'.aD,∃ c∈l,n∈c.aD:=by
 grind [Eo,wY,FH]
def ZK{l:V aH}(hl:ku l=true)(id:Int){Q:Int->Prop}(hf:∀ c,oF c=true->(f c).2=0->∀ n∈(f c).1.aD,n∈c.aD∨Q n):∀ c'∈(gU l id f).1,∀ n∈c'.aD,(∃ c∈l,n∈c.aD)∨Q n:=by
 intro c' hc' n hn
 cases hb:gQ l id <;> grind [ajP,adq,List.mem_or_eq_of_mem_set,tQ,vv]
def akB(sum:Int)(c:aH)(ho:oF c=true)(he:(eu sum c).2=0):∀ n∈(eu sum c).1.aD,n∈c.aD∨False:=by
 grind [Oe]
def aes(bF:Int)(c:aH)(ho:oF c=true)(he:(jk bF c).2=0):∀ n∈(jk bF c).1.aD,n∈c.aD∨False:=by
 intro n hn; rw [(GA ho he).2.1] at hn; grind
theorem akC{l:V aH}(hl:ku l=true)(id bF v:Int):∀ c'∈(lu l id bF v).1,∀ n∈c'.aD,(∃ c∈l,n∈c.aD)∨n=bF:=by
 unfold lu; split
 ·simp
 ·rename_i hr
  refine ZK hl id λc ho he n hn=>?_;rw [(Og ho aj aj he).2.2.1] at hn
  grind
theorem ahG{l:V aH}(hl:ku l=true)(id:Int):∀ c'∈(iN l id).1,∀ n∈c'.aD,∃ c∈l,n∈c.aD:=by
 grind [iN,wY,ads]
def ayO(hm:lU m=true)(c:eU):tN (yN m c).1=true/\ku (yN m c).2.1=true/\amr (yN m c).1 (yN m c).2.1/\((yN m c).2.2.1≠0->(yN m c).1=m.aM/\(yN m c).2.1=m.J):=by
 obtain⟨h1,h2,h3,h4⟩:=dD.1 hm
 rcases kinds c.Kind with hk | hk | hk | hk | hk | hk | hk | hk | hk
 ·grind [ahy]
 ·rw [ahz hk]
  rcases Qr h1 ⟨c.A,c.B,c.C,0⟩ with h5 | ⟨h5,h6,h7⟩
  ·grind
  ·simp only [aS h5]
   refine⟨h6,h2,λx hx id hid=>?_,by grind⟩;obtain⟨n,hn,h8⟩:=h4 x hx id hid
   grind
 ·rw [ahA hk]
  by_cases h0:c.B=2/\(ofL m.J c.A).length>0
  ·grind
  ·simp only [aQ h0]
   rcases ZJ h1 c.A c.B with h5 | ⟨h5,h6,h7,h8,h9,h10,h11,_⟩
   ·grind
   ·simp only [aS h5]
    refine⟨h6,h2,λx hx id hid=>?_,aj⟩;obtain⟨n,hn,h12,h13⟩:=h4 x hx id hid
    grind [FI,ayN]
 ·rw [ace hk]; unfold uT
  split
  ·grind
  ·by_cases he:(dO m.J c.A (IntKind.u32.wrap c.B)).2=0
   ·simp only [aS he]
    grind [E8,Nn,ahF]
   grind
 ·rw [acf hk]; unfold uT
  split
  ·grind
  ·by_cases he:(gU m.J c.A (eu (IntKind.u32.wrap c.B))).2=0
   ·simp only [aS he]
    refine⟨h1,(JJ _ _ (zD _)).1,Nn h4 λc' hc' n hn=>?_,aj⟩
    rcases ZK h2 c.A (akB _) c' hc' n hn with h | h
    all_goals grind
   grind
 ·rw [ZH hk]
  by_cases hs:iZ m.aM c.B=true
  ·simp only [aS hs]
   by_cases he:(lu m.J c.A c.B c.C).2=0
   ·simp only [aS he]
    grind [aot,Nn,akC,zJ]
   grind
  grind
 ·rw [ZI hk]
  by_cases he:(gU m.J c.A (jk c.B)).2=0
  ·simp only [aS he]
   refine⟨h1,(JJ _ _ (Q7 _)).1,Nn h4 λc' hc' n hn=>?_,by grind⟩
   rcases ZK h2 c.A (aes _) c' hc' n hn with h | h
   all_goals grind
  grind
 ·rw [ahB hk]
  by_cases he:(iN m.J c.A).2=0
  ·simp only [aS he]
   grind [ajT,Nn,ahG]
  grind
 grind [ahC]
def ams(m:bY)(c:eU):0<=(yN m c).2.2.1/\(yN m c).2.2.1<=10:=by
 rcases kinds c.Kind with hk | hk | hk | hk | hk | hk | hk | hk | hk
 ·grind [ahy]
 ·simp_all [ahz,atw]
 ·grind [ahA,atx]
 ·simp_all [ace,aty]
 ·simp_all [acf,atz]
 all_goals simp_all [ZH,atA,ZI,atB,ahB,atC,ahC]
theorem ahH:∀(l:V fB)(z:Int),Up fB.Client l->(∀ n∈l,z<n.Client/\Qm n=true)->IZ z l=true
 | [],_,_,_=>rfl
 | m::l,z,hu,h=>by
  have h1:=nT.1 hu;have h2:=h m av
  simp only [IZ,bK,dZ,dQ,fG,bV]
  exact⟨⟨h2.2,aj⟩,ahH l _ h1.2 λn hn=>⟨h1.1 n hn,(h n (by simp [hn])).2⟩⟩
theorem ayP{n:fB}(h:Qm n=true):1<=n.Client/\n.Client<=1048576/\1<=n.Seq/\n.Seq<=1099511627776:=by grind [Qm]
theorem Np{l:V fB}:LP l=true↔Up fB.Client l/\(∀ n∈l,Qm n=true)/\l.length<=16:=by
 unfold LP; simp only [bK,bN];exact⟨λh=>⟨ahr l 0 h.1,λn hn=>(Zx l 0 h.1 n hn).2,h.2⟩,by grind [ahH,ayP]⟩
def atF{l:V fB}(hu:Up fB.Client l){x:fB}(hx:x∈l):Wm l x.Client=x:=by
 have hb:J9 (fun(y:fB)=>bL y.Client x.Client) l=true:=by rw [U7 (hu.mono x.Client)]; exact(uh hu _).2 (by grind)
 obtain⟨y,hy,hk⟩:=GN hb;rw [ao4 hb hy]; exact lI hu (dz hy) hx (zR.1 hk)
theorem ayQ(l:V fB)(iw seq a b:Int):(Nk l iw seq a).2=(Nk l iw seq b).2:=by
 grind [Nk]
abbrev Ov(gX:Int)(iP:List fB):=low (fun(y:fB)=>bL y.Client gX) iP
theorem aDG{l:V fB}{iw seq a:Int}(h:(Nk l iw seq a).2=0):LP l=true/\Qm ⟨iw,seq,0⟩=true/\LP (Nk l iw seq a).1=true/\Gz (Nk l iw seq a).1 iw seq=(a,true,0)/\
  (Nk l iw seq a).1=if hits (fun(y:fB)=>bL y.Client iw) l=true then l.set (Ov iw l) ⟨iw,seq,a⟩ else l.take (Ov iw l)++[⟨iw,seq,a⟩]++l.drop (Ov iw l):=by
 unfold Nk at h
 by_cases h1:(Gz l iw seq).2.2=0
 ·rw [aQ aj] at h
  by_cases h2:(Gz l iw seq).2.1=true
  ·grind
  ·rw [aQ h2] at h
   by_cases h3:J9 (fun(y:fB)=>bL y.Client iw) l=false/\16<=l.length
   ·grind
   ·have hno:¬ (!LP l||!Qm ⟨iw,seq,0⟩)=true:=by grind [Gz]
    have hsm:LP l=true/\Qm ⟨iw,seq,0⟩=true:=by grind
    have hiff:=Np.1 hsm.1;have hmo:=hiff.1.mono iw;have hso:Qm ⟨iw,seq,a⟩=true:=hsm.2;have hlow:=G8 (fun(y:fB)=>bL y.Client iw) l
    have e:(Nk l iw seq a).1=if hits (fun(y:fB)=>bL y.Client iw) l=true then l.set (Ov iw l) ⟨iw,seq,a⟩ else l.take (Ov iw l)++[⟨iw,seq,a⟩]++l.drop (Ov iw l):=by
     unfold Nk; rw [aQ aj,aQ h2,aQ h3,U7 hmo,Xq hmo]
     simp only
     split
     ·rfl
     ·simp_all
    rw [U7 hmo] at h3
    have hres:LP (Nk l iw seq a).1=true/\(⟨iw,seq,a⟩:fB)∈(Nk l iw seq a).1:=by
     rw [e]
     by_cases hh:hits (fun(y:fB)=>bL y.Client iw) l=true
     ·rw [aS hh]
      obtain⟨x,hx,hk⟩:=qc hh
      grind [Np,aer,List.length_set,dz,List.getElem?_set_self,aP,List.mem_or_eq_of_mem_set]
     ·rw [aQ hh]
      have hl:l.length<16:=by grind
      refine⟨Np.2 ⟨aep (c:=⟨iw,seq,a⟩) hiff.1 (λx hx e=>hh ((uh hiff.1 iw).2 ⟨x,hx,e⟩)),λy hy=>?_,?_⟩,av⟩
      all_goals grind
    refine⟨hsm.1,hsm.2,hres.1,?_,e⟩;have hf:=atF (by grind [Np]) hres.2;unfold Gz;have hf':Wm (Nk l iw seq a).1 iw=⟨iw,seq,a⟩:=hf;rw [hf',aQ (by rw [hres.1,hsm.2]; decide),aQ av,aS rfl]
 grind
def dS(m:bY)(c:eU):bY × Int:=if lU m=false then(m,-1) else if c.Client=0 then uK m c else if(Gz m.aU c.Client c.Seq).2.2≠0 then(m,-(Gz m.aU c.Client c.Seq).2.2) else if(Gz m.aU c.Client c.Seq).2.1=true then(m,(Gz m.aU c.Client c.Seq).1) else
  if(Nk m.aU c.Client c.Seq 0).2≠0 then(m,-(Nk m.aU c.Client c.Seq 0).2) else(⟨(uK m c).1.aM,(uK m c).1.J,(Nk m.aU c.Client c.Seq (uK m c).2).1⟩,(uK m c).2)
theorem U8(hm:lU m=true)(c:eU):lU (uK m c).1=true:=by
 obtain⟨h1,h2,h3,_⟩:=ayO hm c;exact dD.2 ⟨h1,h2,(dD.1 hm).2.2.1,h3⟩
theorem FJ(hm:lU m=true)(c:eU):lU (dS m c).1=true:=by
 have hd:=dD.1 (U8 hm c);unfold dS;rw [aQ (by grind)]
 grind [Nk,uK,U8,ayQ,dD,aDG]
def atG:lU ⟨[],[],[]⟩=true:=au
def mSz(m:bY):Prop:=m.aM.length<=100000/\m.J.length<=100000/\(∀ x∈m.J,x.aD.length<=100000)/\m.aU.length<=100000
def GU(hm:lU m=true):mSz m:=by
 obtain⟨h1,h2,h3,_⟩:=dD.1 hm;have h4:=yO h1;have h5:=vo h2;have h6:=(Np.1 h3).2.2;exact⟨aj,aj,λx hx=>by have:=h5.2 x hx; omega,aj⟩
set_option maxHeartbeats 1000000 in
def apa(w:World)(m:bY){wO:Nat}(CV:Sl bW S0 w xw wO m.aM){vO:Nat}(IY:Sl bD S0 w wm vO m.J){uI:Nat}(Ql:Sl cB S0 w uS uI m.aU)(hn:m.aM.length<=100000)(hc:m.J.length<=100000)(hh:∀ x∈m.J,x.aD.length<=100000)(hs:m.aU.length<=100000):bM prog 132 #[.agg #[.slice xw m.aM.length wO,.slice wm m.J.length vO,.slice uS m.aU.length uI]] w λv w'=>∃ wM wN Ab Ad Ae Af,v=.agg #[.slice wM m.aM.length wN,.slice Ab m.J.length Ad,.slice Ae m.aU.length Af]/\Hp w S0 w' [dI bW wM wN m.aM,dI bD Ab Ad m.J,dI cB Ae Af m.aU]:=by
 refine lg S0 func132 ntmps132 Y λH0=>rg<|bx Y Y H0 λg1 w1 K1=>al xK Y K1 λg2 w2 K2=>dn<|He K2 (λ_ K=>(K.rm s1)) (λl0 rk lJ wJ=>∃ jG jr oV cj2 wH vG,lJ=l0/\Hp w S0 wJ (dJ g1 37 [.slice wH m.aM.length vG,.slice oV m.J.length cj2,.slice jG m.aU.length jr]::aR cB 75 jG jr m.aU::aR bD 48 oV cj2 m.J::aR bW 72 wH vG m.aM::rk)) (λhns H1=>?_) ?_
 ·have k1:=(H1.rm s1);refine Iy 0 g1 0 lQ Y k1<|Iy 3 g1 1 jC Y k1<|Iy 6 g1 2 R9 Y k1<|Jn H1 (λl0 rk lJ wJ=>∃ Du Dv sG sH rE rF,lJ=(7,.slice rE m.aM.length rF)::(10,.slice sG m.J.length sH)::(13,.slice Du m.aU.length Dv)::(14,fK g1)::l0/\Hp w S0 wJ (aR cB 75 Du Dv m.aU::aR bD 48 sG sH m.J::aR bW 72 rE rF m.aM::rk)) 5 1023 ?_ λhS1=>?_
  ·rintro _ w14 ⟨Du,Dv,sG,sH,rE,rF,rfl,wF⟩;refine O1 10 Y<|xD Y wF s4 Y λw15 zI=>?_
   have k9:=(zI.cU 0 4);refine aO k9<|Iy 11 g1 1 jC Y k9<|O1 12 Y<|xD Y zI U Y λw16 BZ=>?_
   have k10:=(BZ.cU 0 4);refine aO k10<|Iy 13 g1 2 R9 Y k10<|O1 14 Y<|xD Y BZ U Y λw17 zT=>?_
   have k11:=(zT.cU 0 4);refine aO k11<|Dn ⟨Du,Dv,sG,sH,rE,rF,Y,zT⟩ Y
  refine Jn H1 (λl0 rk lJ wJ=>∃ rE rF,lJ=(7,.slice rE m.aM.length rF)::(9,.slice wm m.J.length vO)::(12,.slice uS m.aU.length uI)::l0/\Hp w S0 wJ (aR bW 72 rE rF m.aM::rk)) 8 223 ?_ λhS2=>?_
  ·rintro _ w18 ⟨rE,rF,rfl,EL⟩;have k12:=((EL.rm s2).rm U);refine Iy 9 g1 0 lQ Y k12<|O1 5 Y<|gu Y (vS _ (EL.a IY) aj) ?_
   rintro _ w19 ⟨atd,ate,rfl,h19⟩;have Ai:=EL.c1 h19;have k13:=((Ai.rm s3).cU 0 2);refine aO k13<|O1 8 Y<|gu Y (Ey _ (Ai.a Ql).any aj) ?_
   rintro _ w20 ⟨atH,atI,rfl,h20⟩;have Fg:=Ai.f1 h20;have k14:=((Fg.rm s4).cU 0 3);exact Kj hS1 k14 ⟨atH,atI,atd,ate,rE,rF,Y,Fg⟩ Y
  refine Jn H1 (λl0 rk lJ wJ=>∃ rE rF,lJ=(7,.slice rE m.aM.length rF)::(9,.slice wm m.J.length vO)::l0/\Hp w S0 wJ (aR bW 72 rE rF m.aM::rk)) 9 95 ?_ λhS3=>?_
  ·rintro _ w21 ⟨rE,rF,rfl,IJ⟩;refine O2 5 7 Y Y ?_ ?_
   ·refine gu Y (vS _ (IJ.a IY) aj) ?_;rintro _ w22 ⟨agT,agU,rfl,h22⟩;have Hy:=IJ.c1 h22;have k15:=((Hy.rm s3).cU 0 2);refine aO k15<|O1 7 Y<|lY Hy s3 Y<|aO k15<|Iy 9 g1 0 lQ Y k15<|O1 8 Y<|gu Y (Ey _ (Hy.a Ql).any aj) ?_
    rintro _ w23 ⟨atJ,atK,rfl,h23⟩;have Le:=Hy.f1 h23;have k16:=((Le.rm s4).cU 0 3);exact Kj hS1 k16 ⟨atJ,atK,agT,agU,rE,rF,Y,Le⟩ Y
   ·refine lY IJ s2 Y ?_;have k17:=((IJ.rm s2).rm U);exact Kj hS2 k17 ⟨rE,rF,Y,IJ⟩ Y
  refine Jn H1 (λl0 rk lJ wJ=>∃ rE rF,lJ=(7,.slice rE m.aM.length rF)::(12,.slice uS m.aU.length uI)::l0/\Hp w S0 wJ (aR bW 72 rE rF m.aM::rk)) 9 207 ?_ λhS4=>?_
  ·rintro _ w24 ⟨rE,rF,rfl,pz⟩;refine O1 4 Y<|lY pz s2 Y ?_
   have k18:=((pz.rm s2).rm U);exact Kj hS2 k18 ⟨rE,rF,Y,pz⟩ Y
  refine Jn H1 (λl0 rk lJ wJ=>lJ=(6,.slice xw m.aM.length wO)::(9,.slice wm m.J.length vO)::(12,.slice uS m.aU.length uI)::l0/\Hp w S0 wJ rk) 9 219 ?_ λhS5=>?_
  ·rintro _ w25 ⟨rfl,DU⟩;refine O1 2 Y<|gu Y (ni _ (DU.a CV).any aj) ?_
   rintro _ w26 ⟨aHW,aHX,rfl,h26⟩;have JU:=DU.f1 h26;have aDq:=(JU.o U).bI;have k19:=((JU.rm s2).rm U);exact Kj hS2 k19 ⟨aHW,aHX,Y,JU⟩ Y
  refine Jn H1 (λl0 rk lJ wJ=>lJ=(6,.slice xw m.aM.length wO)::(9,.slice wm m.J.length vO)::l0/\Hp w S0 wJ rk) 10 91 ?_ λhS6=>?_
  ·rintro _ w27 ⟨rfl,LG⟩;refine O2 2 7 Y Y ?_ ?_
   ·refine gu Y (ni _ (LG.a CV).any aj) ?_;rintro _ w28 ⟨aHY,aHZ,rfl,h28⟩;have Fh:=LG.f1 h28;have aOg:=(Fh.o U).bI;have k20:=((Fh.rm s2).rm U);exact Kj hS3 k20 ⟨aHY,aHZ,Y,Fh⟩ Y
   ·refine lY LG s1 Y ?_;have k21:=(LG.rm s1);exact Kj hS5 k21 ⟨Y,LG⟩ Y
  refine Jn H1 (λl0 rk lJ wJ=>lJ=(6,.slice xw m.aM.length wO)::(12,.slice uS m.aU.length uI)::l0/\Hp w S0 wJ rk) 10 203 ?_ λhS7=>?_
  ·rintro _ w29 ⟨rfl,Fp⟩;refine O2 2 4 Y Y ?_ ?_
   ·refine gu Y (ni _ (Fp.a CV).any aj) ?_;rintro _ w30 ⟨aH0,aH1,rfl,h30⟩;have Fq:=Fp.f1 h30;have aDr:=(Fq.o U).bI;have k22:=((Fq.rm s2).rm U);exact Kj hS4 k22 ⟨aH0,aH1,Y,Fq⟩ Y
   ·refine lY Fp s1 Y ?_;have k23:=(Fp.rm s1);exact Kj hS5 k23 ⟨Y,Fp⟩ Y
  refine Jn H1 (λl0 rk lJ wJ=>lJ=(9,.slice wm m.J.length vO)::(12,.slice uS m.aU.length uI)::l0/\Hp w S0 wJ rk) 10 217 ?_ λhS8=>?_
  ·rintro _ w31 ⟨rfl,Lh⟩;refine O1 1 Y<|lY Lh s1 Y ?_
   have k24:=(Lh.rm s1);exact Kj hS5 k24 ⟨Y,Lh⟩ Y
  refine xX (fuel:=11) (rs:=[1,4,7]) ak au ?_
  simp only [rP,lH,wU,wV,uw]
  refine⟨?_,?_,?_⟩
  ·refine⟨_,Y,?_⟩;refine lY H1 s1 Y<|aO k1<|xX (fuel:=10) (rs:=[2,4,7]) ak au ?_
   simp only [rP,lH,wU,wV,uw]
   refine⟨?_,?_,?_⟩
   ·refine⟨_,Y,?_⟩;refine gu Y (ni _ (H1.a CV).any aj) ?_;rintro _ w32 ⟨aBk,aBl,rfl,h32⟩;have M4:=H1.f1 h32;have aOh:=(M4.o U).bI;have k25:=((M4.rm s2).rm U);refine aO k25<|O2 4 7 Y Y ?_ ?_
    ·refine lY M4 s2 Y<|Kj hS3 k25 ⟨aBk,aBl,Y,M4⟩ Y
    ·refine lY M4 s2 Y<|Kj hS4 k25 ⟨aBk,aBl,Y,M4⟩ Y
   ·refine⟨_,Y,?_⟩;refine lY H1 s1 Y<|Kj hS6 k1 ⟨Y,H1⟩ Y
   ·refine⟨_,Y,?_⟩;refine lY H1 s1 Y<|Kj hS7 k1 ⟨Y,H1⟩ Y
  ·refine⟨_,Y,?_⟩;refine lY H1 s1 Y<|aO k1<|O2 1 7 Y Y ?_ ?_
   ·refine lY H1 s1 Y<|Kj hS6 k1 ⟨Y,H1⟩ Y
   ·refine lY H1 s1 Y<|Kj hS8 k1 ⟨Y,H1⟩ Y
  ·refine⟨_,Y,?_⟩;refine lY H1 s1 Y<|aO k1<|O2 1 4 Y Y ?_ ?_
   ·refine lY H1 s1 Y<|Kj hS7 k1 ⟨Y,H1⟩ Y
   ·refine lY H1 s1 Y<|Kj hS8 k1 ⟨Y,H1⟩ Y
 rintro _ w33 ⟨jG,jr,oV,cj2,wH,vG,rfl,P7⟩;refine aZ ?_;obtain⟨QX,agn,HK1⟩:=Hp.toK P7 s2;have HK2:=HK1.af8 dN 3;have ajM:QX.length=m.J.length:=by rw [<- agn,jW]
 rw [<- ajM] at HK2;refine rg<|jP g1 1 jC HK2 s3 Y<|pA 3 Y<|dF ?_
 have gy:[]=((QX.take 0).map rQ):=by rfl
 rw [gy] at HK2;refine qh (λmJ lJ wJ=>∃(k:Nat)(ks:V bE),lJ=[(1,fK g1),(2,fK g2),(18,.slice oV ks.length cj2),(19,O ((QX.length:Nat):Int)),(20,O ((k:Nat):Int))]/\mJ=QX.length - k/\k<=QX.length/\(ks.length=QX.length)/\(ks.map bE.c=m.J)/\(∀ j,k<=j->ks[j]? = QX[j]?)/\Hp w S0 wJ [aR tK 48 oV cj2 ks,fH dN 3 ((ks.take k).map rQ),WG dN (QX.map rQ),dJ g1 37 [.slice wH m.aM.length vG,.slice oV QX.length cj2,.slice jG m.aU.length jr],aR cB 75 jG jr m.aU,aR bW 72 wH vG m.aM,dJ g2 37 [.slice none 0 0,.slice none 0 0,.slice none 0 0]]) ⟨0,QX,Y,Y,fI _,by rfl,by exact agn,by intro j _; rfl,((HK2.sel U).sel s1)⟩ rfl ?_;rintro _ _ w34 ⟨k,ks,rfl,rfl,hk,hkn,hka,hkb,Xd⟩;refine rg<|ev (iH Y Y)<|dn<|r9 Y (λhc21=>?_) (λhc21=>?_)
 ·refine jQ ?_;refine aZ<|dF<|gD Y ?_
  obtain⟨x1,bT⟩:=bH (xs:=ks) (i:=k) aj;refine ev (d9 (i:=k) lT tH Y Y Y (aP bT) ((Xd.o U).some_ bT))<|ev (iR p8 Y Y ((Xd.o U).fF bT))<|al lX Y Xd λg3 w35 K35=>oJ Y<|sty Y K35 U Y λw36 K36=>dn ?_
  have hin:=K36.aB4 s3 (eX.2 ⟨x1,dz (by rw [<- hkb k (j4 _)]; exact bT),rfl⟩:(x1.B,x1.d,x1.c.aD)∈_);have hHl:x1.c.aD.length<=100000:=hh x1.c (by rw [<- hka]; exact eX.2 ⟨x1,dz bT,rfl⟩);have H2:=K36.push hin;refine Hf H2 (λ_ K=>(K.rm s2)) (λl0 rk lJ wJ=>∃ BL BM,lJ=(18,.slice oV ((ks.set k ({ x1 with B:=BL,d:=BM }:bE)).length) cj2)::l0/\Hp w S0 wJ (aR tK 48 oV cj2 (ks.set k ({ x1 with B:=BL,d:=BM }:bE))::aR dN 3 BL BM x1.c.aD::rk)) (λhns H3=>?_) ?_
  ·have k26:=(H3.rm s2);refine Iy 0 g1 1 jC Y k26<|kI 1 Y (λ_ hK=>show Ev _ _ _ _ _ (.slice oV ks.length cj2) from by rw [hkn]; exact(dU alX rfl (hK.x s4) rfl)) k26<|lF 2 rfl rfl k26<|mK 3 4 g3 3 kr s1 rfl k26<|O1 5 rfl<|gu rfl (sw _ (H3.s U).any aj) ?_
   rintro _ w37 ⟨ahI,ahJ,rfl,h37⟩;have V8:=H3.f1 h37;have k27:=((V8.rm s3).rm U);refine aO k27<|O1 6 Y<|ev (d9 (i:=k) lT tH Y Y Y (aP bT) ((V8.o s3).some_ bT))<|aO k27<|kI 7 Y (λ_ _=>fq kr Y (fD _ _ _)) k27<|O1 8 Y<|se (x':=({ x1 with B:=ahI,d:=ahJ }:bE)) V8 s3 Y Y Y bT Y VU (nU Y) Y (by rintro _ _ _ ⟨⟩; rfl) λw38 K38=>?_
   have hl1:(ks.set k ({ x1 with B:=ahI,d:=ahJ }:bE)).length=ks.length:=iC ..;refine gZ (t:=18) (u:=.slice oV ks.length cj2) (v:=.slice oV ((ks.set k ({ x1 with B:=ahI,d:=ahJ }:bE)).length) cj2) Y (by rw [hl1])<|gZ (t:=26) (u:=.slice oV ks.length cj2) (v:=.slice oV ((ks.set k ({ x1 with B:=ahI,d:=ahJ }:bE)).length) cj2) rfl (by rw [hl1]) ?_
   have k28:=(K38.cU 0 2);refine aO k28<|Dn ⟨ahI,ahJ,Y,K38⟩ Y
  rintro _ w39 ⟨BL,BM,rfl,K39⟩;refine iF (fV ?_);have H4:=K39.QV s1 s3;refine jN<|ev (eG Y Y)<|mv Y<|jO ?_
  have gH:((ks.take k).map rQ)++[(BL,BM,x1.c.aD)]=(((ks.set k ({ x1 with B:=BL,d:=BM }:bE)).take (k+1)).map rQ):=by rw [Uu bT]; rfl
  rw [gH] at H4;exact dX ⟨(k+1),(ks.set k ({ x1 with B:=BL,d:=BM }:bE)),Y,Y,aj,by rw [iC]; exact hkn,by refine(YH bT ?_).trans hka; rfl,by intro j hj; rw [Jv aj]; exact hkb j aj,(((H4.cU 2 2).sel U).sel s1)⟩ rfl aj
 refine BU ?_;have hfin:ks.take k=ks:=gY aj;rw [hfin] at Xd;have H5:=Xd.Yu s1;have H6:=H5.ofK s1 U;rw [hka,ajM] at H6;refine rg<|ev (fA xW Y Y (H6.x s2))<|sty Y H6 s5 Y λw40 K40=>dn<|jE (qL Y ⟨_,_,Y,⟨_,Y,jo (cs:=[.slice wH m.aM.length vG,.slice oV m.J.length cj2,.slice jG m.aU.length jr]) xW Y (K40.x U)⟩,Y⟩ ?_)
 have H7:=K40.fz s5;have H8:=H7.fz s2;have H9:=H8.fz s5;exact⟨wH,vG,oV,cj2,jG,jr,Y,((((H9.cU 3 3).sel U).sel s1).sel s2)⟩
end
section
variable {S0:Nat->Prop}{k jK:Nat}{α:Type}{c:Int}{jL wP:ah}{l:List α}
def atL:bU prog 118 0 0:=ay
set_option maxHeartbeats 1000000 in
def Sv(w:World)(m:bY){xw:ah}{wO:Nat}(CV:Sl bW S0 w xw wO m.aM){wm:ah}{vO:Nat}(IY:Sl bD S0 w wm vO m.J){uS:ah}{uI:Nat}(Ql:Sl cB S0 w uS uI m.aU)(c:eU)(hz:mSz m)(hx0:c.Client=0):bM prog 68 #[.agg #[.slice xw m.aM.length wO,.slice wm m.J.length vO,.slice uS m.aU.length uI],.agg #[O c.Client,O c.Seq,O c.Kind,O c.A,O c.B,O c.C]] w λv w'=>∃ wM wN Ab Ad Ae Af,v=.tuple #[.agg #[.slice wM ((((dS m c).1).aM).length) wN,.slice Ab ((((dS m c).1).J).length) Ad,.slice Ae ((((dS m c).1).aU).length) Af],O ((dS m c).2)]/\Hp w S0 w' [dI bW wM wN (((dS m c).1).aM),dI bD Ab Ad (((dS m c).1).J),dI cB Ae Af (((dS m c).1).aU)]:=by
 refine lg S0 func68 ntmps68 Y λH0=>rg<|bx Y Y H0 λg1 w1 K1=>bx Y Y K1 λg2 w2 K2=>al xK Y K2 λg3 w3 K3=>fE Y<|rg<|ev (fA xW Y Y (K3.x s2))<|gu Y (apa _ m (K3.a CV) (K3.a IY) (K3.a Ql) hz.1 hz.2.1 hz.2.2.1 hz.2.2.2) ?_
 rintro _ w4 ⟨aDH,aDI,aDJ,aDK,aDL,aDM,rfl,h4⟩;have K4:=K3.c3 h4;refine sty Y K4 s5 Y λw5 K5=>dn<|aZ<|dF<|rg<|ev (fA xW Y Y (K5.x U))<|mX K5 Y (ayv _ m (K5.s s1).any (K5.s s2).any (K5.s s3).any hz.1 hz.2.1) λw6 K6=>pA 3 Y<|bS Y (λzB=>?_) (λzB=>?_)
 ·try simp only [aA] at zB
  refine rg<|ev (fA xW Y Y (K6.x U))<|sty Y K6 s4 Y λw7 K7=>fE Y<|jE (jM (gG (qL Y ⟨_,_,Y,⟨_,Y,jo xW Y (K7.x U)⟩,⟨_,_,Y,Y,Y⟩⟩ ?_)))
  have gy:(m:bY)=((dS m c).1):=by unfold dS; rw [aS (by simpa using zB)]
  have gH:(m.aM:V aT)=(((dS m c).1).aM):=by rw [<- gy]
  have kN:(m.J:V aH)=(((dS m c).1).J):=by rw [<- gy]
  have nM:(m.aU:V fB)=(((dS m c).1).aU):=by rw [<- gy]
  have uO:((-1):Int)=((dS m c).2):=by unfold dS; rw [aS (by simpa using zB)]
  exact⟨aDH,aDI,aDJ,aDK,aDL,aDM,by first | (rw [gH,kN,nM,<- uO] <;> rfl) | (rw [gH,kN,nM,<- uO] <;> rfl),by rw [<- gH,<- kN,<- nM]; exact((K7.rm s5).cU 0 2)⟩
 try simp only [aA] at zB
 refine rg<|jP g2 0 atL K6 s5 Y<|pA 3 Y<|o8 Y (λl8=>?_) (λl8=>?_)
 ·refine rg<|ev (fA xW Y Y (K6.x U))<|ev (fA Bg Y Y (K6.x s5))<|gu Y (ayM _ m (K6.s s1) (K6.s s2) (K6.s s3) c hz.1 hz.2.1 hz.2.2.1) ?_
  rintro _ w8 ⟨aDN,aDO,aDP,aDQ,aDR,aDS,rfl,h8⟩;have K8:=K6.c3 h8;refine pq 2 Y<|sty Y K8 s7 Y λw9 K9=>fE Y<|jE (jM (gG (qL Y ⟨_,_,Y,⟨_,Y,jo xW Y (K9.x U)⟩,⟨_,_,Y,Y,Y⟩⟩ ?_)))
  have zC:((uK m c).1:bY)=((dS m c).1):=by unfold dS; rw [aQ (by simpa using zB),aS l8]
  have BO:(((uK m c).1).aM:V aT)=(((dS m c).1).aM):=by rw [<- zC]
  have hq8:(((uK m c).1).J:V aH)=(((dS m c).1).J):=by rw [<- zC]
  have Aa:(((uK m c).1).aU:V fB)=(((dS m c).1).aU):=by rw [<- zC]
  have vL:((uK m c).2:Int)=((dS m c).2):=by unfold dS; rw [aQ (by simpa using zB),aS l8]
  exact⟨aDN,aDO,aDP,aDQ,aDR,aDS,by first | (rw [vL,BO,hq8,Aa] <;> rfl) | (rw [BO,hq8,Aa,vL] <;> rfl),by rw [<- BO,<- hq8,<- Aa]; exact((K9.cU 4 5).rm U)⟩
 exact absurd hx0 l8
structure aI where
  X:Int
  E:Int
  Sum:Int
  fZ:Bool
  Bad:Bool
  deriving DecidableEq
def aI.enc(x:aI):List Value:=[.int .i64 x.X,.int .i64 x.E,.int .u32 x.Sum,.bool x.fZ,.bool x.Bad]
def aI.kP(x:aI):∀ u∈x.enc,u.oneCell'=true:=by
 intro u hu
 simp only [aI.enc,gW,lH,qM] at hu
 rcases hu with rfl | rfl | rfl | rfl | rfl <;> rfl
def bg:Ty aI:=Ty.flat 5 aI.enc au (λ_=>rfl) aI.kP
instance:Flat bg:=⟨λh=>h⟩
abbrev Ec(b:Bool):Int:=if b=true then 1 else 0
def LQ(x y:aI):Int:=VZ [bL x.X y.X,bL (Ec x.fZ) (Ec y.fZ)]
def Po(x:aI):Bool:=((decide (1<=x.X)&&decide (x.X<=1048576))&&decide (1<=x.E))&&decide (x.E<=1073741824)
def ZL(x:aI):Bool:=!Po x||(x.fZ&&x.Bad)
def aeu(p:Option aI)(x:aI):Bool:=match p with | some y=>decide (0<=LQ y x) | none=>false
def Nq(p:Option aI)(x:aI):Bool:=match p with | some y=>decide (y.X=x.X)&&decide (x.E<=y.E) | none=>false
def Sz(p:Option aI)(x:aI):Bool:=match p with | some y=>decide (y.X=x.X) | none=>false
def ayR{p:Option aI}{x:aI}(h:Sz p x=false):false=Nq p x:=by
 cases p with
 | none=>rfl
 | some y=>show false=(Sz (some y) x&&_); rw [h]; rfl
def atM{l:V aI}{x y:aI}(h:Sz ((l.take k).getLast?) x=true)(hy:(l.take k).getLast? = some y):decide (x.E<=y.E)=Nq ((l.take k).getLast?) x:=by
 rw [hy] at h ⊢;show _=(Sz (some y) x&&_); rw [h]; rfl
def apb{l:V aI}{x:aI}(h:Sz ((l.take k).getLast?) x=true):0<k:=by
 rcases Nat.eq_zero_or_pos k with rfl | h0
 ·cases h
 ·exact h0
def PO:Option aI->List aI->Bool
  | _,[]=>true
  | p,x::l=>(!ZL x&&!aeu p x&&!Nq p x)&&PO (some x) l
def SA(l:List aI):Bool:=PO none l
def iI(l:List aI):List aI:=if SA l then l else[]
def xL(l:V aI):(iI l).length<=l.length:=by unfold iI; split <;> simp
def Kr{p:Option aI}{l:V aI}{x:aI}(h:l[k]? = some x):PO p (l.drop k)=((!ZL x&&!aeu p x&&!Nq p x)&&PO (some x) (l.drop (k+1))):=by
 obtain⟨hk,he⟩:=rG.1 h;rw [CF hk,he]; rfl
def U9{y:α}(h:l[k - 1]? = some y)(hk:0<k):(l.take k).getLast? = some y:=by
 obtain⟨k,rfl⟩:∃ j,k=j+1:=⟨k - 1,aj⟩;rw [eO (show l[k]? = some y from h),List.getLast?_concat]
def last_zero(h:¬ (0:Int)<((k:Nat):Int)):(l.take k).getLast? = none:=by
 obtain rfl:k=0:=aj
 rfl
def apc{y:α}(h:l[k]? = some y):(l.take (k+1)).getLast? = some y:=by rw [eO h,List.getLast?_concat]
abbrev SB(c:Int)(t:Bool):aI:=⟨c,0,0,t,false⟩
abbrev atR(l:List aI)(c:Int)(t:Bool):Nat:=bsW (fun(y:aI)=>LQ y (SB c t)) l
abbrev T9(l:List aI)(c:Int)(t:Bool):Bool:=J9 (fun(y:aI)=>LQ y (SB c t)) l
def Bj(l:List aI)(x:aI):List aI:=if T9 l x.X x.fZ=true then l.set (atR l x.X x.fZ) x else(l.take (atR l x.X x.fZ)++[x]++l.drop (atR l x.X x.fZ))
def Dz(l:List aI)(c:Int)(t:Bool):Option aI:=if T9 l c t=true then l[atR l c t]? else none
def SC(o:Option aI)(v:Int):Bool:=match o with | some y=>decide (v<=y.E) | none=>false
def atN(o:Option aI)(v:Int):Bool:=match o with | some y=>!decide (y.E=v) | none=>true
def kU(l:List aI)(x:aI)(bB:Int):List aI × Int:=
  if(!Po x)=true then([],1) else if SC (Dz (iI l) x.X false) x.E=true then([],9) else
  if SC (Dz (iI l) x.X true) x.E=true then([],6) else
  if((!T9 (iI l) x.X true)&&decide (bB<=(((iI l).length:Nat):Int)))=true then([],7) else(Bj (iI l) ⟨x.X,x.E,x.Sum,true,false⟩,0)
def mR(l:List aI)(c v:Int):List aI × Int:=if atN (Dz (iI l) c true) v=true then([],5) else
  (Bj ((iI l).take (atR (iI l) c true)++(iI l).drop (atR (iI l) c true+1)) ⟨((Dz (iI l) c true).getD (SB 0 false)).X,((Dz (iI l) c true).getD (SB 0 false)).E,((Dz (iI l) c true).getD (SB 0 false)).Sum,false,((Dz (iI l) c true).getD (SB 0 false)).Bad⟩,0)
def oZ(l:List aI)(c:Int):List aI × Int:=if T9 (iI l) c false=true then((iI l).filter (fun(x:aI)=>!(decide (x.X=c)&&!x.fZ)),0) else([],5)
def FK(l:List aI)(c:Int):List aI:=(iI l).filter (fun(x:aI)=>!(decide (x.X=c)&&x.fZ))
def dL(l:List aI):List aI:=(iI l).filter (fun(x:aI)=>!x.fZ)
def atO(l:V aI)(c:Int)(t:Bool):atR l c t<=l.length:=aDu _ _
def I6{l:V aI}{t:Bool}{x:aI}(h:T9 l c t=true)(hx:l[atR l c t]? = some x):Dz l c t=some x:=by unfold Dz; rw [aS h,hx]
def SE{l:V aI}{t:Bool}(h:T9 l c t=false):Dz l c t=none:=by unfold Dz; rw [aQ (by rw [h]; decide)]
def ZM{l:V aI}{t:Bool}(h:T9 l c t=true):atR l c t<l.length:=by obtain⟨x,hx,_⟩:=GN h; exact aP hx
def ahK{l:V aI}{v:Int}(h:atN (Dz l c true) v=false):∃ y,T9 l c true=true/\l[atR l c true]? = some y/\y.E=v/\Dz l c true=some y:=by
 cases h1:T9 l c true with
 | false=>rw [SE h1] at h; cases h
 | true=>
  obtain⟨y,hy,_⟩:=GN h1;have hy':l[atR l c true]? = some y:=hy;rw [I6 h1 hy'] at h;exact⟨y,Y,hy',by simpa [atN] using h,I6 h1 hy'⟩
def set_mid{l:V aI}{i:Nat}{x:aI}(h:i<=l.length):(l.take i++[x]++l.drop i).set i x=l.take i++[x]++l.drop i:=by
 have h1:(l.take i).length=i:=by rw [iX]; omega
 rw [o9,List.set_append_right _ _ aj,h1,Nat.sub_self]; rfl
def ahL(l:V aI)(x:aI):(Bj l x).length<=l.length+1:=by
 unfold Bj; split
 ·rw [iC]; omega
 ·have:=atO l x.X x.fZ; simp only [jH,iX,uj,oO,u6]; omega
def mI:bU prog 140 0 0:=ay
def sJ:bU prog 140 1 1:=ay
def uL:bU prog 140 3 3:=ay
def akD:kW prog 4:=ay
def pR:Size prog 140 5:=ay
def pU:WC prog 140 5:=⟨λ_=>by kernel_rfl,pR⟩
def yP:∀ w,(zeroValue 140).run prog w=.ok (.agg #[O 0,O 0,gP 0,.bool false,.bool false]) w:=ay
def ahM:bU prog 140 4 4:=ay
def atQ:bC prog 342:=ay
def ape  : ∀ w,(Instr.buildSlice 135 0 (List.toArray [])).run prog w=.ok (.slice (some ⟨w.heap.size,0,none⟩) 0 0) (w.alloc (.cells (List.toArray []) 140)):=ay
def akE:kH prog 140 5 24:=by
 obtain⟨i,h1,h2,h3,h4⟩:=qo (show(prog.info? 140).map (λi=>(i.zero,i.size,i.bytes))=some (some (.agg #[O 0,O 0,gP 0,.bool false,.bool false]),5,24) by kernel_rfl);exact⟨i,_,h1,h2,h3,h4,Y⟩
def aev(a0:Int)(a1:Bool):prog.built 140 [(0,O a0),(3,.bool a1)]=some #[O a0,O 0,gP 0,.bool a1,.bool false]:=ak
def ahN(w:World)(is_:Bool):bM prog 370 #[.bool is_] w λv w'=>v=O (Ec is_)/\Hp w S0 w' []:=by
 refine lg S0 func370 ntmps370 Y λH0=>kX Y<|aZ<|gD Y<|dn<|bS Y (λhc3=>?_) (λhc3=>?_)
 ·refine kX Y<|Aw Y ?_
  have gy:(1:Int)=(Ec is_):=by rw [hc3]; rfl
  exact⟨by rw [<- gy] <;> rfl,H0⟩
 refine jQ ?_;refine kX Y<|iU Y ?_
 have gH:(0:Int)=(Ec is_):=by rw [hc3]; rfl
 exact⟨by rw [<- gH] <;> rfl,H0⟩
def aci(w:World)(x:aI):bM prog 302 #[.agg #[O x.X,O x.E,gP x.Sum,.bool x.fZ,.bool x.Bad]] w λv w'=>v=.bool (Po x)/\Hp w S0 w' []:=by
 refine lg S0 func302 ntmps302 Y λH0=>rg<|bx Y Y H0 λg1 w1 K1=>fE Y<|rg<|jP g1 0 mI K1 U Y<|pq 2 Y<|iJ 4 10 ((decide (1<=x.X))&&(decide (x.X<=1048576))) ?_ ?_
 ·cases hb6:decide (1<=x.X) with
  | true=>
   refine wW g1 0 mI K1 U Y<|pq 2 Y<|dK Y
  | false=>
   refine pq 4 Y<|dK Y
 refine mv Y<|iJ 4 15 (((decide (1<=x.X))&&(decide (x.X<=1048576)))&&(decide (1<=x.E))) ?_ ?_
 ·cases UD:((decide (1<=x.X))&&(decide (x.X<=1048576))) with
  | true=>
   have MW:=UD
   try simp only [aA] at MW
   refine wW g1 1 sJ K1 U Y<|pq 2 Y<|dK Y
  | false=>
   refine pq 4 Y<|dK Y
 refine mv Y<|iJ 4 20 ((((decide (1<=x.X))&&(decide (x.X<=1048576)))&&(decide (1<=x.E)))&&(decide (x.E<=1073741824))) ?_ ?_
 ·cases YQ:(((decide (1<=x.X))&&(decide (x.X<=1048576)))&&(decide (1<=x.E))) with
  | true=>
   have Rf:=YQ
   try simp only [aA] at Rf
   refine wW g1 1 sJ K1 U Y<|pq 2 Y<|dK Y
  | false=>
   refine pq 4 Y<|dK Y
 refine fE Y<|iU Y ?_
 exact⟨by skip <;> rfl,(K1.rm U)⟩
abbrev amu(gX iP:aI):=([bL gX.X iP.X,bL (Ec gX.fZ) (Ec iP.fZ)]:List Int)
def acj(w:World)(x:aI)(y:aI):bM prog 342 #[.agg #[O x.X,O x.E,gP x.Sum,.bool x.fZ,.bool x.Bad],.agg #[.int .i64 y.X,.int .i64 y.E,gP y.Sum,.bool y.fZ,.bool y.Bad]] w λv w'=>v=O (LQ x y)/\Hp w S0 w' []:=by
 refine lg S0 func342 ntmps342 Y λH0=>rg<|bx Y Y H0 λg1 w1 K1=>bx Y Y K1 λg2 w2 K2=>fE Y<|He K2 (λ_ K=>K) (λl0 rk lJ wJ=>lJ=(4,O (VZ (amu x y)))::l0/\Hp w S0 wJ rk) (λhns H1=>?_) ?_
 ·refine mK 0 1 g1 0 mI s1 Y H1<|mK 2 3 g2 0 mI U Y H1<|mK 5 6 g1 3 uL s1 Y H1<|mK 8 9 g2 3 uL U Y H1<|O1 4 Y<|mX H1 Y (nV (S0:=Any) _ x.X y.X) λw3 K3=>aO K3<|O1 7 Y<|mX K3 Y (ahN (S0:=Any) _ x.fZ) λw4 K4=>aO K4<|O1 10 Y<|mX K4 Y (ahN (S0:=Any) _ y.fZ) λw5 K5=>aO K5<|O1 11 Y<|mX K5 Y (nV (S0:=Any) _ (Ec x.fZ) (Ec y.fZ)) λw6 K6=>aO K6<|O1 12 Y<|bsn (τ:=dN) (xs:=(amu x y)) (vs:=[(0,O (bL x.X y.X)),(1,O (bL (Ec x.fZ) (Ec y.fZ)))]) (css:=[[O (bL x.X y.X)],[O (bL (Ec x.fZ) (Ec y.fZ))]]) Y (by intro _; apply Fe) rfl rfl K6 (λ_ e=>⟨rfl,rfl,trivial⟩) λg3 w7 K7=>?_
  have k1:=(K7.rm U);refine aO k1<|O1 13 Y<|mX K7 Y (agC _ (K7.o U)) λw8 K8=>?_
  have k2:=(K8.rm U);refine aO k2<|xC 14 Y Y k2<|Dn ⟨Y,(K8.rm U)⟩ Y
 rintro _ w9 ⟨rfl,K9⟩;refine iU Y ?_;exact⟨by skip <;> rfl,K9.z⟩
def ayS(w:World){l:V aI}(jq:Sl bg S0 w jL jK l):bM prog 343 #[.slice jL l.length jK] w λv w'=>v=.bool (SA l)/\Hp w S0 w' []:=by
 refine lg S0 func343 ntmps343 Y λH0=>?_;have Iz:=jq.bI;refine kX Y<|aZ<|gD Y<|ev (jf pE Y)<|mv Y<|dn<|dF<|Lp H0 (λl0 rk mJ lJ wJ=>∃ k,lJ=(7,O ((k:Nat):Int))::l0/\mJ=l.length - k/\k<=l.length/\(SA l=PO ((l.take k).getLast?) (l.drop k))/\Hp w S0 wJ rk) ⟨0,Y,Y,fI _,by rfl,H0⟩ rfl ?_
 rintro _ _ w1 ⟨k,rfl,rfl,hk,hri,K1⟩;refine rg<|ev (iH Y Y)<|dn<|r9 Y (λhc8=>?_) (λhc8=>?_)
 ·refine jQ ?_;refine aZ<|dF<|gD Y ?_
  obtain⟨x1,bT⟩:=bH (xs:=l) (i:=k) aj;refine ev (d9 (i:=k) pE pR Y Y Y (aP bT) ((K1.a jq).some_ bT))<|ev (iR pU Y Y ((K1.a jq).fF bT))<|al yP Y K1 λg1 w2 K2=>oJ Y<|sty Y K2 U Y λw3 K3=>dn<|dF<|rg<|ev (fA pU Y Y (K3.x U))<|mX K3 Y (aci (S0:=Any) _ x1) λw4 K4=>pq 2 Y<|iJ 7 23 ((!(Po x1))||(x1.fZ&&x1.Bad)) ?_ ?_
  ·cases YQ:(!(Po x1)) with
   | true=>
    refine pq 7 Y<|dK Y
   | false=>
    refine wW g1 3 uL K4 U Y<|pq 1 Y<|iJ 3 22 (x1.fZ&&x1.Bad) ?_ ?_
    ·cases abd:x1.fZ with
     | true=>
      refine wW g1 4 ahM K4 U Y<|pq 1 Y<|dK Y
     | false=>
      refine pq 3 Y<|dK Y
    refine pq 1 Y<|dK Y
  refine fE Y<|bS Y (λoD=>?_) (λoD=>?_)
  ·refine kX Y<|jE (jM (jM (gG (gG (jM (gG (uo Y ?_)))))))
   have gy:(false:Bool)=(SA l):=by rw [hri,Kr bT,show ZL x1=true from oD]; rfl
   exact⟨by rw [<- gy] <;> rfl,(K4.rm U)⟩
  refine pW ak ak<|bf (dP Y) Y<|bf (Ev.gtr Y Y) Y<|bf (dP Y) Y<|rO 9 36 (aeu ((l.take k).getLast?) x1) ?_ ?_
  ·cases apf:decide (0<((k:Nat):Int)) with
   | true=>
    have aBm:=iY apf;refine dM Y (dP Y) Y<|dM Y (dP Y) Y<|dM Y (Ev.axj (a:=k) (b:=1) Y Y Y aj aj) Y ?_
    obtain⟨x2,nE⟩:=bH (xs:=l) (i:=k - 1) aj;refine dM Y (d9 (i:=k - 1) pE pR Y Y Y (aP nE) ((K4.a jq).some_ nE)) Y<|dM Y (iR pU Y Y ((K4.a jq).fF nE)) Y<|dM Y (fA pU Y Y (K4.x U)) Y<|QS Y (v:=O (LQ x2 x1)) Y Y Y atQ (λwq eq=>(acj (S0:=Any) wq x2 x1).mono (by rintro _ _ ⟨rfl,gH⟩; exact⟨rfl,gH.ext⟩)) rfl<|dM rfl (Ev.geq rfl rfl) rfl<|bf (oP rfl rfl) rfl<|D6 (t:=36) (u:=.bool (decide (0<=LQ x2 x1))) (v:=.bool (aeu ((l.take k).getLast?) x1)) rfl (aY Value.bool (by rw [U9 nE aj]; rfl))<|jR rfl
   | false=>
    refine dw Y Y Y<|dw Y Y Y<|dw Y Y Y<|dw Y Y Y<|dw Y Y Y<|dw Y Y Y<|dw Y Y Y<|dw Y Y Y<|bf (oU Y Y) Y<|D6 (t:=36) (u:=.bool false) (v:=.bool (aeu ((l.take k).getLast?) x1)) Y (aY Value.bool (by rw [last_zero (jX apf)]; rfl))<|jR rfl
  refine bf (tF Y) Y<|pX λw5 e5=>?_
  have K5:=K4.grow e5;refine bS Y (λhc24=>?_) (λhc24=>?_)
  ·refine kX Y<|jE (jM (jM (gG (gG (jM (gG (uo Y ?_)))))))
   have gH:(false:Bool)=(SA l):=by rw [hri,Kr bT,hc24]; simp
   exact⟨by rw [<- gH] <;> rfl,(K5.rm U)⟩
  refine pW ak ak<|bf (dP Y) Y<|bf (Ev.gtr Y Y) Y<|bf (dP Y) Y<|rO 10 50 (Sz ((l.take k).getLast?) x1) ?_ ?_
  ·cases aoJ:decide (0<((k:Nat):Int)) with
   | true=>
    have aRR:=iY aoJ;refine dM Y (dP Y) Y<|dM Y (dP Y) Y<|dM Y (Ev.axj (a:=k) (b:=1) Y Y Y aj aj) Y ?_
    obtain⟨x3,hx3⟩:=bH (xs:=l) (i:=k - 1) aj;refine dM Y (d9 (i:=k - 1) pE pR Y Y Y (aP hx3) ((K5.a jq).some_ hx3)) Y<|dM Y (fq mI Y (fD _ _ _)) Y<|dM Y (kG jF Y ((K5.a jq).eZ (j:=0) hx3 Y)) Y<|dM Y (fq (q:=⟨g1,0,none⟩) mI Y Y) Y<|dM Y (dU jF Y (K5.x U) Y) Y<|dM Y (wQ Y Y) Y<|bf (oP Y Y) Y<|D6 (t:=50) (u:=.bool (decide (x3.X=x1.X))) (v:=.bool (Sz ((l.take k).getLast?) x1)) Y (aY Value.bool (by rw [U9 hx3 aj]; rfl))<|jR rfl
   | false=>
    refine dw Y Y Y<|dw Y Y Y<|dw Y Y Y<|dw Y Y Y<|dw Y Y Y<|dw Y Y Y<|dw Y Y Y<|dw Y Y Y<|dw Y Y Y<|bf (oU Y Y) Y<|D6 (t:=50) (u:=.bool false) (v:=.bool (Sz ((l.take k).getLast?) x1)) Y (aY Value.bool (by rw [last_zero (jX aoJ)]; rfl))<|jR rfl
  refine bf (dP Y) Y<|rO 10 61 (Nq ((l.take k).getLast?) x1) ?_ ?_
  ·cases aDT:Sz ((l.take k).getLast?) x1 with
   | true=>
    have hkp:=apb aDT;refine dM Y (fq (q:=⟨g1,1,none⟩) sJ Y Y) Y<|dM Y (dU jF Y (K5.x U) Y) Y<|dM Y (dP Y) Y<|dM Y (dP Y) Y<|dM Y (Ev.axj (a:=k) (b:=1) Y Y Y aj aj) Y ?_
    obtain⟨x4,hx4⟩:=bH (xs:=l) (i:=k - 1) aj;refine dM Y (d9 (i:=k - 1) pE pR Y Y Y (aP hx4) ((K5.a jq).some_ hx4)) Y<|dM Y (fq sJ Y (fD _ _ _)) Y<|dM Y (kG jF Y ((K5.a jq).eZ (j:=1) hx4 Y)) Y<|dM Y (Ev.leq Y Y) Y<|bf (oP Y Y) Y<|D6 (t:=61) (u:=.bool (decide (x1.E<=x4.E))) (v:=.bool (Nq ((l.take k).getLast?) x1)) Y (aY Value.bool (by exact atM aDT (U9 hx4 hkp)))<|jR rfl
   | false=>
    refine dw Y Y Y<|dw Y Y Y<|dw Y Y Y<|dw Y Y Y<|dw Y Y Y<|dw Y Y Y<|dw Y Y Y<|dw Y Y Y<|dw Y Y Y<|bf (oU Y Y) Y<|D6 (t:=61) (u:=.bool false) (v:=.bool (Nq ((l.take k).getLast?) x1)) Y (aY Value.bool (by exact ayR aDT))<|jR rfl
  refine bf (tF Y) Y<|pX λw6 e6=>?_
  have K6:=K5.grow e6;refine bS Y (λakF=>?_) (λakF=>?_)
  ·refine kX Y<|jE (jM (jM (gG (gG (jM (gG (uo Y ?_)))))))
   have kN:(false:Bool)=(SA l):=by rw [hri,Kr bT,akF]; simp
   exact⟨by rw [<- kN] <;> rfl,(K6.rm U)⟩
  refine yC (iF (iF (fV ?_)));refine jN<|ev (eG Y Y)<|mv Y<|jO<|dX ⟨(k+1),Y,Y,aj,by rw [hri,Kr bT,apc bT,show ZL x1=false from oD,hc24,akF]; rfl,(K6.rm U)⟩ rfl aj
 refine BU ?_;refine kX Y<|iU Y ?_
 have nM:(true:Bool)=(SA l):=by rw [hri,Hg aj]; rfl
 exact⟨by rw [<- nM] <;> rfl,K1⟩
def ahO(w:World){vk:Nat}{s:V aI}(sP:Sl bg S0 w wP vk s)(hn:s.length<=1000000):bM prog 344 #[.slice wP s.length vk] w λv w'=>∃ A0 c0,v=.slice A0 s.length c0/\Hp w S0 w' [aR bg 140 A0 c0 s]:=by
 refine lg S0 func344 ntmps344 Y λH0=>?_;have qU:=pE;have qI:=akE;have qB:=@ape;exact mCL
def SF(w:World){l:V aI}(jq:Sl bg S0 w jL jK l)(hn:l.length<=100000):bM prog 274 #[.slice jL l.length jK] w λv w'=>∃ A0 c0,v=.slice A0 ((iI l).length) c0/\Hp w S0 w' [aR bg 140 A0 c0 (iI l)]:=by
 refine lg S0 func274 ntmps274 Y λH0=>kX Y<|aZ<|gD Y<|mX H0 Y (ayS _ (H0.a jq).any) λw1 K1=>pA 2 Y<|bS Y (λhc5=>?_) (λhc5=>?_)
 ·try simp only [aA] at hc5
  refine kX Y<|Aw Y ?_
  have H1:=K1.nil bg 140;have gy:(([]:V aI):V aI)=(iI l):=by unfold iI; rw [aQ (by simpa using hc5)]
  have H2:=(gy▸H1:Hp w S0 w1 (aR bg 140 none 0 (iI l)::[]));exact⟨none,0,by rw [<- gy] <;> rfl,H2⟩
 try simp only [aA] at hc5
 refine jQ ?_;refine gD Y<|gu Y (ahO _ (K1.a jq).any aj) ?_
 rintro _ w2 ⟨qj,ql,rfl,h2⟩;have K2:=K1.f1 h2;refine fE Y<|iU Y ?_
 have gH:(l:V aI)=(iI l):=by unfold iI; rw [aS (by simpa using hc5)]
 have H3:=(gH▸K2:Hp w S0 w2 [aR bg 140 qj ql (iI l)]);exact⟨qj,ql,by rw [<- gH] <;> rfl,H3⟩
def ZN(w:World){vk:Nat}{s:V aI}(sP:Sl bg S0 w wP vk s)(target:aI){CK:FuncId}{Hr:V Value}(VR:bC prog CK)(f:aI->aI->Int)(VT:∀(w':World)(x t:aI),Ext w w'->True->bM prog CK (([.agg #[O x.X,O x.E,gP x.Sum,.bool x.fZ,.bool x.Bad],.agg #[O t.X,O t.E,gP t.Sum,.bool t.fZ,.bool t.Bad]]:V Value)++Hr).toArray w' λv w''=>v=O (f x t)/\Ext w' w'')(hn:s.length<=1000000):bM prog 341 #[.slice wP s.length vk,.agg #[O target.X,O target.E,gP target.Sum,.bool target.fZ,.bool target.Bad],.func (.func CK) #[] Hr.toArray] w λv w'=>v=.tuple #[O ((bsW (fun(y:aI)=>f y target) s:Nat):Int),.bool (J9 (fun(y:aI)=>f y target) s)]/\Hp w S0 w' []:=by
 refine lg S0 func341 ntmps341 Y λH0=>?_;have aoa:=sP.bI;refine rg<|bx Y Y H0 λg1 w1 K1=>pA 13 Y<|aZ<|dF<|Lp K1 (λl0 rk mJ lJ wJ=>∃ i j,lJ=(9,O ((i:Nat):Int))::(10,O ((j:Nat):Int))::l0/\mJ=j - i/\(i<=j/\j<=s.length)/\(bsW (fun(y:aI)=>f y target) s=bsG (fun(y:aI)=>f y target) s (j - i+1) i j)/\Hp w S0 wJ rk) ⟨0,s.length,Y,Y,by exact⟨fI _,j4 _⟩,by rfl,K1⟩ rfl ?_
 rintro _ _ w2 ⟨i,j,rfl,rfl,hij,hbs,K2⟩;refine aZ<|gD Y<|mv Y<|ev (iH Y Y)<|dn<|o8 Y (λhc17=>?_) (λhc17=>?_)
 ·refine jQ ?_;refine dF<|pC 3 Y<|ev (eG Y Y)<|ev (PX Em.1 Em.2.1 Em.2.2 Y (Jz aj))<|ev (Ev.aBX Y Y)<|ev (PX Au.1 Au.2.1 Au.2.2 Y (Ei aj))<|fE Y<|pW ak ak<|bf (dP Y) Y<|bf (dP Y) Y<|bf (dP Y) Y ?_
  obtain⟨x1,bT⟩:=bH (xs:=s) (i:=((i+j) / 2)) aj;refine bf (d9 (i:=((i+j) / 2)) pE pR Y Y Y (aP bT) ((K2.a sP).some_ bT)) Y<|bf (iR pU Y Y ((K2.a sP).fF bT)) Y<|bf (fA pU Y Y (K2.x U)) Y<|LZ (v:=O (f x1 target)) Y Y Y VR (λwq eq=>VT wq x1 target (K2.ext.trans eq) trivial) Y<|bf (iH Y Y) Y<|pX λw3 e3=>?_
  have K3:=K2.grow e3;refine o8 Y (λhc31=>?_) (λhc31=>?_)
  ·refine jN<|mv Y<|ev (eG Y Y)<|oJ Y<|jO<|iF<|dX ⟨(((i+j) / 2)+1),j,Y,Y,aj,by first | exact hbs.trans (atf aj bT hc31) | exact hbs.trans (atg aj bT hc31),K3⟩ rfl aj
  refine jN<|pq 2 Y<|jO<|iF<|dX ⟨i,((i+j) / 2),Y,Y,aj,by first | exact hbs.trans (atf aj bT hc31) | exact hbs.trans (atg aj bT hc31),K3⟩ rfl aj
 refine BU ?_;refine pW ak ak<|bf (dP Y) Y<|bf (dP Y) Y<|bf (dP Y) Y<|bf (iH Y Y) Y<|bf (dP Y) Y<|rO 9 48 (J9 (fun(y:aI)=>f y target) s) ?_ ?_
 ·cases ari:decide (((i:Nat):Int)<((s.length:Nat):Int)) with
  | true=>
   have aGp:=iY ari;refine dM Y (dP Y) Y<|dM Y (dP Y) Y<|dM Y (dP Y) Y ?_
   obtain⟨x2,nE⟩:=bH (xs:=s) (i:=i) aj;refine dM Y (d9 (i:=i) pE pR Y Y Y (aP nE) ((K2.a sP).some_ nE)) Y<|dM Y (iR pU Y Y ((K2.a sP).fF nE)) Y<|dM Y (fA pU Y Y (K2.x U)) Y<|QS Y (v:=O (f x2 target)) Y Y Y VR (λwq eq=>VT wq x2 target (K2.ext.trans eq) trivial) Y<|dM Y (wQ Y Y) Y<|bf (oP Y Y) Y<|D6 (t:=48) (u:=.bool (decide (f x2 target=0))) (v:=.bool (J9 (fun(y:aI)=>f y target) s)) Y (aY Value.bool (by have hl:=hbs.trans (ael aj); unfold J9; rw [hl,nE]))<|jR rfl
  | false=>
   refine dw Y Y Y<|dw Y Y Y<|dw Y Y Y<|dw Y Y Y<|dw Y Y Y<|dw Y Y Y<|dw Y Y Y<|dw Y Y Y<|bf (oU Y Y) Y<|D6 (t:=48) (u:=.bool false) (v:=.bool (J9 (fun(y:aI)=>f y target) s)) Y (aY Value.bool (by have hl:=hbs.trans (ael aj); unfold J9; rw [hl,Yn (by have:=jX ari; omega)])) ?_
   exact jR Y
 refine bf (tF Y) Y<|bf (tF Y) Y<|pX λw4 e4=>?_
 have K4:=K2.grow e4;refine iU Y ?_;exact⟨by rw [hbs.trans (ael aj)] <;> rfl,(K4.rm U)⟩
def Nr(w:World){l:V aI}(jq:Sl bg S0 w jL jK l)(aN:Int)(temp:Bool)(hn:l.length<=1000000):bM prog 273 #[.slice jL l.length jK,O aN,.bool temp] w λv w'=>v=.tuple #[O ((atR l aN temp:Nat):Int),.bool (T9 l aN temp)]/\Hp w S0 w' []:=by
 refine lg S0 func273 ntmps273 Y λH0=>pC 8 Y<|ev (iT Y (by apply aev))<|mX H0 rfl (ZN _ (H0.a jq).any (⟨aN,0,0,temp,false⟩:aI) atQ (fun(x:aI) (t:aI)=>LQ x t) (λw' x t e hm=>(acj (S0:=Any) w' x t).mono (by rintro _ _ ⟨rfl,gH⟩; exact⟨rfl,gH.ext⟩)) aj) λw1 K1=>pA 5 rfl<|iU rfl ?_
 have gy:(bsW (fun(y:aI)=>LQ y (⟨aN,0,0,temp,false⟩:aI)) l:Nat)=(atR l aN temp):=by rfl
 have gH:(J9 (fun(y:aI)=>LQ y (⟨aN,0,0,temp,false⟩:aI)) l:Bool)=(T9 l aN temp):=by rfl
 exact⟨by rw [gy,gH] <;> rfl,K1⟩
end
end Go.Proofs.YthcmboepffiliaaGreat
