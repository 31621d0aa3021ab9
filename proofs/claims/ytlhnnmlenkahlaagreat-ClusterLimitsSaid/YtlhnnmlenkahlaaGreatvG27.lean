/- Lemmas. -/
import Derived.Test.YtlhnnmlenkahlaaGreatvG26
set_option maxRecDepth 4000
set_option linter.all false
namespace Go.Proofs.YtlhnnmlenkahlaaGreat
open Go.RowKit Go.Proofs.Tryz
variable {b w:World}{S:Nat->Prop}{F:List lC}{iT:Nat}{A1 A2 A3 A4 A5 A6 A7:ah}{r:ARules}{aN:Int}{dR:List aM}{hs:jV}{x:aI}{l:List Int}
abbrev abo(gJ:Nat)(iK:ah)(tF:Nat)(vP:ah)(DI:Nat)(OD:ah)(RU:Nat)(XC:ah)(y8z:Nat)(y9z:ah)(Pz:Nat)(PD:ah)(PE:Nat)(PG:ah)(PI:Nat)(BK:dU)(BL:iM)(aaV:ARules)(aaW:Int)(PK:Nat)(PL:List aM)(aaX:jV)(aaY:List lC):=Iu gJ iK tF vP DI OD RU XC y8z y9z Pz PD PE PG PI BK BL aaV aaW PK PL::dP bX iK tF BK.aY::dP bH vP DI BK.aA::dP bZ OD RU BK.aQ::dP iL XC y8z BL.dX::dP dB y9z Pz BL.bY::dP bF PD PE BL.dM::aR bF 112 PG PI PL::jF PK aaX::aaY
theorem aoT{c1 c2 c3 c4 c5 c6 c7 gm:Nat}{m:dU}{s:iM}(H0:Hp b S w (abo iT A1 c1 A2 c2 A3 c3 A4 c4 A5 c5 A6 c6 A7 c7 m s r aN gm dR hs F))(hb:s.dX.length<=1000)(hl:s.bY.length<=1000)(hd:s.dM.length<=100000) :
    bO prog 18 #[fP iT] w λv w'=>∃(uP:ah)(uQ:Nat)(xU:ah)(xV:Nat)(xW:ah)(xX:Nat),v=.agg #[.slice uP s.dX.length uQ,.slice xU s.bY.length xV,.slice xW s.dM.length xX]/\Hp b S w' (aR iL 107 uP uQ s.dX::aR dB 117 xU xV s.bY::aR bF 112 xW xX s.dM::Iu iT A1 c1 A2 c2 A3 c3 A4 c4 A5 c5 A6 c6 A7 c7 m s r aN gm dR::dP bX A1 c1 m.aY::dP bH A2 c2 m.aA::dP bZ A3 c3 m.aQ::dP iL A4 c4 s.dX::dP dB A5 c5 s.bY::dP bF A6 c6 s.dM::aR bF 112 A7 c7 dR::jF gm hs::F):=by
 refine sF func18 ntmps18 Y<|rg<|al Ox Y H0 λg1 w1 K1=>dn<|He K1 (λ_ K=>(K.rm s0)) (λl0 rk lJ wJ=>∃(jE:ah)(jB:Nat)(oQ:ah)(cj2:Nat)(wm:ah)(vD:Nat),lJ=l0/\Hp b S wJ (dJ g1 51 [.slice wm s.dX.length vD,.slice oQ s.bY.length cj2,.slice jE s.dM.length jB]::aR bF 112 jE jB s.dM::aR dB 117 oQ cj2 s.bY::aR iL 107 wm vD s.dX::rk)) (λhns H1=>?_) ?_
 ·have k1:=(H1.rm s0);refine sw 0 iT 3 yQ Y k1<|mD 3 4 iT 3 D7 s0 Y k1<|sw 6 iT 3 yQ Y k1<|mD 9 10 iT 4 wS s0 Y k1<|sw 12 iT 3 yQ Y k1<|mD 15 16 iT 5 Bz s0 Y k1<|O1 5 Y<|gW Y (Bw _ (H1.s s5).any aj) ?_
  rintro _ w2 ⟨ni,nk,rfl,h2⟩;have K2:=H1.f1 h2;have k2:=(K2.cU 0 2);refine aP k2<|O1 11 Y<|gW Y (zH _ (K2.s s7).any aj) ?_
  rintro _ w3 ⟨mR,mU,rfl,h3⟩;have K3:=K2.f1 h3;have k3:=(K3.cU 0 3);refine aP k3<|O1 17 Y<|gW Y (zI _ (K3.s s9).any aj) ?_
  rintro _ w4 ⟨qY,qZ,rfl,h4⟩;have K4:=K3.f1 h4;have k4:=(K4.cU 0 4);refine aP k4<|lH 18 Y (λ_ _=>iE (vs:=[(0,.slice ni s.dX.length nk),(1,.slice mR s.bY.length mU),(2,.slice qY s.dM.length qZ)]) (cs:=[.slice ni s.dX.length nk,.slice mR s.bY.length mU,.slice qY s.dM.length qZ]) Y (by apply JB)) k4<|O1 19 rfl<|sty rfl K4 s3 rfl λw5 K5=>?_
  have k5:=(K5.cU 0 4);refine aP k5<|Dn ⟨qY,qZ,mR,mU,ni,nk,Y,K5⟩ Y
 rintro _ w6 ⟨jE,jB,oQ,cj2,wm,vD,rfl,K6⟩;refine je (oW Y ⟨_,_,Y,⟨_,Y,jm (cs:=[.slice wm s.dX.length vD,.slice oQ s.bY.length cj2,.slice jE s.dM.length jB]) Ij Y (K6.x s0)⟩,Y⟩ ?_);exact⟨wm,vD,oQ,cj2,jE,jB,Y,((((K6.rm s0).sel s0).sel s1).sel s2)⟩
theorem awr{z n:Int}{k:Nat}{H:kS}(h:l[k]? = some n)(hg:fH n hs=some H)(hb:¬ ((nW H.l H.es z).2.2=0/\(nW H.l H.es z).2.1=x.aC/\((iV (nW H.l H.es z).1).toNat:Int)=x.Sum)) :
    Nc (jR hs) x z (l.drop k)=Nc (jR hs) x z (l.drop (k+1)):=by
  have e:xP H.pl.l H.pl.d z=nW H.l H.es z:=aee _ _ _;rw [Wy h,iW,hg]; simp only [FW];exact aK (λh9=>hb (by rw [e] at h9; exact h9.2))
theorem aoU{z n:Int}{k:Nat}(h:l[k]? = some n)(hu:(!M9 (jR hs) n)=true):Nc (jR hs) x z (l.drop k)=Nc (jR hs) x z (l.drop (k+1)):=by
  rw [Wy h]; unfold M9 at hu
  cases hg:fH n (jR hs) with
  | none=>rfl
  | some g=>rw [hg] at hu; have h8:(!g.up)=true:=hu; exact aK (λh9=>by rw [h9.1] at h8; exact Bool.noConfusion h8)
theorem akL{z n:Int}{k:Nat}{H:kS}(h:l[k]? = some n)(hg:fH n hs=some H)(hu:H.up=true)(hb:(nW H.l H.es z).2.2=0/\(nW H.l H.es z).2.1=x.aC/\((iV (nW H.l H.es z).1).toNat:Int)=x.Sum) :
    Nc (jR hs) x z (l.drop k)=((nW H.l H.es z).1,0):=by
  have e:xP H.pl.l H.pl.d z=nW H.l H.es z:=aee _ _ _;rw [Wy h,iW,hg]; simp only [FW];rw [aO (by rw [e]; exact⟨hu,hb⟩),e]
theorem aoV{c1 c2 c3 c4 c5 c6 c7 gm:Nat}{m:dU}{s:iM}(H0:Hp b S w (abo iT A1 c1 A2 c2 A3 c3 A4 c4 A5 c5 A6 c6 A7 c7 m s r aN gm dR hs F))(aL:Int)(hm:qz m=true)(hz:hSz hs) :
    bO prog 12 #[fP iT,aD aL] w λv w'=>∃(A0:ah)(c0:Nat),v=.tuple #[.slice A0 (((FN (⟨m,s,r,aN,dR,jR hs⟩:PC) aL).1).length) c0,aD ((FN (⟨m,s,r,aN,dR,jR hs⟩:PC) aL).2)]/\Hp b S w' (aR gu 5 A0 c0 ((FN (⟨m,s,r,aN,dR,jR hs⟩:PC) aL).1)::Iu iT A1 c1 A2 c2 A3 c3 A4 c4 A5 c5 A6 c6 A7 c7 m s r aN gm dR::dP bX A1 c1 m.aY::dP bH A2 c2 m.aA::dP bZ A3 c3 m.aQ::dP iL A4 c4 s.dX::dP dB A5 c5 s.bY::dP bF A6 c6 s.dM::aR bF 112 A7 c7 dR::jF gm hs::F):=by
 refine sF func12 ntmps12 Y ?_;have hzs:=Ee hm;refine rg<|iA Y<|bS Y<|bQ Y<|ev (dS Y)<|wC iT 0 yP Y<|jD iT 1 kE H0 s0 Y<|mv Y<|gW Y (find_ok _ (H0.s s2) aL hzs.2.1 hzs.2.2.1) ?_
 rintro _ w1 ⟨agM,agN,rfl,h1⟩;have K1:=H0.c1 h1;have LC:=(K1.s s0).bN;refine mv Y<|xt Y Y<|xt Y Y<|al kZ Y K1 λg1 w2 K2=>sty Y K2 s0 Y λw3 K3=>bS Y<|aZ<|bQ Y<|ev (gZ Y)<|dn<|bR Y (λhc24=>?_) (λhc24=>?_)
 ·refine rg<|iA Y<|bS Y<|vG Y ?_
  have hop:(FN (⟨m,s,r,aN,dR,jR hs⟩:PC) aL)=([],5):=by unfold FN; rw [aO (show gU m.aA aL=false from by simpa using hc24)]
  rw [show(FN (⟨m,s,r,aN,dR,jR hs⟩:PC) aL).1=([]:List (BitVec 8)) from by rw [hop]];rw [show(FN (⟨m,s,r,aN,dR,jR hs⟩:PC) aL).2=5 from by rw [hop]];have H1:=K3.nil gu 5;exact⟨none,0,Y,(H1.cU 1 2)⟩
 refine jh ?_;refine aZ<|rg<|jD g1 3 kD K3 s0 Y<|ev (eY fq Y)<|mv Y<|dn<|cZ<|rR (λmJ lJ wJ=>∃(k:Nat),lJ=[(0,fP iT),(1,aD aL),(6,fP g1),(26,.slice agM (((aV m.aA aL).aF).length) agN),(27,aD ((((aV m.aA aL).aF).length:Nat):Int)),(28,aD ((k:Nat):Int))]/\mJ=((aV m.aA aL).aF).length - k/\k<=((aV m.aA aL).aF).length/\(Nc (jR hs) (aV m.aA aL) aL (aV m.aA aL).aF=Nc (jR hs) (aV m.aA aL) aL ((aV m.aA aL).aF.drop k))/\Hp b S wJ (dJ g1 59 [aD ((aV m.aA aL).ID),aD ((aV m.aA aL).aC),fT ((aV m.aA aL).Sum),.slice agM (((aV m.aA aL).aF).length) agN]::dP dL agM agN ((aV m.aA aL).aF)::Iu iT A1 c1 A2 c2 A3 c3 A4 c4 A5 c5 A6 c6 A7 c7 m s r aN gm dR::dP bX A1 c1 m.aY::dP bH A2 c2 m.aA::dP bZ A3 c3 m.aQ::dP iL A4 c4 s.dX::dP dB A5 c5 s.bY::dP bF A6 c6 s.dM::aR bF 112 A7 c7 dR::jF gm hs::F)) ⟨0,Y,Y,fK _,by rfl,K3⟩ rfl ?_
 rintro _ _ w4 ⟨k,rfl,rfl,hk,ar4,K4⟩;refine rg<|ev (fB Y Y)<|dn<|oC Y (λhc29=>?_) (λhc29=>?_)
 ·refine jh ?_;refine aZ<|cZ<|rg ?_
  obtain⟨x1,bP⟩:=bC (xs:=(aV m.aA aL).aF) (i:=k) aj;refine ev (eU (i:=k) fq sZ Y Y Y (aJ bP) ((K4.s s1).some_ bP))<|ev (jq jG Y ((K4.s s1).fZ (j:=0) bP Y))<|bS Y<|aZ<|bQ Y<|mv Y<|gW Y (aop (m:=m) (s:=s) (r:=r) ((K4.mV 0 2).mV 2 9) x1) ?_
  rintro _ w5 ⟨rfl,K5⟩;have aGi:=(K5.s s1).bN;have aGj:=(K5.s s2).bN;have aGk:=(K5.s s3).bN;have aGl:=(K5.s s4).bN;have aGm:=(K5.s s5).bN;have aGn:=(K5.s s6).bN;refine ev (gZ Y)<|dn<|bR Y (λML=>?_) (λML=>?_)
  ·refine uU (oz (vK (gB ?_)));refine jr<|ev (dW Y Y)<|mv Y<|jv<|dQ ⟨(k+1),Y,Y,aj,by rw [ar4]; exact aoU bP (by first | exact ML | (rw [ML]; rfl)),((K5.mV 0 9).mV 9 2)⟩ rfl aj
  refine jh ?_
  rcases hg1:fH x1 hs with _ | ⟨TF,gs1,SF,Ah1,ch1,Sm,TG,l1,es1⟩
  ·have h7:=ML; unfold M9 at h7; rw [iW,hg1] at h7; exact Bool.noConfusion (show true=false from h7)
  ·have hzf:=hz _ _ hg1;have hup:Sm=true:=by have h7:=ML; unfold M9 at h7; rw [iW,hg1] at h7; have h8:(!Sm)=false:=h7; simpa using h8
   refine bQ Y<|ev (dS Y)<|jD iT 13 qQ K5 s0 Y<|mv Y<|ev (Ev.hS K5 s8 hg1 zZ vw rJ Y Y)<|ev (dS Y)<|wC TF 0 vJ Y<|ev (cu Pg Y (K5.AP s8 hg1) Y)<|mv Y ?_
   have H2:=K5.uO s8 hg1;refine gW Y (ad5 ((H2.sel s0).mV 1 4) aL (lG hzf.1 au) (hzf.2 _)) ?_;rintro _ w6 ⟨CU,CV,rfl,K6⟩;have H3:=Ri hg1 ((((K6.sel s0).sel s6).mV 2 4).sel s6);refine mv Y<|xt Y Y<|xt Y Y<|xt Y Y<|iA Y<|iA Y<|bS Y<|qo ak ak<|bD (bA Y) Y<|bD (iP Y Y) Y<|bD (bA Y) Y<|qy 5 58 ((decide ((nW l1 es1 aL).2.2=0))&&(decide ((nW l1 es1 aL).2.1=(aV m.aA aL).aC))) ?_ ?_
   ·cases aIT:decide ((nW l1 es1 aL).2.2=0) with
    | true=>
     refine dV Y (bA Y) Y<|dV Y (eF (q:=⟨g1,1,none⟩) tu Y Y) Y<|dV Y (cu jG Y (H3.x s10) Y) Y<|dV Y (iP Y Y) Y<|bD (dY Y Y) Y<|jJ Y
    | false=>
     refine dF Y Y Y<|dF Y Y Y<|dF Y Y Y<|dF Y Y Y<|bD (eG Y Y) Y<|jJ Y
   refine bD (bA Y) Y<|qy 6 65 (((decide ((nW l1 es1 aL).2.2=0))&&(decide ((nW l1 es1 aL).2.1=(aV m.aA aL).aC)))&&(decide (((iV ((nW l1 es1 aL).1)).toNat:Int)=(aV m.aA aL).Sum))) ?_ ?_
   ·cases aEK:((decide ((nW l1 es1 aL).2.2=0))&&(decide ((nW l1 es1 aL).2.1=(aV m.aA aL).aC))) with
    | true=>
     have az9:=aEK
     try simp only [bK,dZ,bL,bU] at az9
     refine dV Y (bA Y) Y<|NA Y (v:=fT ((iV ((nW l1 es1 aL).1)).toNat:Int)) Y Y Y an0 (λwq eq=>(V9 wq ((H3.o s1).ext eq)).mono (by rintro _ _ ⟨rfl,fG⟩; exact⟨rfl,fG.ext⟩)) rfl<|dV rfl (eF (q:=⟨g1,2,none⟩) Kt rfl rfl) rfl<|dV rfl (cu UH rfl (H3.x s10) rfl) rfl<|dV rfl (iP rfl rfl) rfl<|bD (dY rfl rfl) rfl<|jJ rfl
    | false=>
     refine dF Y Y Y<|dF Y Y Y<|dF Y Y Y<|dF Y Y Y<|dF Y Y Y<|bD (eG Y Y) Y<|jJ Y
   refine qp λw7 e7=>?_;have K7:=H3.grow e7;refine bR Y (λafE=>?_) (λafE=>?_)
   ·refine bQ Y<|iA Y<|bS Y<|je (jH (gL (gL (jH (gL (zD Y ?_))))))
    have hfd:Nc (jR hs) (aV m.aA aL) aL (aV m.aA aL).aF=((nW l1 es1 aL).1,0):=by rw [ar4]; exact akL (H:=⟨TF,gs1,SF,Ah1,ch1,Sm,TG,l1,es1⟩) bP hg1 hup (by simpa [and_assoc] using afE)
    have hop:(FN (⟨m,s,r,aN,dR,jR hs⟩:PC) aL)=((nW l1 es1 aL).1,0):=by unfold FN; rw [aK (by rw [show gU m.aA aL=true from by simpa using hc24]; decide)]; exact hfd
    rw [show(FN (⟨m,s,r,aN,dR,jR hs⟩:PC) aL).1=(nW l1 es1 aL).1 from by rw [hop]];rw [show(FN (⟨m,s,r,aN,dR,jR hs⟩:PC) aL).2=0 from by rw [hop]];exact⟨CU,CV,Y,(((K7.cU 10 2).sel s0).mV 1 9)⟩
   refine zF ?_;refine jr<|ev (dW Y Y)<|mv Y<|jv<|dQ ⟨(k+1),Y,Y,aj,by rw [ar4]; exact awr bP hg1 (λh9=>by obtain⟨h10,h11,h12⟩:=h9; simp [h10,h11,h12] at afE),((((K7.rm s1).sel s0).mV 1 8).mV 9 2)⟩ rfl aj
 refine wQ ?_;refine rg<|iA Y<|bS Y<|iI Y ?_
 have hop:(FN (⟨m,s,r,aN,dR,jR hs⟩:PC) aL)=([],8):=by unfold FN; rw [aK (by rw [show gU m.aA aL=true from by simpa using hc24]; decide)]; show Nc (jR hs) _ aL _=_; rw [ar4,zf aj]; rfl
 rw [show(FN (⟨m,s,r,aN,dR,jR hs⟩:PC) aL).1=([]:List (BitVec 8)) from by rw [hop]];rw [show(FN (⟨m,s,r,aN,dR,jR hs⟩:PC) aL).2=8 from by rw [hop]];have H4:=K4.nil gu 5;exact⟨none,0,Y,(H4.cU 1 2)⟩
theorem ar5 (H0:Hp b S w F)(r:ARules)(hr:nM r=false) :
    bO prog 10 #[.agg #[aD r.ku,aD r.l5,aD r.All,aD r.qj,aD r.jy,aD r.fA]] w λv w'=>v=.tuple #[.pointer none,aD 1]/\Hp b S w' F:=by
 refine sF func10 ntmps10 Y<|rg<|bx Y Y H0 λg1 w1 K1=>iA Y<|bS Y<|aZ<|rg<|ev (dK OI Y Y (K1.x s0))<|lF K1 Y (ZV (S0:=Any) _ r) λw2 K2=>?_
 have d9:(nM r:Bool)=false:=by exact hr
 refine fJ (t:=5) Y (aS Value.bool d9)<|ev (gZ Y)<|dn<|bR Y (λ_h=>?_) nofun
 refine rg<|iA Y<|bS Y<|vG Y ?_
 exact⟨Y,(K2.rm s0)⟩
theorem aeD(Vl:Int)(adg:Int)(adk:Int)(aAa:Int)(aAb:Int)(aAc:Int)(a1:Option Nat):prog.built 84 [(2,.agg #[aD Vl,aD adg,aD adk,aD aAa,aD aAb,aD aAc]),(4,.map a1)]=some #[.slice none 0 0,.slice none 0 0,.slice none 0 0,.slice none 0 0,.slice none 0 0,.slice none 0 0,aD Vl,aD adg,aD adk,aD aAa,aD aAb,aD aAc,aD 0,.map a1,.slice none 0 0]:=ak
def mE:dU:=⟨[],[],[]⟩
def sE:iM:=⟨[],[],[]⟩
theorem aoW (H0:Hp b S w F)(r:ARules)(hr:nM r=true) :
    bO prog 10 #[.agg #[aD r.ku,aD r.l5,aD r.All,aD r.qj,aD r.jy,aD r.fA]] w λv w'=>∃(gc gm:Nat)(B1:ah)(d1:Nat)(B2:ah)(d2:Nat)(B3:ah)(d3:Nat)(B4:ah)(d4:Nat)(B5:ah)(d5:Nat)(B6:ah)(d6:Nat)(B7:ah)(d7:Nat),v=.tuple #[fP gc,aD 0]/\Hp b S w' (Iu gc B1 d1 B2 d2 B3 d3 B4 d4 B5 d5 B6 d6 B7 d7 mE sE r 0 gm ([]:List aM)::dP bX B1 d1 mE.aY::dP bH B2 d2 mE.aA::dP bZ B3 d3 mE.aQ::dP iL B4 d4 sE.dX::dP dB B5 d5 sE.bY::dP bF B6 d6 sE.dM::aR bF 112 B7 d7 ([]:List aM)::jF gm ([]:jV)::F):=by
 refine sF func10 ntmps10 Y<|rg<|bx Y Y H0 λg1 w1 K1=>iA Y<|bS Y<|aZ<|rg<|ev (dK OI Y Y (K1.x s0))<|lF K1 Y (ZV (S0:=Any) _ r) λw2 K2=>?_
 have d9:(nM r:Bool)=true:=by exact hr
 refine fJ (t:=5) Y (aS Value.bool d9)<|ev (gZ Y)<|dn<|bR Y nofun (λ_h=>?_)
 refine jh ?_;refine rg<|ev (dK OI Y Y (K2.x s0))<|mkA ekZ evH K2 λg2 w3 K3=>?_
 have H1:=K3.avY;refine ev (iE (vs:=[(2,.agg #[aD r.ku,aD r.l5,aD r.All,aD r.qj,aD r.jy,aD r.fA]),(4,.map (some g2))]) (cs:=[.slice none 0 0,.slice none 0 0,.slice none 0 0,.slice none 0 0,.slice none 0 0,.slice none 0 0,aD r.ku,aD r.l5,aD r.All,aD r.qj,aD r.jy,aD r.fA,aD 0,.map (some g2),.slice none 0 0]) Y (by apply aeD))<|bx rfl rfl H1 λg3 w4 K4=>iA rfl<|bS rfl<|iI rfl ?_
 have H2:=K4.push (Cb bX _ _);have fG:(([]:List aW):List aW)=mE.aY:=by rfl
 have H3:=H2.push (Cb bH _ _);have jQ:(([]:List aI):List aI)=mE.aA:=by rfl
 have H4:=H3.push (Cb bZ _ _);have lV:(([]:List aU):List aU)=mE.aQ:=by rfl
 have H5:=H4.push (Cb iL _ _);have qU:(([]:List eZ):List eZ)=sE.dX:=by rfl
 have H6:=H5.push (Cb dB _ _);have vY:(([]:List bB):List bB)=sE.bY:=by rfl
 have H7:=H6.push (Cb bF _ _);have xZ:(([]:List aM):List aM)=sE.dM:=by rfl
 have H8:=H7.nil bF 112;exact⟨g3,g2,none,0,none,0,none,0,none,0,none,0,none,0,none,0,Y,by rw [<- fG,<- jQ,<- lV,<- qU,<- vY,<- xZ]; exact(((((((((H8.rm s9).sel s0).sel s1).sel s2).sel s3).sel s4).sel s5).sel s6).sel s7)⟩
set_option maxHeartbeats 1000000 in
theorem aoX{c1 c2 c3 c4 c5 c6 c7 gm:Nat}{m:dU}{s:iM}(H0:Hp b S w (abo iT A1 c1 A2 c2 A3 c3 A4 c4 A5 c5 A6 c6 A7 c7 m s r aN gm dR hs F))(hm:qz m=true) :
    bO prog 16 #[fP iT] w λv w'=>∃(uP:ah)(uQ:Nat)(xU:ah)(xV:Nat)(xW:ah)(xX:Nat),v=.agg #[.slice uP m.aY.length uQ,.slice xU m.aA.length xV,.slice xW m.aQ.length xX]/\Hp b S w' (dP bX uP uQ m.aY::dP bH xU xV m.aA::dP bZ xW xX m.aQ::Iu iT A1 c1 A2 c2 A3 c3 A4 c4 A5 c5 A6 c6 A7 c7 m s r aN gm dR::dP bX A1 c1 m.aY::dP bH A2 c2 m.aA::dP bZ A3 c3 m.aQ::dP iL A4 c4 s.dX::dP dB A5 c5 s.bY::dP bF A6 c6 s.dM::aR bF 112 A7 c7 dR::jF gm hs::F):=by
 refine sF func16 ntmps16 Y ?_;have hzs:=Ee hm;have hn:=hzs.1;have hc:=hzs.2.1;have hh:=hzs.2.2.1;have hsz:=hzs.2.2.2;refine rg<|al yG Y H0 λg1 w1 K1=>dn<|bQ Y<|ev (dS Y)<|wC iT 0 yP Y<|ev (Cm (cs':=[.slice A1 m.aY.length c1,.slice A2 m.aA.length c2,.slice A3 m.aQ.length c3]) qO Y Y (K1.x s1) Y)<|al yG Y K1 λg2 w2 K2=>sty Y K2 s0 Y λw3 K3=>dn<|He K3 (λ_ K=>(K.cU 0 2)) (λl0 rk lJ wJ=>∃(jE:ah)(jB:Nat)(oQ:ah)(cj2:Nat)(wm:ah)(vD:Nat),lJ=l0/\Hp b S wJ (dJ g2 45 [.slice wm m.aY.length vD,.slice jE m.aA.length jB,.slice oQ m.aQ.length cj2]::aR bH 59 jE jB m.aA::aR bZ 102 oQ cj2 m.aQ::aR bX 78 wm vD m.aY::dJ g1 45 [.slice none 0 0,.slice none 0 0,.slice none 0 0]::rk)) (λhns H1=>?_) ?_
 ·have k1:=(H1.cU 0 2);refine Ko 0 g2 0 nD Y k1<|Ko 3 g2 2 BD Y k1<|Ko 6 g2 1 kE Y k1<|Jn H1 (λl0 rk lJ wJ=>∃(CU:ah)(CV:Nat)(xA:ah)(xB:Nat)(qY:ah)(qZ:Nat),lJ=(12,.slice qY m.aY.length qZ)::(15,.slice xA m.aQ.length xB)::(18,.slice CU m.aA.length CV)::(19,fP g2)::l0/\Hp b S wJ (aR bH 59 CU CV m.aA::aR bZ 102 xA xB m.aQ::aR bX 78 qY qZ m.aY::rk)) 5 1023 ?_ λhS1=>?_
  ·rintro _ Yg ⟨CU,CV,xA,xB,qY,qZ,rfl,yX⟩;refine O1 10 Y<|wD Y yX s3 Y λw16 Bv=>?_
   have k9:=(Bv.cU 0 5);refine aP k9<|Ko 11 g2 2 BD Y k9<|O1 12 Y<|wD Y Bv s0 Y λw17 xS=>?_
   have k10:=(xS.cU 0 5);refine aP k10<|Ko 13 g2 1 kE Y k10<|O1 14 Y<|wD Y xS s0 Y λw18 FR=>?_
   have k11:=(FR.cU 0 5);refine aP k11<|Dn ⟨CU,CV,xA,xB,qY,qZ,Y,FR⟩ Y
  refine Jn H1 (λl0 rk lJ wJ=>∃(qY:ah)(qZ:Nat),lJ=(12,.slice qY m.aY.length qZ)::(14,.slice A3 m.aQ.length c3)::(17,.slice A2 m.aA.length c2)::l0/\Hp b S wJ (aR bX 78 qY qZ m.aY::rk)) 8 223 ?_ λhS2=>?_
  ·rintro _ w19 ⟨qY,qZ,rfl,Bf⟩;have k12:=(Bf.cU 0 3);refine Ko 9 g2 0 nD Y k12<|O1 5 Y<|gW Y (yD _ (Bf.s s6).any aj) ?_
   rintro _ w20 ⟨anB,anC,rfl,h20⟩;have DL:=Bf.f1 h20;have aEL:=(DL.o s0).bN;have k13:=(DL.cU 0 4);refine aP k13<|O1 8 Y<|gW Y (uw _ (DL.s s6) aj) ?_
   rintro _ w21 ⟨aAd,aAe,rfl,h21⟩;have Gp:=DL.c1 h21;have aEM:=(Gp.o s0).bN;have k14:=(Gp.cU 0 5);exact Kj hS1 k14 ⟨aAd,aAe,anB,anC,qY,qZ,Y,Gp⟩ Y
  refine Jn H1 (λl0 rk lJ wJ=>∃(qY:ah)(qZ:Nat),lJ=(12,.slice qY m.aY.length qZ)::(14,.slice A3 m.aQ.length c3)::l0/\Hp b S wJ (aR bX 78 qY qZ m.aY::rk)) 9 95 ?_ λhS3=>?_
  ·rintro _ w22 ⟨qY,qZ,rfl,Fa⟩;refine O2 5 7 Y Y ?_ ?_
   ·refine gW Y (yD _ (Fa.s s6).any aj) ?_;rintro _ w23 ⟨anD,anE,rfl,h23⟩;have Jk:=Fa.f1 h23;have aEN:=(Jk.o s0).bN;have k15:=(Jk.cU 0 4);refine aP k15<|O1 7 Y<|mK Jk s2 Y<|aP k15<|Ko 9 g2 0 nD Y k15<|O1 8 Y<|gW Y (uw _ (Jk.s s6) aj) ?_
    rintro _ w24 ⟨amN,amO,rfl,h24⟩;have pG:=Jk.c1 h24;have auX:=(pG.o s0).bN;have k16:=(pG.cU 0 5);exact Kj hS1 k16 ⟨amN,amO,anD,anE,qY,qZ,Y,pG⟩ Y
   ·refine mK Fa s1 Y ?_;have k17:=(Fa.cU 0 3);exact Kj hS2 k17 ⟨qY,qZ,Y,Fa⟩ Y
  refine Jn H1 (λl0 rk lJ wJ=>∃(qY:ah)(qZ:Nat),lJ=(12,.slice qY m.aY.length qZ)::(17,.slice A2 m.aA.length c2)::l0/\Hp b S wJ (aR bX 78 qY qZ m.aY::rk)) 9 207 ?_ λhS4=>?_
  ·rintro _ w25 ⟨qY,qZ,rfl,FT⟩;refine O1 4 Y<|mK FT s1 Y ?_
   have k18:=(FT.cU 0 3);exact Kj hS2 k18 ⟨qY,qZ,Y,FT⟩ Y
  refine Jn H1 (λl0 rk lJ wJ=>lJ=(11,.slice A1 m.aY.length c1)::(14,.slice A3 m.aQ.length c3)::(17,.slice A2 m.aA.length c2)::l0/\Hp b S wJ rk) 9 219 ?_ λhS5=>?_
  ·rintro _ w26 ⟨rfl,Np⟩;refine O1 2 Y<|gW Y (l7 _ (Np.s s3).any aj) ?_
   rintro _ w27 ⟨aAf,aAg,rfl,h27⟩;have N9:=Np.f1 h27;have aEO:=(N9.o s0).bN;have k19:=(N9.cU 0 3);exact Kj hS2 k19 ⟨aAf,aAg,Y,N9⟩ Y
  refine Jn H1 (λl0 rk lJ wJ=>lJ=(11,.slice A1 m.aY.length c1)::(14,.slice A3 m.aQ.length c3)::l0/\Hp b S wJ rk) 10 91 ?_ λhS6=>?_
  ·rintro _ w28 ⟨rfl,Ig⟩;refine O2 2 7 Y Y ?_ ?_
   ·refine gW Y (l7 _ (Ig.s s3).any aj) ?_;rintro _ w29 ⟨aAh,aAi,rfl,h29⟩;have Ld:=Ig.f1 h29;have awp:=(Ld.o s0).bN;have k20:=(Ld.cU 0 3);exact Kj hS3 k20 ⟨aAh,aAi,Y,Ld⟩ Y
   ·refine mK Ig s0 Y ?_;have k21:=(Ig.cU 0 2);exact Kj hS5 k21 ⟨Y,Ig⟩ Y
  refine Jn H1 (λl0 rk lJ wJ=>lJ=(11,.slice A1 m.aY.length c1)::(17,.slice A2 m.aA.length c2)::l0/\Hp b S wJ rk) 10 203 ?_ λhS7=>?_
  ·rintro _ w30 ⟨rfl,LG⟩;refine O2 2 4 Y Y ?_ ?_
   ·refine gW Y (l7 _ (LG.s s3).any aj) ?_;rintro _ w31 ⟨aAj,aAk,rfl,h31⟩;have SG:=LG.f1 h31;have aEP:=(SG.o s0).bN;have k22:=(SG.cU 0 3);exact Kj hS4 k22 ⟨aAj,aAk,Y,SG⟩ Y
   ·refine mK LG s0 Y ?_;have k23:=(LG.cU 0 2);exact Kj hS5 k23 ⟨Y,LG⟩ Y
  refine Jn H1 (λl0 rk lJ wJ=>lJ=(14,.slice A3 m.aQ.length c3)::(17,.slice A2 m.aA.length c2)::l0/\Hp b S wJ rk) 10 217 ?_ λhS8=>?_
  ·rintro _ w32 ⟨rfl,QD⟩;refine O1 1 Y<|mK QD s0 Y ?_
   have k24:=(QD.cU 0 2);exact Kj hS5 k24 ⟨Y,QD⟩ Y
  refine xq (fuel:=11) (rs:=[1,4,7]) ak au ?_
  simp only [vV,kY,vW,vX,tq]
  refine⟨?_,?_,?_⟩
  ·refine⟨_,Y,?_⟩;refine mK H1 s0 Y<|aP k1<|xq (fuel:=10) (rs:=[2,4,7]) ak au ?_
   simp only [vV,kY,vW,vX,tq]
   refine⟨?_,?_,?_⟩
   ·refine⟨_,Y,?_⟩;refine gW Y (l7 _ (H1.s s3).any aj) ?_;rintro _ w33 ⟨atw,atx,rfl,h33⟩;have Xx:=H1.f1 h33;have awq:=(Xx.o s0).bN;have k25:=(Xx.cU 0 3);refine aP k25<|O2 4 7 Y Y ?_ ?_
    ·refine mK Xx s1 Y<|Kj hS3 k25 ⟨atw,atx,Y,Xx⟩ Y
    ·refine mK Xx s1 Y<|Kj hS4 k25 ⟨atw,atx,Y,Xx⟩ Y
   ·refine⟨_,Y,?_⟩;refine mK H1 s0 Y<|Kj hS6 k1 ⟨Y,H1⟩ Y
   ·refine⟨_,Y,?_⟩;refine mK H1 s0 Y<|Kj hS7 k1 ⟨Y,H1⟩ Y
  ·refine⟨_,Y,?_⟩;refine mK H1 s0 Y<|aP k1<|O2 1 7 Y Y ?_ ?_
   ·refine mK H1 s0 Y<|Kj hS6 k1 ⟨Y,H1⟩ Y
   ·refine mK H1 s0 Y<|Kj hS8 k1 ⟨Y,H1⟩ Y
  ·refine⟨_,Y,?_⟩;refine mK H1 s0 Y<|aP k1<|O2 1 4 Y Y ?_ ?_
   ·refine mK H1 s0 Y<|Kj hS7 k1 ⟨Y,H1⟩ Y
   ·refine mK H1 s0 Y<|Kj hS8 k1 ⟨Y,H1⟩ Y
 rintro _ w34 ⟨jE,jB,oQ,cj2,wm,vD,rfl,K34⟩;refine aZ ?_;obtain⟨NJ,ab6,HK1⟩:=Hp.toK K34 s1;have HK2:=HK1.abW dL 3;have afa:NJ.length=m.aA.length:=by rw [<- ab6,jN]
 have HK3:=HK2;rw [<- afa] at HK3;refine rg<|jD g2 1 kE HK3 s3 Y<|ev (eY jf Y)<|mv Y<|dn<|cZ ?_
 have d9:[]=((NJ.take 0).map qg):=by rfl
 rw [d9] at HK3;refine rR (λmJ lJ wJ=>∃(k:Nat)(ks:List bE),lJ=[(2,fP g1),(3,fP g2),(23,.slice jE ks.length jB),(24,aD ((NJ.length:Nat):Int)),(25,aD ((k:Nat):Int))]/\mJ=NJ.length - k/\k<=NJ.length/\(ks.length=NJ.length)/\(ks.map bE.c=m.aA)/\(∀ j,k<=j->ks[j]? = NJ[j]?)/\Hp b S wJ (aR tK 59 jE jB ks::fD dL 3 ((ks.take k).map qg)::Qd dL (NJ.map qg)::dJ g2 45 [.slice wm m.aY.length vD,.slice jE NJ.length jB,.slice oQ m.aQ.length cj2]::aR bZ 102 oQ cj2 m.aQ::aR bX 78 wm vD m.aY::dJ g1 45 [.slice none 0 0,.slice none 0 0,.slice none 0 0]::Iu iT A1 c1 A2 c2 A3 c3 A4 c4 A5 c5 A6 c6 A7 c7 m s r aN gm dR::dP bX A1 c1 m.aY::dP bH A2 c2 m.aA::dP bZ A3 c3 m.aQ::dP iL A4 c4 s.dX::dP dB A5 c5 s.bY::dP bF A6 c6 s.dM::aR bF 112 A7 c7 dR::jF gm hs::F)) ⟨0,NJ,Y,Y,fK _,by rfl,by exact ab6,by intro j _; rfl,((HK3.sel s0).sel s1)⟩ rfl ?_;rintro _ _ w35 ⟨k,ks,rfl,rfl,hk,hkn,hka,hkb,K35⟩;refine rg<|ev (fB Y Y)<|dn<|oC Y (λLa=>?_) (λLa=>?_)
 ·refine jh ?_;refine aZ<|cZ<|bQ Y ?_
  obtain⟨x1,bP⟩:=bC (xs:=ks) (i:=k) aj;refine ev (eU (i:=k) jf qG Y Y Y (aJ bP) ((K35.o s0).some_ bP))<|ev (fV pU Y Y ((K35.o s0).eX bP))<|al kZ Y K35 λg3 w36 K36=>iA Y<|sty Y K36 s0 Y λw37 K37=>dn ?_
  have hin:=K37.atV s3 (jI.2 ⟨x1,dA (by rw [<- hkb k (kH _)]; exact bP),rfl⟩:(x1.B,x1.d,x1.c.aF)∈_);have hHl:x1.c.aF.length<=100000:=hh x1.c (by rw [<- hka]; exact jI.2 ⟨x1,dA bP,rfl⟩);have H2:=K37.push hin;refine Hf H2 (λ_ K=>(K.rm s2)) (λl0 rk lJ wJ=>∃(Au:ah)(Aw:Nat),lJ=(23,.slice jE ((ks.set k ({ x1 with B:=Au,d:=Aw }:bE)).length) jB)::l0/\Hp b S wJ (aR tK 59 jE jB (ks.set k ({ x1 with B:=Au,d:=Aw }:bE))::aR dL 3 Au Aw x1.c.aF::rk)) (λhns H3=>?_) ?_
  ·have k26:=(H3.rm s2);refine Ko 0 g2 1 kE Y k26<|lH 1 Y (λ_ hK=>show Ev _ _ _ _ _ (.slice jE ks.length jB) from by rw [hkn]; exact(cu al2 rfl (hK.x s4) rfl)) k26<|kT 2 rfl rfl k26<|mD 3 4 g3 3 kD s1 rfl k26<|O1 5 rfl<|gW rfl (sM _ (H3.s s0).any aj) ?_
   rintro _ w38 ⟨OE,OG,rfl,h38⟩;have K38:=H3.f1 h38;have k27:=((K38.rm s3).rm s0);refine aP k27<|O1 6 Y<|ev (eU (i:=k) jf qG Y Y Y (aJ bP) ((K38.o s3).some_ bP))<|aP k27<|lH 7 Y (λ_ _=>eF kD Y (gI _ _ _)) k27<|O1 8 Y<|se (i:=k) (f:=3) (x:=x1) (x':=({ x1 with B:=OE,d:=OG }:bE)) (ds:=[.slice OE x1.c.aF.length OG]) K38 s3 Y Y Y bP Y NH (oJ Y) Y (by rintro _ _ _ ⟨⟩; rfl) λw39 K39=>?_
   have hl1:(ks.set k ({ x1 with B:=OE,d:=OG }:bE)).length=ks.length:=fQ ..;refine fJ (t:=23) (u:=.slice jE ks.length jB) (v:=.slice jE ((ks.set k ({ x1 with B:=OE,d:=OG }:bE)).length) jB) Y (by rw [hl1])<|fJ (t:=31) (u:=.slice jE ks.length jB) (v:=.slice jE ((ks.set k ({ x1 with B:=OE,d:=OG }:bE)).length) jB) rfl (by rw [hl1]) ?_
   have k28:=(K39.cU 0 2);refine aP k28<|Dn ⟨OE,OG,Y,K39⟩ Y
  rintro _ w40 ⟨Au,Aw,rfl,K40⟩;refine ig (gB ?_);have H4:=K40.NG s1 s3;refine jr<|ev (dW Y Y)<|mv Y<|jv ?_
  have fG:((ks.take k).map qg)++[(Au,Aw,x1.c.aF)]=(((ks.set k ({ x1 with B:=Au,d:=Aw }:bE)).take (k+1)).map qg):=by rw [Qn bP]; rfl
  rw [fG] at H4;exact dQ ⟨(k+1),(ks.set k ({ x1 with B:=Au,d:=Aw }:bE)),Y,Y,aj,by rw [fQ]; exact hkn,by refine(Uz bP ?_).trans hka; rfl,by intro j hj; rw [CJ aj]; exact hkb j aj,(((H4.cU 2 2).sel s0).sel s1)⟩ rfl aj
 refine wQ ?_;have hfin:ks.take k=ks:=iD aj;have H5:=K35;rw [hfin] at H5;have H6:=H5.Uk s1;have H7:=H6.ofK s1 s0;rw [hka,afa] at H7;refine rg<|ev (dK qO Y Y (H7.x s2))<|sty Y H7 s5 Y λw41 K41=>dn<|je (oW Y ⟨_,_,Y,⟨_,Y,jm (cs:=[.slice wm m.aY.length vD,.slice jE m.aA.length jB,.slice oQ m.aQ.length cj2]) qO Y (K41.x s0)⟩,Y⟩ ?_)
 have H8:=K41.fz s5;have H9:=H8.fz s2;have H10:=H9.fz s5;exact⟨wm,vD,jE,jB,oQ,cj2,Y,((((H10.cU 3 3).sel s0).sel s1).sel s2)⟩
end Go.Proofs.YtlhnnmlenkahlaaGreat
