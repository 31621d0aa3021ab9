/- Lemmas. -/
import Derived.Test.YtlhnnmlenkahlaaGreatrG26
set_option maxRecDepth 4000
set_option linter.all false
namespace Go.Proofs.YtlhnnmlenkahlaaGreat
open Go.RowKit Go.Proofs.Tryz
variable {b w:World}{S:Nat->Prop}{F:List lH}{je:Nat}{A1 A2 A3 A4 A5 A6 A7:ah}{r:ARules}{aN:Int}{eD:List aM}{hs:kK}{x:aH}{l:List Int}
abbrev ad5(iD:Nat)(ji:ah)(uS:Nat)(wV:ah)(ES:Nat)(Q0:ah)(UO:Nat)(y7z:ah)(y8z:Nat)(y9z:ah)(RV:Nat)(RX:ah)(RY:Nat)(RZ:ah)(R3:Nat)(Dz:dF)(DC:iF)(adG:ARules)(adH:Int)(R4:Nat)(R5:List aM)(adI:kK)(adJ:List lH):=Iq iD ji uS wV ES Q0 UO y7z y8z y9z RV RX RY RZ R3 Dz DC adG adH R4 R5::dP cZ ji uS Dz.aT::dP bJ wV ES Dz.aA::dP bX Q0 UO Dz.aP::dP iO y7z y8z DC.eF::dP dJ y9z RV DC.bY::dP bG RX RY DC.bL::aS bG 112 RZ R3 R5::jP R4 adI::adJ
theorem asG{c1 c2 c3 c4 c5 c6 c7 gm:Nat}{m:dF}{s:iF}(H0:Hp b S w (ad5 je A1 c1 A2 c2 A3 c3 A4 c4 A5 c5 A6 c6 A7 c7 m s r aN gm eD hs F))(hb:s.eF.length<=1000)(hl:s.bY.length<=1000)(hd:s.bL.length<=100000) :
    bS prog 18 #[gD je] w λv w'=>∃(vP:ah)(vQ:Nat)(zC:ah)(zD:Nat)(zF:ah)(zG:Nat),v=.agg #[.slice vP s.eF.length vQ,.slice zC s.bY.length zD,.slice zF s.bL.length zG]/\Hp b S w' (aS iO 107 vP vQ s.eF::aS dJ 117 zC zD s.bY::aS bG 112 zF zG s.bL::Iq je A1 c1 A2 c2 A3 c3 A4 c4 A5 c5 A6 c6 A7 c7 m s r aN gm eD::dP cZ A1 c1 m.aT::dP bJ A2 c2 m.aA::dP bX A3 c3 m.aP::dP iO A4 c4 s.eF::dP dJ A5 c5 s.bY::dP bG A6 c6 s.bL::aS bG 112 A7 c7 eD::jP gm hs::F):=by
 refine sV func18 ntmps18 Y<|rg<|al FL Y H0 λg1 w1 K1=>dn<|He K1 (λ_ K=>(K.rm s0)) (λl0 rk lJ wJ=>∃(jR:ah)(jO:Nat)(ql:ah)(cj2:Nat)(wF:ah)(vM:Nat),lJ=l0/\Hp b S wJ (dY g1 51 [.slice wF s.eF.length vM,.slice ql s.bY.length cj2,.slice jR s.bL.length jO]::aS bG 112 jR jO s.bL::aS dJ 117 ql cj2 s.bY::aS iO 107 wF vM s.eF::rk)) (λhns H1=>?_) ?_
 ·have k1:=(H1.rm s0);refine uw 0 je 3 Am Y k1<|ng 3 4 je 3 FM s0 Y k1<|uw 6 je 3 Am Y k1<|ng 9 10 je 4 yC s0 Y k1<|uw 12 je 3 Am Y k1<|ng 15 16 je 5 yD s0 Y k1<|O1 5 Y<|gX Y (Dt _ (H1.s s5).any aj) ?_
  rintro _ w2 ⟨oo,oq,rfl,h2⟩;have K2:=H1.f1 h2;have k2:=(K2.cU 0 2);refine aQ k2<|O1 11 Y<|gX Y (BG _ (K2.s s7).any aj) ?_
  rintro _ w3 ⟨nR,nS,rfl,h3⟩;have K3:=K2.f1 h3;have k3:=(K3.cU 0 3);refine aQ k3<|O1 17 Y<|gX Y (BH _ (K3.s s9).any aj) ?_
  rintro _ w4 ⟨sO,sP,rfl,h4⟩;have K4:=K3.f1 h4;have k4:=(K4.cU 0 4);refine aQ k4<|lD 18 Y (λ_ _=>iY (vs:=[(0,.slice oo s.eF.length oq),(1,.slice nR s.bY.length nS),(2,.slice sO s.bL.length sP)]) (cs:=[.slice oo s.eF.length oq,.slice nR s.bY.length nS,.slice sO s.bL.length sP]) Y (by apply L8)) k4<|O1 19 rfl<|sty rfl K4 s3 rfl λw5 K5=>?_
  have k5:=(K5.cU 0 4);refine aQ k5<|Dn ⟨sO,sP,nR,nS,oo,oq,Y,K5⟩ Y
 rintro _ w6 ⟨jR,jO,ql,cj2,wF,vM,rfl,K6⟩;refine jf (qA Y ⟨_,_,Y,⟨_,Y,jL (cs:=[.slice wF s.eF.length vM,.slice ql s.bY.length cj2,.slice jR s.bL.length jO]) Ko Y (K6.x s0)⟩,Y⟩ ?_);exact⟨wF,vM,ql,cj2,jR,jO,Y,((((K6.rm s0).sel s0).sel s1).sel s2)⟩
theorem aAM{z n:Int}{k:Nat}{H:lZ}(h:l[k]? = some n)(hg:fI n hs=some H)(hb:¬ ((o7 H.l H.es z).2.2=0/\(o7 H.l H.es z).2.1=x.aB/\((iM (o7 H.l H.es z).1).toNat:Int)=x.Sum)) :
    GD (kH hs) x z (l.drop k)=GD (kH hs) x z (l.drop (k+1)):=by
  have e:uq H.pl.l H.pl.d z=o7 H.l H.es z:=agU _ _ _;rw [YV h,jI,hg]; simp only [Gh];exact aK (λh9=>hb (by rw [e] at h9; exact h9.2))
theorem asH{z n:Int}{k:Nat}(h:l[k]? = some n)(hu:(!PO (kH hs) n)=true):GD (kH hs) x z (l.drop k)=GD (kH hs) x z (l.drop (k+1)):=by
  rw [YV h]; unfold PO at hu
  cases hg:fI n (kH hs) with
  | none=>rfl
  | some g=>rw [hg] at hu; have h8:(!g.up)=true:=hu; exact aK (λh9=>by rw [h9.1] at h8; exact Bool.noConfusion h8)
theorem an9{z n:Int}{k:Nat}{H:lZ}(h:l[k]? = some n)(hg:fI n hs=some H)(hu:H.up=true)(hb:(o7 H.l H.es z).2.2=0/\(o7 H.l H.es z).2.1=x.aB/\((iM (o7 H.l H.es z).1).toNat:Int)=x.Sum) :
    GD (kH hs) x z (l.drop k)=((o7 H.l H.es z).1,0):=by
  have e:uq H.pl.l H.pl.d z=o7 H.l H.es z:=agU _ _ _;rw [YV h,jI,hg]; simp only [Gh];rw [aO (by rw [e]; exact⟨hu,hb⟩),e]
theorem asI{c1 c2 c3 c4 c5 c6 c7 gm:Nat}{m:dF}{s:iF}(H0:Hp b S w (ad5 je A1 c1 A2 c2 A3 c3 A4 c4 A5 c5 A6 c6 A7 c7 m s r aN gm eD hs F))(aL:Int)(hm:mD m=true)(hz:hSz hs) :
    bS prog 12 #[gD je,aF aL] w λv w'=>∃(A0:ah)(c0:Nat),v=.tuple #[.slice A0 (((vw (⟨m,s,r,aN,eD,kH hs⟩:PC) aL).1).length) c0,aF ((vw (⟨m,s,r,aN,eD,kH hs⟩:PC) aL).2)]/\Hp b S w' (aS gV 5 A0 c0 ((vw (⟨m,s,r,aN,eD,kH hs⟩:PC) aL).1)::Iq je A1 c1 A2 c2 A3 c3 A4 c4 A5 c5 A6 c6 A7 c7 m s r aN gm eD::dP cZ A1 c1 m.aT::dP bJ A2 c2 m.aA::dP bX A3 c3 m.aP::dP iO A4 c4 s.eF::dP dJ A5 c5 s.bY::dP bG A6 c6 s.bL::aS bG 112 A7 c7 eD::jP gm hs::F):=by
 refine sV func12 ntmps12 Y ?_;have hzs:=FR hm;refine rg<|iI Y<|bU Y<|bQ Y<|ev (eX Y)<|yA je 0 Ak Y<|jT je 1 jE H0 s0 Y<|mv Y<|gX Y (find_ok _ (H0.s s2) aL hzs.2.1 hzs.2.2.1) ?_
 rintro _ w1 ⟨M6,M7,rfl,h1⟩;have K1:=H0.c1 h1;have Lj:=(K1.s s0).bH;refine mv Y<|xt Y Y<|xt Y Y<|al lU Y K1 λg1 w2 K2=>sty Y K2 s0 Y λw3 K3=>bU Y<|aW<|bQ Y<|ev (iB Y)<|dn<|bK Y (λhc24=>?_) (λhc24=>?_)
 ·refine rg<|iI Y<|bU Y<|uX Y ?_
  have hop:(vw (⟨m,s,r,aN,eD,kH hs⟩:PC) aL)=([],5):=by unfold vw; rw [aO (show gY m.aA aL=false from by simpa using hc24)]
  rw [show(vw (⟨m,s,r,aN,eD,kH hs⟩:PC) aL).1=([]:List (BitVec 8)) from by rw [hop]];rw [show(vw (⟨m,s,r,aN,eD,kH hs⟩:PC) aL).2=5 from by rw [hop]];have H1:=K3.nil gV 5;exact⟨none,0,Y,(H1.cU 1 2)⟩
 refine jm ?_;refine aW<|rg<|jT g1 3 j5 K3 s0 Y<|ev (eU fB Y)<|mv Y<|dn<|cB<|pK (λmJ lJ wJ=>∃(k:Nat),lJ=[(0,gD je),(1,aF aL),(6,gD g1),(26,.slice M6 (((aU m.aA aL).aD).length) M7),(27,aF ((((aU m.aA aL).aD).length:Nat):Int)),(28,aF ((k:Nat):Int))]/\mJ=((aU m.aA aL).aD).length - k/\k<=((aU m.aA aL).aD).length/\(GD (kH hs) (aU m.aA aL) aL (aU m.aA aL).aD=GD (kH hs) (aU m.aA aL) aL ((aU m.aA aL).aD.drop k))/\Hp b S wJ (dY g1 59 [aF ((aU m.aA aL).ID),aF ((aU m.aA aL).aB),gK ((aU m.aA aL).Sum),.slice M6 (((aU m.aA aL).aD).length) M7]::dP dQ M6 M7 ((aU m.aA aL).aD)::Iq je A1 c1 A2 c2 A3 c3 A4 c4 A5 c5 A6 c6 A7 c7 m s r aN gm eD::dP cZ A1 c1 m.aT::dP bJ A2 c2 m.aA::dP bX A3 c3 m.aP::dP iO A4 c4 s.eF::dP dJ A5 c5 s.bY::dP bG A6 c6 s.bL::aS bG 112 A7 c7 eD::jP gm hs::F)) ⟨0,Y,Y,fJ _,by rfl,K3⟩ rfl ?_
 rintro _ _ w4 ⟨k,rfl,rfl,hk,awp,K4⟩;refine rg<|ev (fC Y Y)<|dn<|pQ Y (λhc29=>?_) (λhc29=>?_)
 ·refine jm ?_;refine aW<|cB<|rg ?_
  obtain⟨x1,bP⟩:=bC (xs:=(aU m.aA aL).aD) (i:=k) aj;refine ev (cu (i:=k) fB rZ Y Y Y (aJ bP) ((K4.s s1).some_ bP))<|ev (iL jD Y ((K4.s s1).fF (j:=0) bP Y))<|bU Y<|aW<|bQ Y<|mv Y<|gX Y (ar4 (m:=m) (s:=s) (r:=r) ((K4.mV 0 2).mV 2 9) x1) ?_
  rintro _ w5 ⟨rfl,K5⟩;have aEb:=(K5.s s1).bH;have aEc:=(K5.s s2).bH;have aKx:=(K5.s s3).bH;have aKy:=(K5.s s4).bH;have aKz:=(K5.s s5).bH;have aKA:=(K5.s s6).bH;refine ev (iB Y)<|dn<|bK Y (λPg=>?_) (λPg=>?_)
  ·refine qJ (lu (rE (gG ?_)));refine jy<|ev (dO Y Y)<|mv Y<|jA<|dI ⟨(k+1),Y,Y,aj,by rw [awp]; exact asH bP (by first | exact Pg | (rw [Pg]; rfl)),((K5.mV 0 9).mV 9 2)⟩ rfl aj
  refine jm ?_
  rcases hg1:fI x1 hs with _ | ⟨Zz,gs1,Xt,Ah1,ch1,VT,YQ,l1,es1⟩
  ·have h7:=Pg; unfold PO at h7; rw [jI,hg1] at h7; exact Bool.noConfusion (show true=false from h7)
  ·have hzf:=hz _ _ hg1;have hup:VT=true:=by have h7:=Pg; unfold PO at h7; rw [jI,hg1] at h7; have h8:(!VT)=false:=h7; simpa using h8
   refine bQ Y<|ev (eX Y)<|jT je 13 uW K5 s0 Y<|mv Y<|ev (Ev.hS K5 s8 hg1 EJ yZ vO Y Y)<|ev (eX Y)<|yA Zz 0 yM Y<|ev (dx UY Y (K5.EK s8 hg1) Y)<|mv Y ?_
   have H2:=K5.wO s8 hg1;refine gX Y (agL ((H2.sel s0).mV 1 4) aL (lV hzf.1 au) (hzf.2 _)) ?_;rintro _ w6 ⟨Dm,Dp,rfl,K6⟩;have H3:=YM hg1 ((((K6.sel s0).sel s6).mV 2 4).sel s6);refine mv Y<|xt Y Y<|xt Y Y<|xt Y Y<|iI Y<|iI Y<|bU Y<|qo ak ak<|bA (bf Y) Y<|bA (iA Y Y) Y<|bA (bf Y) Y<|rJ 5 58 ((decide ((o7 l1 es1 aL).2.2=0))&&(decide ((o7 l1 es1 aL).2.1=(aU m.aA aL).aB))) ?_ ?_
   ·cases aNo:decide ((o7 l1 es1 aL).2.2=0) with
    | true=>
     refine eT Y (bf Y) Y<|eT Y (dW (q:=⟨g1,1,none⟩) tH Y Y) Y<|eT Y (dx jD Y (H3.x s10) Y) Y<|eT Y (iA Y Y) Y<|bA (dH Y Y) Y<|j3 Y
    | false=>
     refine dZ Y Y Y<|dZ Y Y Y<|dZ Y Y Y<|dZ Y Y Y<|bA (dL Y Y) Y<|j3 Y
   refine bA (bf Y) Y<|rJ 6 65 (((decide ((o7 l1 es1 aL).2.2=0))&&(decide ((o7 l1 es1 aL).2.1=(aU m.aA aL).aB)))&&(decide (((iM ((o7 l1 es1 aL).1)).toNat:Int)=(aU m.aA aL).Sum))) ?_ ?_
   ·cases aIH:((decide ((o7 l1 es1 aL).2.2=0))&&(decide ((o7 l1 es1 aL).2.1=(aU m.aA aL).aB))) with
    | true=>
     have aEd:=aIH
     try simp only [bN,eH,bO,bV] at aEd
     refine eT Y (bf Y) Y<|Qg Y (v:=gK ((iM ((o7 l1 es1 aL).1)).toNat:Int)) Y Y Y arH (λwq eq=>(YC wq ((H3.o s1).ext eq)).mono (by rintro _ _ ⟨rfl,fQ⟩; exact⟨rfl,fQ.ext⟩)) rfl<|eT rfl (dW (q:=⟨g1,2,none⟩) IE rfl rfl) rfl<|eT rfl (dx Xh rfl (H3.x s10) rfl) rfl<|eT rfl (iA rfl rfl) rfl<|bA (dH rfl rfl) rfl<|j3 rfl
    | false=>
     refine dZ Y Y Y<|dZ Y Y Y<|dZ Y Y Y<|dZ Y Y Y<|dZ Y Y Y<|bA (dL Y Y) Y<|j3 Y
   refine qp λw7 e7=>?_;have K7:=H3.grow e7;refine bK Y (λaiB=>?_) (λaiB=>?_)
   ·refine bQ Y<|iI Y<|bU Y<|jf (jg (fT (fT (jg (fT (zA Y ?_))))))
    have hfd:GD (kH hs) (aU m.aA aL) aL (aU m.aA aL).aD=((o7 l1 es1 aL).1,0):=by rw [awp]; exact an9 (H:=⟨Zz,gs1,Xt,Ah1,ch1,VT,YQ,l1,es1⟩) bP hg1 hup (by simpa [and_assoc] using aiB)
    have hop:(vw (⟨m,s,r,aN,eD,kH hs⟩:PC) aL)=((o7 l1 es1 aL).1,0):=by unfold vw; rw [aK (by rw [show gY m.aA aL=true from by simpa using hc24]; decide)]; exact hfd
    rw [show(vw (⟨m,s,r,aN,eD,kH hs⟩:PC) aL).1=(o7 l1 es1 aL).1 from by rw [hop]];rw [show(vw (⟨m,s,r,aN,eD,kH hs⟩:PC) aL).2=0 from by rw [hop]];exact⟨Dm,Dp,Y,(((K7.cU 10 2).sel s0).mV 1 9)⟩
   refine xQ ?_;refine jy<|ev (dO Y Y)<|mv Y<|jA<|dI ⟨(k+1),Y,Y,aj,by rw [awp]; exact aAM bP hg1 (λh9=>by obtain⟨h10,h11,h12⟩:=h9; simp [h10,h11,h12] at aiB),((((K7.rm s1).sel s0).mV 1 8).mV 9 2)⟩ rfl aj
 refine wE ?_;refine rg<|iI Y<|bU Y<|jc Y ?_
 have hop:(vw (⟨m,s,r,aN,eD,kH hs⟩:PC) aL)=([],8):=by unfold vw; rw [aK (by rw [show gY m.aA aL=true from by simpa using hc24]; decide)]; show GD (kH hs) _ aL _=_; rw [awp,Bj aj]; rfl
 rw [show(vw (⟨m,s,r,aN,eD,kH hs⟩:PC) aL).1=([]:List (BitVec 8)) from by rw [hop]];rw [show(vw (⟨m,s,r,aN,eD,kH hs⟩:PC) aL).2=8 from by rw [hop]];have H4:=K4.nil gV 5;exact⟨none,0,Y,(H4.cU 1 2)⟩
theorem ad6 (H0:Hp b S w F)(r:ARules)(hr:lY r=false) :
    bS prog 10 #[.agg #[aF r.jV,aF r.lQ,aF r.All,aF r.nE,aF r.jr,aF r.eP]] w λv w'=>v=.tuple #[.pointer none,aF 1]/\Hp b S w' F:=by
 refine sV func10 ntmps10 Y<|rg<|bx Y Y H0 λg1 w1 K1=>iI Y<|bU Y<|aW<|rg<|ev (dU Hr Y Y (K1.x s0))<|mU K1 Y (acI (S0:=Any) _ r) λw2 K2=>?_
 have eO:(lY r:Bool)=false:=by exact hr
 refine fU (t:=5) Y (aR Value.bool eO)<|ev (iB Y)<|dn<|bK Y (λ_h=>?_) nofun
 refine rg<|iI Y<|bU Y<|uX Y ?_
 exact⟨Y,(K2.rm s0)⟩
theorem ahb(XW:Int)(afW:Int)(afZ:Int)(aEe:Int)(aEf:Int)(aEg:Int)(a1:Option Nat):prog.built 84 [(2,.agg #[aF XW,aF afW,aF afZ,aF aEe,aF aEf,aF aEg]),(4,.map a1)]=some #[.slice none 0 0,.slice none 0 0,.slice none 0 0,.slice none 0 0,.slice none 0 0,.slice none 0 0,aF XW,aF afW,aF afZ,aF aEe,aF aEf,aF aEg,aF 0,.map a1,.slice none 0 0]:=ak
def mE:dF:=⟨[],[],[]⟩
def sE:iF:=⟨[],[],[]⟩
theorem asJ (H0:Hp b S w F)(r:ARules)(hr:lY r=true) :
    bS prog 10 #[.agg #[aF r.jV,aF r.lQ,aF r.All,aF r.nE,aF r.jr,aF r.eP]] w λv w'=>∃(gc gm:Nat)(B1:ah)(d1:Nat)(B2:ah)(d2:Nat)(B3:ah)(d3:Nat)(B4:ah)(d4:Nat)(B5:ah)(d5:Nat)(B6:ah)(d6:Nat)(B7:ah)(d7:Nat),v=.tuple #[gD gc,aF 0]/\Hp b S w' (Iq gc B1 d1 B2 d2 B3 d3 B4 d4 B5 d5 B6 d6 B7 d7 mE sE r 0 gm ([]:List aM)::dP cZ B1 d1 mE.aT::dP bJ B2 d2 mE.aA::dP bX B3 d3 mE.aP::dP iO B4 d4 sE.eF::dP dJ B5 d5 sE.bY::dP bG B6 d6 sE.bL::aS bG 112 B7 d7 ([]:List aM)::jP gm ([]:kK)::F):=by
 refine sV func10 ntmps10 Y<|rg<|bx Y Y H0 λg1 w1 K1=>iI Y<|bU Y<|aW<|rg<|ev (dU Hr Y Y (K1.x s0))<|mU K1 Y (acI (S0:=Any) _ r) λw2 K2=>?_
 have eO:(lY r:Bool)=true:=by exact hr
 refine fU (t:=5) Y (aR Value.bool eO)<|ev (iB Y)<|dn<|bK Y nofun (λ_h=>?_)
 refine jm ?_;refine rg<|ev (dU Hr Y Y (K2.x s0))<|mkA ekZ evH K2 λg2 w3 K3=>?_
 have H1:=K3.aAm;refine ev (iY (vs:=[(2,.agg #[aF r.jV,aF r.lQ,aF r.All,aF r.nE,aF r.jr,aF r.eP]),(4,.map (some g2))]) (cs:=[.slice none 0 0,.slice none 0 0,.slice none 0 0,.slice none 0 0,.slice none 0 0,.slice none 0 0,aF r.jV,aF r.lQ,aF r.All,aF r.nE,aF r.jr,aF r.eP,aF 0,.map (some g2),.slice none 0 0]) Y (by apply ahb))<|bx rfl rfl H1 λg3 w4 K4=>iI rfl<|bU rfl<|jc rfl ?_
 have H2:=K4.push (DV cZ _ _);have fQ:(([]:List aV):List aV)=mE.aT:=by rfl
 have H3:=H2.push (DV bJ _ _);have jW:(([]:List aH):List aH)=mE.aA:=by rfl
 have H4:=H3.push (DV bX _ _);have mH:(([]:List aY):List aY)=mE.aP:=by rfl
 have H5:=H4.push (DV iO _ _);have rR:(([]:List fK):List fK)=sE.eF:=by rfl
 have H6:=H5.push (DV dJ _ _);have wM:(([]:List bD):List bD)=sE.bY:=by rfl
 have H7:=H6.push (DV bG _ _);have zk:(([]:List aM):List aM)=sE.bL:=by rfl
 have H8:=H7.nil bG 112;exact⟨g3,g2,none,0,none,0,none,0,none,0,none,0,none,0,none,0,Y,by rw [<- fQ,<- jW,<- mH,<- rR,<- wM,<- zk]; exact(((((((((H8.rm s9).sel s0).sel s1).sel s2).sel s3).sel s4).sel s5).sel s6).sel s7)⟩
set_option maxHeartbeats 1000000 in
theorem asK{c1 c2 c3 c4 c5 c6 c7 gm:Nat}{m:dF}{s:iF}(H0:Hp b S w (ad5 je A1 c1 A2 c2 A3 c3 A4 c4 A5 c5 A6 c6 A7 c7 m s r aN gm eD hs F))(hm:mD m=true) :
    bS prog 16 #[gD je] w λv w'=>∃(vP:ah)(vQ:Nat)(zC:ah)(zD:Nat)(zF:ah)(zG:Nat),v=.agg #[.slice vP m.aT.length vQ,.slice zC m.aA.length zD,.slice zF m.aP.length zG]/\Hp b S w' (dP cZ vP vQ m.aT::dP bJ zC zD m.aA::dP bX zF zG m.aP::Iq je A1 c1 A2 c2 A3 c3 A4 c4 A5 c5 A6 c6 A7 c7 m s r aN gm eD::dP cZ A1 c1 m.aT::dP bJ A2 c2 m.aA::dP bX A3 c3 m.aP::dP iO A4 c4 s.eF::dP dJ A5 c5 s.bY::dP bG A6 c6 s.bL::aS bG 112 A7 c7 eD::jP gm hs::F):=by
 refine sV func16 ntmps16 Y ?_;have hzs:=FR hm;have hn:=hzs.1;have hc:=hzs.2.1;have hh:=hzs.2.2.1;have hsz:=hzs.2.2.2;refine rg<|al yL Y H0 λg1 w1 K1=>dn<|bQ Y<|ev (eX Y)<|yA je 0 Ak Y<|ev (D6 (cs':=[.slice A1 m.aT.length c1,.slice A2 m.aA.length c2,.slice A3 m.aP.length c3]) sG Y Y (K1.x s1) Y)<|al yL Y K1 λg2 w2 K2=>sty Y K2 s0 Y λw3 K3=>dn<|He K3 (λ_ K=>(K.cU 0 2)) (λl0 rk lJ wJ=>∃(jR:ah)(jO:Nat)(ql:ah)(cj2:Nat)(wF:ah)(vM:Nat),lJ=l0/\Hp b S wJ (dY g2 45 [.slice wF m.aT.length vM,.slice jR m.aA.length jO,.slice ql m.aP.length cj2]::aS bJ 59 jR jO m.aA::aS bX 102 ql cj2 m.aP::aS cZ 78 wF vM m.aT::dY g1 45 [.slice none 0 0,.slice none 0 0,.slice none 0 0]::rk)) (λhns H1=>?_) ?_
 ·have k1:=(H1.cU 0 2);refine Np 0 g2 0 pY Y k1<|Np 3 g2 2 Dv Y k1<|Np 6 g2 1 jE Y k1<|Jn H1 (λl0 rk lJ wJ=>∃(Dm:ah)(Dp:Nat)(yS:ah)(yT:Nat)(sO:ah)(sP:Nat),lJ=(12,.slice sO m.aT.length sP)::(15,.slice yS m.aP.length yT)::(18,.slice Dm m.aA.length Dp)::(19,gD g2)::l0/\Hp b S wJ (aS bJ 59 Dm Dp m.aA::aS bX 102 yS yT m.aP::aS cZ 78 sO sP m.aT::rk)) 5 1023 ?_ λhS1=>?_
  ·rintro _ Z4 ⟨Dm,Dp,yS,yT,sO,sP,rfl,zB⟩;refine O1 10 Y<|xP Y zB s3 Y λw16 BR=>?_
   have k9:=(BR.cU 0 5);refine aQ k9<|Np 11 g2 2 Dv Y k9<|O1 12 Y<|xP Y BR s0 Y λw17 yB=>?_
   have k10:=(yB.cU 0 5);refine aQ k10<|Np 13 g2 1 jE Y k10<|O1 14 Y<|xP Y yB s0 Y λw18 ET=>?_
   have k11:=(ET.cU 0 5);refine aQ k11<|Dn ⟨Dm,Dp,yS,yT,sO,sP,Y,ET⟩ Y
  refine Jn H1 (λl0 rk lJ wJ=>∃(sO:ah)(sP:Nat),lJ=(12,.slice sO m.aT.length sP)::(14,.slice A3 m.aP.length c3)::(17,.slice A2 m.aA.length c2)::l0/\Hp b S wJ (aS cZ 78 sO sP m.aT::rk)) 8 223 ?_ λhS2=>?_
  ·rintro _ w19 ⟨sO,sP,rfl,Cc⟩;have k12:=(Cc.cU 0 3);refine Np 9 g2 0 pY Y k12<|O1 5 Y<|gX Y (zY _ (Cc.s s6).any aj) ?_
   rintro _ w20 ⟨aq9,ara,rfl,h20⟩;have C8:=Cc.f1 h20;have aAN:=(C8.o s0).bH;have k13:=(C8.cU 0 4);refine aQ k13<|O1 8 Y<|gX Y (vB _ (C8.s s6) aj) ?_
   rintro _ w21 ⟨aEh,aEi,rfl,h21⟩;have FH:=C8.c1 h21;have aII:=(FH.o s0).bH;have k14:=(FH.cU 0 5);exact Kj hS1 k14 ⟨aEh,aEi,aq9,ara,sO,sP,Y,FH⟩ Y
  refine Jn H1 (λl0 rk lJ wJ=>∃(sO:ah)(sP:Nat),lJ=(12,.slice sO m.aT.length sP)::(14,.slice A3 m.aP.length c3)::l0/\Hp b S wJ (aS cZ 78 sO sP m.aT::rk)) 9 95 ?_ λhS3=>?_
  ·rintro _ w22 ⟨sO,sP,rfl,EU⟩;refine O2 5 7 Y Y ?_ ?_
   ·refine gX Y (zY _ (EU.s s6).any aj) ?_;rintro _ w23 ⟨arb,ard,rfl,h23⟩;have KA:=EU.f1 h23;have aIJ:=(KA.o s0).bH;have k15:=(KA.cU 0 4);refine aQ k15<|O1 7 Y<|nO KA s2 Y<|aQ k15<|Np 9 g2 0 pY Y k15<|O1 8 Y<|gX Y (vB _ (KA.s s6) aj) ?_
    rintro _ w24 ⟨aqh,aqi,rfl,h24⟩;have qB:=KA.c1 h24;have azj:=(qB.o s0).bH;have k16:=(qB.cU 0 5);exact Kj hS1 k16 ⟨aqh,aqi,arb,ard,sO,sP,Y,qB⟩ Y
   ·refine nO EU s1 Y ?_;have k17:=(EU.cU 0 3);exact Kj hS2 k17 ⟨sO,sP,Y,EU⟩ Y
  refine Jn H1 (λl0 rk lJ wJ=>∃(sO:ah)(sP:Nat),lJ=(12,.slice sO m.aT.length sP)::(17,.slice A2 m.aA.length c2)::l0/\Hp b S wJ (aS cZ 78 sO sP m.aT::rk)) 9 207 ?_ λhS4=>?_
  ·rintro _ w25 ⟨sO,sP,rfl,FI⟩;refine O1 4 Y<|nO FI s1 Y ?_
   have k18:=(FI.cU 0 3);exact Kj hS2 k18 ⟨sO,sP,Y,FI⟩ Y
  refine Jn H1 (λl0 rk lJ wJ=>lJ=(11,.slice A1 m.aT.length c1)::(14,.slice A3 m.aP.length c3)::(17,.slice A2 m.aA.length c2)::l0/\Hp b S wJ rk) 9 219 ?_ λhS5=>?_
  ·rintro _ w26 ⟨rfl,Nw⟩;refine O1 2 Y<|gX Y (nu _ (Nw.s s3).any aj) ?_
   rintro _ w27 ⟨aEj,aEk,rfl,h27⟩;have OB:=Nw.f1 h27;have aIK:=(OB.o s0).bH;have k19:=(OB.cU 0 3);exact Kj hS2 k19 ⟨aEj,aEk,Y,OB⟩ Y
  refine Jn H1 (λl0 rk lJ wJ=>lJ=(11,.slice A1 m.aT.length c1)::(14,.slice A3 m.aP.length c3)::l0/\Hp b S wJ rk) 10 91 ?_ λhS6=>?_
  ·rintro _ w28 ⟨rfl,FJ⟩;refine O2 2 7 Y Y ?_ ?_
   ·refine gX Y (nu _ (FJ.s s3).any aj) ?_;rintro _ w29 ⟨aEl,aEm,rfl,h29⟩;have Lx:=FJ.f1 h29;have aAJ:=(Lx.o s0).bH;have k20:=(Lx.cU 0 3);exact Kj hS3 k20 ⟨aEl,aEm,Y,Lx⟩ Y
   ·refine nO FJ s0 Y ?_;have k21:=(FJ.cU 0 2);exact Kj hS5 k21 ⟨Y,FJ⟩ Y
  refine Jn H1 (λl0 rk lJ wJ=>lJ=(11,.slice A1 m.aT.length c1)::(17,.slice A2 m.aA.length c2)::l0/\Hp b S wJ rk) 10 203 ?_ λhS7=>?_
  ·rintro _ w30 ⟨rfl,KC⟩;refine O2 2 4 Y Y ?_ ?_
   ·refine gX Y (nu _ (KC.s s3).any aj) ?_;rintro _ w31 ⟨aEn,aEo,rfl,h31⟩;have QC:=KC.f1 h31;have aIL:=(QC.o s0).bH;have k22:=(QC.cU 0 3);exact Kj hS4 k22 ⟨aEn,aEo,Y,QC⟩ Y
   ·refine nO KC s0 Y ?_;have k23:=(KC.cU 0 2);exact Kj hS5 k23 ⟨Y,KC⟩ Y
  refine Jn H1 (λl0 rk lJ wJ=>lJ=(14,.slice A3 m.aP.length c3)::(17,.slice A2 m.aA.length c2)::l0/\Hp b S wJ rk) 10 217 ?_ λhS8=>?_
  ·rintro _ w32 ⟨rfl,OC⟩;refine O1 1 Y<|nO OC s0 Y ?_
   have k24:=(OC.cU 0 2);exact Kj hS5 k24 ⟨Y,OC⟩ Y
  refine yO (fuel:=11) (rs:=[1,4,7]) ak au ?_
  simp only [xB,lM,xC,xD,uO]
  refine⟨?_,?_,?_⟩
  ·refine⟨_,Y,?_⟩;refine nO H1 s0 Y<|aQ k1<|yO (fuel:=10) (rs:=[2,4,7]) ak au ?_
   simp only [xB,lM,xC,xD,uO]
   refine⟨?_,?_,?_⟩
   ·refine⟨_,Y,?_⟩;refine gX Y (nu _ (H1.s s3).any aj) ?_;rintro _ w33 ⟨ax2,ax3,rfl,h33⟩;have Xy:=H1.f1 h33;have aAK:=(Xy.o s0).bH;have k25:=(Xy.cU 0 3);refine aQ k25<|O2 4 7 Y Y ?_ ?_
    ·refine nO Xy s1 Y<|Kj hS3 k25 ⟨ax2,ax3,Y,Xy⟩ Y
    ·refine nO Xy s1 Y<|Kj hS4 k25 ⟨ax2,ax3,Y,Xy⟩ Y
   ·refine⟨_,Y,?_⟩;refine nO H1 s0 Y<|Kj hS6 k1 ⟨Y,H1⟩ Y
   ·refine⟨_,Y,?_⟩;refine nO H1 s0 Y<|Kj hS7 k1 ⟨Y,H1⟩ Y
  ·refine⟨_,Y,?_⟩;refine nO H1 s0 Y<|aQ k1<|O2 1 7 Y Y ?_ ?_
   ·refine nO H1 s0 Y<|Kj hS6 k1 ⟨Y,H1⟩ Y
   ·refine nO H1 s0 Y<|Kj hS8 k1 ⟨Y,H1⟩ Y
  ·refine⟨_,Y,?_⟩;refine nO H1 s0 Y<|aQ k1<|O2 1 4 Y Y ?_ ?_
   ·refine nO H1 s0 Y<|Kj hS7 k1 ⟨Y,H1⟩ Y
   ·refine nO H1 s0 Y<|Kj hS8 k1 ⟨Y,H1⟩ Y
 rintro _ w34 ⟨jR,jO,ql,cj2,wF,vM,rfl,K34⟩;refine aW ?_;obtain⟨Qn,ae1,HK1⟩:=Hp.toK K34 s1;have HK2:=HK1.aeS dQ 3;have ah8:Qn.length=m.aA.length:=by rw [<- ae1,jY]
 have HK3:=HK2;rw [<- ah8] at HK3;refine rg<|jT g2 1 jE HK3 s3 Y<|ev (eU iN Y)<|mv Y<|dn<|cB ?_
 have eO:[]=((Qn.take 0).map ru):=by rfl
 rw [eO] at HK3;refine pK (λmJ lJ wJ=>∃(k:Nat)(ks:List bI),lJ=[(2,gD g1),(3,gD g2),(23,.slice jR ks.length jO),(24,aF ((Qn.length:Nat):Int)),(25,aF ((k:Nat):Int))]/\mJ=Qn.length - k/\k<=Qn.length/\(ks.length=Qn.length)/\(ks.map bI.c=m.aA)/\(∀ j,k<=j->ks[j]? = Qn[j]?)/\Hp b S wJ (aS tK 59 jR jO ks::fZ dQ 3 ((ks.take k).map ru)::SI dQ (Qn.map ru)::dY g2 45 [.slice wF m.aT.length vM,.slice jR Qn.length jO,.slice ql m.aP.length cj2]::aS bX 102 ql cj2 m.aP::aS cZ 78 wF vM m.aT::dY g1 45 [.slice none 0 0,.slice none 0 0,.slice none 0 0]::Iq je A1 c1 A2 c2 A3 c3 A4 c4 A5 c5 A6 c6 A7 c7 m s r aN gm eD::dP cZ A1 c1 m.aT::dP bJ A2 c2 m.aA::dP bX A3 c3 m.aP::dP iO A4 c4 s.eF::dP dJ A5 c5 s.bY::dP bG A6 c6 s.bL::aS bG 112 A7 c7 eD::jP gm hs::F)) ⟨0,Qn,Y,Y,fJ _,by rfl,by exact ae1,by intro j _; rfl,((HK3.sel s0).sel s1)⟩ rfl ?_;rintro _ _ w35 ⟨k,ks,rfl,rfl,hk,hkn,hka,hkb,K35⟩;refine rg<|ev (fC Y Y)<|dn<|pQ Y (λOi=>?_) (λOi=>?_)
 ·refine jm ?_;refine aW<|cB<|bQ Y ?_
  obtain⟨x1,bP⟩:=bC (xs:=ks) (i:=k) aj;refine ev (cu (i:=k) iN o9 Y Y Y (aJ bP) ((K35.o s0).some_ bP))<|ev (gI qw Y Y ((K35.o s0).fE bP))<|al lU Y K35 λg3 w36 Zl=>iI Y<|sty Y Zl s0 Y λw37 K37=>dn ?_
  have hin:=K37.ayo s3 (gQ.2 ⟨x1,bT (by rw [<- hkb k (kV _)]; exact bP),rfl⟩:(x1.B,x1.d,x1.c.aD)∈_);have hHl:x1.c.aD.length<=100000:=hh x1.c (by rw [<- hka]; exact gQ.2 ⟨x1,bT bP,rfl⟩);have H2:=K37.push hin;refine Hf H2 (λ_ K=>(K.rm s2)) (λl0 rk lJ wJ=>∃(CF:ah)(CG:Nat),lJ=(23,.slice jR ((ks.set k ({ x1 with B:=CF,d:=CG }:bI)).length) jO)::l0/\Hp b S wJ (aS tK 59 jR jO (ks.set k ({ x1 with B:=CF,d:=CG }:bI))::aS dQ 3 CF CG x1.c.aD::rk)) (λhns H3=>?_) ?_
  ·have k26:=(H3.rm s2);refine Np 0 g2 1 jE Y k26<|lD 1 Y (λ_ hK=>show Ev _ _ _ _ _ (.slice jR ks.length jO) from by rw [hkn]; exact(dx Xr rfl (hK.x s4) rfl)) k26<|kX 2 rfl rfl k26<|ng 3 4 g3 3 j5 s1 rfl k26<|O1 5 rfl<|gX rfl (uH _ (H3.s s0).any aj) ?_
   rintro _ w38 ⟨Q8,Q9,rfl,h38⟩;have K38:=H3.f1 h38;have k27:=((K38.rm s3).rm s0);refine aQ k27<|O1 6 Y<|ev (cu (i:=k) iN o9 Y Y Y (aJ bP) ((K38.o s3).some_ bP))<|aQ k27<|lD 7 Y (λ_ _=>dW j5 Y (fH _ _ _)) k27<|O1 8 Y<|se (i:=k) (f:=3) (x:=x1) (x':=({ x1 with B:=Q8,d:=Q9 }:bI)) (ds:=[.slice Q8 x1.c.aD.length Q9]) K38 s3 Y Y Y bP Y Ql (pU Y) Y (by rintro _ _ _ ⟨⟩; rfl) λw39 K39=>?_
   have hl1:(ks.set k ({ x1 with B:=Q8,d:=Q9 }:bI)).length=ks.length:=gJ ..;refine fU (t:=23) (u:=.slice jR ks.length jO) (v:=.slice jR ((ks.set k ({ x1 with B:=Q8,d:=Q9 }:bI)).length) jO) Y (by rw [hl1])<|fU (t:=31) (u:=.slice jR ks.length jO) (v:=.slice jR ((ks.set k ({ x1 with B:=Q8,d:=Q9 }:bI)).length) jO) rfl (by rw [hl1]) ?_
   have k28:=(K39.cU 0 2);refine aQ k28<|Dn ⟨Q8,Q9,Y,K39⟩ Y
  rintro _ w40 ⟨CF,CG,rfl,K40⟩;refine iE (gG ?_);have H4:=K40.Qk s1 s3;refine jy<|ev (dO Y Y)<|mv Y<|jA ?_
  have fQ:((ks.take k).map ru)++[(CF,CG,x1.c.aD)]=(((ks.set k ({ x1 with B:=CF,d:=CG }:bI)).take (k+1)).map ru):=by rw [Td bP]; rfl
  rw [fQ] at H4;exact dI ⟨(k+1),(ks.set k ({ x1 with B:=CF,d:=CG }:bI)),Y,Y,aj,by rw [gJ]; exact hkn,by refine(WZ bP ?_).trans hka; rfl,by intro j hj; rw [Ea aj]; exact hkb j aj,(((H4.cU 2 2).sel s0).sel s1)⟩ rfl aj
 refine wE ?_;have hfin:ks.take k=ks:=iH aj;have H5:=K35;rw [hfin] at H5;have H6:=H5.WJ s1;have H7:=H6.ofK s1 s0;rw [hka,ah8] at H7;refine rg<|ev (dU sG Y Y (H7.x s2))<|sty Y H7 s5 Y λw41 K41=>dn<|jf (qA Y ⟨_,_,Y,⟨_,Y,jL (cs:=[.slice wF m.aT.length vM,.slice jR m.aA.length jO,.slice ql m.aP.length cj2]) sG Y (K41.x s0)⟩,Y⟩ ?_)
 have H8:=K41.fz s5;have H9:=H8.fz s2;have H10:=H9.fz s5;exact⟨wF,vM,jR,jO,ql,cj2,Y,((((H10.cU 3 3).sel s0).sel s1).sel s2)⟩
end Go.Proofs.YtlhnnmlenkahlaaGreat
