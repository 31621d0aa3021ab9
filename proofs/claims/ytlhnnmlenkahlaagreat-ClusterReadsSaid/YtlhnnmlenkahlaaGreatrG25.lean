/- Lemmas. -/
import Derived.Test.YtlhnnmlenkahlaaGreatrG24
set_option maxRecDepth 4000
set_option linter.all false
namespace Go.Proofs.YtlhnnmlenkahlaaGreat
open Go.RowKit Go.Proofs.Tryz
variable {dh:Array Oper}{full:Array Bool}{F:lZ}{b w:World}{S S0 S1:Nat->Prop}{es:List (bZ × Option Addr × Nat × List (BitVec 8))}{je c1 c2 c3 c4 c5 c6 c7 gm i:Nat}{A1 A2 A3 A4 A5 A6 A7:ah}{m:dF}{s:iF}{r:ARules}{aN:Int}{eD:List aM}{hs:kK}{c:PC}{it:AItem}{o:aM}{aG:List Int}
theorem ag1:eu prog 112 2 2:=ay
theorem ag2:eu prog 112 3 3:=ay
theorem aAB:bF prog 105:=ay
theorem asq:eu prog 112 0 0:=ay
theorem aAC:bF prog 163:=ay
theorem ala{pre ids:List Nat}{rest:Nat}:∀(fuel:Nat)(aX:Array Bool),aX.size=dh.size->(∀ i∈pre,aX.getD i false=true)->qV dh (pre++ids) rest full fuel aX=true->qV dh ids rest full fuel aX=true
  | 0,aX,_,_,h=>by unfold qV at h ⊢; exact h
  | f+1,aX,hs,hp,h=>by
    unfold qV at h ⊢
    split at h
    · rename_i he; rw [aO he]; exact h
    · rename_i he; rw [aK he]
      simp only [bN,lI,nI,jN] at h ⊢
      refine⟨h.1,λr hr=>?_⟩;obtain⟨h1,h2⟩:=h.2 r hr;obtain⟨hr1,hr2,_⟩:=(JA hs r).1 hr;refine⟨h1.resolve_left (λhm=>by rw [hp r hm] at hr2; cases hr2),ala f _ (by simpa using hs) (λi hi=>?_) h2⟩;rw [Ic aj]; split
      · rfl
      · exact hp i hi
theorem NZ{ids:List Nat}{rest fuel:Nat}{aX:Array Bool}(pre:List Nat)
    (h:(anA dh (pre++ids) full&&((aX.size == dh.size&&fuel == rest+ids.length)&&(((List.range dh.size).all λi=>aX.getD i false == pre.contains i)&&pre.all λi=>(reqs dh i).all λj=>pre.contains j)))=true):qV dh ids rest full fuel aX=true:=by
  simp only [bN,OT,lI,List.mem_range] at h
  obtain⟨h1,⟨h2,h3⟩,h4,h5⟩:=h
  have hlt:∀ i,aX.getD i false=true->i<dh.size:=λi hi=>by
    rw [<- h2]
    by_cases hl:i<aX.size
    · exact hl
    · rw [DT,at0 aj] at hi; cases hi
  have hin:∀ i∈pre++ids,i<dh.size:=by
    have h6:=h1
    simp only [anA,bN,lI,bO] at h6
    exact λi hi=>(h6.2.1 i hi).1
  have hnd:(pre++ids).Nodup:=by
    have h6:=h1
    simp only [anA,bN] at h6
    exact YH h6.1.1
  have hp:∀ i∈pre,aX.getD i false=true:=λi hi=>by rw [h4 i (hin i (List.mem_append_left _ hi))]; exact nI.2 hi
  have hm:∀ i,aX.getD i false=true->i∈pre:=λi hi=>by have:=h4 i (hlt i hi); rw [hi] at this; exact nI.1 this.symm
  refine ala fuel aX h2 hp (akQ h1 rest fuel aX h2 (λi hi=>List.mem_append_left _ (hm i hi)) (λi hi j hj=>hp j (nI.1 (h5 i (hm i hi) j hj))) ?_);rw [h3]; congr 1;rw [vX,YD.2 (λi hi=>by rw [hp i hi]; simp),KQ];rw [Ep.2 (λi hi=>?_)];have:i∉pre:=λh=>(List.nodup_append.1 hnd).2.2 i h i hi rfl;rw [xA.2 (λh=>this (hm i h))]; rfl
def hSz(hs:kK):Prop:=∀ z h,fI z hs=some h->h.l.length<=1000/\∀ k,(gL k h.es).2.2.length<=1000
section
variable {m:dF}{s:iF}{r:ARules}{aN:Int}{eD:List aM}{hs:kK}{o:aM}{gh gs Xt gh2 gs2 Ao:Nat}{A1 A2 A3 B:ah}{n2 n3 nB:Nat}{VT up:Bool}{c1:Nat}{aKt bM:Int}{l1 l:List aI}{es1 es:oF}
theorem anY(h:fI o.jM hs=none):l5 ⟨m,s,r,aN,eD,kH hs⟩ o=⟨m,s,r,aN,eD,kH hs⟩:=
  RP (c:=⟨m,s,r,aN,eD,kH hs⟩) (by show fI o.jM (kH hs)=none; rw [jI,h]; rfl)
theorem gF{z:Int}(h:fI z hs=some F):fI z (kH hs)=some F.pl:=by rw [jI,h]; rfl
theorem anZ(h:fI o.jM hs=some F)(hb:(!F.up)=true):l5 ⟨m,s,r,aN,eD,kH hs⟩ o=⟨m,s,r,aN,eD,kH hs⟩:=
  Ii (c:=⟨m,s,r,aN,eD,kH hs⟩) (gF h) (by show(!F.up||_)=true; rw [hb]; rfl)
theorem asr(h:fI o.jM hs=some F)(hb:Ih s aN o.aC o.To=true):l5 ⟨m,s,r,aN,eD,kH hs⟩ o=⟨m,s,r,aN,eD,kH hs⟩:=
  Ii (c:=⟨m,s,r,aN,eD,kH hs⟩) (gF h) (by show(_||Ih s aN o.aC o.To)=true; rw [hb,Bool.or_true])
abbrev qZ(iD:lZ)(ji:aM):=o7 iD.l iD.es ji.aC
theorem YT(h:fI o.jM hs=some F)(hr:¬ ((qZ F o).2.2=0/\(qZ F o).2.1=o.aB/\((iM (qZ F o).1).toNat:Int)=o.Sum)):l5 ⟨m,s,r,aN,eD,kH hs⟩ o=⟨m,s,r,aN,eD,kH hs⟩:=
  VQ (c:=⟨m,s,r,aN,eD,kH hs⟩) (gF h) (by rw [show uq F.pl.l F.pl.d o.aC=o7 F.l F.es o.aC from agU _ _ _]; exact hr)
abbrev alb(iD:lZ)(ji:ah)(uS:Nat)(wV:aM)(ES:lZ)(Q0:ah)(UO:Nat):=(⟨iD.gh,iD.gs,iD.gm,ji,uS,iD.up,iD.bM,Ig iD.l iD.bM wV.aC (qZ ES wV).2.1 wV.Sum (qZ ES wV).1,tkM iD.l iD.bM wV.aC (qZ ES wV).2.1 wV.Sum (qZ ES wV).1 Q0 UO iD.es⟩:lZ)
theorem an0{T:lZ}(h:fI o.jM hs=some F)(hb:(!F.up)=false)(ht:Ih s aN o.aC o.To=false)(h1:(qZ F o).2.2=0)(h2:(qZ F o).2.1=o.aB)(h3:((iM (qZ F o).1).toNat:Int)=o.Sum)
    (hg:fI o.To hs=some T) (hk:Sn T.l T.bM o.aC (qZ F o).2.1 o.Sum (qZ F o).1=false) :
    l5 ⟨m,s,r,aN,eD,kH hs⟩ o=⟨m,s,r,aN,eD,kH (iy o.To (alb T A1 n2 o F B nB) hs)⟩:=by
  have hR:uq F.pl.l F.pl.d o.aC=o7 F.l F.es o.aC:=agU _ _ _;have:=RQ (c:=⟨m,s,r,aN,eD,kH hs⟩) (gF h) (by show(!F.up||Ih s aN o.aC o.To)=false; rw [hb,ht]; rfl) (by rw [hR]; exact⟨h1,h2,h3⟩) (gF hg) (by rw [hR]; exact hk);rw [this,hR,Aj]; unfold lZ.pl; simp only; rw [ak1]
theorem abo{T:lZ}(L2:List bD)(h:fI o.jM hs=some F)(hb:(!F.up)=false)(ht:Ih s aN o.aC o.To=false)(h1:(qZ F o).2.2=0)(h2:(qZ F o).2.1=o.aB)(h3:((iM (qZ F o).1).toNat:Int)=o.Sum)
    (hg:fI o.To hs=some T) (hk:Sn T.l T.bM o.aC (qZ F o).2.1 o.Sum (qZ F o).1=true) (hL:(if MQ s.bY o.aC o.To=0 then Ai s.bY o.aC o.To else s.bY)=L2) :
    l5 ⟨m,s,r,aN,eD,kH hs⟩ o=⟨uD m ⟨0,0,5,o.aC,o.To,(qZ F o).2.1⟩,⟨s.eF,L2,s.bL⟩,r,aN,eD,kH (iy o.To (alb T A1 n2 o F B nB) hs)⟩:=by
  have hR:uq F.pl.l F.pl.d o.aC=o7 F.l F.es o.aC:=agU _ _ _;have:=RS (c:=⟨m,s,r,aN,eD,kH hs⟩) (gF h) (by show(!F.up||Ih s aN o.aC o.To)=false; rw [hb,ht]; rfl) (by rw [hR]; exact⟨h1,h2,h3⟩) (gF hg) (by rw [hR]; exact hk);rw [this,hR,Aj,<- hL]; unfold lZ.pl; simp only; rw [ak1]
end
abbrev dK(iD:dF)(ji:iF)(uS:ARules)(wV:Int)(ES:List aM)(Q0:kK):=(⟨iD,ji,uS,wV,ES,kH Q0⟩:PC)
abbrev VX(iD:Nat)(ji:ah)(uS:Nat)(wV:ah)(ES:Nat)(Q0:ah)(UO:Nat)(y7z:ah)(y8z:Nat)(y9z:ah)(RV:Nat)(RX:ah)(RY:Nat)(RZ:ah)(R3:Nat)(Dz:dF)(DC:iF)(adG:ARules)(adH:Int)(R4:Nat)(R5:List aM)(adI:kK)(adJ:List lH):=Iq iD ji uS wV ES Q0 UO y7z y8z y9z RV RX RY RZ R3 Dz DC adG adH R4 R5::dP cZ ji uS Dz.aT::dP bJ wV ES Dz.aA::dP bX Q0 UO Dz.aP::dP iO y7z y8z DC.eF::dP dJ y9z RV DC.bY::dP bG RX RY DC.bL::aS bG 112 RZ R3 R5::jP R4 adI::adJ
abbrev R6(iD:iF):=(⟨iD.eF,iD.bY,iD.bL⟩:iF)
theorem ag3{F:List lH}{gh gs Ao:Nat}{Ah:ah}{ch:Nat}{up:Bool}{bM:Int}{l:List aI}(H0:Hp b S w (VX je A1 c1 A2 c2 A3 c3 A4 c4 A5 c5 A6 c6 A7 c7 m s r aN gm eD hs F))(o:aM)(hm:mD m=true)(hb:s.eF.length<=1000)(hl:s.bY.length<=64)(hd:s.bL.length<=50000)(hz:hSz hs)(hg:fI o.To hs=some ⟨gh,gs,Ao,Ah,ch,up,bM,l,es⟩) :
    bS prog 162 #[gD je,.agg #[aF o.Kind,aF o.aC,aF o.aB,gK o.Sum,aF o.jM,aF o.To,aF o.jS],gD gh] w λv w'=>∃(B1:ah)(d1:Nat)(B2:ah)(d2:Nat)(B3:ah)(d3:Nat)(B5:ah)(d5:Nat)(hs1:kK),v=.tuple #[]/\kH hs1=(l5 (dK m s r aN eD hs) o).hs/\Hp b S w' (Iq je B1 d1 B2 d2 B3 d3 A4 c4 B5 d5 A6 c6 A7 c7 ((l5 (dK m s r aN eD hs) o).m) ((l5 (dK m s r aN eD hs) o).s) r aN gm eD::dP cZ B1 d1 (((l5 (dK m s r aN eD hs) o).m).aT)::dP bJ B2 d2 (((l5 (dK m s r aN eD hs) o).m).aA)::dP bX B3 d3 (((l5 (dK m s r aN eD hs) o).m).aP)::dP iO A4 c4 (((l5 (dK m s r aN eD hs) o).s).eF)::dP dJ B5 d5 (((l5 (dK m s r aN eD hs) o).s).bY)::dP bG A6 c6 (((l5 (dK m s r aN eD hs) o).s).bL)::aS bG 112 A7 c7 eD::jP gm hs1::F):=by
 refine sV func162 ntmps162 Y<|rg<|bx Y Y H0 λg1 w1 K1=>dn ?_
 rcases hg1:fI o.jM hs with _ | ⟨Zz,gs1,Xt,Ah1,ch1,VT,YQ,l1,es1⟩
 ·refine qo ak ak<|bA (bf Y) Y<|bA (eX Y) Y<|bA (dW (q:=⟨je,13,none⟩) uW Y Y) Y<|bA (dx U1 Y (K1.x s1) Y) Y<|bA (dW (q:=⟨g1,4,none⟩) Ya Y Y) Y<|bA (dx jD Y (K1.x s0) Y) Y<|bA (Ev.hN K1 s9 hg1 EJ yZ vO Y Y) Y<|bA (om Y) Y<|qp λw2 e2=>?_
  have K2:=K1.grow e2;refine aW<|bQ Y<|ev (Ev.agA CQ Y Y)<|mv Y<|dN<|dN<|dN<|dN<|dN<|ev (dH Y Y)<|mv Y<|dN<|dN<|dN<|dN<|dN<|dN<|ev (dH Y Y)<|dn<|bK Y (λ_h=>?_) nofun
  refine uX Y ?_;have hcp:l5 (dK m s r aN eD hs) o=(dK m s r aN eD hs):=anY hg1;rw [show(l5 (dK m s r aN eD hs) o).m=m from by rw [hcp]];rw [show(l5 (dK m s r aN eD hs) o).s=s from by rw [hcp]];exact⟨A1,c1,A2,c2,A3,c3,A5,c5,hs,Y,(by rw [hcp]),(K2.rm s0)⟩
 ·have hzf:=hz _ _ hg1;refine qo ak ak<|bA (bf Y) Y<|bA (eX Y) Y<|bA (dW (q:=⟨je,13,none⟩) uW Y Y) Y<|bA (dx U1 Y (K1.x s1) Y) Y<|bA (dW (q:=⟨g1,4,none⟩) Ya Y Y) Y<|bA (dx jD Y (K1.x s0) Y) Y<|bA (Ev.hS K1 s9 hg1 EJ yZ vO Y Y) Y<|bA (om Y) Y<|qp λw3 e3=>?_
  have K3:=K1.grow e3;refine aW<|bQ Y<|ev (Ev.agA CQ Y Y)<|mv Y<|bn Y (bf Y) Y<|bn Y (eX Y) Y<|gfy Zz 1 JD Y<|bn Y (dx ajg Y (K3.EK s9 hg1) Y) Y<|bn Y (iB Y) Y<|ev (dL Y Y)<|mv Y ?_
  cases afk:(!VT) with
  | true=>
   refine dN<|dN<|dN<|dN<|dN<|dN<|ev (dH Y Y)<|dn<|bK Y (λ_h=>?_) nofun
   refine uX Y ?_;have hcp:l5 (dK m s r aN eD hs) o=(dK m s r aN eD hs):=anZ hg1 afk;rw [show(l5 (dK m s r aN eD hs) o).m=m from by rw [hcp]];rw [show(l5 (dK m s r aN eD hs) o).s=s from by rw [hcp]];exact⟨A1,c1,A2,c2,A3,c3,A5,c5,hs,Y,(by rw [hcp]),(K3.rm s0)⟩
  | false=>
   refine bn Y (bf Y) Y<|wL g1 1 sw K3 s0 Y<|wL g1 5 xX K3 s0 Y<|oh Y Y Y Y asb (agV (m:=m) (s:=s) (r:=r) ((K3.sel s0).mV 1 9) o.aC o.To hb hl hd) Y ?_
   rintro _ w4 ⟨rfl,K4⟩;refine ev (dL Y Y)<|dn<|bK Y (λPg=>?_) (λPg=>?_)
   ·refine uX Y ?_;have hcp:l5 (dK m s r aN eD hs) o=(dK m s r aN eD hs):=asr hg1 Pg;rw [show(l5 (dK m s r aN eD hs) o).m=m from by rw [hcp]];rw [show(l5 (dK m s r aN eD hs) o).s=s from by rw [hcp]];exact⟨A1,c1,A2,c2,A3,c3,A5,c5,hs,Y,(by rw [hcp]),(K4.rm s9)⟩
   refine jm ?_;refine He K4 (λ_ K=>K) (λl0 rk lJ wJ=>∃(jR:ah)(jO:Nat),lJ=(7,.slice jR (((o7 l1 es1 o.aC).1).length) jO)::(8,aF ((o7 l1 es1 o.aC).2.1))::(9,aF ((o7 l1 es1 o.aC).2.2))::l0/\Hp b S wJ (aS gV 5 jR jO ((o7 l1 es1 o.aC).1)::rk)) (λhns H1=>?_) ?_
   ·refine uw 0 Zz 0 yM Y H1<|lD 3 Y (λ_ hK=>dx UY Y (hK.EK s8 hg1) Y) H1<|ng 4 5 g1 1 sw s9 Y H1<|O1 6 Y ?_
    have H2:=H1.wO s8 hg1;refine gX Y (agL ((H2.sel s0).mV 1 4) o.aC (lV hzf.1 au) (hzf.2 _)) ?_;rintro _ w5 ⟨yS,yT,rfl,K5⟩;have H3:=YM hg1 ((((K5.sel s0).sel s6).mV 2 4).sel s6);have k1:=(((H3.rm s1).sel s0).mV 1 8);refine aQ k1<|kX 7 Y Y k1<|zL 8 Y (vs:=[.slice yS (((o7 l1 es1 o.aC).1).length) yT,aF ((o7 l1 es1 o.aC).2.1),aF ((o7 l1 es1 o.aC).2.2)]) Y Y k1<|zL 9 Y (vs:=[.slice yS (((o7 l1 es1 o.aC).1).length) yT,aF ((o7 l1 es1 o.aC).2.1),aF ((o7 l1 es1 o.aC).2.2)]) Y Y k1<|zL 10 Y (vs:=[.slice yS (((o7 l1 es1 o.aC).1).length) yT,aF ((o7 l1 es1 o.aC).2.1),aF ((o7 l1 es1 o.aC).2.2)]) Y Y k1<|xI 11 Y Y k1<|xI 12 Y Y k1<|xI 13 Y Y k1<|Dn ⟨yS,yT,Y,((H3.sel s0).mV 1 9)⟩ Y
   rintro _ w6 ⟨jR,jO,rfl,K6⟩;refine aW<|WP.dr ak ?_
   have H4:=K6.grow (pI w6).drew;refine wiz H4 [(0,47,aF ((o7 l1 es1 o.aC).2.2)),(1,48,.bool (!decide ((o7 l1 es1 o.aC).2.2=0))),(2,49,.bool (!decide ((o7 l1 es1 o.aC).2.2=0)))] 23 ak (GL Y (λ_ hK=>(bf Y))<|GL Y (λ_ hK=>(nQ Y Y))<|GL Y (λ_ hK=>(bf Y))<|qnz) λw7 K7=>?_
   cases an1:(!decide ((o7 l1 es1 o.aC).2.2=0)) with
   | true=>
    have aDE:=oQ an1;refine wiz K7 [(3,50,undef),(4,51,undef),(5,52,undef),(6,53,undef),(7,54,.bool true),(8,55,.bool true),(9,56,undef),(11,58,undef),(10,57,undef),(12,59,undef),(13,60,undef),(14,61,.bool true),(15,62,.bool true),(16,63,undef),(17,64,undef),(19,66,undef),(20,67,undef),(22,69,undef),(18,65,undef),(21,68,undef),(23,70,undef),(24,71,undef),(25,72,.bool true)] 0 (NZ [0,1,2] ak) (zM Y<|zM Y<|zM Y<|zM Y<|GL Y (λ_ hK=>(dH Y Y))<|GL Y (λ_ hK=>(bf Y))<|zM Y<|zM Y<|zM Y<|zM Y<|zM Y<|GL Y (λ_ hK=>(dH Y Y))<|GL Y (λ_ hK=>(bf Y))<|zM Y<|zM Y<|zM Y<|zM Y<|zM Y<|zM Y<|zM Y<|zM Y<|zM Y<|GL Y (λ_ hK=>(dH Y Y))<|qnz) λw8 K8=>?_;refine WI.dn ak<|bK Y (λ_h=>?_) nofun
    refine uX Y ?_;have hcp:l5 (dK m s r aN eD hs) o=(dK m s r aN eD hs):=YT hg1 (by rintro⟨h1,h2,h3⟩; simp [h1] at an1);rw [show(l5 (dK m s r aN eD hs) o).m=m from by rw [hcp]];rw [show(l5 (dK m s r aN eD hs) o).s=s from by rw [hcp]];exact⟨A1,c1,A2,c2,A3,c3,A5,c5,hs,Y,(by rw [hcp]),((K8.rm s10).rm s0)⟩
   | false=>
    have aDE:=oU an1;refine wiz K7 [(3,50,aF ((o7 l1 es1 o.aC).2.1)),(4,51,.pointer (some ⟨g1,2,none⟩)),(5,52,aF o.aB),(6,53,.bool (!decide ((o7 l1 es1 o.aC).2.1=o.aB))),(7,54,.bool (!decide ((o7 l1 es1 o.aC).2.1=o.aB))),(8,55,.bool (!decide ((o7 l1 es1 o.aC).2.1=o.aB)))] 17 (NZ [0,1,2] ak) (Oh Y (λ_ hK=>(bf Y))<|Oh Y (λ_ hK=>(dW (q:=⟨g1,2,none⟩) ag1 Y Y))<|Oh Y (λ_ hK=>(dx jD Y (hK.x s10) Y))<|Oh Y (λ_ hK=>(nQ Y Y))<|GL Y (λ_ hK=>(dL Y Y))<|GL Y (λ_ hK=>(bf Y))<|qnz) λw9 K9=>?_
    cases an2:(!decide ((o7 l1 es1 o.aC).2.1=o.aB)) with
    | true=>
     have aDF:=oQ an2;refine wiz K9 [(9,56,undef),(11,58,undef),(10,57,undef),(12,59,undef),(13,60,undef),(14,61,.bool true),(15,62,.bool true),(16,63,undef),(17,64,undef),(19,66,undef),(20,67,undef),(22,69,undef),(18,65,undef),(21,68,undef),(23,70,undef),(24,71,undef),(25,72,.bool true)] 0 (NZ [0,1,2,3,4,5,6,7,8] ak) (zM Y<|zM Y<|zM Y<|zM Y<|zM Y<|GL Y (λ_ hK=>(dH Y Y))<|GL Y (λ_ hK=>(bf Y))<|zM Y<|zM Y<|zM Y<|zM Y<|zM Y<|zM Y<|zM Y<|zM Y<|zM Y<|GL Y (λ_ hK=>(dH Y Y))<|qnz) λOz K10=>?_;refine WI.dn ak<|bK Y (λ_h=>?_) nofun
     refine uX Y ?_;have hcp:l5 (dK m s r aN eD hs) o=(dK m s r aN eD hs):=YT hg1 (by rintro⟨h1,h2,h3⟩; simp [h2] at an2);rw [show(l5 (dK m s r aN eD hs) o).m=m from by rw [hcp]];rw [show(l5 (dK m s r aN eD hs) o).s=s from by rw [hcp]];exact⟨A1,c1,A2,c2,A3,c3,A5,c5,hs,Y,(by rw [hcp]),((K10.rm s10).rm s0)⟩
    | false=>
     have aDF:=oU an2;refine wiz K9 [(9,56,.slice jR (((o7 l1 es1 o.aC).1).length) jO),(11,58,.pointer (some ⟨g1,3,none⟩)),(10,57,gK ((iM ((o7 l1 es1 o.aC).1)).toNat:Int)),(12,59,gK o.Sum),(13,60,.bool (!decide (((iM ((o7 l1 es1 o.aC).1)).toNat:Int)=o.Sum))),(14,61,.bool (!decide (((iM ((o7 l1 es1 o.aC).1)).toNat:Int)=o.Sum))),(15,62,.bool (!decide (((iM ((o7 l1 es1 o.aC).1)).toNat:Int)=o.Sum)))] 10 (NZ [0,1,2,3,4,5,6,7,8] ak) (Oh Y (λ_ hK=>(bf Y))<|Oh Y (λ_ hK=>(dW (q:=⟨g1,3,none⟩) ag2 Y Y))<|qcz Y (Qi.aeG Y Y Y Y arH (λ_ hK=>(YC _ (hK.o s0)).mono (by rintro _ _ ⟨rfl,fQ⟩; exact⟨rfl,hK.grow fQ.ext⟩)))<|Oh rfl (λ_ hK=>(dx Xh rfl (hK.x s10) rfl))<|Oh rfl (λ_ hK=>(nQ rfl rfl))<|GL rfl (λ_ hK=>(dL rfl rfl))<|GL rfl (λ_ hK=>(bf rfl))<|qnz) λTi tZ=>?_
     cases an3:(!decide (((iM ((o7 l1 es1 o.aC).1)).toNat:Int)=o.Sum)) with
     | true=>
      have aDG:=oQ an3;refine wiz tZ [(16,63,undef),(17,64,undef),(19,66,undef),(20,67,undef),(22,69,undef),(18,65,undef),(21,68,undef),(23,70,undef),(24,71,undef),(25,72,.bool true)] 0 (NZ [0,1,2,3,4,5,6,7,8,9,10,11,12,13,14,15] ak) (zM Y<|zM Y<|zM Y<|zM Y<|zM Y<|zM Y<|zM Y<|zM Y<|zM Y<|GL Y (λ_ hK=>(dH Y Y))<|qnz) λSm sJ=>?_;refine WI.dn ak<|bK Y (λ_h=>?_) nofun
      refine uX Y ?_;have hcp:l5 (dK m s r aN eD hs) o=(dK m s r aN eD hs):=YT hg1 (by rintro⟨h1,h2,h3⟩; simp [h3] at an3);rw [show(l5 (dK m s r aN eD hs) o).m=m from by rw [hcp]];rw [show(l5 (dK m s r aN eD hs) o).s=s from by rw [hcp]];exact⟨A1,c1,A2,c2,A3,c3,A5,c5,hs,Y,(by rw [hcp]),((sJ.rm s10).rm s0)⟩
     | false=>
      have aDG:=oU an3;refine wiz tZ [(16,63,gD gh),(17,64,.pointer (some ⟨g1,1,none⟩)),(19,66,aF ((o7 l1 es1 o.aC).2.1)),(20,67,.pointer (some ⟨g1,3,none⟩)),(22,69,.slice jR (((o7 l1 es1 o.aC).1).length) jO),(18,65,aF o.aC),(21,68,gK o.Sum)] 3 (NZ [0,1,2,3,4,5,6,7,8,9,10,11,12,13,14,15] ak) (Oh Y (λ_ hK=>(bf Y))<|Oh Y (λ_ hK=>(dW (q:=⟨g1,1,none⟩) sw Y Y))<|Oh Y (λ_ hK=>(bf Y))<|Oh Y (λ_ hK=>(dW (q:=⟨g1,3,none⟩) ag2 Y Y))<|Oh Y (λ_ hK=>(bf Y))<|Oh Y (λ_ hK=>(dx jD Y (hK.x s10) Y))<|Oh Y (λ_ hK=>(dx Xh Y (hK.x s10) Y))<|qnz) λXu wz=>?_;refine WI.one 23 ak Y ?_;have H5:=wz.wO s9 hg;have H6:=H5.fz s6;have H7:=H6.push (H6.s s0);refine oh Y Y Y Y aAB (abn ((H7.mV 0 2).mV 2 5) o.aC ((o7 l1 es1 o.aC).2.1) o.Sum (hz _ _ hg).1) Y ?_;rintro _ Z0 ⟨abp,abq,abr,abt,rfl,wB⟩;have H8:=JC hg ((wB.sel s5).mV 1 6);refine WI.nx<|wiz H8 [(24,71,.bool (!(Sn l bM o.aC ((o7 l1 es1 o.aC).2.1) o.Sum ((o7 l1 es1 o.aC).1)))),(25,72,.bool (!(Sn l bM o.aC ((o7 l1 es1 o.aC).2.1) o.Sum ((o7 l1 es1 o.aC).1))))] 0 ak (Oh Y (λ_ hK=>(iB Y))<|GL Y (λ_ hK=>(dL Y Y))<|qnz) λZ4 zB=>?_
      refine WI.dn ak<|bK Y (λawj=>?_) (λawj=>?_)
      ·refine uX Y ?_;have hcp:l5 (dK m s r aN eD hs) o=(⟨m,s,r,aN,eD,kH (iy o.To (⟨gh,gs,Ao,abp,abq,up,bM,(Ig l bM o.aC ((o7 l1 es1 o.aC).2.1) o.Sum ((o7 l1 es1 o.aC).1)),(tkM l bM o.aC ((o7 l1 es1 o.aC).2.1) o.Sum ((o7 l1 es1 o.aC).1) abr abt es)⟩:lZ) hs)⟩:PC):=an0 (F:=⟨Zz,gs1,Xt,Ah1,ch1,VT,YQ,l1,es1⟩) (T:=⟨gh,gs,Ao,Ah,ch,up,bM,l,es⟩) hg1 afk Pg (by simpa using an1) (by simpa using an2) (by simpa using an3) hg (by simpa using awj);rw [show(l5 (dK m s r aN eD hs) o).m=m from by rw [hcp]];rw [show(l5 (dK m s r aN eD hs) o).s=s from by rw [hcp]];exact⟨A1,c1,A2,c2,A3,c3,A5,c5,(iy o.To (⟨gh,gs,Ao,abp,abq,up,bM,(Ig l bM o.aC ((o7 l1 es1 o.aC).2.1) o.Sum ((o7 l1 es1 o.aC).1)),(tkM l bM o.aC ((o7 l1 es1 o.aC).2.1) o.Sum ((o7 l1 es1 o.aC).1) abr abt es)⟩:lZ) hs),Y,(by rw [hcp]),((((zB.rm s10).rm s1).sel s0).mV 1 8)⟩
      refine jm ?_;refine aW<|He zB (λ_ K=>K) (λl0 rk lJ wJ=>∃(ql:ah)(cj2:Nat),lJ=(10,.slice ql ((Ai s.bY o.aC o.To).length) cj2)::(11,aF (MQ s.bY o.aC o.To))::l0/\Hp b S wJ (aS dJ 117 ql cj2 (Ai s.bY o.aC o.To)::rk)) (λhns H9=>?_) ?_
      ·refine uw 0 je 3 Am Y H9<|ng 3 4 je 4 yC s2 Y H9<|ng 5 6 g1 1 sw s10 Y H9<|ng 7 8 g1 5 xX s10 Y H9<|O1 9 Y<|gX Y (anG _ (H9.s s7).any o.aC o.To (lV hl au)) ?_
       rintro _ w16 ⟨LC,LD,rfl,h16⟩;have BR:=H9.f1 h16;have k2:=(BR.rm s0);refine aQ k2<|kX 10 Y Y k2<|zL 11 Y (vs:=[.slice LC ((Ai s.bY o.aC o.To).length) LD,aF (MQ s.bY o.aC o.To)]) Y Y k2<|zL 12 Y (vs:=[.slice LC ((Ai s.bY o.aC o.To).length) LD,aF (MQ s.bY o.aC o.To)]) Y Y k2<|xI 13 Y Y k2<|xI 14 Y Y k2<|Dn ⟨LC,LD,Y,BR⟩ Y
      rintro _ w17 ⟨ql,cj2,rfl,yB⟩;refine bQ Y<|ev (iA Y Y)<|dn<|mQ Y (λaAD=>?_) (λaAD=>?_)
      ·refine jy<|mv Y<|mv Y<|ev (eX Y)<|yA je 3 Am Y<|yA je 4 yC Y<|xP Y yB s3 Y λw18 ET=>jA<|gG<|jy<|mv Y<|jT g1 1 sw ET s11 Y<|jT g1 5 xX ET s11 Y<|mv Y<|ev (iY (vs:=[(2,aF 5),(3,aF o.aC),(4,aF o.To),(5,aF ((o7 l1 es1 o.aC).2.1))]) (cs:=[aF 0,aF 0,aF 5,aF o.aC,aF o.To,aF ((o7 l1 es1 o.aC).2.1)]) Y (by apply qQ)) ?_
       have H10:=ET.fz s1;refine gX Y (zx (m:=m) (s:=(⟨s.eF,Ai s.bY o.aC o.To,s.bL⟩:iF)) (r:=r) (((((H10.sel s8).mV 3 2).mV 9 2).sel s5).mV 6 5) (⟨0,0,5,o.aC,o.To,(o7 l1 es1 o.aC).2.1⟩:fV) hm Y) ?_;rintro _ w19 ⟨aDH,aDI,aDJ,aDK,aDL,aDM,rfl,Cc⟩;refine jA<|rU (zA Y ?_)
       have hcp:l5 (dK m s r aN eD hs) o=(⟨(uD m (⟨0,0,5,o.aC,o.To,(o7 l1 es1 o.aC).2.1⟩:fV)),(⟨s.eF,Ai s.bY o.aC o.To,s.bL⟩:iF),r,aN,eD,kH (iy o.To (⟨gh,gs,Ao,abp,abq,up,bM,(Ig l bM o.aC ((o7 l1 es1 o.aC).2.1) o.Sum ((o7 l1 es1 o.aC).1)),(tkM l bM o.aC ((o7 l1 es1 o.aC).2.1) o.Sum ((o7 l1 es1 o.aC).1) abr abt es)⟩:lZ) hs)⟩:PC):=abo (F:=⟨Zz,gs1,Xt,Ah1,ch1,VT,YQ,l1,es1⟩) (T:=⟨gh,gs,Ao,Ah,ch,up,bM,l,es⟩) _ hg1 afk Pg (by simpa using an1) (by simpa using an2) (by simpa using an3) hg (by simpa using awj) (aO aAD);rw [show(l5 (dK m s r aN eD hs) o).m=(uD m (⟨0,0,5,o.aC,o.To,(o7 l1 es1 o.aC).2.1⟩:fV)) from by rw [hcp]];rw [show(l5 (dK m s r aN eD hs) o).s=(⟨s.eF,Ai s.bY o.aC o.To,s.bL⟩:iF) from by rw [hcp]];exact⟨aDH,aDI,aDJ,aDK,aDL,aDM,ql,cj2,(iy o.To (⟨gh,gs,Ao,abp,abq,up,bM,(Ig l bM o.aC ((o7 l1 es1 o.aC).2.1) o.Sum ((o7 l1 es1 o.aC).1)),(tkM l bM o.aC ((o7 l1 es1 o.aC).2.1) o.Sum ((o7 l1 es1 o.aC).1) abr abt es)⟩:lZ) hs),Y,(by rw [hcp]),(Cc.cU 9 3)⟩
      refine jm ?_;refine jy<|mv Y<|jT g1 1 sw yB s11 Y<|jT g1 5 xX yB s11 Y<|mv Y<|ev (iY (vs:=[(2,aF 5),(3,aF o.aC),(4,aF o.To),(5,aF ((o7 l1 es1 o.aC).2.1))]) (cs:=[aF 0,aF 0,aF 5,aF o.aC,aF o.To,aF ((o7 l1 es1 o.aC).2.1)]) Y (by apply qQ))<|gX rfl (zx (m:=m) (s:=s) (r:=r) ((((yB.sel s2).sel s1).sel s2).mV 3 8) (⟨0,0,5,o.aC,o.To,(o7 l1 es1 o.aC).2.1⟩:fV) hm rfl) ?_
      rintro _ w20 ⟨asf,asg,ash,asi,asj,asl,rfl,C8⟩;refine jA<|rU (zA Y ?_)
      have hcp:l5 (dK m s r aN eD hs) o=(⟨(uD m (⟨0,0,5,o.aC,o.To,(o7 l1 es1 o.aC).2.1⟩:fV)),(R6 s),r,aN,eD,kH (iy o.To (⟨gh,gs,Ao,abp,abq,up,bM,(Ig l bM o.aC ((o7 l1 es1 o.aC).2.1) o.Sum ((o7 l1 es1 o.aC).1)),(tkM l bM o.aC ((o7 l1 es1 o.aC).2.1) o.Sum ((o7 l1 es1 o.aC).1) abr abt es)⟩:lZ) hs)⟩:PC):=abo (F:=⟨Zz,gs1,Xt,Ah1,ch1,VT,YQ,l1,es1⟩) (T:=⟨gh,gs,Ao,Ah,ch,up,bM,l,es⟩) _ hg1 afk Pg (by simpa using an1) (by simpa using an2) (by simpa using an3) hg (by simpa using awj) (aK aAD);rw [show(l5 (dK m s r aN eD hs) o).m=(uD m (⟨0,0,5,o.aC,o.To,(o7 l1 es1 o.aC).2.1⟩:fV)) from by rw [hcp]];rw [show(l5 (dK m s r aN eD hs) o).s=(R6 s) from by rw [hcp]];have eO:(s.eF:List fK)=((R6 s).eF):=by simp
      have fQ:(s.bY:List bD)=((R6 s).bY):=by simp
      have jW:(s.bL:List aM)=((R6 s).bL):=by simp
      exact⟨asf,asg,ash,asi,asj,asl,A5,c5,(iy o.To (⟨gh,gs,Ao,abp,abq,up,bM,(Ig l bM o.aC ((o7 l1 es1 o.aC).2.1) o.Sum ((o7 l1 es1 o.aC).1)),(tkM l bM o.aC ((o7 l1 es1 o.aC).2.1) o.Sum ((o7 l1 es1 o.aC).1) abr abt es)⟩:lZ) hs),Y,(by rw [hcp]),by rw [<- eO,<- fQ,<- jW]; exact(C8.cU 9 3)⟩
theorem an4(w:World)(x:aI){g_o:Nat}(o:aM)(h_o:Bx w g_o 112 [aF o.Kind,aF o.aC,aF o.aB,gK o.Sum,aF o.jM,aF o.To,aF o.jS]) :
    bS prog 163 #[.agg #[aF x.aC,aF x.aB,gK x.Sum,.bool x.gB,.bool x.Bad],gD g_o] w λv w'=>v=.bool (adF o x)/\Hp w S0 w' []:=by
 refine kP S0 func163 ntmps163 Y λH0=>rg<|bx Y Y H0 λg1 w1 K1=>bU Y<|rg<|jT g1 0 mM K1 s0 Y<|yA g_o 1 sw Y<|ev (dx jD Y (h_o.ext K1.ext) Y)<|ev (iA Y Y)<|mv Y<|iP 6 15 ((decide (x.aC=o.aC))&&(decide (x.aB=o.aB))) ?_ ?_
 ·cases hb9:decide (x.aC=o.aC) with
  | true=>
   refine wL g1 1 sH K1 s0 Y<|gfy g_o 2 ag1 Y<|bn Y (dx jD Y (h_o.ext K1.ext) Y) Y<|bn Y (iA Y Y) Y<|ev (dH Y Y)<|dM Y
  | false=>
   refine dN<|dN<|dN<|dN<|dN<|ev (dL Y Y)<|dM Y
 refine bU Y<|jc Y ?_
 have eO:(((decide (x.aC=o.aC))&&(decide (x.aB=o.aB))):Bool)=(adF o x):=by rfl
 exact⟨by rw [eO] <;> rfl,(K1.rm s0)⟩
theorem asu{F:List lH}{gh gs Ao:Nat}{Ah:ah}{ch:Nat}{up:Bool}{bM:Int}{l:List aI}(H0:Hp b S w (VX je A1 c1 A2 c2 A3 c3 A4 c4 A5 c5 A6 c6 A7 c7 m s r aN gm eD hs F))(o:aM)(hm:mD m=true)(hb:s.eF.length<=1000)(hl:s.bY.length<=64)(hd:s.bL.length<=50000)(hz:hSz hs)(hg:fI o.To hs=some ⟨gh,gs,Ao,Ah,ch,up,bM,l,es⟩) :
    bS prog 98 #[gD je,.agg #[aF o.Kind,aF o.aC,aF o.aB,gK o.Sum,aF o.jM,aF o.To,aF o.jS],gD gh] w λv w'=>∃(B1:ah)(d1:Nat)(B2:ah)(d2:Nat)(B3:ah)(d3:Nat)(B5:ah)(d5:Nat)(hs1:kK),v=.tuple #[]/\kH hs1=(rA (dK m s r aN eD hs) o).hs/\Hp b S w' (Iq je B1 d1 B2 d2 B3 d3 A4 c4 B5 d5 A6 c6 A7 c7 ((rA (dK m s r aN eD hs) o).m) ((rA (dK m s r aN eD hs) o).s) r aN gm eD::dP cZ B1 d1 (((rA (dK m s r aN eD hs) o).m).aT)::dP bJ B2 d2 (((rA (dK m s r aN eD hs) o).m).aA)::dP bX B3 d3 (((rA (dK m s r aN eD hs) o).m).aP)::dP iO A4 c4 (((rA (dK m s r aN eD hs) o).s).eF)::dP dJ B5 d5 (((rA (dK m s r aN eD hs) o).s).bY)::dP bG A6 c6 (((rA (dK m s r aN eD hs) o).s).bL)::aS bG 112 A7 c7 eD::jP gm hs1::F):=by
 refine sV func98 ntmps98 Y<|rg<|bx Y Y H0 λg1 w1 K1=>dn<|aW<|rg<|jT g1 0 asq K1 s0 Y<|ev (iA Y Y)<|dn<|mQ Y (λER=>?_) (λER=>?_)
 ·refine bQ Y<|ev (dU wu Y Y (K1.x s0))<|mv Y<|gX Y (ag3 (m:=m) (s:=s) (r:=r) ((K1.sel s0).mV 1 9) o hm hb hl hd hz hg) ?_
  rintro _ w2 ⟨anN,anO,anP,anQ,anR,anS,aIr,aIs,aDN,rfl,aIt,K2⟩;refine dn<|uX Y ?_
  have hcp:rA (dK m s r aN eD hs) o=l5 (dK m s r aN eD hs) o:=by unfold rA; rw [aO ER]
  rw [show(rA (dK m s r aN eD hs) o).m=(l5 (dK m s r aN eD hs) o).m from by rw [hcp]];rw [show(rA (dK m s r aN eD hs) o).s=(l5 (dK m s r aN eD hs) o).s from by rw [hcp]];exact⟨anN,anO,anP,anQ,anR,anS,aIr,aIs,aDN,Y,(by rw [hcp]; exact aIt),(K2.rm s9)⟩
 refine jm ?_;refine rg<|ev (rW Y)<|bU Y<|bQ Y<|ev (eX Y)<|yA gh 0 yM Y<|ev (dx UY Y (K1.EK s9 hg) Y) ?_
 have H1:=K1.wO s9 hg;refine gX Y (PK ((H1.sel s0).mV 1 4) (lV (hz _ _ hg).1 au)) ?_;rintro _ w3 ⟨nR,nS,rfl,K3⟩;have H2:=YM hg ((((K3.sel s0).sel s6).mV 2 4).sel s6);refine mv Y<|mU H2 Y (EB _ (H2.o s1) (AX:=[gD g1]) aAC (fun(x:aI)=>adF o x) (λw' x e hm=>(an4 (S0:=Any) w' x o ((H2.x s2).ext e)).mono (by rintro _ _ ⟨rfl,fQ⟩; exact⟨rfl,fQ.ext⟩))) λw4 K4=>dn<|bK rfl (λhc21=>?_) (λhc21=>?_)
 ·refine Hf K4 (λ_ K=>(K.rm s0)) (λl0 rk lJ wJ=>∃(jR:ah)(jO:Nat),lJ=l0/\Hp b S wJ (jP gm (iy o.To (⟨gh,gs,Ao,jR,jO,up,bM,(CP l o.aC),(PI l o.aC es)⟩:lZ) hs)::rk)) (λhns H3=>?_) ?_
  ·have k1:=(H3.rm s0);refine uw 0 gh 0 yM Y k1<|ng 4 5 g1 1 sw s1 Y k1<|O1 3 Y<|ev (dx UY Y (H3.EK s0 hg) Y)<|aQ k1<|O1 6 Y ?_
   have H4:=H3.wO s0 hg;refine gX Y (YG ((H4.sel s0).mV 1 4) o.aC (lV (hz _ _ hg).1 au)) ?_;rintro _ w5 ⟨aIu,aIv,rfl,K5⟩;have H5:=JC hg ((K5.mV 0 4).sel s4);have k2:=(H5.rm s0);refine aQ k2<|Dn ⟨aIu,aIv,Y,H5⟩ Y
  rintro _ w6 ⟨jR,jO,rfl,K6⟩;refine rU (zA Y ?_);have hcp:rA (dK m s r aN eD hs) o=_:=YN ER (gF hg) (by rw [<- hc21]; rfl);rw [show(rA (dK m s r aN eD hs) o).m=m from by rw [hcp]];rw [show(rA (dK m s r aN eD hs) o).s=s from by rw [hcp]];exact⟨A1,c1,A2,c2,A3,c3,A5,c5,(iy o.To (⟨gh,gs,Ao,jR,jO,up,bM,(CP l o.aC),(PI l o.aC es)⟩:lZ) hs),Y,(by rw [hcp,Aj]; show iy o.To (lZ.pl _) _=iy o.To _ _; unfold lZ.pl; simp only; rw [ar2]),(((K6.cU 1 2).sel s0).mV 1 8)⟩
 refine ze (rU (zA Y ?_));have hcp:rA (dK m s r aN eD hs) o=_:=ajy ER (gF hg) (by rw [<- hc21]; rfl);rw [show(rA (dK m s r aN eD hs) o).m=m from by rw [hcp]];rw [show(rA (dK m s r aN eD hs) o).s=s from by rw [hcp]];exact⟨A1,c1,A2,c2,A3,c3,A5,c5,hs,Y,(by rw [hcp]),(((K4.cU 1 2).sel s0).mV 1 8)⟩
theorem oD:eu prog 32 0 0:=ay
theorem YU{F:List lH}{A:ah}{c:Nat}{xs:List aM}(H0:Hp b S w (aS bG 112 A c xs::F)){j:Nat}(hij:i<j)(hj:j<=xs.length) :
    bS prog 97 #[.slice A xs.length c,aF (i:Int),aF (j:Int)] w λv w'=>v=.slice A (xs.take i++xs.drop j).length c/\Hp b S w' (aS bG 112 A c (xs.take i++xs.drop j)::F):=by
 refine sV func97 ntmps97 Y ?_;have WW:=(H0.o s0).bH;have hcap:=(H0.o s0).cap;refine iZ Y<|bQ Y<|mv Y<|mv Y<|mv Y<|ev (eU kY Y)<|ev (Ev.aui (lo:=i) (hi:=j) (mx:=xs.length) kY wo Y Y Y Y Y Y Y aj hj (H0.o s0).cap)<|dn<|aW<|bQ Y<|mv Y<|ev (iA Y Y)<|dn<|mQ Y (λhc16=>?_) (λhc16=>?_)
 ·omega
 refine jm ?_;refine bQ Y<|ev (eU kY Y)<|bU Y<|He H0 (λ_ K=>(K.rm s0)) (λl0 rk lJ wJ=>lJ=(0,.slice A ((xs.take i++xs.drop j).length) c)::l0/\Hp b S wJ (aS bG 112 A c (xs.take i++xs.drop j)::rk)) (λhns H1=>?_) ?_
 ·have k1:=(H1.rm s0);refine kX 0 Y Y k1<|kX 1 Y Y k1<|kX 3 Y Y k1<|kX 4 Y Y k1<|Jn H1 (λl0 rk lJ wJ=>lJ=(22,.slice A ((xs.take i).length) c)::(25,.slice (tQ A c j 7) ((xs.drop j).length) (c - j))::l0/\Hp b S wJ rk) 2 63 ?_ λhS1=>?_
  ·rintro _ w2 ⟨rfl,K2⟩;refine O1 6 Y<|abX (τ:=bG) (xs:=xs) (i:=i) (j:=j) K2 s0 Y Y kY Eu hij hj λw3 K3=>?_
   have k3:=(K3.rm s0);refine aQ k3<|xI 7 Y Y k3<|Dn ⟨Y,K3⟩ Y
  refine O2 2 5 Y Y ?_ ?_
  ·refine ev (F9 (hi:=i) (xs:=xs) kY wo Y Y Y aj (H1.o s0).cap)<|aQ k1<|O1 5 Y<|ev (Gf (lo:=j) (xs:=xs) kY wo Y Y Y aj (H1.o s0).cap)<|Kj hS1 k1 ⟨Y,H1⟩ Y
  ·refine ev (Gf (lo:=j) (xs:=xs) kY wo Y Y Y aj (H1.o s0).cap)<|aQ k1<|O1 2 Y<|ev (F9 (hi:=i) (xs:=xs) kY wo Y Y Y aj (H1.o s0).cap)<|Kj hS1 k1 ⟨Y,H1⟩ Y
 rintro _ w4 ⟨rfl,K4⟩;refine bQ Y<|mv Y<|ev (eU kY Y)<|mv Y ?_
 have hln:(xs.take i++xs.drop j).length+(j - i)=xs.length:=by simp only [jd,fO,kW]; omega
 refine ev (Ev.auj (lo:=(xs.take i++xs.drop j).length) (hi:=xs.length) kY wo Y Y Y Y Y aj hcap)<|aeR (τ:=bG) (m:=xs.length - (xs.take i++xs.drop j).length) K4 s0 Y kY aql aj λw5 K5=>dn<|bQ Y<|bU Y<|jc Y ?_
 exact⟨Y,K5⟩
theorem asv(h:it.A<0∨(c.eD.length:Int)<=it.A):mO c it=(c,5):=by unfold mO; rw [aO h]
theorem ajB(hi:it.A=((i:Nat):Int))(ho:c.eD[i]? = some o)(h8:it.Kind=8):mO c it=({ c with eD:=c.eD++[o] },0):=by
  have hl:=aJ ho;unfold mO; rw [aK aj,hi,Ws,ho]; simp only; rw [aO h8]
theorem asw(hi:it.A=((i:Nat):Int))(ho:c.eD[i]? = some o)(h8:¬ it.Kind=8)(h6:it.Kind=6/\c.aN<=o.jS/\PO c.hs o.To=true):mO c it=(rA { c with eD:=c.eD.take i++c.eD.drop (i+1) } o,0):=by
  have hl:=aJ ho;unfold mO; rw [aK aj,hi,Ws,ho]; simp only; rw [aK h8,aO h6]
theorem ag4(hi:it.A=((i:Nat):Int))(ho:c.eD[i]? = some o)(h8:¬ it.Kind=8)(h6:¬ (it.Kind=6/\c.aN<=o.jS/\PO c.hs o.To=true)):mO c it=({ c with eD:=c.eD.take i++c.eD.drop (i+1) },0):=by
  have hl:=aJ ho;unfold mO; rw [aK aj,hi,Ws,ho]; simp only; rw [aK h8,aK h6]
theorem alc(c:PC)(o:aM):(rA c o).eD=c.eD/\(rA c o).aN=c.aN/\(rA c o).r=c.r:=by
  unfold rA
  split
  · unfold l5
    split
    · exact⟨Y,Y,Y⟩
    · split
      · exact⟨Y,Y,Y⟩
      · split
        · exact⟨Y,Y,Y⟩
        · split
          · exact⟨Y,Y,Y⟩
          · split <;> exact⟨rfl,rfl,rfl⟩
  · split
    · exact⟨Y,Y,Y⟩
    · split <;> exact⟨rfl,rfl,rfl⟩
abbrev DF(iD:List aM)(ji:Nat):=iD.take ji++iD.drop (ji+1)
theorem Uh{F:List lH}(H0:Hp b S w (VX je A1 c1 A2 c2 A3 c3 A4 c4 A5 c5 A6 c6 A7 c7 m s r aN gm eD hs F))(it:AItem)(hm:mD m=true)(hb:s.eF.length<=1000)(hl:s.bY.length<=64)(hd:s.bL.length<=50000)(hz:hSz hs)(hw:eD.length<=500000) :
    bS prog 43 #[gD je,.agg #[aF it.Kind,aF it.A,aF it.B,aF it.C]] w λv w'=>∃(B1:ah)(d1:Nat)(B2:ah)(d2:Nat)(B3:ah)(d3:Nat)(B5:ah)(d5:Nat)(B7:ah)(d7:Nat)(hs1:kK),v=aF ((mO (dK m s r aN eD hs) it).2)/\kH hs1=(mO (dK m s r aN eD hs) it).1.hs/\Hp b S w' (Iq je B1 d1 B2 d2 B3 d3 A4 c4 B5 d5 A6 c6 B7 d7 ((mO (dK m s r aN eD hs) it).1.m) ((mO (dK m s r aN eD hs) it).1.s) r aN gm ((mO (dK m s r aN eD hs) it).1.eD)::dP cZ B1 d1 (((mO (dK m s r aN eD hs) it).1.m).aT)::dP bJ B2 d2 (((mO (dK m s r aN eD hs) it).1.m).aA)::dP bX B3 d3 (((mO (dK m s r aN eD hs) it).1.m).aP)::dP iO A4 c4 (((mO (dK m s r aN eD hs) it).1.s).eF)::dP dJ B5 d5 (((mO (dK m s r aN eD hs) it).1.s).bY)::dP bG A6 c6 (((mO (dK m s r aN eD hs) it).1.s).bL)::aS bG 112 B7 d7 ((mO (dK m s r aN eD hs) it).1.eD)::jP gm hs1::F):=by
 refine sV func43 ntmps43 Y<|rg<|bx Y Y H0 λg1 w1 K1=>bU Y<|aW<|qo ak ak<|bA (dW (q:=⟨g1,1,none⟩) nV Y Y) Y<|bA (dx jD Y (K1.x s0) Y) Y<|bA (fC Y Y) Y<|bA (bf Y) Y<|rJ 9 19 ((decide (it.A<0))||(decide (((eD.length:Nat):Int)<=it.A))) ?_ ?_
 ·cases aB4:decide (it.A<0) with
  | true=>
   refine dZ Y Y Y<|dZ Y Y Y<|dZ Y Y Y<|dZ Y Y Y<|dZ Y Y Y<|dZ Y Y Y<|dZ Y Y Y<|dZ Y Y Y<|bA (dH Y Y) Y<|j3 Y
  | false=>
   refine eT Y (dW (q:=⟨g1,1,none⟩) nV Y Y) Y<|eT Y (dx jD Y (K1.x s0) Y) Y<|eT Y (bf Y) Y<|eT Y (eX Y) Y<|eT Y (dW (q:=⟨je,14,none⟩) BJ Y Y) Y<|eT Y (dx axv Y (K1.x s1) Y) Y<|eT Y (eU kY Y) Y<|eT Y (qK Y Y) Y<|bA (dL Y Y) Y<|j3 Y
 refine qp λw2 e2=>?_;have K2:=K1.grow e2;refine bK Y (λhc19=>?_) (λhc19=>?_)
 ·try simp only [fq,dX,bO,bV] at hc19
  refine iZ Y<|uX Y ?_
  have hop:mO (dK m s r aN eD hs) it=_:=asv (by show it.A<0∨(eD.length:Int)<=it.A; omega);rw [show(mO (dK m s r aN eD hs) it).1.m=m from by rw [hop]];rw [show(mO (dK m s r aN eD hs) it).1.s=s from by rw [hop]];rw [show(mO (dK m s r aN eD hs) it).1.eD=eD from by rw [hop]];rw [show(mO (dK m s r aN eD hs) it).2=5 from by rw [hop]];exact⟨A1,c1,A2,c2,A3,c3,A5,c5,A7,c7,hs,Y,(by rw [hop]),(K2.rm s0)⟩
 try simp only [fq,dX,bO,bV] at hc19
 refine jm ?_;obtain⟨i,hi⟩:∃ i:Nat,it.A=((i:Nat):Int):=⟨(it.A).toNat,aj⟩;have iq:=hi;have H1:=K2;rw [hi] at H1;obtain⟨x1,bP⟩:=bC (xs:=eD) (i:=i) aj;refine He H1 (λ_ K=>K) (λl0 rk lJ wJ=>∃(tN:Nat),lJ=(5,gD tN)::l0/\Hp b S wJ (dY tN 112 [aF x1.Kind,aF x1.aC,aF x1.aB,gK x1.Sum,aF x1.jM,aF x1.To,aF x1.jS]::rk)) (λhns H2=>?_) ?_
 ·refine uw 0 je 14 BJ Y H2<|Ci 3 s1 Y H2<|ng 4 5 g1 1 nV s0 Y H2<|lD 6 Y (λ_ hK=>cu (i:=i) kY wo Y Y Y (aJ bP) ((hK.o s8).some_ bP)) H2<|lD 7 Y (λ_ hK=>gI wu Y Y ((hK.o s8).fE bP)) H2<|O1 8 Y<|al BQ Y H2 λg2 w3 K3=>?_
  have k1:=(K3.rm s0);refine aQ k1<|O1 9 Y<|sty Y K3 s0 Y λw4 K4=>?_
  have k2:=(K4.rm s0);refine aQ k2<|Dn ⟨g2,Y,K4⟩ Y
 rintro _ w5 ⟨tN,rfl,K5⟩;refine aW<|rg<|jT g1 0 oD K5 s1 Y<|ev (iA Y Y)<|dn<|mQ Y (λJm=>?_) (λJm=>?_)
 ·refine He K5 (λ_ K=>((K.rm s9).rm s2)) (λl0 rk lJ wJ=>∃(jR:ah)(jO:Nat),lJ=l0/\Hp b S wJ (Iq je A1 c1 A2 c2 A3 c3 A4 c4 A5 c5 A6 c6 jR jO m s r aN gm (eD++([x1]:List aM))::aS bG 112 jR jO (eD++([x1]:List aM))::rk)) (λhns H3=>?_) ?_
  ·have k3:=((H3.rm s9).rm s2);refine kX 0 Y Y k3<|uw 1 je 14 BJ Y k3<|lD 5 Y (λ_ hK=>dU wu Y Y (hK.x s0)) k3<|Jn H3 (λl0 rk lJ wJ=>∃(g3:Nat),lJ=(35,.slice A7 eD.length c7)::(37,.slice (some ⟨g3,0,none⟩) (([x1]:List aM).length) 1)::l0/\Hp b S wJ (aS bG 112 (some ⟨g3,0,none⟩) 1 ([x1]:List aM)::rk)) 4 127 ?_ λhS1=>?_
   ·rintro _ Oz ⟨g3,rfl,K10⟩;refine O1 7 Y<|ap (ys:=([x1]:List aM)) K10 s10 Y Y (K10.o s0) kY Eu aj av Y λVs cp2 Ti tZ=>?_
    have k8:=((tZ.rm s4).cU 0 2);refine aQ k8<|SX 8 je 14 BJ Y k8<|O1 10 Y<|xP Y tZ s4 Y λSm sJ=>?_
    have k9:=(sJ.cU 0 3);refine aQ k9<|Dn ⟨Vs,cp2,Y,(sJ.rm s2)⟩ Y
   refine O2 4 6 Y Y ?_ ?_
   ·refine nO H3 s2 Y<|aQ k3<|O1 6 Y<|Az (τ:=bG) (x:=x1) Y (by intro _; apply gu) rfl H3 (λ_ _=>rfl) λg5 Xu wz=>?_
    have k10:=(((wz.rm s10).rm s3).rm s0);exact Kj hS1 k10 ⟨g5,Y,wz⟩ Y
   ·refine Az (τ:=bG) (x:=x1) Y (by intro _; apply gu) rfl H3 (λ_ _=>rfl) λg6 Z0 wB=>?_;have k11:=(((wB.rm s10).rm s3).rm s0);refine aQ k11<|O1 4 Y<|nO wB s3 Y<|Kj hS1 k11 ⟨g6,Y,wB⟩ Y
  rintro _ Z4 ⟨jR,jO,rfl,zB⟩;refine iZ Y<|uX Y ?_
  have hop:mO (dK m s r aN eD hs) it=_:=ajB iq bP Jm;rw [show(mO (dK m s r aN eD hs) it).1.m=m from by rw [hop]];rw [show(mO (dK m s r aN eD hs) it).1.s=s from by rw [hop]];rw [show(mO (dK m s r aN eD hs) it).1.eD=(eD++([x1]:List aM)) from by rw [hop]];rw [show(mO (dK m s r aN eD hs) it).2=0 from by rw [hop]];exact⟨A1,c1,A2,c2,A3,c3,A5,c5,jR,jO,hs,Y,(by rw [hop]),(((zB.cU 2 2).sel s1).mV 1 7)⟩
 refine jm ?_;refine He K5 (λ_ K=>((K.rm s9).rm s2)) (λl0 rk lJ wJ=>∃(ql:ah)(cj2:Nat),lJ=l0/\Hp b S wJ (Iq je A1 c1 A2 c2 A3 c3 A4 c4 A5 c5 A6 c6 ql cj2 m s r aN gm (DF eD i)::aS bG 112 ql cj2 (DF eD i)::aS bG 112 A7 c7 eD::rk)) (λhns H4=>?_) ?_
 ·have k12:=((H4.rm s9).rm s2);refine kX 0 Y Y k12<|uw 1 je 14 BJ Y k12<|ng 6 7 g1 1 nV s1 Y k12<|ng 8 9 g1 1 nV s1 Y k12<|lD 10 Y (λ_ _=>dO Y Y) k12<|O1 4 Y<|nO H4 s2 Y<|aQ k12<|O1 5 Y<|gX Y (BH _ (H4.o s9) aj) ?_
  rintro _ w16 ⟨LC,LD,rfl,h16⟩;have BR:=H4.f1 h16;have k13:=(((BR.rm s10).rm s3).rm s0);refine aQ k13<|O1 11 Y<|gX Y (YU (i:=i) (j:=i+1) (BR.sel s0) aj aj) ?_
  rintro _ w17 ⟨rfl,yB⟩;have k14:=(((yB.rm s10).rm s3).rm s0);refine aQ k14<|SX 12 je 14 BJ Y k14<|O1 14 Y<|xP Y yB s3 Y λw18 ET=>?_
  have k15:=((ET.rm s10).cU 0 2);refine aQ k15<|Dn ⟨LC,LD,Y,((ET.mV 2 8).mV 8 3)⟩ Y
 rintro _ w19 ⟨ql,cj2,rfl,Cc⟩;refine aW ?_
 rcases hg1:fI x1.To hs with _ | ⟨Zz,gs1,Xt,Ah1,ch1,VT,YQ,l1,es1⟩
 ·refine qo ak ak<|bA (bf Y) Y<|bA (eX Y) Y<|bA (dW (q:=⟨je,13,none⟩) uW Y Y) Y<|bA (dx U1 Y (Cc.x s0) Y) Y<|bA (dW (q:=⟨tN,5,none⟩) xX Y Y) Y<|bA (dx jD Y (Cc.x s3) Y) Y<|bA (Ev.hN Cc s11 hg1 EJ yZ vO Y Y) Y<|bA (om Y) Y<|qp λw20 e20=>?_
  have C8:=Cc.grow e20;refine qo ak ak<|bA (dW (q:=⟨g1,0,none⟩) oD Y Y) Y<|bA (dx jD Y (C8.x s4) Y) Y<|bA (iA Y Y) Y<|bA (bf Y) Y<|rJ 8 73 ((decide (it.Kind=6))&&(decide (aN<=x1.jS))) ?_ ?_
  ·cases aAE:decide (it.Kind=6) with
   | true=>
    have aDO:=gW aAE;refine eT Y (bf Y) Y<|eT Y (eX Y) Y<|eT Y (dW (q:=⟨je,12,none⟩) BI Y Y) Y<|eT Y (dx jD Y (C8.x s0) Y) Y<|eT Y (dW (q:=⟨tN,6,none⟩) X8 Y Y) Y<|eT Y (dx jD Y (C8.x s3) Y) Y<|eT Y (vS Y Y) Y<|bA (dH Y Y) Y<|j3 Y
   | false=>
    refine dZ Y Y Y<|dZ Y Y Y<|dZ Y Y Y<|dZ Y Y Y<|dZ Y Y Y<|dZ Y Y Y<|dZ Y Y Y<|bA (dL Y Y) Y<|j3 Y
  refine bA (bf Y) Y<|rJ 3 77 false ?_ ?_
  ·cases aAF:((decide (it.Kind=6))&&(decide (aN<=x1.jS))) with
   | true=>
    have asx:=aAF
    try simp only [bN,eH,bO,bV] at asx
    refine eT Y (bf Y) Y<|eT Y (Ev.pnn CQ Y Y) Y<|bA (dH Y Y) Y<|CY (t:=77) (u:=.bool false) (v:=.bool false) Y (aR Value.bool (by rfl))<|j3 rfl
   | false=>
    refine dZ Y Y Y<|dZ Y Y Y<|bA (dL Y Y) Y<|CY (t:=77) (u:=.bool false) (v:=.bool false) Y (aR Value.bool (by rfl))<|j3 rfl
  refine bA (bf Y) Y<|dZ Y Y Y<|dZ Y Y Y<|dZ Y Y Y<|dZ Y Y Y<|bA (dL Y Y) Y<|qp λw21 e21=>?_
  have FH:=C8.grow e21;refine bK Y nofun (λ_h=>?_);refine jm ?_;refine iZ Y<|jc Y ?_
  have hop:mO (dK m s r aN eD hs) it=_:=ag4 iq bP Jm (by rintro⟨h1,h2,h3⟩; have h3':PO (kH hs) _=true:=h3; unfold PO at h3'; rw [jI,hg1] at h3'; cases h3');rw [show(mO (dK m s r aN eD hs) it).1.m=m from by rw [hop]];rw [show(mO (dK m s r aN eD hs) it).1.s=s from by rw [hop]];rw [show(mO (dK m s r aN eD hs) it).1.eD=(DF eD i) from by rw [hop]];rw [show(mO (dK m s r aN eD hs) it).2=0 from by rw [hop]];exact⟨A1,c1,A2,c2,A3,c3,A5,c5,ql,cj2,hs,Y,(by rw [hop]),(((FH.cU 2 3).sel s1).mV 1 7)⟩
 ·skip
  refine qo ak ak<|bA (bf Y) Y<|bA (eX Y) Y<|bA (dW (q:=⟨je,13,none⟩) uW Y Y) Y<|bA (dx U1 Y (Cc.x s0) Y) Y<|bA (dW (q:=⟨tN,5,none⟩) xX Y Y) Y<|bA (dx jD Y (Cc.x s3) Y) Y<|bA (Ev.hS Cc s11 hg1 EJ yZ vO Y Y) Y<|bA (om Y) Y<|qp λw22 e22=>?_
  have EU:=Cc.grow e22;refine qo ak ak<|bA (dW (q:=⟨g1,0,none⟩) oD Y Y) Y<|bA (dx jD Y (EU.x s4) Y) Y<|bA (iA Y Y) Y<|bA (bf Y) Y<|rJ 8 73 ((decide (it.Kind=6))&&(decide (aN<=x1.jS))) ?_ ?_
  ·cases aAE:decide (it.Kind=6) with
   | true=>
    have aDO:=gW aAE;refine eT Y (bf Y) Y<|eT Y (eX Y) Y<|eT Y (dW (q:=⟨je,12,none⟩) BI Y Y) Y<|eT Y (dx jD Y (EU.x s0) Y) Y<|eT Y (dW (q:=⟨tN,6,none⟩) X8 Y Y) Y<|eT Y (dx jD Y (EU.x s3) Y) Y<|eT Y (vS Y Y) Y<|bA (dH Y Y) Y<|j3 Y
   | false=>
    refine dZ Y Y Y<|dZ Y Y Y<|dZ Y Y Y<|dZ Y Y Y<|dZ Y Y Y<|dZ Y Y Y<|dZ Y Y Y<|bA (dL Y Y) Y<|j3 Y
  refine bA (bf Y) Y<|rJ 3 77 (((decide (it.Kind=6))&&(decide (aN<=x1.jS)))&&true) ?_ ?_
  ·cases aAF:((decide (it.Kind=6))&&(decide (aN<=x1.jS))) with
   | true=>
    have asx:=aAF
    try simp only [bN,eH,bO,bV] at asx
    refine eT Y (bf Y) Y<|eT Y (Ev.pnn CQ Y Y) Y<|bA (dH Y Y) Y<|j3 Y
   | false=>
    refine dZ Y Y Y<|dZ Y Y Y<|bA (dL Y Y) Y<|j3 Y
  refine bA (bf Y) Y<|rJ 5 83 ((((decide (it.Kind=6))&&(decide (aN<=x1.jS)))&&true)&&VT) ?_ ?_
  ·cases aIw:(((decide (it.Kind=6))&&(decide (aN<=x1.jS)))&&true) with
   | true=>
    have aDP:=aIw
    try simp only [bN,eH,bO,bV,WB,false_or,sN,true_and,uO] at aDP
    refine eT Y (bf Y) Y<|eT Y (eX Y) Y<|eT Y (dW (q:=⟨Zz,1,none⟩) JD Y Y) Y<|eT Y (dx ajg Y (EU.EK s11 hg1) Y) Y<|bA (dH Y Y) Y<|j3 Y
   | false=>
    refine dZ Y Y Y<|dZ Y Y Y<|dZ Y Y Y<|dZ Y Y Y<|bA (dL Y Y) Y<|j3 Y
  refine qp λw23 e23=>?_;have KA:=EU.grow e23;refine bK Y (λGH=>?_) (λGH=>?_)
  ·have aAG:(it.Kind=6/\aN<=x1.jS)/\VT=true:=by simpa using GH
   refine jy<|mv Y<|ev (dU wu Y Y (KA.x s3))<|mv Y<|gX Y (asu (m:=m) (s:=s) (r:=r) ((((KA.mV 2 3).sel s11).sel s5).mV 5 7) x1 hm hb hl hd hz aj) ?_
   rintro _ w24 ⟨aDQ,aDR,aDS,aDT,aDU,aDV,aDW,aDX,aAH,rfl,aDY,qB⟩;refine jA<|gG<|iZ Y<|jc Y ?_
   have hop:mO (dK m s r aN eD hs) it=(rA (⟨m,s,r,aN,(DF eD i),kH hs⟩:PC) x1,0):=asw iq bP Jm ⟨aAG.1.1,aAG.1.2,by show PO (kH hs) _=true; unfold PO; rw [jI,hg1]; exact aAG.2⟩;have hdn:=alc (⟨m,s,r,aN,(DF eD i),kH hs⟩:PC) x1;rw [show(mO (dK m s r aN eD hs) it).1.m=(rA (⟨m,s,r,aN,(DF eD i),kH hs⟩:PC) x1).m from by rw [hop]];rw [show(mO (dK m s r aN eD hs) it).1.s=(rA (⟨m,s,r,aN,(DF eD i),kH hs⟩:PC) x1).s from by rw [hop]];rw [show(mO (dK m s r aN eD hs) it).1.eD=(DF eD i) from by rw [hop]; exact hdn.1];rw [show(mO (dK m s r aN eD hs) it).2=0 from by rw [hop]];exact⟨aDQ,aDR,aDS,aDT,aDU,aDV,aDW,aDX,ql,cj2,aAH,Y,(by rw [hop]; exact aDY),(qB.cU 9 3)⟩
  refine jm ?_;refine iZ Y<|jc Y ?_
  have hop:mO (dK m s r aN eD hs) it=_:=ag4 iq bP Jm (by rintro⟨h1,h2,h3⟩; have h3':PO (kH hs) _=true:=h3; unfold PO at h3'; rw [jI,hg1] at h3'; have h4:VT=true:=h3'; simp [h1,h2,h4] at GH);rw [show(mO (dK m s r aN eD hs) it).1.m=m from by rw [hop]];rw [show(mO (dK m s r aN eD hs) it).1.s=s from by rw [hop]];rw [show(mO (dK m s r aN eD hs) it).1.eD=(DF eD i) from by rw [hop]];rw [show(mO (dK m s r aN eD hs) it).2=0 from by rw [hop]];exact⟨A1,c1,A2,c2,A3,c3,A5,c5,ql,cj2,hs,Y,(by rw [hop]),(((KA.cU 2 3).sel s1).mV 1 7)⟩
theorem CS:(prog.underlying 3).isSome=true/\prog.underlying 5=some (.int (prog.intKind 5))/\prog.intKind 5=.u8:=⟨ak,ak,ak⟩
theorem adM(a0:Int)(a1:Int)(a2:Int)(a3:Int):∀ w,(Instr.buildSlice 33 4 (List.toArray [(0,.int .u8 a0),(1,.int .u8 a1),(2,.int .u8 a2),(3,.int .u8 a3)])).run prog w=.ok (.slice (some ⟨w.heap.size,0,none⟩) 4 4) (w.alloc (.cells (List.toArray [.int .u8 a0,.int .u8 a1,.int .u8 a2,.int .u8 a3]) 5)):=ay
theorem asy:l9 prog 26:=ay
theorem aDZ:bF prog 37:=ay
theorem ald(z:Int):IntKind.u8.wrap z=(((BitVec.ofInt 8 z).toNat:Nat):Int):=by
  rw [BitVec.toNat_ofInt];show z % 256=_;have:0<=z % ((2 ^ 8:Nat):Int):=Int.emod_nonneg _ au;rw [Int.toNat_of_nonneg this]; rfl
theorem awk{l:List aV}{aZ:List gq}{hs:List Int}{t:aV}(h:tL l aG aZ hs l=some t):t∈l:=by
  suffices g:∀(M:List aV)(b:Option aV),(∀ x,b=some x->x∈l)->(∀ x∈M,x∈l)->∀ x,M.foldl (tgF l aG aZ hs) b=some x->x∈l from g l none (λx h=>by cases h) (λx h=>h) t h
  intro M
  induction M with
  | nil=>intro b hb _ x hx; exact hb x hx
  | cons n M ih=>
    intro b hb hM x hx;refine ih _ ?_ (λy hy=>hM y (by simp [hy])) x hx;intro y hy;unfold tgF at hy
    split at hy
    · split at hy
      · cases hy; exact hM _ av
      · split at hy
        · cases hy; exact hM _ av
        · cases hy; exact hb _ rfl
    · exact hb y hy
theorem ag5{l:List aV}:∀(n:Nat)(aZ:List gq)(hs:List Int),∀ z∈sW l aG n aZ hs,∃ x∈l,x.ID=z
  | 0,_,_,z,h=>by simp [sW] at h
  | n+1,aZ,hs,z,h=>by
    unfold sW at h
    cases ht:tL l aG aZ hs l with
    | none=>rw [ht] at h; simp at h
    | some t=>
      rw [ht] at h
      rcases iX.1 h with rfl | h
      · exact⟨t,awk ht,Y⟩
      · exact ag5 n _ _ z h
theorem abu{c v sum:Int}{fG:List (BitVec 8)}{q:lq × List Int}{z:Int}{h:rG}(hg:fI z q.1=some h):vL c v sum fG q z=(iy z ⟨h.up,h.bM,Ig h.l h.bM c v sum fG,tkD h.l h.bM c v sum fG h.d⟩ q.1,if Sn h.l h.bM c v sum fG=true then q.2++[z] else q.2):=by unfold vL; rw [hg]
theorem YV{hs:lq}{x:aH}{z:Int}{k:Nat}{n:Int}{H:List Int}(h:H[k]? = some n):GD hs x z (H.drop k)=match fI n hs with
    | none=>GD hs x z (H.drop (k+1))
    | some h=>if h.up=true/\(uq h.l h.d z).2.2=0/\(uq h.l h.d z).2.1=x.aB/\((iM (uq h.l h.d z).1).toNat:Int)=x.Sum then((uq h.l h.d z).1,0) else GD hs x z (H.drop (k+1)):=by
  obtain⟨hk,he⟩:=nP.1 h;rw [zO hk,he]; rfl
abbrev FZ(iD:Int):=BitVec.ofInt 8 (iD / 2 ^ 8)
abbrev F4(iD:Int):=BitVec.ofInt 8 iD
theorem YW(w:World)(aL:Int)(number:Int) :
    bS prog 13 #[aF aL,aF number] w λv w'=>∃(A0:ah)(c0:Nat),v=.slice A0 ((nH aL number).length) c0/\Hp w S0 w' [aS gV 5 A0 c0 (nH aL number)]:=by
 refine kP S0 func13 ntmps13 Y λH0=>iZ Y<|bQ Y<|ev (Ir CS.1 CS.2.1 CS.2.2 Y)<|fU (t:=6) Y (aR (Value.int .u8) (ald aL))<|mv Y<|ev (Ev.aDd (c:=8) Y Y aj)<|ev (Ir CS.1 CS.2.1 CS.2.2 Y)<|fU (t:=9) Y (aR (Value.int .u8) (ald (aL / 2 ^ 8)))<|mv Y<|ev (Ir CS.1 CS.2.1 CS.2.2 Y)<|fU (t:=11) Y (aR (Value.int .u8) (ald number))<|mv Y<|ev (Ev.aDd (c:=8) Y Y aj)<|ev (Ir CS.1 CS.2.1 CS.2.2 Y)<|fU (t:=14) Y (aR (Value.int .u8) (ald (number / 2 ^ 8)))<|bsn (τ:=gV) (xs:=([(F4 aL),(FZ aL),(F4 number),(FZ number)]:List (BitVec 8))) (vs:=[(0,.int .u8 (((F4 aL)).toNat:Int)),(1,.int .u8 (((FZ aL)).toNat:Int)),(2,.int .u8 (((F4 number)).toNat:Int)),(3,.int .u8 (((FZ number)).toNat:Int))]) (css:=[[.int .u8 (((F4 aL)).toNat:Int)],[.int .u8 (((FZ aL)).toNat:Int)],[.int .u8 (((F4 number)).toNat:Int)],[.int .u8 (((FZ number)).toNat:Int)]]) Y (by intro _; apply adM) rfl rfl H0 (λ_ e=>⟨rfl,rfl,rfl,rfl,trivial⟩) λg1 w1 K1=>bU rfl<|jc rfl ?_
 have eO:(([(F4 aL),(FZ aL),(F4 number),(FZ number)]:List (BitVec 8)):List (BitVec 8))=(nH aL number):=by rfl
 rw [eO] at K1;exact⟨(some ⟨g1,0,none⟩),4,by rw [eO] <;> rfl,K1⟩
theorem awl(w:World){b0:World}{F0:List lH}(hH:Hp b0 S1 w (VX je A1 c1 A2 c2 A3 c3 A4 c4 A5 c5 A6 c6 A7 c7 m s r aN gm eD hs F0))(bE:Int) :
    bS prog 37 #[gD je,aF bE] w λv w'=>v=.bool (PO (kH hs) bE)/\Hp w S0 w' []:=by
 refine kP S0 func37 ntmps37 Y λH0=>iZ Y ?_
 rcases hg1:fI bE hs with _ | ⟨Zz,gs1,Xt,Ah1,ch1,VT,YQ,l1,es1⟩
 ·refine bQ Y<|ev (eX Y)<|yA je 13 uW Y<|ev (dx U1 Y ((hH.x s0).ext H0.ext) Y)<|mv Y<|ev (Ev.hN (hH.grow H0.ext) s8 hg1 EJ yZ vO Y Y)<|bU Y<|bQ Y<|ev (Ev.pnn CQ Y Y)<|mv Y<|dN<|dN<|dN<|dN<|ev (dL Y Y)<|bU Y<|jc Y ?_
  have eO:(false:Bool)=(PO (kH hs) bE):=by unfold PO; rw [jI,hg1]; rfl
  exact⟨by rw [<- eO] <;> rfl,H0⟩
 ·refine bQ Y<|ev (eX Y)<|yA je 13 uW Y<|ev (dx U1 Y ((hH.x s0).ext H0.ext) Y)<|mv Y<|ev (Ev.hS (hH.grow H0.ext) s8 hg1 EJ yZ vO Y Y)<|bU Y<|bQ Y<|ev (Ev.pnn CQ Y Y)<|mv Y<|bn Y (bf Y) Y<|bn Y (eX Y) Y<|gfy Zz 1 JD Y<|bn Y (dx ajg Y ((hH.grow H0.ext).EK s8 hg1) Y) Y<|ev (dH Y Y)<|bU Y<|jc Y ?_
  have fQ:(VT:Bool)=(PO (kH hs) bE):=by unfold PO; rw [jI,hg1]; rfl
  exact⟨by rw [<- fQ] <;> rfl,H0⟩
theorem ajC(w:World)(id:Int){b0:World}{F0:List lH}{g2:Nat}(hH:Hp b0 S1 w (dY g2 26 [gD je]::Iq je A1 c1 A2 c2 A3 c3 A4 c4 A5 c5 A6 c6 A7 c7 m s r aN gm eD::dP cZ A1 c1 m.aT::dP bJ A2 c2 m.aA::dP bX A3 c3 m.aP::dP iO A4 c4 s.eF::dP dJ A5 c5 s.bY::dP bG A6 c6 s.bL::aS bG 112 A7 c7 eD::jP gm hs::F0)) :
    bS prog 100 #[aF id,gD g2] w λv w'=>v=.bool (!PO (kH hs) id)/\Hp w S0 w' []:=by
 refine kP S0 func100 ntmps100 Y λH0=>iZ Y<|rg<|ev (dx asy Y ((hH.x s0).ext H0.ext) Y)<|mv Y<|mU H0 Y (awl (S0:=Any) _ ((hH.grow H0.ext).rm s0) id) λw1 K1=>ev (iB Y)<|bU Y<|jc Y ?_
 have eO:((!(PO (kH hs) id)):Bool)=(!PO (kH hs) id):=by rfl
 exact⟨by rw [eO] <;> rfl,K1⟩
end Go.Proofs.YtlhnnmlenkahlaaGreat
