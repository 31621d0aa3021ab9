/- Lemmas. -/
import Derived.Test.YtlhnnmlenkahlaaGreatvG24
set_option maxRecDepth 4000
set_option linter.all false
namespace Go.Proofs.YtlhnnmlenkahlaaGreat
open Go.RowKit Go.Proofs.Tryz
variable {bT:Array Oper}{full:Array Bool}{F:kS}{b w:World}{S S0 S1:Nat->Prop}{es:List (bV × Option Addr × Nat × List (BitVec 8))}{iT c1 c2 c3 c4 c5 c6 c7 gm i:Nat}{A1 A2 A3 A4 A5 A6 A7:ah}{m:dU}{s:iM}{r:ARules}{aN:Int}{dR:List aM}{hs:jV}{c:PC}{it:AItem}{o:aM}{aG:List Int}
theorem aes:dH prog 112 2 2:=ay
theorem aeu:dH prog 112 3 3:=ay
theorem awg:bI prog 105:=ay
theorem aoF:dH prog 112 0 0:=ay
theorem awh:bI prog 163:=ay
theorem aif{pre ids:List Nat}{rest:Nat}:∀(fuel:Nat)(aT:Array Bool),aT.size=bT.size->(∀ i∈pre,aT.getD i false=true)->p8 bT (pre++ids) rest full fuel aT=true->p8 bT ids rest full fuel aT=true
  | 0,aT,_,_,h=>by unfold p8 at h ⊢; exact h
  | f+1,aT,hs,hp,h=>by
    unfold p8 at h ⊢
    split at h
    · rename_i he; rw [aO he]; exact h
    · rename_i he; rw [aK he]
      simp only [bK,mZ,sU,kU] at h ⊢
      refine⟨h.1,λr hr=>?_⟩;obtain⟨h1,h2⟩:=h.2 r hr;obtain⟨hr1,hr2,_⟩:=(G5 hs r).1 hr;refine⟨h1.resolve_left (λhm=>by rw [hp r hm] at hr2; cases hr2),aif f _ (by simpa using hs) (λi hi=>?_) h2⟩;rw [FL aj]; split
      · rfl
      · exact hp i hi
theorem KS{ids:List Nat}{rest fuel:Nat}{aT:Array Bool}(pre:List Nat)
    (h:(akc bT (pre++ids) full&&((aT.size == bT.size&&fuel == rest+ids.length)&&(((List.range bT.size).all λi=>aT.getD i false == pre.contains i)&&pre.all λi=>(reqs bT i).all λj=>pre.contains j)))=true):p8 bT ids rest full fuel aT=true:=by
  simp only [bK,Mc,mZ,List.mem_range] at h
  obtain⟨h1,⟨h2,h3⟩,h4,h5⟩:=h
  have hlt:∀ i,aT.getD i false=true->i<bT.size:=λi hi=>by
    rw [<- h2]
    by_cases hl:i<aT.size
    · exact hl
    · rw [BX,apI aj] at hi; cases hi
  have hin:∀ i∈pre++ids,i<bT.size:=by
    have h6:=h1
    simp only [akc,bK,mZ,bL] at h6
    exact λi hi=>(h6.2.1 i hi).1
  have hnd:(pre++ids).Nodup:=by
    have h6:=h1
    simp only [akc,bK] at h6
    exact Wm h6.1.1
  have hp:∀ i∈pre,aT.getD i false=true:=λi hi=>by rw [h4 i (hin i (List.mem_append_left _ hi))]; exact sU.2 hi
  have hm:∀ i,aT.getD i false=true->i∈pre:=λi hi=>by have:=h4 i (hlt i hi); rw [hi] at this; exact sU.1 this.symm
  refine aif fuel aT h2 hp (ahS h1 rest fuel aT h2 (λi hi=>List.mem_append_left _ (hm i hi)) (λi hi j hj=>hp j (sU.1 (h5 i (hm i hi) j hj))) ?_);rw [h3]; congr 1;rw [yg,List.filter_eq_nil_iff.2 (λi hi=>by rw [hp i hi]; simp),L9];rw [MC.2 (λi hi=>?_)];have:i∉pre:=λh=>(List.nodup_append.1 hnd).2.2 i h i hi rfl;rw [ED.2 (λh=>this (hm i h))]; rfl
def hSz(hs:jV):Prop:=∀ z h,fH z hs=some h->h.l.length<=1000/\∀ k,(fU k h.es).2.2.length<=1000
section
variable {m:dU}{s:iM}{r:ARules}{aN:Int}{dR:List aM}{hs:jV}{o:aM}{gh gs SF gh2 gs2 yR:Nat}{A1 A2 A3 B:ah}{n2 n3 nB:Nat}{Sm up:Bool}{c1:Nat}{aGe bJ:Int}{l1 l:List aH}{es1 es:nJ}
theorem akA(h:fH o.jw hs=none):mW ⟨m,s,r,aN,dR,jR hs⟩ o=⟨m,s,r,aN,dR,jR hs⟩:=
  aeh (c:=⟨m,s,r,aN,dR,jR hs⟩) (by show fH o.jw (jR hs)=none; rw [iW,h]; rfl)
theorem gF{z:Int}(h:fH z hs=some F):fH z (jR hs)=some F.pl:=by rw [iW,h]; rfl
theorem akB(h:fH o.jw hs=some F)(hb:(!F.up)=true):mW ⟨m,s,r,aN,dR,jR hs⟩ o=⟨m,s,r,aN,dR,jR hs⟩:=
  Px (c:=⟨m,s,r,aN,dR,jR hs⟩) (gF h) (by show(!F.up||_)=true; rw [hb]; rfl)
theorem aoG(h:fH o.jw hs=some F)(hb:Na s aN o.aB o.To=true):mW ⟨m,s,r,aN,dR,jR hs⟩ o=⟨m,s,r,aN,dR,jR hs⟩:=
  Px (c:=⟨m,s,r,aN,dR,jR hs⟩) (gF h) (by show(_||Na s aN o.aB o.To)=true; rw [hb,Bool.or_true])
abbrev qc(gJ:kS)(iK:aM):=nW gJ.l gJ.es iK.aB
theorem Wv(h:fH o.jw hs=some F)(hr:¬ ((qc F o).2.2=0/\(qc F o).2.1=o.aC/\((iV (qc F o).1).toNat:Int)=o.Sum)):mW ⟨m,s,r,aN,dR,jR hs⟩ o=⟨m,s,r,aN,dR,jR hs⟩:=
  ah6 (c:=⟨m,s,r,aN,dR,jR hs⟩) (gF h) (by rw [show xP F.pl.l F.pl.d o.aB=nW F.l F.es o.aB from aee _ _ _]; exact hr)
abbrev aii(gJ:kS)(iK:ah)(tF:Nat)(vP:aM)(DI:kS)(OD:ah)(RU:Nat):=(⟨gJ.gh,gJ.gs,gJ.gm,iK,tF,gJ.up,gJ.bJ,KM gJ.l gJ.bJ vP.aB (qc DI vP).2.1 vP.Sum (qc DI vP).1,tkM gJ.l gJ.bJ vP.aB (qc DI vP).2.1 vP.Sum (qc DI vP).1 OD RU gJ.es⟩:kS)
theorem akC{T:kS}(h:fH o.jw hs=some F)(hb:(!F.up)=false)(ht:Na s aN o.aB o.To=false)(h1:(qc F o).2.2=0)(h2:(qc F o).2.1=o.aC)(h3:((iV (qc F o).1).toNat:Int)=o.Sum)
    (hg:fH o.To hs=some T) (hk:XK T.l T.bJ o.aB (qc F o).2.1 o.Sum (qc F o).1=false) :
    mW ⟨m,s,r,aN,dR,jR hs⟩ o=⟨m,s,r,aN,dR,jR (gV o.To (aii T A1 n2 o F B nB) hs)⟩:=by
  have hR:xP F.pl.l F.pl.d o.aB=nW F.l F.es o.aB:=aee _ _ _;have:=aei (c:=⟨m,s,r,aN,dR,jR hs⟩) (gF h) (by show(!F.up||Na s aN o.aB o.To)=false; rw [hb,ht]; rfl) (by rw [hR]; exact⟨h1,h2,h3⟩) (gF hg) (by rw [hR]; exact hk);rw [this,hR,yO]; unfold kS.pl; simp only; rw [ah4]
theorem YQ{T:kS}(L2:List bB)(h:fH o.jw hs=some F)(hb:(!F.up)=false)(ht:Na s aN o.aB o.To=false)(h1:(qc F o).2.2=0)(h2:(qc F o).2.1=o.aC)(h3:((iV (qc F o).1).toNat:Int)=o.Sum)
    (hg:fH o.To hs=some T) (hk:XK T.l T.bJ o.aB (qc F o).2.1 o.Sum (qc F o).1=true) (hL:(if JW s.bY o.aB o.To=0 then yM s.bY o.aB o.To else s.bY)=L2) :
    mW ⟨m,s,r,aN,dR,jR hs⟩ o=⟨AU m ⟨0,0,5,o.aB,o.To,(qc F o).2.1⟩,⟨s.dX,L2,s.dM⟩,r,aN,dR,jR (gV o.To (aii T A1 n2 o F B nB) hs)⟩:=by
  have hR:xP F.pl.l F.pl.d o.aB=nW F.l F.es o.aB:=aee _ _ _;have:=aej (c:=⟨m,s,r,aN,dR,jR hs⟩) (gF h) (by show(!F.up||Na s aN o.aB o.To)=false; rw [hb,ht]; rfl) (by rw [hR]; exact⟨h1,h2,h3⟩) (gF hg) (by rw [hR]; exact hk);rw [this,hR,yO,<- hL]; unfold kS.pl; simp only; rw [ah4]
end
abbrev dx(gJ:dU)(iK:iM)(tF:ARules)(vP:Int)(DI:List aM)(OD:jV):=(⟨gJ,iK,tF,vP,DI,jR OD⟩:PC)
abbrev aCj:=List.toArray [true,true,true,true,true,true,true,true,true,true,true,true,true,true,true,true,true,true,true,true,true,true,true,true,true,true]
abbrev TJ(gJ:Nat)(iK:ah)(tF:Nat)(vP:ah)(DI:Nat)(OD:ah)(RU:Nat)(XC:ah)(y8z:Nat)(y9z:ah)(Pz:Nat)(PD:ah)(PE:Nat)(PG:ah)(PI:Nat)(BK:dU)(BL:iM)(aaV:ARules)(aaW:Int)(PK:Nat)(PL:List aM)(aaX:jV)(aaY:List lC):=Iu gJ iK tF vP DI OD RU XC y8z y9z Pz PD PE PG PI BK BL aaV aaW PK PL::dP bX iK tF BK.aY::dP bH vP DI BK.aA::dP bZ OD RU BK.aQ::dP iL XC y8z BL.dX::dP dB y9z Pz BL.bY::dP bF PD PE BL.dM::aR bF 112 PG PI PL::jF PK aaX::aaY
abbrev PO(gJ:iM):=(⟨gJ.dX,gJ.bY,gJ.dM⟩:iM)
theorem aev{F:List lC}{gh gs yR:Nat}{Ah:ah}{ch:Nat}{up:Bool}{bJ:Int}{l:List aH}(H0:Hp b S w (TJ iT A1 c1 A2 c2 A3 c3 A4 c4 A5 c5 A6 c6 A7 c7 m s r aN gm dR hs F))(o:aM)(hm:qz m=true)(hb:s.dX.length<=1000)(hl:s.bY.length<=64)(hd:s.dM.length<=50000)(hz:hSz hs)(hg:fH o.To hs=some ⟨gh,gs,yR,Ah,ch,up,bJ,l,es⟩) :
    bO prog 162 #[fP iT,.agg #[aD o.Kind,aD o.aB,aD o.aC,fT o.Sum,aD o.jw,aD o.To,aD o.kG],fP gh] w λv w'=>∃(B1:ah)(d1:Nat)(B2:ah)(d2:Nat)(B3:ah)(d3:Nat)(B5:ah)(d5:Nat)(hs1:jV),v=.tuple #[]/\jR hs1=(mW (dx m s r aN dR hs) o).hs/\Hp b S w' (Iu iT B1 d1 B2 d2 B3 d3 A4 c4 B5 d5 A6 c6 A7 c7 ((mW (dx m s r aN dR hs) o).m) ((mW (dx m s r aN dR hs) o).s) r aN gm dR::dP bX B1 d1 (((mW (dx m s r aN dR hs) o).m).aY)::dP bH B2 d2 (((mW (dx m s r aN dR hs) o).m).aA)::dP bZ B3 d3 (((mW (dx m s r aN dR hs) o).m).aQ)::dP iL A4 c4 (((mW (dx m s r aN dR hs) o).s).dX)::dP dB B5 d5 (((mW (dx m s r aN dR hs) o).s).bY)::dP bF A6 c6 (((mW (dx m s r aN dR hs) o).s).dM)::aR bF 112 A7 c7 dR::jF gm hs1::F):=by
 refine sF func162 ntmps162 Y<|rg<|bx Y Y H0 λg1 w1 K1=>dn ?_
 rcases hg1:fH o.jw hs with _ | ⟨TF,gs1,SF,Ah1,ch1,Sm,TG,l1,es1⟩
 ·refine qo ak ak<|bD (bA Y) Y<|bD (dS Y) Y<|bD (eF (q:=⟨iT,13,none⟩) qQ Y Y) Y<|bD (cu RX Y (K1.x s1) Y) Y<|bD (eF (q:=⟨g1,4,none⟩) Vy Y Y) Y<|bD (cu jG Y (K1.x s0) Y) Y<|bD (Ev.hN K1 s9 hg1 zZ vw rJ Y Y) Y<|bD (nP Y) Y<|qp λw2 e2=>?_
  have K2:=K1.grow e2;refine aZ<|bQ Y<|ev (Ev.aj5 yN Y Y)<|mv Y<|eB<|eB<|eB<|eB<|eB<|ev (dY Y Y)<|mv Y<|eB<|eB<|eB<|eB<|eB<|eB<|ev (dY Y Y)<|dn<|bR Y (λ_h=>?_) nofun
  refine vG Y ?_;have hcp:mW (dx m s r aN dR hs) o=(dx m s r aN dR hs):=akA hg1;rw [show(mW (dx m s r aN dR hs) o).m=m from by rw [hcp]];rw [show(mW (dx m s r aN dR hs) o).s=s from by rw [hcp]];exact⟨A1,c1,A2,c2,A3,c3,A5,c5,hs,Y,(by rw [hcp]),(K2.rm s0)⟩
 ·have hzf:=hz _ _ hg1;refine qo ak ak<|bD (bA Y) Y<|bD (dS Y) Y<|bD (eF (q:=⟨iT,13,none⟩) qQ Y Y) Y<|bD (cu RX Y (K1.x s1) Y) Y<|bD (eF (q:=⟨g1,4,none⟩) Vy Y Y) Y<|bD (cu jG Y (K1.x s0) Y) Y<|bD (Ev.hS K1 s9 hg1 zZ vw rJ Y Y) Y<|bD (nP Y) Y<|qp λw3 e3=>?_
  have K3:=K1.grow e3;refine aZ<|bQ Y<|ev (Ev.aj5 yN Y Y)<|mv Y<|bG Y (bA Y) Y<|bG Y (dS Y) Y<|gfy TF 1 G8 Y<|bG Y (cu agq Y (K3.AP s9 hg1) Y) Y<|bG Y (gZ Y) Y<|ev (eG Y Y)<|mv Y ?_
  cases ajp:(!Sm) with
  | true=>
   refine eB<|eB<|eB<|eB<|eB<|eB<|ev (dY Y Y)<|dn<|bR Y (λ_h=>?_) nofun
   refine vG Y ?_;have hcp:mW (dx m s r aN dR hs) o=(dx m s r aN dR hs):=akB hg1 ajp;rw [show(mW (dx m s r aN dR hs) o).m=m from by rw [hcp]];rw [show(mW (dx m s r aN dR hs) o).s=s from by rw [hcp]];exact⟨A1,c1,A2,c2,A3,c3,A5,c5,hs,Y,(by rw [hcp]),(K3.rm s0)⟩
  | false=>
   refine bG Y (bA Y) Y<|wP g1 1 rY K3 s0 Y<|wP g1 5 yA K3 s0 Y<|nu Y Y Y Y aou (ael (m:=m) (s:=s) (r:=r) ((K3.sel s0).mV 1 9) o.aB o.To hb hl hd) Y ?_
   rintro _ w4 ⟨rfl,K4⟩;refine ev (eG Y Y)<|dn<|bR Y (λML=>?_) (λML=>?_)
   ·refine vG Y ?_;have hcp:mW (dx m s r aN dR hs) o=(dx m s r aN dR hs):=aoG hg1 ML;rw [show(mW (dx m s r aN dR hs) o).m=m from by rw [hcp]];rw [show(mW (dx m s r aN dR hs) o).s=s from by rw [hcp]];exact⟨A1,c1,A2,c2,A3,c3,A5,c5,hs,Y,(by rw [hcp]),(K4.rm s9)⟩
   refine jh ?_;refine He K4 (λ_ K=>K) (λl0 rk lJ wJ=>∃(jE:ah)(jB:Nat),lJ=(7,.slice jE (((nW l1 es1 o.aB).1).length) jB)::(8,aD ((nW l1 es1 o.aB).2.1))::(9,aD ((nW l1 es1 o.aB).2.2))::l0/\Hp b S wJ (aR gu 5 jE jB ((nW l1 es1 o.aB).1)::rk)) (λhns H1=>?_) ?_
   ·refine sw 0 TF 0 vJ Y H1<|lH 3 Y (λ_ hK=>cu Pg Y (hK.AP s8 hg1) Y) H1<|mD 4 5 g1 1 rY s9 Y H1<|O1 6 Y ?_
    have H2:=H1.uO s8 hg1;refine gW Y (ad5 ((H2.sel s0).mV 1 4) o.aB (lG hzf.1 au) (hzf.2 _)) ?_;rintro _ w5 ⟨xA,xB,rfl,K5⟩;have H3:=Ri hg1 ((((K5.sel s0).sel s6).mV 2 4).sel s6);have k1:=(((H3.rm s1).sel s0).mV 1 8);refine aP k1<|kT 7 Y Y k1<|yj 8 Y (vs:=[.slice xA (((nW l1 es1 o.aB).1).length) xB,aD ((nW l1 es1 o.aB).2.1),aD ((nW l1 es1 o.aB).2.2)]) Y Y k1<|yj 9 Y (vs:=[.slice xA (((nW l1 es1 o.aB).1).length) xB,aD ((nW l1 es1 o.aB).2.1),aD ((nW l1 es1 o.aB).2.2)]) Y Y k1<|yj 10 Y (vs:=[.slice xA (((nW l1 es1 o.aB).1).length) xB,aD ((nW l1 es1 o.aB).2.1),aD ((nW l1 es1 o.aB).2.2)]) Y Y k1<|xJ 11 Y Y k1<|xJ 12 Y Y k1<|xJ 13 Y Y k1<|Dn ⟨xA,xB,Y,((H3.sel s0).mV 1 9)⟩ Y
   rintro _ w6 ⟨jE,jB,rfl,K6⟩;refine aZ<|WP.dr ak ?_
   have H4:=K6.grow (om w6).drew;refine X7 H4 [(0,47,aD ((nW l1 es1 o.aB).2.2)),(1,48,.bool (!decide ((nW l1 es1 o.aB).2.2=0))),(2,49,.bool (!decide ((nW l1 es1 o.aB).2.2=0)))] 23 ak (ER Y (λ_ hK=>(bA Y))<|ER Y (λ_ hK=>(rz Y Y))<|ER Y (λ_ hK=>(bA Y))<|X8) λw7 K7=>?_
   cases akD:(!decide ((nW l1 es1 o.aB).2.2=0)) with
   | true=>
    have azA:=nS akD;refine X7 K7 [(3,50,undef),(4,51,undef),(5,52,undef),(6,53,undef),(7,54,.bool true),(8,55,.bool true),(9,56,undef),(11,58,undef),(10,57,undef),(12,59,undef),(13,60,undef),(14,61,.bool true),(15,62,.bool true),(16,63,undef),(17,64,undef),(19,66,undef),(20,67,undef),(22,69,undef),(18,65,undef),(21,68,undef),(23,70,undef),(24,71,undef),(25,72,.bool true)] 0 (KS [0,1,2] ak) (yt Y<|yt Y<|yt Y<|yt Y<|ER Y (λ_ hK=>(dY Y Y))<|ER Y (λ_ hK=>(bA Y))<|yt Y<|yt Y<|yt Y<|yt Y<|yt Y<|ER Y (λ_ hK=>(dY Y Y))<|ER Y (λ_ hK=>(bA Y))<|yt Y<|yt Y<|yt Y<|yt Y<|yt Y<|yt Y<|yt Y<|yt Y<|yt Y<|ER Y (λ_ hK=>(dY Y Y))<|X8) λw8 K8=>?_;refine WI.dn ak<|bR Y (λ_h=>?_) nofun
    refine vG Y ?_;have hcp:mW (dx m s r aN dR hs) o=(dx m s r aN dR hs):=Wv hg1 (by rintro⟨h1,h2,h3⟩; simp [h1] at akD);rw [show(mW (dx m s r aN dR hs) o).m=m from by rw [hcp]];rw [show(mW (dx m s r aN dR hs) o).s=s from by rw [hcp]];exact⟨A1,c1,A2,c2,A3,c3,A5,c5,hs,Y,(by rw [hcp]),((K8.rm s10).rm s0)⟩
   | false=>
    have azA:=nT akD;refine X7 K7 [(3,50,aD ((nW l1 es1 o.aB).2.1)),(4,51,.pointer (some ⟨g1,2,none⟩)),(5,52,aD o.aC),(6,53,.bool (!decide ((nW l1 es1 o.aB).2.1=o.aC))),(7,54,.bool (!decide ((nW l1 es1 o.aB).2.1=o.aC))),(8,55,.bool (!decide ((nW l1 es1 o.aB).2.1=o.aC)))] 17 (KS [0,1,2] ak) (KX Y (λ_ hK=>(bA Y))<|KX Y (λ_ hK=>(eF (q:=⟨g1,2,none⟩) aes Y Y))<|KX Y (λ_ hK=>(cu jG Y (hK.x s10) Y))<|KX Y (λ_ hK=>(rz Y Y))<|ER Y (λ_ hK=>(eG Y Y))<|ER Y (λ_ hK=>(bA Y))<|X8) λw9 K9=>?_
    cases akE:(!decide ((nW l1 es1 o.aB).2.1=o.aC)) with
    | true=>
     have azB:=nS akE;refine X7 K9 [(9,56,undef),(11,58,undef),(10,57,undef),(12,59,undef),(13,60,undef),(14,61,.bool true),(15,62,.bool true),(16,63,undef),(17,64,undef),(19,66,undef),(20,67,undef),(22,69,undef),(18,65,undef),(21,68,undef),(23,70,undef),(24,71,undef),(25,72,.bool true)] 0 (KS [0,1,2,3,4,5,6,7,8] ak) (yt Y<|yt Y<|yt Y<|yt Y<|yt Y<|ER Y (λ_ hK=>(dY Y Y))<|ER Y (λ_ hK=>(bA Y))<|yt Y<|yt Y<|yt Y<|yt Y<|yt Y<|yt Y<|yt Y<|yt Y<|yt Y<|ER Y (λ_ hK=>(dY Y Y))<|X8) λNn K10=>?_;refine WI.dn ak<|bR Y (λ_h=>?_) nofun
     refine vG Y ?_;have hcp:mW (dx m s r aN dR hs) o=(dx m s r aN dR hs):=Wv hg1 (by rintro⟨h1,h2,h3⟩; simp [h2] at akE);rw [show(mW (dx m s r aN dR hs) o).m=m from by rw [hcp]];rw [show(mW (dx m s r aN dR hs) o).s=s from by rw [hcp]];exact⟨A1,c1,A2,c2,A3,c3,A5,c5,hs,Y,(by rw [hcp]),((K10.rm s10).rm s0)⟩
    | false=>
     have azB:=nT akE;refine X7 K9 [(9,56,.slice jE (((nW l1 es1 o.aB).1).length) jB),(11,58,.pointer (some ⟨g1,3,none⟩)),(10,57,fT ((iV ((nW l1 es1 o.aB).1)).toNat:Int)),(12,59,fT o.Sum),(13,60,.bool (!decide (((iV ((nW l1 es1 o.aB).1)).toNat:Int)=o.Sum))),(14,61,.bool (!decide (((iV ((nW l1 es1 o.aB).1)).toNat:Int)=o.Sum))),(15,62,.bool (!decide (((iV ((nW l1 es1 o.aB).1)).toNat:Int)=o.Sum)))] 10 (KS [0,1,2,3,4,5,6,7,8] ak) (KX Y (λ_ hK=>(bA Y))<|KX Y (λ_ hK=>(eF (q:=⟨g1,3,none⟩) aeu Y Y))<|qcz Y (Qi.abK Y Y Y Y an0 (λ_ hK=>(V9 _ (hK.o s0)).mono (by rintro _ _ ⟨rfl,fG⟩; exact⟨rfl,hK.grow fG.ext⟩)))<|KX rfl (λ_ hK=>(cu UH rfl (hK.x s10) rfl))<|KX rfl (λ_ hK=>(rz rfl rfl))<|ER rfl (λ_ hK=>(eG rfl rfl))<|ER rfl (λ_ hK=>(bA rfl))<|X8) λRG tO=>?_
     cases akF:(!decide (((iV ((nW l1 es1 o.aB).1)).toNat:Int)=o.Sum)) with
     | true=>
      have azC:=nS akF;refine X7 tO [(16,63,undef),(17,64,undef),(19,66,undef),(20,67,undef),(22,69,undef),(18,65,undef),(21,68,undef),(23,70,undef),(24,71,undef),(25,72,.bool true)] 0 (KS [0,1,2,3,4,5,6,7,8,9,10,11,12,13,14,15] ak) (yt Y<|yt Y<|yt Y<|yt Y<|yt Y<|yt Y<|yt Y<|yt Y<|yt Y<|ER Y (λ_ hK=>(dY Y Y))<|X8) λQp rW=>?_;refine WI.dn ak<|bR Y (λ_h=>?_) nofun
      refine vG Y ?_;have hcp:mW (dx m s r aN dR hs) o=(dx m s r aN dR hs):=Wv hg1 (by rintro⟨h1,h2,h3⟩; simp [h3] at akF);rw [show(mW (dx m s r aN dR hs) o).m=m from by rw [hcp]];rw [show(mW (dx m s r aN dR hs) o).s=s from by rw [hcp]];exact⟨A1,c1,A2,c2,A3,c3,A5,c5,hs,Y,(by rw [hcp]),((rW.rm s10).rm s0)⟩
     | false=>
      have azC:=nT akF;refine X7 tO [(16,63,fP gh),(17,64,.pointer (some ⟨g1,1,none⟩)),(19,66,aD ((nW l1 es1 o.aB).2.1)),(20,67,.pointer (some ⟨g1,3,none⟩)),(22,69,.slice jE (((nW l1 es1 o.aB).1).length) jB),(18,65,aD o.aB),(21,68,fT o.Sum)] 3 (KS [0,1,2,3,4,5,6,7,8,9,10,11,12,13,14,15] ak) (KX Y (λ_ hK=>(bA Y))<|KX Y (λ_ hK=>(eF (q:=⟨g1,1,none⟩) rY Y Y))<|KX Y (λ_ hK=>(bA Y))<|KX Y (λ_ hK=>(eF (q:=⟨g1,3,none⟩) aeu Y Y))<|KX Y (λ_ hK=>(bA Y))<|KX Y (λ_ hK=>(cu jG Y (hK.x s10) Y))<|KX Y (λ_ hK=>(cu UH Y (hK.x s10) Y))<|X8) λWO vC=>?_;refine WI.one 23 ak Y ?_;have H5:=vC.uO s9 hg;have H6:=H5.fz s6;have H7:=H6.push (H6.s s0);refine nu Y Y Y Y awg (YP ((H7.mV 0 2).mV 2 5) o.aB ((nW l1 es1 o.aB).2.1) o.Sum (hz _ _ hg).1) Y ?_;rintro _ Xv ⟨YR,YS,YT,YU,rfl,vo⟩;have H8:=G7 hg ((vo.sel s5).mV 1 6);refine WI.nx<|X7 H8 [(24,71,.bool (!(XK l bJ o.aB ((nW l1 es1 o.aB).2.1) o.Sum ((nW l1 es1 o.aB).1)))),(25,72,.bool (!(XK l bJ o.aB ((nW l1 es1 o.aB).2.1) o.Sum ((nW l1 es1 o.aB).1))))] 0 ak (KX Y (λ_ hK=>(gZ Y))<|ER Y (λ_ hK=>(eG Y Y))<|X8) λYg yX=>?_
      refine WI.dn ak<|bR Y (λarY=>?_) (λarY=>?_)
      ·refine vG Y ?_;have hcp:mW (dx m s r aN dR hs) o=(⟨m,s,r,aN,dR,jR (gV o.To (⟨gh,gs,yR,YR,YS,up,bJ,(KM l bJ o.aB ((nW l1 es1 o.aB).2.1) o.Sum ((nW l1 es1 o.aB).1)),(tkM l bJ o.aB ((nW l1 es1 o.aB).2.1) o.Sum ((nW l1 es1 o.aB).1) YT YU es)⟩:kS) hs)⟩:PC):=akC (F:=⟨TF,gs1,SF,Ah1,ch1,Sm,TG,l1,es1⟩) (T:=⟨gh,gs,yR,Ah,ch,up,bJ,l,es⟩) hg1 ajp ML (by simpa using akD) (by simpa using akE) (by simpa using akF) hg (by simpa using arY);rw [show(mW (dx m s r aN dR hs) o).m=m from by rw [hcp]];rw [show(mW (dx m s r aN dR hs) o).s=s from by rw [hcp]];exact⟨A1,c1,A2,c2,A3,c3,A5,c5,(gV o.To (⟨gh,gs,yR,YR,YS,up,bJ,(KM l bJ o.aB ((nW l1 es1 o.aB).2.1) o.Sum ((nW l1 es1 o.aB).1)),(tkM l bJ o.aB ((nW l1 es1 o.aB).2.1) o.Sum ((nW l1 es1 o.aB).1) YT YU es)⟩:kS) hs),Y,(by rw [hcp]),((((yX.rm s10).rm s1).sel s0).mV 1 8)⟩
      refine jh ?_;refine aZ<|He yX (λ_ K=>K) (λl0 rk lJ wJ=>∃(oQ:ah)(cj2:Nat),lJ=(10,.slice oQ ((yM s.bY o.aB o.To).length) cj2)::(11,aD (JW s.bY o.aB o.To))::l0/\Hp b S wJ (aR dB 117 oQ cj2 (yM s.bY o.aB o.To)::rk)) (λhns H9=>?_) ?_
      ·refine sw 0 iT 3 yQ Y H9<|mD 3 4 iT 4 wS s2 Y H9<|mD 5 6 g1 1 rY s10 Y H9<|mD 7 8 g1 5 yA s10 Y H9<|O1 9 Y<|gW Y (aki _ (H9.s s7).any o.aB o.To (lG hl au)) ?_
       rintro _ w16 ⟨Og,Oh,rfl,h16⟩;have Bv:=H9.f1 h16;have k2:=(Bv.rm s0);refine aP k2<|kT 10 Y Y k2<|yj 11 Y (vs:=[.slice Og ((yM s.bY o.aB o.To).length) Oh,aD (JW s.bY o.aB o.To)]) Y Y k2<|yj 12 Y (vs:=[.slice Og ((yM s.bY o.aB o.To).length) Oh,aD (JW s.bY o.aB o.To)]) Y Y k2<|xJ 13 Y Y k2<|xJ 14 Y Y k2<|Dn ⟨Og,Oh,Y,Bv⟩ Y
      rintro _ w17 ⟨oQ,cj2,rfl,xS⟩;refine bQ Y<|ev (iP Y Y)<|dn<|kX Y (λawi=>?_) (λawi=>?_)
      ·refine jr<|mv Y<|mv Y<|ev (dS Y)<|wC iT 3 yQ Y<|wC iT 4 wS Y<|wD Y xS s3 Y λw18 FR=>jv<|gB<|jr<|mv Y<|jD g1 1 rY FR s11 Y<|jD g1 5 yA FR s11 Y<|mv Y<|ev (iE (vs:=[(2,aD 5),(3,aD o.aB),(4,aD o.To),(5,aD ((nW l1 es1 o.aB).2.1))]) (cs:=[aD 0,aD 0,aD 5,aD o.aB,aD o.To,aD ((nW l1 es1 o.aB).2.1)]) Y (by apply pY)) ?_
       have H10:=FR.fz s1;refine gW Y (xQ (m:=m) (s:=(⟨s.dX,yM s.bY o.aB o.To,s.dM⟩:iM)) (r:=r) (((((H10.sel s8).mV 3 2).mV 9 2).sel s5).mV 6 5) (⟨0,0,5,o.aB,o.To,(nW l1 es1 o.aB).2.1⟩:gD) hm Y) ?_;rintro _ w19 ⟨azD,azE,azF,azG,azH,azI,rfl,Bf⟩;refine jv<|qA (zD Y ?_)
       have hcp:mW (dx m s r aN dR hs) o=(⟨(AU m (⟨0,0,5,o.aB,o.To,(nW l1 es1 o.aB).2.1⟩:gD)),(⟨s.dX,yM s.bY o.aB o.To,s.dM⟩:iM),r,aN,dR,jR (gV o.To (⟨gh,gs,yR,YR,YS,up,bJ,(KM l bJ o.aB ((nW l1 es1 o.aB).2.1) o.Sum ((nW l1 es1 o.aB).1)),(tkM l bJ o.aB ((nW l1 es1 o.aB).2.1) o.Sum ((nW l1 es1 o.aB).1) YT YU es)⟩:kS) hs)⟩:PC):=YQ (F:=⟨TF,gs1,SF,Ah1,ch1,Sm,TG,l1,es1⟩) (T:=⟨gh,gs,yR,Ah,ch,up,bJ,l,es⟩) _ hg1 ajp ML (by simpa using akD) (by simpa using akE) (by simpa using akF) hg (by simpa using arY) (aO awi);rw [show(mW (dx m s r aN dR hs) o).m=(AU m (⟨0,0,5,o.aB,o.To,(nW l1 es1 o.aB).2.1⟩:gD)) from by rw [hcp]];rw [show(mW (dx m s r aN dR hs) o).s=(⟨s.dX,yM s.bY o.aB o.To,s.dM⟩:iM) from by rw [hcp]];exact⟨azD,azE,azF,azG,azH,azI,oQ,cj2,(gV o.To (⟨gh,gs,yR,YR,YS,up,bJ,(KM l bJ o.aB ((nW l1 es1 o.aB).2.1) o.Sum ((nW l1 es1 o.aB).1)),(tkM l bJ o.aB ((nW l1 es1 o.aB).2.1) o.Sum ((nW l1 es1 o.aB).1) YT YU es)⟩:kS) hs),Y,(by rw [hcp]),(Bf.cU 9 3)⟩
      refine jh ?_;refine jr<|mv Y<|jD g1 1 rY xS s11 Y<|jD g1 5 yA xS s11 Y<|mv Y<|ev (iE (vs:=[(2,aD 5),(3,aD o.aB),(4,aD o.To),(5,aD ((nW l1 es1 o.aB).2.1))]) (cs:=[aD 0,aD 0,aD 5,aD o.aB,aD o.To,aD ((nW l1 es1 o.aB).2.1)]) Y (by apply pY))<|gW rfl (xQ (m:=m) (s:=s) (r:=r) ((((xS.sel s2).sel s1).sel s2).mV 3 8) (⟨0,0,5,o.aB,o.To,(nW l1 es1 o.aB).2.1⟩:gD) hm rfl) ?_
      rintro _ w20 ⟨aox,aoy,aoz,aoA,aoB,aoC,rfl,DL⟩;refine jv<|qA (zD Y ?_)
      have hcp:mW (dx m s r aN dR hs) o=(⟨(AU m (⟨0,0,5,o.aB,o.To,(nW l1 es1 o.aB).2.1⟩:gD)),(PO s),r,aN,dR,jR (gV o.To (⟨gh,gs,yR,YR,YS,up,bJ,(KM l bJ o.aB ((nW l1 es1 o.aB).2.1) o.Sum ((nW l1 es1 o.aB).1)),(tkM l bJ o.aB ((nW l1 es1 o.aB).2.1) o.Sum ((nW l1 es1 o.aB).1) YT YU es)⟩:kS) hs)⟩:PC):=YQ (F:=⟨TF,gs1,SF,Ah1,ch1,Sm,TG,l1,es1⟩) (T:=⟨gh,gs,yR,Ah,ch,up,bJ,l,es⟩) _ hg1 ajp ML (by simpa using akD) (by simpa using akE) (by simpa using akF) hg (by simpa using arY) (aK awi);rw [show(mW (dx m s r aN dR hs) o).m=(AU m (⟨0,0,5,o.aB,o.To,(nW l1 es1 o.aB).2.1⟩:gD)) from by rw [hcp]];rw [show(mW (dx m s r aN dR hs) o).s=(PO s) from by rw [hcp]];have d9:(s.dX:List eZ)=((PO s).dX):=by simp
      have fG:(s.bY:List bB)=((PO s).bY):=by simp
      have jQ:(s.dM:List aM)=((PO s).dM):=by simp
      exact⟨aox,aoy,aoz,aoA,aoB,aoC,A5,c5,(gV o.To (⟨gh,gs,yR,YR,YS,up,bJ,(KM l bJ o.aB ((nW l1 es1 o.aB).2.1) o.Sum ((nW l1 es1 o.aB).1)),(tkM l bJ o.aB ((nW l1 es1 o.aB).2.1) o.Sum ((nW l1 es1 o.aB).1) YT YU es)⟩:kS) hs),Y,(by rw [hcp]),by rw [<- d9,<- fG,<- jQ]; exact(DL.cU 9 3)⟩
theorem akG(w:World)(x:aH){g_o:Nat}(o:aM)(h_o:Bx w g_o 112 [aD o.Kind,aD o.aB,aD o.aC,fT o.Sum,aD o.jw,aD o.To,aD o.kG]) :
    bO prog 163 #[.agg #[aD x.aB,aD x.aC,fT x.Sum,.bool x.fO,.bool x.Bad],fP g_o] w λv w'=>v=.bool (agG o x)/\Hp w S0 w' []:=by
 refine j4 S0 func163 ntmps163 Y λH0=>rg<|bx Y Y H0 λg1 w1 K1=>bS Y<|rg<|jD g1 0 lZ K1 s0 Y<|wC g_o 1 rY Y<|ev (cu jG Y (h_o.ext K1.ext) Y)<|ev (iP Y Y)<|mv Y<|iG 6 15 ((decide (x.aB=o.aB))&&(decide (x.aC=o.aC))) ?_ ?_
 ·cases hb9:decide (x.aB=o.aB) with
  | true=>
   refine wP g1 1 su K1 s0 Y<|gfy g_o 2 aes Y<|bG Y (cu jG Y (h_o.ext K1.ext) Y) Y<|bG Y (iP Y Y) Y<|ev (dY Y Y)<|dI Y
  | false=>
   refine eB<|eB<|eB<|eB<|eB<|ev (eG Y Y)<|dI Y
 refine bS Y<|iI Y ?_
 have d9:(((decide (x.aB=o.aB))&&(decide (x.aC=o.aC))):Bool)=(agG o x):=by rfl
 exact⟨by rw [d9] <;> rfl,(K1.rm s0)⟩
theorem aoH{F:List lC}{gh gs yR:Nat}{Ah:ah}{ch:Nat}{up:Bool}{bJ:Int}{l:List aH}(H0:Hp b S w (TJ iT A1 c1 A2 c2 A3 c3 A4 c4 A5 c5 A6 c6 A7 c7 m s r aN gm dR hs F))(o:aM)(hm:qz m=true)(hb:s.dX.length<=1000)(hl:s.bY.length<=64)(hd:s.dM.length<=50000)(hz:hSz hs)(hg:fH o.To hs=some ⟨gh,gs,yR,Ah,ch,up,bJ,l,es⟩) :
    bO prog 98 #[fP iT,.agg #[aD o.Kind,aD o.aB,aD o.aC,fT o.Sum,aD o.jw,aD o.To,aD o.kG],fP gh] w λv w'=>∃(B1:ah)(d1:Nat)(B2:ah)(d2:Nat)(B3:ah)(d3:Nat)(B5:ah)(d5:Nat)(hs1:jV),v=.tuple #[]/\jR hs1=(uq (dx m s r aN dR hs) o).hs/\Hp b S w' (Iu iT B1 d1 B2 d2 B3 d3 A4 c4 B5 d5 A6 c6 A7 c7 ((uq (dx m s r aN dR hs) o).m) ((uq (dx m s r aN dR hs) o).s) r aN gm dR::dP bX B1 d1 (((uq (dx m s r aN dR hs) o).m).aY)::dP bH B2 d2 (((uq (dx m s r aN dR hs) o).m).aA)::dP bZ B3 d3 (((uq (dx m s r aN dR hs) o).m).aQ)::dP iL A4 c4 (((uq (dx m s r aN dR hs) o).s).dX)::dP dB B5 d5 (((uq (dx m s r aN dR hs) o).s).bY)::dP bF A6 c6 (((uq (dx m s r aN dR hs) o).s).dM)::aR bF 112 A7 c7 dR::jF gm hs1::F):=by
 refine sF func98 ntmps98 Y<|rg<|bx Y Y H0 λg1 w1 K1=>dn<|aZ<|rg<|jD g1 0 aoF K1 s0 Y<|ev (iP Y Y)<|dn<|kX Y (λFQ=>?_) (λFQ=>?_)
 ·refine bQ Y<|ev (dK vk Y Y (K1.x s0))<|mv Y<|gW Y (aev (m:=m) (s:=s) (r:=r) ((K1.sel s0).mV 1 9) o hm hb hl hd hz hg) ?_
  rintro _ w2 ⟨akp,akq,akr,aks,akt,aku,aEu,aEv,azJ,rfl,aEw,K2⟩;refine dn<|vG Y ?_
  have hcp:uq (dx m s r aN dR hs) o=mW (dx m s r aN dR hs) o:=by unfold uq; rw [aO FQ]
  rw [show(uq (dx m s r aN dR hs) o).m=(mW (dx m s r aN dR hs) o).m from by rw [hcp]];rw [show(uq (dx m s r aN dR hs) o).s=(mW (dx m s r aN dR hs) o).s from by rw [hcp]];exact⟨akp,akq,akr,aks,akt,aku,aEu,aEv,azJ,Y,(by rw [hcp]; exact aEw),(K2.rm s9)⟩
 refine jh ?_;refine rg<|ev (qC Y)<|bS Y<|bQ Y<|ev (dS Y)<|wC gh 0 vJ Y<|ev (cu Pg Y (K1.AP s9 hg) Y) ?_
 have H1:=K1.uO s9 hg;refine gW Y (M6 ((H1.sel s0).mV 1 4) (lG (hz _ _ hg).1 au)) ?_;rintro _ w3 ⟨mR,mU,rfl,K3⟩;have H2:=Ri hg ((((K3.sel s0).sel s6).mV 2 4).sel s6);refine mv Y<|lF H2 Y (Dq _ (H2.o s1) (yV:=[fP g1]) awh (fun(x:aH)=>agG o x) (λw' x e hm=>(akG (S0:=Any) w' x o ((H2.x s2).ext e)).mono (by rintro _ _ ⟨rfl,fG⟩; exact⟨rfl,fG.ext⟩))) λw4 K4=>dn<|bR rfl (λhc21=>?_) (λhc21=>?_)
 ·refine Hf K4 (λ_ K=>(K.rm s0)) (λl0 rk lJ wJ=>∃(jE:ah)(jB:Nat),lJ=l0/\Hp b S wJ (jF gm (gV o.To (⟨gh,gs,yR,jE,jB,up,bJ,(AJ l o.aB),(M5 l o.aB es)⟩:kS) hs)::rk)) (λhns H3=>?_) ?_
  ·have k1:=(H3.rm s0);refine sw 0 gh 0 vJ Y k1<|mD 4 5 g1 1 rY s1 Y k1<|O1 3 Y<|ev (cu Pg Y (H3.AP s0 hg) Y)<|aP k1<|O1 6 Y ?_
   have H4:=H3.uO s0 hg;refine gW Y (Wj ((H4.sel s0).mV 1 4) o.aB (lG (hz _ _ hg).1 au)) ?_;rintro _ w5 ⟨aEx,aEy,rfl,K5⟩;have H5:=G7 hg ((K5.mV 0 4).sel s4);have k2:=(H5.rm s0);refine aP k2<|Dn ⟨aEx,aEy,Y,H5⟩ Y
  rintro _ w6 ⟨jE,jB,rfl,K6⟩;refine qA (zD Y ?_);have hcp:uq (dx m s r aN dR hs) o=_:=aek FQ (gF hg) (by rw [<- hc21]; rfl);rw [show(uq (dx m s r aN dR hs) o).m=m from by rw [hcp]];rw [show(uq (dx m s r aN dR hs) o).s=s from by rw [hcp]];exact⟨A1,c1,A2,c2,A3,c3,A5,c5,(gV o.To (⟨gh,gs,yR,jE,jB,up,bJ,(AJ l o.aB),(M5 l o.aB es)⟩:kS) hs),Y,(by rw [hcp,yO]; show gV o.To (kS.pl _) _=gV o.To _ _; unfold kS.pl; simp only; rw [aom]),(((K6.cU 1 2).sel s0).mV 1 8)⟩
 refine xH (qA (zD Y ?_));have hcp:uq (dx m s r aN dR hs) o=_:=aon FQ (gF hg) (by rw [<- hc21]; rfl);rw [show(uq (dx m s r aN dR hs) o).m=m from by rw [hcp]];rw [show(uq (dx m s r aN dR hs) o).s=s from by rw [hcp]];exact⟨A1,c1,A2,c2,A3,c3,A5,c5,hs,Y,(by rw [hcp]),(((K4.cU 1 2).sel s0).mV 1 8)⟩
theorem pq:dH prog 32 0 0:=ay
theorem Wx{F:List lC}{A:ah}{c:Nat}{xs:List aM}(H0:Hp b S w (aR bF 112 A c xs::F)){j:Nat}(hij:i<j)(hj:j<=xs.length) :
    bO prog 97 #[.slice A xs.length c,aD (i:Int),aD (j:Int)] w λv w'=>v=.slice A (xs.take i++xs.drop j).length c/\Hp b S w' (aR bF 112 A c (xs.take i++xs.drop j)::F):=by
 refine sF func97 ntmps97 Y ?_;have Uw:=(H0.o s0).bN;have hcap:=(H0.o s0).cap;refine iY Y<|bQ Y<|mv Y<|mv Y<|mv Y<|ev (eY kR Y)<|ev (Ev.apT (lo:=i) (hi:=j) (mx:=xs.length) kR xC Y Y Y Y Y Y Y aj hj (H0.o s0).cap)<|dn<|aZ<|bQ Y<|mv Y<|ev (iP Y Y)<|dn<|kX Y (λhc16=>?_) (λhc16=>?_)
 ·omega
 refine jh ?_;refine bQ Y<|ev (eY kR Y)<|bS Y<|He H0 (λ_ K=>(K.rm s0)) (λl0 rk lJ wJ=>lJ=(0,.slice A ((xs.take i++xs.drop j).length) c)::l0/\Hp b S wJ (aR bF 112 A c (xs.take i++xs.drop j)::rk)) (λhns H1=>?_) ?_
 ·have k1:=(H1.rm s0);refine kT 0 Y Y k1<|kT 1 Y Y k1<|kT 3 Y Y k1<|kT 4 Y Y k1<|Jn H1 (λl0 rk lJ wJ=>lJ=(22,.slice A ((xs.take i).length) c)::(25,.slice (rO A c j 7) ((xs.drop j).length) (c - j))::l0/\Hp b S wJ rk) 2 63 ?_ λhS1=>?_
  ·rintro _ w2 ⟨rfl,K2⟩;refine O1 6 Y<|Zh (τ:=bF) (xs:=xs) (i:=i) (j:=j) K2 s0 Y Y kR Dj hij hj λw3 K3=>?_
   have k3:=(K3.rm s0);refine aP k3<|xJ 7 Y Y k3<|Dn ⟨Y,K3⟩ Y
  refine O2 2 5 Y Y ?_ ?_
  ·refine ev (Ey (hi:=i) (xs:=xs) kR xC Y Y Y aj (H1.o s0).cap)<|aP k1<|O1 5 Y<|ev (Ez (lo:=j) (xs:=xs) kR xC Y Y Y aj (H1.o s0).cap)<|Kj hS1 k1 ⟨Y,H1⟩ Y
  ·refine ev (Ez (lo:=j) (xs:=xs) kR xC Y Y Y aj (H1.o s0).cap)<|aP k1<|O1 2 Y<|ev (Ey (hi:=i) (xs:=xs) kR xC Y Y Y aj (H1.o s0).cap)<|Kj hS1 k1 ⟨Y,H1⟩ Y
 rintro _ w4 ⟨rfl,K4⟩;refine bQ Y<|mv Y<|ev (eY kR Y)<|mv Y ?_
 have hln:(xs.take i++xs.drop j).length+(j - i)=xs.length:=by simp only [iO,fE,kN]; omega
 refine ev (Ev.apU (lo:=(xs.take i++xs.drop j).length) (hi:=xs.length) kR xC Y Y Y Y Y aj hcap)<|abV (τ:=bF) (m:=xs.length - (xs.take i++xs.drop j).length) K4 s0 Y kR amR aj λw5 K5=>dn<|bQ Y<|bS Y<|iI Y ?_
 exact⟨Y,K5⟩
theorem aoI(h:it.A<0∨(c.dR.length:Int)<=it.A):mX c it=(c,5):=by unfold mX; rw [aO h]
theorem agK(hi:it.A=((i:Nat):Int))(ho:c.dR[i]? = some o)(h8:it.Kind=8):mX c it=({ c with dR:=c.dR++[o] },0):=by
  have hl:=aJ ho;unfold mX; rw [aK aj,hi,TY,ho]; simp only; rw [aO h8]
theorem aoJ(hi:it.A=((i:Nat):Int))(ho:c.dR[i]? = some o)(h8:¬ it.Kind=8)(h6:it.Kind=6/\c.aN<=o.kG/\M9 c.hs o.To=true):mX c it=(uq { c with dR:=c.dR.take i++c.dR.drop (i+1) } o,0):=by
  have hl:=aJ ho;unfold mX; rw [aK aj,hi,TY,ho]; simp only; rw [aK h8,aO h6]
theorem aew(hi:it.A=((i:Nat):Int))(ho:c.dR[i]? = some o)(h8:¬ it.Kind=8)(h6:¬ (it.Kind=6/\c.aN<=o.kG/\M9 c.hs o.To=true)):mX c it=({ c with dR:=c.dR.take i++c.dR.drop (i+1) },0):=by
  have hl:=aJ ho;unfold mX; rw [aK aj,hi,TY,ho]; simp only; rw [aK h8,aK h6]
theorem aij(c:PC)(o:aM):(uq c o).dR=c.dR/\(uq c o).aN=c.aN/\(uq c o).r=c.r:=by
  unfold uq
  split
  · unfold mW
    split
    · exact⟨Y,Y,Y⟩
    · split
      · exact⟨Y,Y,Y⟩
      · split
        · exact⟨Y,Y,Y⟩
        · split
          · exact⟨Y,Y,Y⟩
          · split <;> exact⟨rfl,rfl,rfl⟩
  · split
    · exact⟨Y,Y,Y⟩
    · split <;> exact⟨rfl,rfl,rfl⟩
abbrev BM(gJ:List aM)(iK:Nat):=gJ.take iK++gJ.drop (iK+1)
theorem Rk{F:List lC}(H0:Hp b S w (TJ iT A1 c1 A2 c2 A3 c3 A4 c4 A5 c5 A6 c6 A7 c7 m s r aN gm dR hs F))(it:AItem)(hm:qz m=true)(hb:s.dX.length<=1000)(hl:s.bY.length<=64)(hd:s.dM.length<=50000)(hz:hSz hs)(hw:dR.length<=500000) :
    bO prog 43 #[fP iT,.agg #[aD it.Kind,aD it.A,aD it.B,aD it.C]] w λv w'=>∃(B1:ah)(d1:Nat)(B2:ah)(d2:Nat)(B3:ah)(d3:Nat)(B5:ah)(d5:Nat)(B7:ah)(d7:Nat)(hs1:jV),v=aD ((mX (dx m s r aN dR hs) it).2)/\jR hs1=(mX (dx m s r aN dR hs) it).1.hs/\Hp b S w' (Iu iT B1 d1 B2 d2 B3 d3 A4 c4 B5 d5 A6 c6 B7 d7 ((mX (dx m s r aN dR hs) it).1.m) ((mX (dx m s r aN dR hs) it).1.s) r aN gm ((mX (dx m s r aN dR hs) it).1.dR)::dP bX B1 d1 (((mX (dx m s r aN dR hs) it).1.m).aY)::dP bH B2 d2 (((mX (dx m s r aN dR hs) it).1.m).aA)::dP bZ B3 d3 (((mX (dx m s r aN dR hs) it).1.m).aQ)::dP iL A4 c4 (((mX (dx m s r aN dR hs) it).1.s).dX)::dP dB B5 d5 (((mX (dx m s r aN dR hs) it).1.s).bY)::dP bF A6 c6 (((mX (dx m s r aN dR hs) it).1.s).dM)::aR bF 112 B7 d7 ((mX (dx m s r aN dR hs) it).1.dR)::jF gm hs1::F):=by
 refine sF func43 ntmps43 Y<|rg<|bx Y Y H0 λg1 w1 K1=>bS Y<|aZ<|qo ak ak<|bD (eF (q:=⟨g1,1,none⟩) nI Y Y) Y<|bD (cu jG Y (K1.x s0) Y) Y<|bD (fB Y Y) Y<|bD (bA Y) Y<|qy 9 19 ((decide (it.A<0))||(decide (((dR.length:Nat):Int)<=it.A))) ?_ ?_
 ·cases axJ:decide (it.A<0) with
  | true=>
   refine dF Y Y Y<|dF Y Y Y<|dF Y Y Y<|dF Y Y Y<|dF Y Y Y<|dF Y Y Y<|dF Y Y Y<|dF Y Y Y<|bD (dY Y Y) Y<|jJ Y
  | false=>
   refine dV Y (eF (q:=⟨g1,1,none⟩) nI Y Y) Y<|dV Y (cu jG Y (K1.x s0) Y) Y<|dV Y (bA Y) Y<|dV Y (dS Y) Y<|dV Y (eF (q:=⟨iT,14,none⟩) zJ Y Y) Y<|dV Y (cu asY Y (K1.x s1) Y) Y<|dV Y (eY kR Y) Y<|dV Y (pK Y Y) Y<|bD (eG Y Y) Y<|jJ Y
 refine qp λw2 e2=>?_;have K2:=K1.grow e2;refine bR Y (λhc19=>?_) (λhc19=>?_)
 ·try simp only [eO,dN,bL,bU] at hc19
  refine iY Y<|vG Y ?_
  have hop:mX (dx m s r aN dR hs) it=_:=aoI (by show it.A<0∨(dR.length:Int)<=it.A; omega);rw [show(mX (dx m s r aN dR hs) it).1.m=m from by rw [hop]];rw [show(mX (dx m s r aN dR hs) it).1.s=s from by rw [hop]];rw [show(mX (dx m s r aN dR hs) it).1.dR=dR from by rw [hop]];rw [show(mX (dx m s r aN dR hs) it).2=5 from by rw [hop]];exact⟨A1,c1,A2,c2,A3,c3,A5,c5,A7,c7,hs,Y,(by rw [hop]),(K2.rm s0)⟩
 try simp only [eO,dN,bL,bU] at hc19
 refine jh ?_;obtain⟨i,hi⟩:∃ i:Nat,it.A=((i:Nat):Int):=⟨(it.A).toNat,aj⟩;have iq:=hi;have H1:=K2;rw [hi] at H1;obtain⟨x1,bP⟩:=bC (xs:=dR) (i:=i) aj;refine He H1 (λ_ K=>K) (λl0 rk lJ wJ=>∃(rH:Nat),lJ=(5,fP rH)::l0/\Hp b S wJ (dJ rH 112 [aD x1.Kind,aD x1.aB,aD x1.aC,fT x1.Sum,aD x1.jw,aD x1.To,aD x1.kG]::rk)) (λhns H2=>?_) ?_
 ·refine sw 0 iT 14 zJ Y H2<|Ai 3 s1 Y H2<|mD 4 5 g1 1 nI s0 Y H2<|lH 6 Y (λ_ hK=>eU (i:=i) kR xC Y Y Y (aJ bP) ((hK.o s8).some_ bP)) H2<|lH 7 Y (λ_ hK=>fV vk Y Y ((hK.o s8).eX bP)) H2<|O1 8 Y<|al zQ Y H2 λg2 w3 K3=>?_
  have k1:=(K3.rm s0);refine aP k1<|O1 9 Y<|sty Y K3 s0 Y λw4 K4=>?_
  have k2:=(K4.rm s0);refine aP k2<|Dn ⟨g2,Y,K4⟩ Y
 rintro _ w5 ⟨rH,rfl,K5⟩;refine aZ<|rg<|jD g1 0 pq K5 s1 Y<|ev (iP Y Y)<|dn<|kX Y (λQX=>?_) (λQX=>?_)
 ·refine He K5 (λ_ K=>((K.rm s9).rm s2)) (λl0 rk lJ wJ=>∃(jE:ah)(jB:Nat),lJ=l0/\Hp b S wJ (Iu iT A1 c1 A2 c2 A3 c3 A4 c4 A5 c5 A6 c6 jE jB m s r aN gm (dR++([x1]:List aM))::aR bF 112 jE jB (dR++([x1]:List aM))::rk)) (λhns H3=>?_) ?_
  ·have k3:=((H3.rm s9).rm s2);refine kT 0 Y Y k3<|sw 1 iT 14 zJ Y k3<|lH 5 Y (λ_ hK=>dK vk Y Y (hK.x s0)) k3<|Jn H3 (λl0 rk lJ wJ=>∃(g3:Nat),lJ=(35,.slice A7 dR.length c7)::(37,.slice (some ⟨g3,0,none⟩) (([x1]:List aM).length) 1)::l0/\Hp b S wJ (aR bF 112 (some ⟨g3,0,none⟩) 1 ([x1]:List aM)::rk)) 4 127 ?_ λhS1=>?_
   ·rintro _ Nn ⟨g3,rfl,K10⟩;refine O1 7 Y<|ap (ys:=([x1]:List aM)) K10 s10 Y Y (K10.o s0) kR Dj aj av Y λSC cp2 RG tO=>?_
    have k8:=((tO.rm s4).cU 0 2);refine aP k8<|Qk 8 iT 14 zJ Y k8<|O1 10 Y<|wD Y tO s4 Y λQp rW=>?_
    have k9:=(rW.cU 0 3);refine aP k9<|Dn ⟨SC,cp2,Y,(rW.rm s2)⟩ Y
   refine O2 4 6 Y Y ?_ ?_
   ·refine mK H3 s2 Y<|aP k3<|O1 6 Y<|yU (τ:=bF) (x:=x1) Y (by intro _; apply fF) rfl H3 (λ_ _=>rfl) λg5 WO vC=>?_
    have k10:=(((vC.rm s10).rm s3).rm s0);exact Kj hS1 k10 ⟨g5,Y,vC⟩ Y
   ·refine yU (τ:=bF) (x:=x1) Y (by intro _; apply fF) rfl H3 (λ_ _=>rfl) λg6 Xv vo=>?_;have k11:=(((vo.rm s10).rm s3).rm s0);refine aP k11<|O1 4 Y<|mK vo s3 Y<|Kj hS1 k11 ⟨g6,Y,vo⟩ Y
  rintro _ Yg ⟨jE,jB,rfl,yX⟩;refine iY Y<|vG Y ?_
  have hop:mX (dx m s r aN dR hs) it=_:=agK iq bP QX;rw [show(mX (dx m s r aN dR hs) it).1.m=m from by rw [hop]];rw [show(mX (dx m s r aN dR hs) it).1.s=s from by rw [hop]];rw [show(mX (dx m s r aN dR hs) it).1.dR=(dR++([x1]:List aM)) from by rw [hop]];rw [show(mX (dx m s r aN dR hs) it).2=0 from by rw [hop]];exact⟨A1,c1,A2,c2,A3,c3,A5,c5,jE,jB,hs,Y,(by rw [hop]),(((yX.cU 2 2).sel s1).mV 1 7)⟩
 refine jh ?_;refine He K5 (λ_ K=>((K.rm s9).rm s2)) (λl0 rk lJ wJ=>∃(oQ:ah)(cj2:Nat),lJ=l0/\Hp b S wJ (Iu iT A1 c1 A2 c2 A3 c3 A4 c4 A5 c5 A6 c6 oQ cj2 m s r aN gm (BM dR i)::aR bF 112 oQ cj2 (BM dR i)::aR bF 112 A7 c7 dR::rk)) (λhns H4=>?_) ?_
 ·have k12:=((H4.rm s9).rm s2);refine kT 0 Y Y k12<|sw 1 iT 14 zJ Y k12<|mD 6 7 g1 1 nI s1 Y k12<|mD 8 9 g1 1 nI s1 Y k12<|lH 10 Y (λ_ _=>dW Y Y) k12<|O1 4 Y<|mK H4 s2 Y<|aP k12<|O1 5 Y<|gW Y (zI _ (H4.o s9) aj) ?_
  rintro _ w16 ⟨Og,Oh,rfl,h16⟩;have Bv:=H4.f1 h16;have k13:=(((Bv.rm s10).rm s3).rm s0);refine aP k13<|O1 11 Y<|gW Y (Wx (i:=i) (j:=i+1) (Bv.sel s0) aj aj) ?_
  rintro _ w17 ⟨rfl,xS⟩;have k14:=(((xS.rm s10).rm s3).rm s0);refine aP k14<|Qk 12 iT 14 zJ Y k14<|O1 14 Y<|wD Y xS s3 Y λw18 FR=>?_
  have k15:=((FR.rm s10).cU 0 2);refine aP k15<|Dn ⟨Og,Oh,Y,((FR.mV 2 8).mV 8 3)⟩ Y
 rintro _ w19 ⟨oQ,cj2,rfl,Bf⟩;refine aZ ?_
 rcases hg1:fH x1.To hs with _ | ⟨TF,gs1,SF,Ah1,ch1,Sm,TG,l1,es1⟩
 ·refine qo ak ak<|bD (bA Y) Y<|bD (dS Y) Y<|bD (eF (q:=⟨iT,13,none⟩) qQ Y Y) Y<|bD (cu RX Y (Bf.x s0) Y) Y<|bD (eF (q:=⟨rH,5,none⟩) yA Y Y) Y<|bD (cu jG Y (Bf.x s3) Y) Y<|bD (Ev.hN Bf s11 hg1 zZ vw rJ Y Y) Y<|bD (nP Y) Y<|qp λw20 e20=>?_
  have DL:=Bf.grow e20;refine qo ak ak<|bD (eF (q:=⟨g1,0,none⟩) pq Y Y) Y<|bD (cu jG Y (DL.x s4) Y) Y<|bD (iP Y Y) Y<|bD (bA Y) Y<|qy 8 73 ((decide (it.Kind=6))&&(decide (aN<=x1.kG))) ?_ ?_
  ·cases awj:decide (it.Kind=6) with
   | true=>
    have azK:=jC awj;refine dV Y (bA Y) Y<|dV Y (dS Y) Y<|dV Y (eF (q:=⟨iT,12,none⟩) BJ Y Y) Y<|dV Y (cu jG Y (DL.x s0) Y) Y<|dV Y (eF (q:=⟨rH,6,none⟩) Vu Y Y) Y<|dV Y (cu jG Y (DL.x s3) Y) Y<|dV Y (uK Y Y) Y<|bD (dY Y Y) Y<|jJ Y
   | false=>
    refine dF Y Y Y<|dF Y Y Y<|dF Y Y Y<|dF Y Y Y<|dF Y Y Y<|dF Y Y Y<|dF Y Y Y<|bD (eG Y Y) Y<|jJ Y
  refine bD (bA Y) Y<|qy 3 77 false ?_ ?_
  ·cases awk:((decide (it.Kind=6))&&(decide (aN<=x1.kG))) with
   | true=>
    have aoK:=awk
    try simp only [bK,dZ,bL,bU] at aoK
    refine dV Y (bA Y) Y<|dV Y (Ev.pnn yN Y Y) Y<|bD (dY Y Y) Y<|Bd (t:=77) (u:=.bool false) (v:=.bool false) Y (aS Value.bool (by rfl))<|jJ rfl
   | false=>
    refine dF Y Y Y<|dF Y Y Y<|bD (eG Y Y) Y<|Bd (t:=77) (u:=.bool false) (v:=.bool false) Y (aS Value.bool (by rfl))<|jJ rfl
  refine bD (bA Y) Y<|dF Y Y Y<|dF Y Y Y<|dF Y Y Y<|dF Y Y Y<|bD (eG Y Y) Y<|qp λw21 e21=>?_
  have Gp:=DL.grow e21;refine bR Y nofun (λ_h=>?_);refine jh ?_;refine iY Y<|iI Y ?_
  have hop:mX (dx m s r aN dR hs) it=_:=aew iq bP QX (by rintro⟨h1,h2,h3⟩; have h3':M9 (jR hs) _=true:=h3; unfold M9 at h3'; rw [iW,hg1] at h3'; cases h3');rw [show(mX (dx m s r aN dR hs) it).1.m=m from by rw [hop]];rw [show(mX (dx m s r aN dR hs) it).1.s=s from by rw [hop]];rw [show(mX (dx m s r aN dR hs) it).1.dR=(BM dR i) from by rw [hop]];rw [show(mX (dx m s r aN dR hs) it).2=0 from by rw [hop]];exact⟨A1,c1,A2,c2,A3,c3,A5,c5,oQ,cj2,hs,Y,(by rw [hop]),(((Gp.cU 2 3).sel s1).mV 1 7)⟩
 ·skip
  refine qo ak ak<|bD (bA Y) Y<|bD (dS Y) Y<|bD (eF (q:=⟨iT,13,none⟩) qQ Y Y) Y<|bD (cu RX Y (Bf.x s0) Y) Y<|bD (eF (q:=⟨rH,5,none⟩) yA Y Y) Y<|bD (cu jG Y (Bf.x s3) Y) Y<|bD (Ev.hS Bf s11 hg1 zZ vw rJ Y Y) Y<|bD (nP Y) Y<|qp λw22 e22=>?_
  have Fa:=Bf.grow e22;refine qo ak ak<|bD (eF (q:=⟨g1,0,none⟩) pq Y Y) Y<|bD (cu jG Y (Fa.x s4) Y) Y<|bD (iP Y Y) Y<|bD (bA Y) Y<|qy 8 73 ((decide (it.Kind=6))&&(decide (aN<=x1.kG))) ?_ ?_
  ·cases awj:decide (it.Kind=6) with
   | true=>
    have azK:=jC awj;refine dV Y (bA Y) Y<|dV Y (dS Y) Y<|dV Y (eF (q:=⟨iT,12,none⟩) BJ Y Y) Y<|dV Y (cu jG Y (Fa.x s0) Y) Y<|dV Y (eF (q:=⟨rH,6,none⟩) Vu Y Y) Y<|dV Y (cu jG Y (Fa.x s3) Y) Y<|dV Y (uK Y Y) Y<|bD (dY Y Y) Y<|jJ Y
   | false=>
    refine dF Y Y Y<|dF Y Y Y<|dF Y Y Y<|dF Y Y Y<|dF Y Y Y<|dF Y Y Y<|dF Y Y Y<|bD (eG Y Y) Y<|jJ Y
  refine bD (bA Y) Y<|qy 3 77 (((decide (it.Kind=6))&&(decide (aN<=x1.kG)))&&true) ?_ ?_
  ·cases awk:((decide (it.Kind=6))&&(decide (aN<=x1.kG))) with
   | true=>
    have aoK:=awk
    try simp only [bK,dZ,bL,bU] at aoK
    refine dV Y (bA Y) Y<|dV Y (Ev.pnn yN Y Y) Y<|bD (dY Y Y) Y<|jJ Y
   | false=>
    refine dF Y Y Y<|dF Y Y Y<|bD (eG Y Y) Y<|jJ Y
  refine bD (bA Y) Y<|qy 5 83 ((((decide (it.Kind=6))&&(decide (aN<=x1.kG)))&&true)&&Sm) ?_ ?_
  ·cases aEz:(((decide (it.Kind=6))&&(decide (aN<=x1.kG)))&&true) with
   | true=>
    have azL:=aEz
    try simp only [bK,dZ,bL,bU,Ug,false_or,qW,true_and,tq] at azL
    refine dV Y (bA Y) Y<|dV Y (dS Y) Y<|dV Y (eF (q:=⟨TF,1,none⟩) G8 Y Y) Y<|dV Y (cu agq Y (Fa.AP s11 hg1) Y) Y<|bD (dY Y Y) Y<|jJ Y
   | false=>
    refine dF Y Y Y<|dF Y Y Y<|dF Y Y Y<|dF Y Y Y<|bD (eG Y Y) Y<|jJ Y
  refine qp λw23 e23=>?_;have Jk:=Fa.grow e23;refine bR Y (λawl=>?_) (λawl=>?_)
  ·have awm:(it.Kind=6/\aN<=x1.kG)/\Sm=true:=by simpa using awl
   refine jr<|mv Y<|ev (dK vk Y Y (Jk.x s3))<|mv Y<|gW Y (aoH (m:=m) (s:=s) (r:=r) ((((Jk.mV 2 3).sel s11).sel s5).mV 5 7) x1 hm hb hl hd hz aj) ?_
   rintro _ w24 ⟨azM,azN,azO,azP,azQ,azR,azS,azT,awn,rfl,azU,pG⟩;refine jv<|gB<|iY Y<|iI Y ?_
   have hop:mX (dx m s r aN dR hs) it=(uq (⟨m,s,r,aN,(BM dR i),jR hs⟩:PC) x1,0):=aoJ iq bP QX ⟨awm.1.1,awm.1.2,by show M9 (jR hs) _=true; unfold M9; rw [iW,hg1]; exact awm.2⟩;have hdn:=aij (⟨m,s,r,aN,(BM dR i),jR hs⟩:PC) x1;rw [show(mX (dx m s r aN dR hs) it).1.m=(uq (⟨m,s,r,aN,(BM dR i),jR hs⟩:PC) x1).m from by rw [hop]];rw [show(mX (dx m s r aN dR hs) it).1.s=(uq (⟨m,s,r,aN,(BM dR i),jR hs⟩:PC) x1).s from by rw [hop]];rw [show(mX (dx m s r aN dR hs) it).1.dR=(BM dR i) from by rw [hop]; exact hdn.1];rw [show(mX (dx m s r aN dR hs) it).2=0 from by rw [hop]];exact⟨azM,azN,azO,azP,azQ,azR,azS,azT,oQ,cj2,awn,Y,(by rw [hop]; exact azU),(pG.cU 9 3)⟩
  refine jh ?_;refine iY Y<|iI Y ?_
  have hop:mX (dx m s r aN dR hs) it=_:=aew iq bP QX (by rintro⟨h1,h2,h3⟩; have h3':M9 (jR hs) _=true:=h3; unfold M9 at h3'; rw [iW,hg1] at h3'; have h4:Sm=true:=h3'; simp [h1,h2,h4] at awl);rw [show(mX (dx m s r aN dR hs) it).1.m=m from by rw [hop]];rw [show(mX (dx m s r aN dR hs) it).1.s=s from by rw [hop]];rw [show(mX (dx m s r aN dR hs) it).1.dR=(BM dR i) from by rw [hop]];rw [show(mX (dx m s r aN dR hs) it).2=0 from by rw [hop]];exact⟨A1,c1,A2,c2,A3,c3,A5,c5,oQ,cj2,hs,Y,(by rw [hop]),(((Jk.cU 2 3).sel s1).mV 1 7)⟩
theorem AY:(prog.underlying 3).isSome=true/\prog.underlying 5=some (.int (prog.intKind 5))/\prog.intKind 5=.u8:=⟨ak,ak,ak⟩
theorem aa1(a0:Int)(a1:Int)(a2:Int)(a3:Int):∀ w,(Instr.buildSlice 33 4 (List.toArray [(0,.int .u8 a0),(1,.int .u8 a1),(2,.int .u8 a2),(3,.int .u8 a3)])).run prog w=.ok (.slice (some ⟨w.heap.size,0,none⟩) 4 4) (w.alloc (.cells (List.toArray [.int .u8 a0,.int .u8 a1,.int .u8 a2,.int .u8 a3]) 5)):=ay
theorem aoL:kW prog 26:=ay
theorem azV:bI prog 37:=ay
theorem aik(z:Int):IntKind.u8.wrap z=(((BitVec.ofInt 8 z).toNat:Nat):Int):=by
  rw [BitVec.toNat_ofInt];show z % 256=_;have:0<=z % ((2 ^ 8:Nat):Int):=Int.emod_nonneg _ au;rw [Int.toNat_of_nonneg this]; rfl
theorem arZ{l:List aW}{aX:List gq}{hs:List Int}{t:aW}(h:sD l aG aX hs l=some t):t∈l:=by
  suffices g:∀(M:List aW)(b:Option aW),(∀ x,b=some x->x∈l)->(∀ x∈M,x∈l)->∀ x,M.foldl (tgF l aG aX hs) b=some x->x∈l from g l none (λx h=>by cases h) (λx h=>h) t h
  intro M
  induction M with
  | nil=>intro b hb _ x hx; exact hb x hx
  | cons n M ih=>
    intro b hb hM x hx;refine ih _ ?_ (λy hy=>hM y (by simp [hy])) x hx;intro y hy;unfold tgF at hy
    split at hy
    · split at hy
      · cases hy; exact hM _ av
      · split at hy
        · cases hy; exact hM _ av
        · cases hy; exact hb _ rfl
    · exact hb y hy
theorem aex{l:List aW}:∀(n:Nat)(aX:List gq)(hs:List Int),∀ z∈um l aG n aX hs,∃ x∈l,x.ID=z
  | 0,_,_,z,h=>by simp [um] at h
  | n+1,aX,hs,z,h=>by
    unfold um at h
    cases ht:sD l aG aX hs l with
    | none=>rw [ht] at h; simp at h
    | some t=>
      rw [ht] at h
      rcases iN.1 h with rfl | h
      · exact⟨t,arZ ht,Y⟩
      · exact aex n _ _ z h
theorem YV{c v sum:Int}{gH:List (BitVec 8)}{q:ru × List Int}{z:Int}{h:xO}(hg:fH z q.1=some h):Nb c v sum gH q z=(gV z ⟨h.up,h.bJ,KM h.l h.bJ c v sum gH,tkD h.l h.bJ c v sum gH h.d⟩ q.1,if XK h.l h.bJ c v sum gH=true then q.2++[z] else q.2):=by unfold Nb; rw [hg]
theorem Wy{hs:ru}{x:aI}{z:Int}{k:Nat}{n:Int}{H:List Int}(h:H[k]? = some n):Nc hs x z (H.drop k)=match fH n hs with
    | none=>Nc hs x z (H.drop (k+1))
    | some h=>if h.up=true/\(xP h.l h.d z).2.2=0/\(xP h.l h.d z).2.1=x.aC/\((iV (xP h.l h.d z).1).toNat:Int)=x.Sum then((xP h.l h.d z).1,0) else Nc hs x z (H.drop (k+1)):=by
  obtain⟨hk,he⟩:=mM.1 h;rw [yu hk,he]; rfl
abbrev En(gJ:Int):=BitVec.ofInt 8 (gJ / 2 ^ 8)
abbrev Eo(gJ:Int):=BitVec.ofInt 8 gJ
theorem aoM(w:World)(aL:Int)(number:Int) :
    bO prog 13 #[aD aL,aD number] w λv w'=>∃(A0:ah)(c0:Nat),v=.slice A0 ((oh aL number).length) c0/\Hp w S0 w' [aR gu 5 A0 c0 (oh aL number)]:=by
 refine j4 S0 func13 ntmps13 Y λH0=>iY Y<|bQ Y<|ev (FV AY.1 AY.2.1 AY.2.2 Y)<|fJ (t:=6) Y (aS (Value.int .u8) (aik aL))<|mv Y<|ev (Ev.ay5 (c:=8) Y Y aj)<|ev (FV AY.1 AY.2.1 AY.2.2 Y)<|fJ (t:=9) Y (aS (Value.int .u8) (aik (aL / 2 ^ 8)))<|mv Y<|ev (FV AY.1 AY.2.1 AY.2.2 Y)<|fJ (t:=11) Y (aS (Value.int .u8) (aik number))<|mv Y<|ev (Ev.ay5 (c:=8) Y Y aj)<|ev (FV AY.1 AY.2.1 AY.2.2 Y)<|fJ (t:=14) Y (aS (Value.int .u8) (aik (number / 2 ^ 8)))<|bsn (τ:=gu) (xs:=([(Eo aL),(En aL),(Eo number),(En number)]:List (BitVec 8))) (vs:=[(0,.int .u8 (((Eo aL)).toNat:Int)),(1,.int .u8 (((En aL)).toNat:Int)),(2,.int .u8 (((Eo number)).toNat:Int)),(3,.int .u8 (((En number)).toNat:Int))]) (css:=[[.int .u8 (((Eo aL)).toNat:Int)],[.int .u8 (((En aL)).toNat:Int)],[.int .u8 (((Eo number)).toNat:Int)],[.int .u8 (((En number)).toNat:Int)]]) Y (by intro _; apply aa1) rfl rfl H0 (λ_ e=>⟨rfl,rfl,rfl,rfl,trivial⟩) λg1 w1 K1=>bS rfl<|iI rfl ?_
 have d9:(([(Eo aL),(En aL),(Eo number),(En number)]:List (BitVec 8)):List (BitVec 8))=(oh aL number):=by rfl
 rw [d9] at K1;exact⟨(some ⟨g1,0,none⟩),4,by rw [d9] <;> rfl,K1⟩
theorem ar0(w:World){b0:World}{F0:List lC}(hH:Hp b0 S1 w (TJ iT A1 c1 A2 c2 A3 c3 A4 c4 A5 c5 A6 c6 A7 c7 m s r aN gm dR hs F0))(bq:Int) :
    bO prog 37 #[fP iT,aD bq] w λv w'=>v=.bool (M9 (jR hs) bq)/\Hp w S0 w' []:=by
 refine j4 S0 func37 ntmps37 Y λH0=>iY Y ?_
 rcases hg1:fH bq hs with _ | ⟨TF,gs1,SF,Ah1,ch1,Sm,TG,l1,es1⟩
 ·refine bQ Y<|ev (dS Y)<|wC iT 13 qQ Y<|ev (cu RX Y ((hH.x s0).ext H0.ext) Y)<|mv Y<|ev (Ev.hN (hH.grow H0.ext) s8 hg1 zZ vw rJ Y Y)<|bS Y<|bQ Y<|ev (Ev.pnn yN Y Y)<|mv Y<|eB<|eB<|eB<|eB<|ev (eG Y Y)<|bS Y<|iI Y ?_
  have d9:(false:Bool)=(M9 (jR hs) bq):=by unfold M9; rw [iW,hg1]; rfl
  exact⟨by rw [<- d9] <;> rfl,H0⟩
 ·refine bQ Y<|ev (dS Y)<|wC iT 13 qQ Y<|ev (cu RX Y ((hH.x s0).ext H0.ext) Y)<|mv Y<|ev (Ev.hS (hH.grow H0.ext) s8 hg1 zZ vw rJ Y Y)<|bS Y<|bQ Y<|ev (Ev.pnn yN Y Y)<|mv Y<|bG Y (bA Y) Y<|bG Y (dS Y) Y<|gfy TF 1 G8 Y<|bG Y (cu agq Y ((hH.grow H0.ext).AP s8 hg1) Y) Y<|ev (dY Y Y)<|bS Y<|iI Y ?_
  have fG:(Sm:Bool)=(M9 (jR hs) bq):=by unfold M9; rw [iW,hg1]; rfl
  exact⟨by rw [<- fG] <;> rfl,H0⟩
theorem agL(w:World)(id:Int){b0:World}{F0:List lC}{g2:Nat}(hH:Hp b0 S1 w (dJ g2 26 [fP iT]::Iu iT A1 c1 A2 c2 A3 c3 A4 c4 A5 c5 A6 c6 A7 c7 m s r aN gm dR::dP bX A1 c1 m.aY::dP bH A2 c2 m.aA::dP bZ A3 c3 m.aQ::dP iL A4 c4 s.dX::dP dB A5 c5 s.bY::dP bF A6 c6 s.dM::aR bF 112 A7 c7 dR::jF gm hs::F0)) :
    bO prog 100 #[aD id,fP g2] w λv w'=>v=.bool (!M9 (jR hs) id)/\Hp w S0 w' []:=by
 refine j4 S0 func100 ntmps100 Y λH0=>iY Y<|rg<|ev (cu aoL Y ((hH.x s0).ext H0.ext) Y)<|mv Y<|lF H0 Y (ar0 (S0:=Any) _ ((hH.grow H0.ext).rm s0) id) λw1 K1=>ev (gZ Y)<|bS Y<|iI Y ?_
 have d9:((!(M9 (jR hs) id)):Bool)=(!M9 (jR hs) id):=by rfl
 exact⟨by rw [d9] <;> rfl,K1⟩
end Go.Proofs.YtlhnnmlenkahlaaGreat
