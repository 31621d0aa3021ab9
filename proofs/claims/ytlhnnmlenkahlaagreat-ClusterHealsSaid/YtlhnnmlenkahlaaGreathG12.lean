/- Lemmas. -/
import Derived.Test.YtlhnnmlenkahlaaGreathG11
set_option maxRecDepth 4000
set_option linter.all false
namespace Go.Proofs.YtlhnnmlenkahlaaGreat
open Go.RowKit Go.Proofs.Tryz
def TT:=@List.mem_append_left
section
variable {bY:Array Oper}{full:Array Bool}{F:l6}{b w:World}{S S0 S1:Nat->Prop}{es:List (bT × Option Addr × Nat × List (BitVec 8))}{iI c1 c2 c3 c4 c5 c6 c7 gm i:Nat}{A1 A2 A3 A4 A5 A6 A7:ah}{m:dh}{s:gG}{r:ARules}{aJ:Int}{bR:List aK}{hs:kG}{c:PC}{it:AItem}{o:aK}{aH:List Int}
theorem agy:dL prog 112 2 2:=ay
theorem agz:dL prog 112 3 3:=ay
theorem aAA:bJ prog 105:=ay
theorem arX:dL prog 112 0 0:=ay
theorem aAB:bJ prog 163:=ay
theorem akB{pre ids:List Nat}{rest:Nat}:∀(fuel:Nat)(aW:Array Bool),aW.size=bY.size->(∀ i∈pre,aW.getD i false=true)->qM bY (pre++ids) rest full fuel aW=true->qM bY ids rest full fuel aW=true
  | 0,aW,_,_,h=>by unfold qM at h ⊢; exact h
  | f+1,aW,hs,hp,h=>by
    unfold qM at h ⊢
    split at h
    · rename_i he; rw [aS he]; exact h
    · rename_i he; rw [aP he]
      simp only [bK,ng,nR,kX] at h ⊢
      refine⟨h.1,λr hr=>?_⟩;obtain⟨h1,h2⟩:=h.2 r hr;obtain⟨hr1,hr2,_⟩:=(Jp hs r).1 hr;refine⟨h1.resolve_left (λhm=>by rw [hp r hm] at hr2; cases hr2),akB f _ (by simpa using hs) (λi hi=>?_) h2⟩;rw [Ht aj]; split
      · rfl
      · exact hp i hi
theorem Nq{ids:List Nat}{rest fuel:Nat}{aW:Array Bool}(pre:List Nat)
    (h:(am4 bY (pre++ids) full&&((aW.size == bY.size&&fuel == rest+ids.length)&&(((List.range bY.size).all λi=>aW.getD i false == pre.contains i)&&pre.all λi=>(reqs bY i).all λj=>pre.contains j)))=true):qM bY ids rest full fuel aW=true:=by
  simp only [bK,R3,ng,List.mem_range] at h
  obtain⟨h1,⟨h2,h3⟩,h4,h5⟩:=h
  have hlt:∀ i,aW.getD i false=true->i<bY.size:=λi hi=>by
    rw [<- h2]
    by_cases hl:i<aW.size
    · exact hl
    · rw [JN,Array.getElem?_eq_none aj] at hi; cases hi
  have hin:∀ i∈pre++ids,i<bY.size:=by
    have h6:=h1
    simp only [am4,bK,ng,bM] at h6
    exact λi hi=>(h6.2.1 i hi).1
  have hnd:(pre++ids).Nodup:=by
    have h6:=h1
    simp only [am4,bK] at h6
    exact YD h6.1.1
  have hp:∀ i∈pre,aW.getD i false=true:=λi hi=>by rw [h4 i (hin i (TT _ hi))]; exact nR.2 hi
  have hm:∀ i,aW.getD i false=true->i∈pre:=λi hi=>by have:=h4 i (hlt i hi); rw [hi] at this; exact nR.1 this.symm
  refine akB fuel aW h2 hp (akm h1 rest fuel aW h2 (λi hi=>TT _ (hm i hi)) (λi hi j hj=>hp j (nR.1 (h5 i (hm i hi) j hj))) ?_);rw [h3]; congr 1;rw [Bz,TI.2 (λi hi=>by rw [hp i hi]; simp),KG];rw [Gm.2 (λi hi=>?_)];have:i∉pre:=λh=>(List.nodup_append.1 hnd).2.2 i h i hi rfl;rw [Bw.2 (λh=>this (hm i h))]; rfl
def hSz(hs:kG):Prop:=∀ z h,dY z hs=some h->h.l.length<=1000/\∀ k,(gD k h.es).2.2.length<=1000
section
variable {m:dh}{s:gG}{r:ARules}{aJ:Int}{bR:List aK}{hs:kG}{o:aK}{gh gs Zl gh2 gs2 Bg:Nat}{A1 A2 A3 B:ah}{n2 n3 nB:Nat}{YN up:Bool}{c1:Nat}{aL1 bG:Int}{l1 l:List aG}{es1 es:oz}
theorem anv(h:dY o.jM hs=none):kU ⟨m,s,r,aJ,bR,kR hs⟩ o=⟨m,s,r,aJ,bR,kR hs⟩:=
  YK (by show dY o.jM (kR hs)=none; rw [jA,h]; rfl)
theorem gF{z:Int}(h:dY z hs=some F):dY z (kR hs)=some F.pl:=by rw [jA,h]; rfl
theorem anw(h:dY o.jM hs=some F)(hb:(!F.up)=true):kU ⟨m,s,r,aJ,bR,kR hs⟩ o=⟨m,s,r,aJ,bR,kR hs⟩:=
  Rb (gF h) (by show(!F.up||_)=true; rw [hb]; rfl)
theorem arY(h:dY o.jM hs=some F)(hb:vW s aJ o.aD o.To=true):kU ⟨m,s,r,aJ,bR,kR hs⟩ o=⟨m,s,r,aJ,bR,kR hs⟩:=
  Rb (gF h) (by show(_||vW s aJ o.aD o.To)=true; rw [hb,Bool.or_true])
abbrev qO(iE:l6)(je:aK):=qx iE.l iE.es je.aD
theorem YV(h:dY o.jM hs=some F)(hr:¬ ((qO F o).2.2=0/\(qO F o).2.1=o.aB/\((iQ (qO F o).1).toNat:Int)=o.Sum)):kU ⟨m,s,r,aJ,bR,kR hs⟩ o=⟨m,s,r,aJ,bR,kR hs⟩:=
  adg (gF h) (by rw [show uD F.pl.l F.pl.d o.aD=qx F.l F.es o.aD from agr _ _ _]; exact hr)
abbrev akC(iE:l6)(je:ah)(wP:Nat)(zZ:aK)(Fh:l6)(QA:ah)(UH:Nat):=(⟨iE.gh,iE.gs,iE.gm,je,wP,iE.up,iE.bG,Hy iE.l iE.bG zZ.aD (qO Fh zZ).2.1 zZ.Sum (qO Fh zZ).1,tkM iE.l iE.bG zZ.aD (qO Fh zZ).2.1 zZ.Sum (qO Fh zZ).1 QA UH iE.es⟩:l6)
theorem anx{T:l6}(h:dY o.jM hs=some F)(hb:(!F.up)=false)(ht:vW s aJ o.aD o.To=false)(h1:(qO F o).2.2=0)(h2:(qO F o).2.1=o.aB)(h3:((iQ (qO F o).1).toNat:Int)=o.Sum)
    (hg:dY o.To hs=some T) (hk:TL T.l T.bG o.aD (qO F o).2.1 o.Sum (qO F o).1=false) :
    kU ⟨m,s,r,aJ,bR,kR hs⟩ o=⟨m,s,r,aJ,bR,kR (gK o.To (akC T A1 n2 o F B nB) hs)⟩:=by
  have hR:uD F.pl.l F.pl.d o.aD=qx F.l F.es o.aD:=agr _ _ _;have:=YL (c:=⟨m,s,r,aJ,bR,kR hs⟩) (gF h) (by show(!F.up||vW s aJ o.aD o.To)=false; rw [hb,ht]; rfl) (by rw [hR]; exact⟨h1,h2,h3⟩) (gF hg) (by rw [hR]; exact hk);rw [this,hR,Aw]; unfold l6.pl; simp only; rw [akw]
theorem aaU{T:l6}(L2:List bf)(h:dY o.jM hs=some F)(hb:(!F.up)=false)(ht:vW s aJ o.aD o.To=false)(h1:(qO F o).2.2=0)(h2:(qO F o).2.1=o.aB)(h3:((iQ (qO F o).1).toNat:Int)=o.Sum)
    (hg:dY o.To hs=some T) (hk:TL T.l T.bG o.aD (qO F o).2.1 o.Sum (qO F o).1=true) (hL:(if J5 s.bI o.aD o.To=0 then zB s.bI o.aD o.To else s.bI)=L2) :
    kU ⟨m,s,r,aJ,bR,kR hs⟩ o=⟨tY m ⟨0,0,5,o.aD,o.To,(qO F o).2.1⟩,⟨s.cZ,L2,s.bA⟩,r,aJ,bR,kR (gK o.To (akC T A1 n2 o F B nB) hs)⟩:=by
  have hR:uD F.pl.l F.pl.d o.aD=qx F.l F.es o.aD:=agr _ _ _;have:=Rf (c:=⟨m,s,r,aJ,bR,kR hs⟩) (gF h) (by show(!F.up||vW s aJ o.aD o.To)=false; rw [hb,ht]; rfl) (by rw [hR]; exact⟨h1,h2,h3⟩) (gF hg) (by rw [hR]; exact hk);rw [this,hR,Aw,<- hL]; unfold l6.pl; simp only; rw [akw]
end
abbrev dB(iE:dh)(je:gG)(wP:ARules)(zZ:Int)(Fh:List aK)(QA:kG):=(⟨iE,je,wP,zZ,Fh,kR QA⟩:PC)
abbrev VR(iE:Nat)(je:ah)(wP:Nat)(zZ:ah)(Fh:Nat)(QA:ah)(UH:Nat)(ZI:ah)(y8z:Nat)(y9z:ah)(Rk:Nat)(Rl:ah)(Ro:Nat)(Rq:ah)(Rt:Nat)(DW:dh)(DX:gG)(adi:ARules)(adk:Int)(Ru:Nat)(Rw:List aK)(adl:kG)(adn:List lG):=GA iE je wP zZ Fh QA UH ZI y8z y9z Rk Rl Ro Rq Rt DW DX adi adk Ru Rw::dH bW je wP DW.aL::dH bD zZ Fh DW.aA::dH dw QA UH DW.aT::dH iK ZI y8z DX.cZ::dH dz y9z Rk DX.bI::dH bg Rl Ro DX.bA::aQ bg 112 Rq Rt Rw::jL Ru adl::adn
abbrev Rx(iE:gG):=(⟨iE.cZ,iE.bI,iE.bA⟩:gG)
theorem agA{F:List lG}{gh gs Bg:Nat}{Ah:ah}{ch:Nat}{up:Bool}{bG:Int}{l:List aG}(H0:Hp b S w (VR iI A1 c1 A2 c2 A3 c3 A4 c4 A5 c5 A6 c6 A7 c7 m s r aJ gm bR hs F))(o:aK)(hm:mG m=true)(hb:s.cZ.length<=1000)(hl:s.bI.length<=64)(hd:s.bA.length<=50000)(hz:hSz hs)(hg:dY o.To hs=some ⟨gh,gs,Bg,Ah,ch,up,bG,l,es⟩) :
    bO prog 162 #[gI iI,.agg #[aI o.Kind,aI o.aD,aI o.aB,gP o.Sum,aI o.jM,aI o.To,aI o.ji],gI gh] w λv w'=>∃(B1:ah)(d1:Nat)(B2:ah)(d2:Nat)(B3:ah)(d3:Nat)(B5:ah)(d5:Nat)(hs1:kG),v=.tuple #[]/\kR hs1=(kU (dB m s r aJ bR hs) o).hs/\Hp b S w' (GA iI B1 d1 B2 d2 B3 d3 A4 c4 B5 d5 A6 c6 A7 c7 ((kU (dB m s r aJ bR hs) o).m) ((kU (dB m s r aJ bR hs) o).s) r aJ gm bR::dH bW B1 d1 (((kU (dB m s r aJ bR hs) o).m).aL)::dH bD B2 d2 (((kU (dB m s r aJ bR hs) o).m).aA)::dH dw B3 d3 (((kU (dB m s r aJ bR hs) o).m).aT)::dH iK A4 c4 (((kU (dB m s r aJ bR hs) o).s).cZ)::dH dz B5 d5 (((kU (dB m s r aJ bR hs) o).s).bI)::dH bg A6 c6 (((kU (dB m s r aJ bR hs) o).s).bA)::aQ bg 112 A7 c7 bR::jL gm hs1::F):=by
 refine rU func162 ntmps162 Y<|rg<|bx Y Y H0 λg1 w1 K1=>dn ?_
 rcases hg1:dY o.jM hs with _ | ⟨gh1,gs1,Zl,Ah1,ch1,YN,Zn,l1,es1⟩
 ·refine qU ak ak<|bB (bq Y) Y<|bB (d9 Y) Y<|bB (fQ u6 Y Y) Y<|bB (eF UQ Y (K1.x s1) Y) Y<|bB (fQ X8 Y Y) Y<|bB (eF jN Y (K1.x s0) Y) Y<|bB (Ev.hN K1 s9 hg1 EY zi vS Y Y) Y<|bB (pz Y) Y<|qV λw2 e2=>?_
  have K2:=K1.grow e2;refine aY<|bQ Y<|ev (Ev.amY Dh Y Y)<|mv Y<|dN<|dN<|dN<|dN<|dN<|ev (dM Y Y)<|mv Y<|dN<|dN<|dN<|dN<|dN<|dN<|ev (dM Y Y)<|dn<|bP Y (λ_h=>?_) nofun
  refine wO Y ?_;have hcp:kU (dB m s r aJ bR hs) o=(dB m s r aJ bR hs):=anv hg1;rw [show(kU (dB m s r aJ bR hs) o).m=m from by rw [hcp]];rw [show(kU (dB m s r aJ bR hs) o).s=s from by rw [hcp]];exact⟨A1,c1,A2,c2,A3,c3,A5,c5,hs,Y,(by rw [hcp]),(K2.rm s0)⟩
 ·have hzf:=hz _ _ hg1;refine qU ak ak<|bB (bq Y) Y<|bB (d9 Y) Y<|bB (fQ u6 Y Y) Y<|bB (eF UQ Y (K1.x s1) Y) Y<|bB (fQ X8 Y Y) Y<|bB (eF jN Y (K1.x s0) Y) Y<|bB (Ev.hS K1 s9 hg1 EY zi vS Y Y) Y<|bB (pz Y) Y<|qV λw3 e3=>?_
  have K3:=K1.grow e3;refine aY<|bQ Y<|ev (Ev.amY Dh Y Y)<|mv Y<|bE Y (bq Y) Y<|bE Y (d9 Y) Y<|gfy gh1 1 Ju Y<|bE Y (eF aiO Y (K3.EZ s9 hg1) Y) Y<|bE Y (iG Y) Y<|ev (dS Y Y)<|mv Y ?_
  cases amg:(!YN) with
  | true=>
   refine dN<|dN<|dN<|dN<|dN<|dN<|ev (dM Y Y)<|dn<|bP Y (λ_h=>?_) nofun
   refine wO Y ?_;have hcp:kU (dB m s r aJ bR hs) o=(dB m s r aJ bR hs):=anw hg1 amg;rw [show(kU (dB m s r aJ bR hs) o).m=m from by rw [hcp]];rw [show(kU (dB m s r aJ bR hs) o).s=s from by rw [hcp]];exact⟨A1,c1,A2,c2,A3,c3,A5,c5,hs,Y,(by rw [hcp]),(K3.rm s0)⟩
  | false=>
   refine bE Y (bq Y) Y<|wB g1 1 tL K3 s0 Y<|wB g1 5 Ab K3 s0 Y<|oD Y Y Y Y arM (agt ((K3.sel s0).mV 1 9) o.aD o.To hb hl hd) Y ?_
   rintro _ w4 ⟨rfl,K4⟩;refine ev (dS Y Y)<|dn<|bP Y (λGt=>?_) (λGt=>?_)
   ·refine wO Y ?_;have hcp:kU (dB m s r aJ bR hs) o=(dB m s r aJ bR hs):=arY hg1 Gt;rw [show(kU (dB m s r aJ bR hs) o).m=m from by rw [hcp]];rw [show(kU (dB m s r aJ bR hs) o).s=s from by rw [hcp]];exact⟨A1,c1,A2,c2,A3,c3,A5,c5,hs,Y,(by rw [hcp]),(K4.rm s9)⟩
   refine jy ?_;refine He K4 (λ_ K=>K) (λl0 rk lJ wJ=>∃(jW:ah)(jT:Nat),lJ=(7,.slice jW (((qx l1 es1 o.aD).1).length) jT)::(8,aI ((qx l1 es1 o.aD).2.1))::(9,aI ((qx l1 es1 o.aD).2.2))::l0/\Hp b S wJ (aQ gQ 5 jW jT ((qx l1 es1 o.aD).1)::rk)) (λhns H1=>?_) ?_
   ·refine tZ 0 gh1 0 yK Y H1<|l9 3 Y (λ_ hK=>eF UN Y (hK.EZ s8 hg1) Y) H1<|nJ 4 5 g1 1 tL s9 Y H1<|O1 6 Y ?_
    have H2:=H1.xg s8 hg1;refine gU Y (agh ((H2.sel s0).mV 1 4) o.aD (lI hzf.1 au) (hzf.2 _)) ?_;rintro _ w5 ⟨CG,CJ,rfl,K5⟩;have H3:=YI hg1 ((((K5.sel s0).sel s6).mV 2 4).sel s6);have k1:=(((H3.rm s1).sel s0).mV 1 8);refine aO k1<|lQ 7 Y Y k1<|xU 8 Y Y Y k1<|xU 9 Y Y Y k1<|xU 10 Y Y Y k1<|xL 11 Y Y k1<|xL 12 Y Y k1<|xL 13 Y Y k1<|Dn ⟨CG,CJ,Y,((H3.sel s0).mV 1 9)⟩ Y
   rintro _ w6 ⟨jW,jT,rfl,K6⟩;refine aY<|WP.dr ak ?_
   have H4:=K6.grow (pW w6).drew;refine wiz H4 [(0,47,aI ((qx l1 es1 o.aD).2.2)),(1,48,.bool (!decide ((qx l1 es1 o.aD).2.2=0))),(2,49,.bool (!decide ((qx l1 es1 o.aD).2.2=0)))] 23 ak (Gx Y (λ_ hK=>(bq Y))<|Gx Y (λ_ hK=>(rY Y Y))<|Gx Y (λ_ hK=>(bq Y))<|qnz) λw7 K7=>?_
   cases anz:(!decide ((qx l1 es1 o.aD).2.2=0)) with
   | true=>
    have aEh:=oO anz;refine wiz K7 [(3,50,undef),(4,51,undef),(5,52,undef),(6,53,undef),(7,54,.bool true),(8,55,.bool true),(9,56,undef),(11,58,undef),(10,57,undef),(12,59,undef),(13,60,undef),(14,61,.bool true),(15,62,.bool true),(16,63,undef),(17,64,undef),(19,66,undef),(20,67,undef),(22,69,undef),(18,65,undef),(21,68,undef),(23,70,undef),(24,71,undef),(25,72,.bool true)] 0 (Nq [0,1,2] ak) (zV Y<|zV Y<|zV Y<|zV Y<|Gx Y (λ_ hK=>(dM Y Y))<|Gx Y (λ_ hK=>(bq Y))<|zV Y<|zV Y<|zV Y<|zV Y<|zV Y<|Gx Y (λ_ hK=>(dM Y Y))<|Gx Y (λ_ hK=>(bq Y))<|zV Y<|zV Y<|zV Y<|zV Y<|zV Y<|zV Y<|zV Y<|zV Y<|zV Y<|Gx Y (λ_ hK=>(dM Y Y))<|qnz) λw8 K8=>?_;refine WI.dn ak<|bP Y (λ_h=>?_) nofun
    refine wO Y ?_;have hcp:kU (dB m s r aJ bR hs) o=(dB m s r aJ bR hs):=YV hg1 (by rintro⟨h1,h2,h3⟩; simp [h1] at anz);rw [show(kU (dB m s r aJ bR hs) o).m=m from by rw [hcp]];rw [show(kU (dB m s r aJ bR hs) o).s=s from by rw [hcp]];exact⟨A1,c1,A2,c2,A3,c3,A5,c5,hs,Y,(by rw [hcp]),((K8.rm s10).rm s0)⟩
   | false=>
    have aEh:=oP anz;refine wiz K7 [(3,50,aI ((qx l1 es1 o.aD).2.1)),(4,51,.pointer (some ⟨g1,2,none⟩)),(5,52,aI o.aB),(6,53,.bool (!decide ((qx l1 es1 o.aD).2.1=o.aB))),(7,54,.bool (!decide ((qx l1 es1 o.aD).2.1=o.aB))),(8,55,.bool (!decide ((qx l1 es1 o.aD).2.1=o.aB)))] 17 (Nq [0,1,2] ak) (NG Y (λ_ hK=>(bq Y))<|NG Y (λ_ hK=>(fQ agy Y Y))<|NG Y (λ_ hK=>(eF jN Y (hK.x s10) Y))<|NG Y (λ_ hK=>(rY Y Y))<|Gx Y (λ_ hK=>(dS Y Y))<|Gx Y (λ_ hK=>(bq Y))<|qnz) λw9 K9=>?_
    cases anA:(!decide ((qx l1 es1 o.aD).2.1=o.aB)) with
    | true=>
     have aEi:=oO anA;refine wiz K9 [(9,56,undef),(11,58,undef),(10,57,undef),(12,59,undef),(13,60,undef),(14,61,.bool true),(15,62,.bool true),(16,63,undef),(17,64,undef),(19,66,undef),(20,67,undef),(22,69,undef),(18,65,undef),(21,68,undef),(23,70,undef),(24,71,undef),(25,72,.bool true)] 0 (Nq [0,1,2,3,4,5,6,7,8] ak) (zV Y<|zV Y<|zV Y<|zV Y<|zV Y<|Gx Y (λ_ hK=>(dM Y Y))<|Gx Y (λ_ hK=>(bq Y))<|zV Y<|zV Y<|zV Y<|zV Y<|zV Y<|zV Y<|zV Y<|zV Y<|zV Y<|Gx Y (λ_ hK=>(dM Y Y))<|qnz) λOm K10=>?_;refine WI.dn ak<|bP Y (λ_h=>?_) nofun
     refine wO Y ?_;have hcp:kU (dB m s r aJ bR hs) o=(dB m s r aJ bR hs):=YV hg1 (by rintro⟨h1,h2,h3⟩; simp [h2] at anA);rw [show(kU (dB m s r aJ bR hs) o).m=m from by rw [hcp]];rw [show(kU (dB m s r aJ bR hs) o).s=s from by rw [hcp]];exact⟨A1,c1,A2,c2,A3,c3,A5,c5,hs,Y,(by rw [hcp]),((K10.rm s10).rm s0)⟩
    | false=>
     have aEi:=oP anA;refine wiz K9 [(9,56,.slice jW (((qx l1 es1 o.aD).1).length) jT),(11,58,.pointer (some ⟨g1,3,none⟩)),(10,57,gP ((iQ ((qx l1 es1 o.aD).1)).toNat:Int)),(12,59,gP o.Sum),(13,60,.bool (!decide (((iQ ((qx l1 es1 o.aD).1)).toNat:Int)=o.Sum))),(14,61,.bool (!decide (((iQ ((qx l1 es1 o.aD).1)).toNat:Int)=o.Sum))),(15,62,.bool (!decide (((iQ ((qx l1 es1 o.aD).1)).toNat:Int)=o.Sum)))] 10 (Nq [0,1,2,3,4,5,6,7,8] ak) (NG Y (λ_ hK=>(bq Y))<|NG Y (λ_ hK=>(fQ agz Y Y))<|qcz Y (Qi.aei Y Y Y Y arf (λ_ hK=>(Yz _ (hK.o s0)).mono (by rintro _ _ ⟨rfl,gu⟩; exact⟨rfl,hK.grow gu.ext⟩)))<|NG rfl (λ_ hK=>(eF Xo rfl (hK.x s10) rfl))<|NG rfl (λ_ hK=>(rY rfl rfl))<|Gx rfl (λ_ hK=>(dS rfl rfl))<|Gx rfl (λ_ hK=>(bq rfl))<|qnz) λVa vM=>?_
     cases anB:(!decide (((iQ ((qx l1 es1 o.aD).1)).toNat:Int)=o.Sum)) with
     | true=>
      have aEj:=oO anB;refine wiz vM [(16,63,undef),(17,64,undef),(19,66,undef),(20,67,undef),(22,69,undef),(18,65,undef),(21,68,undef),(23,70,undef),(24,71,undef),(25,72,.bool true)] 0 (Nq [0,1,2,3,4,5,6,7,8,9,10,11,12,13,14,15] ak) (zV Y<|zV Y<|zV Y<|zV Y<|zV Y<|zV Y<|zV Y<|zV Y<|zV Y<|Gx Y (λ_ hK=>(dM Y Y))<|qnz) λVb vH=>?_;refine WI.dn ak<|bP Y (λ_h=>?_) nofun
      refine wO Y ?_;have hcp:kU (dB m s r aJ bR hs) o=(dB m s r aJ bR hs):=YV hg1 (by rintro⟨h1,h2,h3⟩; simp [h3] at anB);rw [show(kU (dB m s r aJ bR hs) o).m=m from by rw [hcp]];rw [show(kU (dB m s r aJ bR hs) o).s=s from by rw [hcp]];exact⟨A1,c1,A2,c2,A3,c3,A5,c5,hs,Y,(by rw [hcp]),((vH.rm s10).rm s0)⟩
     | false=>
      have aEj:=oP anB;refine wiz vM [(16,63,gI gh),(17,64,.pointer (some ⟨g1,1,none⟩)),(19,66,aI ((qx l1 es1 o.aD).2.1)),(20,67,.pointer (some ⟨g1,3,none⟩)),(22,69,.slice jW (((qx l1 es1 o.aD).1).length) jT),(18,65,aI o.aD),(21,68,gP o.Sum)] 3 (Nq [0,1,2,3,4,5,6,7,8,9,10,11,12,13,14,15] ak) (NG Y (λ_ hK=>(bq Y))<|NG Y (λ_ hK=>(fQ tL Y Y))<|NG Y (λ_ hK=>(bq Y))<|NG Y (λ_ hK=>(fQ agz Y Y))<|NG Y (λ_ hK=>(bq Y))<|NG Y (λ_ hK=>(eF jN Y (hK.x s10) Y))<|NG Y (λ_ hK=>(eF Xo Y (hK.x s10) Y))<|qnz) λw13 Bf=>?_;refine WI.one 23 ak Y ?_;have H5:=Bf.xg s9 hg;have H6:=H5.fz s6;have H7:=H6.push (H6.s s0);refine oD Y Y Y Y aAA (aaT ((H7.mV 0 2).mV 2 5) o.aD ((qx l1 es1 o.aD).2.1) o.Sum (hz _ _ hg).1) Y ?_;rintro _ w14 ⟨aaV,aaW,aaX,aaY,rfl,xM⟩;have H8:=Jr hg ((xM.sel s5).mV 1 6);refine WI.nx<|wiz H8 [(24,71,.bool (!(TL l bG o.aD ((qx l1 es1 o.aD).2.1) o.Sum ((qx l1 es1 o.aD).1)))),(25,72,.bool (!(TL l bG o.aD ((qx l1 es1 o.aD).2.1) o.Sum ((qx l1 es1 o.aD).1))))] 0 ak (NG Y (λ_ hK=>(iG Y))<|Gx Y (λ_ hK=>(dS Y Y))<|qnz) λw15 BI=>?_
      refine WI.dn ak<|bP Y (λav3=>?_) (λav3=>?_)
      ·refine wO Y ?_;have hcp:kU (dB m s r aJ bR hs) o=(⟨m,s,r,aJ,bR,kR (gK o.To (⟨gh,gs,Bg,aaV,aaW,up,bG,(Hy l bG o.aD ((qx l1 es1 o.aD).2.1) o.Sum ((qx l1 es1 o.aD).1)),(tkM l bG o.aD ((qx l1 es1 o.aD).2.1) o.Sum ((qx l1 es1 o.aD).1) aaX aaY es)⟩:l6) hs)⟩:PC):=anx hg1 amg Gt (by simpa using anz) (by simpa using anA) (by simpa using anB) hg (by simpa using av3);rw [show(kU (dB m s r aJ bR hs) o).m=m from by rw [hcp]];rw [show(kU (dB m s r aJ bR hs) o).s=s from by rw [hcp]];exact⟨A1,c1,A2,c2,A3,c3,A5,c5,(gK o.To (⟨gh,gs,Bg,aaV,aaW,up,bG,(Hy l bG o.aD ((qx l1 es1 o.aD).2.1) o.Sum ((qx l1 es1 o.aD).1)),(tkM l bG o.aD ((qx l1 es1 o.aD).2.1) o.Sum ((qx l1 es1 o.aD).1) aaX aaY es)⟩:l6) hs),Y,(by rw [hcp]),((((BI.rm s10).rm s1).sel s0).mV 1 8)⟩
      refine jy ?_;refine aY<|He BI (λ_ K=>K) (λl0 rk lJ wJ=>∃(pO:ah)(cj2:Nat),lJ=(10,.slice pO ((zB s.bI o.aD o.To).length) cj2)::(11,aI (J5 s.bI o.aD o.To))::l0/\Hp b S wJ (aQ dz 117 pO cj2 (zB s.bI o.aD o.To)::rk)) (λhns H9=>?_) ?_
      ·refine tZ 0 iI 3 AJ Y H9<|nJ 3 4 iI 4 yG s2 Y H9<|nJ 5 6 g1 1 tL s10 Y H9<|nJ 7 8 g1 5 Ab s10 Y H9<|O1 9 Y<|gU Y (anb _ (H9.s s7).any o.aD o.To (lI hl au)) ?_
       rintro _ w16 ⟨XD,XE,rfl,h16⟩;have EB:=H9.f1 h16;have k2:=(EB.rm s0);refine aO k2<|lQ 10 Y Y k2<|xU 11 Y Y Y k2<|xU 12 Y Y Y k2<|xL 13 Y Y k2<|xL 14 Y Y k2<|Dn ⟨XD,XE,Y,EB⟩ Y
      rintro _ w17 ⟨pO,cj2,rfl,BJ⟩;refine bQ Y<|ev (iM Y Y)<|dn<|mZ Y (λaAC=>?_) (λaAC=>?_)
      ·refine jC<|mv Y<|mv Y<|ev (d9 Y)<|yV iI 3 AJ Y<|yV iI 4 yG Y<|yD Y BJ s3 Y λw18 JR=>jD<|gy<|jC<|mv Y<|j6 g1 1 tL JR s11 Y<|j6 g1 5 Ab JR s11 Y<|mv Y<|ev (jX Y (by apply qK)) ?_
       have H10:=JR.fz s1;refine gU Y (zC (m:=m) (s:=(⟨s.cZ,zB s.bI o.aD o.To,s.bA⟩:gG)) (r:=r) (((((H10.sel s8).mV 3 2).mV 9 2).sel s5).mV 6 5) (⟨0,0,5,o.aD,o.To,(qx l1 es1 o.aD).2.1⟩:fH) hm Y) ?_;rintro _ w19 ⟨aEk,aEl,aEm,aEn,aEo,aEp,rfl,EC⟩;refine jD<|qc (xV Y ?_)
       have hcp:kU (dB m s r aJ bR hs) o=(⟨(tY m (⟨0,0,5,o.aD,o.To,(qx l1 es1 o.aD).2.1⟩:fH)),(⟨s.cZ,zB s.bI o.aD o.To,s.bA⟩:gG),r,aJ,bR,kR (gK o.To (⟨gh,gs,Bg,aaV,aaW,up,bG,(Hy l bG o.aD ((qx l1 es1 o.aD).2.1) o.Sum ((qx l1 es1 o.aD).1)),(tkM l bG o.aD ((qx l1 es1 o.aD).2.1) o.Sum ((qx l1 es1 o.aD).1) aaX aaY es)⟩:l6) hs)⟩:PC):=aaU (F:=⟨gh1,gs1,Zl,Ah1,ch1,YN,Zn,l1,es1⟩) (T:=⟨gh,gs,Bg,Ah,ch,up,bG,l,es⟩) _ hg1 amg Gt (by simpa using anz) (by simpa using anA) (by simpa using anB) hg (by simpa using av3) (aS aAC);rw [show(kU (dB m s r aJ bR hs) o).m=(tY m (⟨0,0,5,o.aD,o.To,(qx l1 es1 o.aD).2.1⟩:fH)) from by rw [hcp]];rw [show(kU (dB m s r aJ bR hs) o).s=(⟨s.cZ,zB s.bI o.aD o.To,s.bA⟩:gG) from by rw [hcp]];exact⟨aEk,aEl,aEm,aEn,aEo,aEp,pO,cj2,(gK o.To (⟨gh,gs,Bg,aaV,aaW,up,bG,(Hy l bG o.aD ((qx l1 es1 o.aD).2.1) o.Sum ((qx l1 es1 o.aD).1)),(tkM l bG o.aD ((qx l1 es1 o.aD).2.1) o.Sum ((qx l1 es1 o.aD).1) aaX aaY es)⟩:l6) hs),Y,(by rw [hcp]),(EC.cU 9 3)⟩
      refine jy ?_;refine jC<|mv Y<|j6 g1 1 tL BJ s11 Y<|j6 g1 5 Ab BJ s11 Y<|mv Y<|ev (jX (vs:=[(2,aI 5),(3,aI o.aD),(4,aI o.To),(5,aI ((qx l1 es1 o.aD).2.1))]) (cs:=[aI 0,aI 0,aI 5,aI o.aD,aI o.To,aI ((qx l1 es1 o.aD).2.1)]) Y (by apply qK))<|gU rfl (zC (m:=m) (s:=s) (r:=r) ((((BJ.sel s2).sel s1).sel s2).mV 3 8) (⟨0,0,5,o.aD,o.To,(qx l1 es1 o.aD).2.1⟩:fH) hm rfl) ?_
      rintro _ w20 ⟨arP,arQ,arR,arS,arT,arU,rfl,Gy⟩;refine jD<|qc (xV Y ?_)
      have hcp:kU (dB m s r aJ bR hs) o=(⟨(tY m (⟨0,0,5,o.aD,o.To,(qx l1 es1 o.aD).2.1⟩:fH)),(Rx s),r,aJ,bR,kR (gK o.To (⟨gh,gs,Bg,aaV,aaW,up,bG,(Hy l bG o.aD ((qx l1 es1 o.aD).2.1) o.Sum ((qx l1 es1 o.aD).1)),(tkM l bG o.aD ((qx l1 es1 o.aD).2.1) o.Sum ((qx l1 es1 o.aD).1) aaX aaY es)⟩:l6) hs)⟩:PC):=aaU (F:=⟨gh1,gs1,Zl,Ah1,ch1,YN,Zn,l1,es1⟩) (T:=⟨gh,gs,Bg,Ah,ch,up,bG,l,es⟩) _ hg1 amg Gt (by simpa using anz) (by simpa using anA) (by simpa using anB) hg (by simpa using av3) (aP aAC);rw [show(kU (dB m s r aJ bR hs) o).m=(tY m (⟨0,0,5,o.aD,o.To,(qx l1 es1 o.aD).2.1⟩:fH)) from by rw [hcp]];rw [show(kU (dB m s r aJ bR hs) o).s=(Rx s) from by rw [hcp]];have fT:(s.cZ:List eY)=((Rx s).cZ):=by simp
      have gu:(s.bI:List bf)=((Rx s).bI):=by simp
      have kC:(s.bA:List aK)=((Rx s).bA):=by simp
      exact⟨arP,arQ,arR,arS,arT,arU,A5,c5,(gK o.To (⟨gh,gs,Bg,aaV,aaW,up,bG,(Hy l bG o.aD ((qx l1 es1 o.aD).2.1) o.Sum ((qx l1 es1 o.aD).1)),(tkM l bG o.aD ((qx l1 es1 o.aD).2.1) o.Sum ((qx l1 es1 o.aD).1) aaX aaY es)⟩:l6) hs),Y,(by rw [hcp]),by rw [<- fT,<- gu,<- kC]; exact(Gy.cU 9 3)⟩
theorem anC(w:World)(x:aG){g_o:Nat}(o:aK)(h_o:Bx w g_o 112 [aI o.Kind,aI o.aD,aI o.aB,gP o.Sum,aI o.jM,aI o.To,aI o.ji]) :
    bO prog 163 #[.agg #[aI x.aD,aI x.aB,gP x.Sum,.bool x.gH,.bool x.Bad],gI g_o] w λv w'=>v=.bool (ZU o x)/\Hp w S0 w' []:=by
 refine lg S0 func163 ntmps163 Y λH0=>rg<|bx Y Y H0 λg1 w1 K1=>bX Y<|rg<|j6 g1 0 mM K1 s0 Y<|yV g_o 1 tL Y<|ev (eF jN Y (h_o.ext K1.ext) Y)<|ev (iM Y Y)<|mv Y<|iO 6 15 ((decide (x.aD=o.aD))&&(decide (x.aB=o.aB))) ?_ ?_
 ·cases hb9:decide (x.aD=o.aD) with
  | true=>
   refine wB g1 1 rJ K1 s0 Y<|gfy g_o 2 agy Y<|bE Y (eF jN Y (h_o.ext K1.ext) Y) Y<|bE Y (iM Y Y) Y<|ev (dM Y Y)<|dJ Y
  | false=>
   refine dN<|dN<|dN<|dN<|dN<|ev (dS Y Y)<|dJ Y
 refine bX Y<|iP Y ?_
 exact⟨by skip <;> rfl,(K1.rm s0)⟩
theorem arZ{F:List lG}{gh gs Bg:Nat}{Ah:ah}{ch:Nat}{up:Bool}{bG:Int}{l:List aG}(H0:Hp b S w (VR iI A1 c1 A2 c2 A3 c3 A4 c4 A5 c5 A6 c6 A7 c7 m s r aJ gm bR hs F))(o:aK)(hm:mG m=true)(hb:s.cZ.length<=1000)(hl:s.bI.length<=64)(hd:s.bA.length<=50000)(hz:hSz hs)(hg:dY o.To hs=some ⟨gh,gs,Bg,Ah,ch,up,bG,l,es⟩) :
    bO prog 98 #[gI iI,.agg #[aI o.Kind,aI o.aD,aI o.aB,gP o.Sum,aI o.jM,aI o.To,aI o.ji],gI gh] w λv w'=>∃(B1:ah)(d1:Nat)(B2:ah)(d2:Nat)(B3:ah)(d3:Nat)(B5:ah)(d5:Nat)(hs1:kG),v=.tuple #[]/\kR hs1=(og (dB m s r aJ bR hs) o).hs/\Hp b S w' (GA iI B1 d1 B2 d2 B3 d3 A4 c4 B5 d5 A6 c6 A7 c7 ((og (dB m s r aJ bR hs) o).m) ((og (dB m s r aJ bR hs) o).s) r aJ gm bR::dH bW B1 d1 (((og (dB m s r aJ bR hs) o).m).aL)::dH bD B2 d2 (((og (dB m s r aJ bR hs) o).m).aA)::dH dw B3 d3 (((og (dB m s r aJ bR hs) o).m).aT)::dH iK A4 c4 (((og (dB m s r aJ bR hs) o).s).cZ)::dH dz B5 d5 (((og (dB m s r aJ bR hs) o).s).bI)::dH bg A6 c6 (((og (dB m s r aJ bR hs) o).s).bA)::aQ bg 112 A7 c7 bR::jL gm hs1::F):=by
 refine rU func98 ntmps98 Y<|rg<|bx Y Y H0 λg1 w1 K1=>dn<|aY<|rg<|j6 g1 0 arX K1 s0 Y<|ev (iM Y Y)<|dn<|mZ Y (λFg=>?_) (λFg=>?_)
 ·refine bQ Y<|ev (fK wF Y Y (K1.x s0))<|mv Y<|gU Y (agA ((K1.sel s0).mV 1 9) o hm hb hl hd hz hg) ?_
  rintro _ w2 ⟨ani,anj,ank,anl,anm,ano,aJM,aJN,aEq,rfl,aJO,K2⟩;refine dn<|wO Y ?_
  have hcp:og (dB m s r aJ bR hs) o=kU (dB m s r aJ bR hs) o:=by unfold og; rw [aS Fg]
  rw [show(og (dB m s r aJ bR hs) o).m=(kU (dB m s r aJ bR hs) o).m from by rw [hcp]];rw [show(og (dB m s r aJ bR hs) o).s=(kU (dB m s r aJ bR hs) o).s from by rw [hcp]];exact⟨ani,anj,ank,anl,anm,ano,aJM,aJN,aEq,Y,(by rw [hcp]; exact aJO),(K2.rm s9)⟩
 refine jy ?_;refine rg<|ev (rE Y)<|bX Y<|bQ Y<|ev (d9 Y)<|yV gh 0 yK Y<|ev (eF UN Y (K1.EZ s9 hg) Y) ?_
 have H1:=K1.xg s9 hg;refine gU Y (OU ((H1.sel s0).mV 1 4) (lI (hz _ _ hg).1 au)) ?_;rintro _ w3 ⟨qQ,qR,rfl,K3⟩;have H2:=YI hg ((((K3.sel s0).sel s6).mV 2 4).sel s6);refine mv Y<|nD H2 Y (EP _ (H2.o s1) (Fz:=[gI g1]) aAB (fun(x:aG)=>ZU o x) (λw' x e hm=>(anC (S0:=Any) w' x o ((H2.x s2).ext e)).mono (by rintro _ _ ⟨rfl,gu⟩; exact⟨rfl,gu.ext⟩))) λw4 K4=>dn<|bP rfl (λhc21=>?_) (λhc21=>?_)
 ·refine Hf K4 (λ_ K=>(K.rm s0)) (λl0 rk lJ wJ=>∃(jW:ah)(jT:Nat),lJ=l0/\Hp b S wJ (jL gm (gK o.To (⟨gh,gs,Bg,jW,jT,up,bG,(Df l o.aD),(OT l o.aD es)⟩:l6) hs)::rk)) (λhns H3=>?_) ?_
  ·have k1:=(H3.rm s0);refine tZ 0 gh 0 yK Y k1<|nJ 4 5 g1 1 tL s1 Y k1<|O1 3 Y<|ev (eF UN Y (H3.EZ s0 hg) Y)<|aO k1<|O1 6 Y ?_
   have H4:=H3.xg s0 hg;refine gU Y (YC ((H4.sel s0).mV 1 4) o.aD (lI (hz _ _ hg).1 au)) ?_;rintro _ w5 ⟨aJP,aJQ,rfl,K5⟩;have H5:=Jr hg ((K5.mV 0 4).sel s4);have k2:=(H5.rm s0);refine aO k2<|Dn ⟨aJP,aJQ,Y,H5⟩ Y
  rintro _ w6 ⟨jW,jT,rfl,K6⟩;refine qc (xV Y ?_);have hcp:og (dB m s r aJ bR hs) o=_:=Ri Fg (gF hg) (by rw [<- hc21]; rfl);rw [show(og (dB m s r aJ bR hs) o).m=m from by rw [hcp]];rw [show(og (dB m s r aJ bR hs) o).s=s from by rw [hcp]];exact⟨A1,c1,A2,c2,A3,c3,A5,c5,(gK o.To (⟨gh,gs,Bg,jW,jT,up,bG,(Df l o.aD),(OT l o.aD es)⟩:l6) hs),Y,(by rw [hcp,Aw]; show gK o.To (l6.pl _) _=gK o.To _ _; unfold l6.pl; simp only; rw [arF]),(((K6.cU 1 2).sel s0).mV 1 8)⟩
 refine zo (qc (xV Y ?_));have hcp:og (dB m s r aJ bR hs) o=_:=adh Fg (gF hg) (by rw [<- hc21]; rfl);rw [show(og (dB m s r aJ bR hs) o).m=m from by rw [hcp]];rw [show(og (dB m s r aJ bR hs) o).s=s from by rw [hcp]];exact⟨A1,c1,A2,c2,A3,c3,A5,c5,hs,Y,(by rw [hcp]),(((K4.cU 1 2).sel s0).mV 1 8)⟩
theorem o9:dL prog 32 0 0:=ay
theorem YW{F:List lG}{A:ah}{c:Nat}{xs:List aK}(H0:Hp b S w (aQ bg 112 A c xs::F)){j:Nat}(hij:i<j)(hj:j<=xs.length) :
    bO prog 97 #[.slice A xs.length c,aI (i:Int),aI (j:Int)] w λv w'=>v=.slice A (xs.take i++xs.drop j).length c/\Hp b S w' (aQ bg 112 A c (xs.take i++xs.drop j)::F):=by
 refine rU func97 ntmps97 Y ?_;have Xg:=(H0.o s0).bC;have hcap:=(H0.o s0).cap;refine iT Y<|bQ Y<|mv Y<|mv Y<|mv Y<|ev (eX lH Y)<|ev (Ev.auh lH y8 Y Y Y Y Y Y Y aj hj (H0.o s0).cap)<|dn<|aY<|bQ Y<|mv Y<|ev (iM Y Y)<|dn<|mZ Y (λhc16=>?_) (λhc16=>?_)
 ·omega
 refine jy ?_;refine bQ Y<|ev (eX lH Y)<|bX Y<|He H0 (λ_ K=>(K.rm s0)) (λl0 rk lJ wJ=>lJ=(0,.slice A ((xs.take i++xs.drop j).length) c)::l0/\Hp b S wJ (aQ bg 112 A c (xs.take i++xs.drop j)::rk)) (λhns H1=>?_) ?_
 ·have k1:=(H1.rm s0);refine lQ 0 Y Y k1<|lQ 1 Y Y k1<|lQ 3 Y Y k1<|lQ 4 Y Y k1<|Jn H1 (λl0 rk lJ wJ=>lJ=(22,.slice A ((xs.take i).length) c)::(25,.slice (sS A c j 7) ((xs.drop j).length) (c - j))::l0/\Hp b S wJ rk) 2 63 ?_ λhS1=>?_
  ·rintro _ w2 ⟨rfl,K2⟩;refine O1 6 Y<|abv K2 s0 Y Y lH EH hij hj λw3 K3=>?_
   have k3:=(K3.rm s0);refine aO k3<|xL 7 Y Y k3<|Dn ⟨Y,K3⟩ Y
  refine O2 2 5 Y Y ?_ ?_
  ·refine ev (F7 lH y8 Y Y Y aj (H1.o s0).cap)<|aO k1<|O1 5 Y<|ev (F8 lH y8 Y Y Y aj (H1.o s0).cap)<|Kj hS1 k1 ⟨Y,H1⟩ Y
  ·refine ev (F8 lH y8 Y Y Y aj (H1.o s0).cap)<|aO k1<|O1 2 Y<|ev (F7 lH y8 Y Y Y aj (H1.o s0).cap)<|Kj hS1 k1 ⟨Y,H1⟩ Y
 rintro _ w4 ⟨rfl,K4⟩;refine bQ Y<|mv Y<|ev (eX lH Y)<|mv Y ?_
 have hln:(xs.take i++xs.drop j).length+(j - i)=xs.length:=by simp only [jG,iF,rR]; omega
 refine ev (Ev.aui lH y8 Y Y Y Y Y aj hcap)<|aeu K4 s0 Y lH ap4 aj λw5 K5=>dn<|bQ Y<|bX Y<|iP Y ?_
 exact⟨Y,K5⟩
theorem ar0(h:it.A<0∨(c.bR.length:Int)<=it.A):lC c it=(c,5):=by unfold lC; rw [aS h]
theorem ai3(hi:it.A=((i:Nat):Int))(ho:c.bR[i]? = some o)(h8:it.Kind=8):lC c it=({ c with bR:=c.bR++[o] },0):=by
  have hl:=aM ho;unfold lC; rw [aP aj,hi,RS,ho]; simp only; rw [aS h8]
theorem ar1(hi:it.A=((i:Nat):Int))(ho:c.bR[i]? = some o)(h8:¬ it.Kind=8)(h6:it.Kind=6/\c.aJ<=o.ji/\wL c.hs o.To=true):lC c it=(og { c with bR:=c.bR.take i++c.bR.drop (i+1) } o,0):=by
  have hl:=aM ho;unfold lC; rw [aP aj,hi,RS,ho]; simp only; rw [aP h8,aS h6]
theorem agB(hi:it.A=((i:Nat):Int))(ho:c.bR[i]? = some o)(h8:¬ it.Kind=8)(h6:¬ (it.Kind=6/\c.aJ<=o.ji/\wL c.hs o.To=true)):lC c it=({ c with bR:=c.bR.take i++c.bR.drop (i+1) },0):=by
  have hl:=aM ho;unfold lC; rw [aP aj,hi,RS,ho]; simp only; rw [aP h8,aP h6]
theorem akD(c:PC)(o:aK):(og c o).bR=c.bR/\(og c o).aJ=c.aJ/\(og c o).r=c.r:=by
  unfold og
  split
  · unfold kU
    split
    · exact⟨Y,Y,Y⟩
    · split
      · exact⟨Y,Y,Y⟩
      · split
        · exact⟨Y,Y,Y⟩
        · split
          · exact⟨Y,Y,Y⟩
          · split <;> exact⟨rfl,rfl,rfl⟩
  · split
    · exact⟨Y,Y,Y⟩
    · split <;> exact⟨rfl,rfl,rfl⟩
abbrev DY(iE:List aK)(je:Nat):=iE.take je++iE.drop (je+1)
theorem TU{F:List lG}(H0:Hp b S w (VR iI A1 c1 A2 c2 A3 c3 A4 c4 A5 c5 A6 c6 A7 c7 m s r aJ gm bR hs F))(it:AItem)(hm:mG m=true)(hb:s.cZ.length<=1000)(hl:s.bI.length<=64)(hd:s.bA.length<=50000)(hz:hSz hs)(hw:bR.length<=500000) :
    bO prog 43 #[gI iI,.agg #[aI it.Kind,aI it.A,aI it.B,aI it.C]] w λv w'=>∃(B1:ah)(d1:Nat)(B2:ah)(d2:Nat)(B3:ah)(d3:Nat)(B5:ah)(d5:Nat)(B7:ah)(d7:Nat)(hs1:kG),v=aI ((lC (dB m s r aJ bR hs) it).2)/\kR hs1=(lC (dB m s r aJ bR hs) it).1.hs/\Hp b S w' (GA iI B1 d1 B2 d2 B3 d3 A4 c4 B5 d5 A6 c6 B7 d7 ((lC (dB m s r aJ bR hs) it).1.m) ((lC (dB m s r aJ bR hs) it).1.s) r aJ gm ((lC (dB m s r aJ bR hs) it).1.bR)::dH bW B1 d1 (((lC (dB m s r aJ bR hs) it).1.m).aL)::dH bD B2 d2 (((lC (dB m s r aJ bR hs) it).1.m).aA)::dH dw B3 d3 (((lC (dB m s r aJ bR hs) it).1.m).aT)::dH iK A4 c4 (((lC (dB m s r aJ bR hs) it).1.s).cZ)::dH dz B5 d5 (((lC (dB m s r aJ bR hs) it).1.s).bI)::dH bg A6 c6 (((lC (dB m s r aJ bR hs) it).1.s).bA)::aQ bg 112 B7 d7 ((lC (dB m s r aJ bR hs) it).1.bR)::jL gm hs1::F):=by
 refine rU func43 ntmps43 Y<|rg<|bx Y Y H0 λg1 w1 K1=>bX Y<|aY<|qU ak ak<|bB (fQ (q:=⟨g1,1,none⟩) om Y Y) Y<|bB (eF jN Y (K1.x s0) Y) Y<|bB (fD Y Y) Y<|bB (bq Y) Y<|qY 9 19 ((decide (it.A<0))||(decide (((bR.length:Nat):Int)<=it.A))) ?_ ?_
 ·cases aCn:decide (it.A<0) with
  | true=>
   refine dI Y Y Y<|dI Y Y Y<|dI Y Y Y<|dI Y Y Y<|dI Y Y Y<|dI Y Y Y<|dI Y Y Y<|dI Y Y Y<|bB (dM Y Y) Y<|jY Y
  | false=>
   refine dX Y (fQ (q:=⟨g1,1,none⟩) om Y Y) Y<|dX Y (eF jN Y (K1.x s0) Y) Y<|dX Y (bq Y) Y<|dX Y (d9 Y) Y<|dX Y (fQ (q:=⟨iI,14,none⟩) Az Y Y) Y<|dX Y (eF axg Y (K1.x s1) Y) Y<|dX Y (eX lH Y) Y<|dX Y (qD Y Y) Y<|bB (dS Y Y) Y<|jY Y
 refine qV λw2 e2=>?_;have K2:=K1.grow e2;refine bP Y (λhc19=>?_) (λhc19=>?_)
 ·try simp only [eT,dO,bM,bV] at hc19
  refine iT Y<|wO Y ?_
  have hop:lC (dB m s r aJ bR hs) it=_:=ar0 (by show it.A<0∨(bR.length:Int)<=it.A; omega);rw [show(lC (dB m s r aJ bR hs) it).1.m=m from by rw [hop]];rw [show(lC (dB m s r aJ bR hs) it).1.s=s from by rw [hop]];rw [show(lC (dB m s r aJ bR hs) it).1.bR=bR from by rw [hop]];rw [show(lC (dB m s r aJ bR hs) it).2=5 from by rw [hop]];exact⟨A1,c1,A2,c2,A3,c3,A5,c5,A7,c7,hs,Y,(by rw [hop]),(K2.rm s0)⟩
 try simp only [eT,dO,bM,bV] at hc19
 refine jy ?_;obtain⟨i,hi⟩:∃ i:Nat,it.A=((i:Nat):Int):=⟨(it.A).toNat,aj⟩;have iq:=hi;have H1:=K2;rw [hi] at H1;obtain⟨x1,bN⟩:=bn (xs:=bR) (i:=i) aj;refine He H1 (λ_ K=>K) (λl0 rk lJ wJ=>∃(su:Nat),lJ=(5,gI su)::l0/\Hp b S wJ (dW su 112 [aI x1.Kind,aI x1.aD,aI x1.aB,gP x1.Sum,aI x1.jM,aI x1.To,aI x1.ji]::rk)) (λhns H2=>?_) ?_
 ·refine tZ 0 iI 14 Az Y H2<|Db 3 s1 Y H2<|nJ 4 5 g1 1 om s0 Y H2<|l9 6 Y (λ_ hK=>eP (i:=i) lH y8 Y Y Y (aM bN) ((hK.o s8).some_ bN)) H2<|l9 7 Y (λ_ hK=>iU wF Y Y ((hK.o s8).fF bN)) H2<|O1 8 Y<|al CK Y H2 λg2 w3 K3=>?_
  have k1:=(K3.rm s0);refine aO k1<|O1 9 Y<|sty Y K3 s0 Y λw4 K4=>?_
  have k2:=(K4.rm s0);refine aO k2<|Dn ⟨g2,Y,K4⟩ Y
 rintro _ w5 ⟨su,rfl,K5⟩;refine aY<|rg<|j6 g1 0 o9 K5 s1 Y<|ev (iM Y Y)<|dn<|mZ Y (λYX=>?_) (λYX=>?_)
 ·refine He K5 (λ_ K=>((K.rm s9).rm s2)) (λl0 rk lJ wJ=>∃(jW:ah)(jT:Nat),lJ=l0/\Hp b S wJ (GA iI A1 c1 A2 c2 A3 c3 A4 c4 A5 c5 A6 c6 jW jT m s r aJ gm (bR++([x1]:List aK))::aQ bg 112 jW jT (bR++([x1]:List aK))::rk)) (λhns H3=>?_) ?_
  ·have k3:=((H3.rm s9).rm s2);refine lQ 0 Y Y k3<|tZ 1 iI 14 Az Y k3<|l9 5 Y (λ_ hK=>fK wF Y Y (hK.x s0)) k3<|Jn H3 (λl0 rk lJ wJ=>∃(g3:Nat),lJ=(35,.slice A7 bR.length c7)::(37,.slice (some ⟨g3,0,none⟩) (([x1]:List aK).length) 1)::l0/\Hp b S wJ (aQ bg 112 (some ⟨g3,0,none⟩) 1 ([x1]:List aK)::rk)) 4 127 ?_ λhS1=>?_
   ·rintro _ Om ⟨g3,rfl,K10⟩;refine O1 7 Y<|ap (ys:=([x1]:List aK)) K10 s10 Y Y (K10.o s0) lH EH aj av Y λXp cp2 Va vM=>?_
    have k8:=((vM.rm s4).cU 0 2);refine aO k8<|Sr 8 iI 14 Az Y k8<|O1 10 Y<|yD Y vM s4 Y λVb vH=>?_
    have k9:=(vH.cU 0 3);refine aO k9<|Dn ⟨Xp,cp2,Y,(vH.rm s2)⟩ Y
   refine O2 4 6 Y Y ?_ ?_
   ·refine nL H3 s2 Y<|aO k3<|O1 6 Y<|Bh (τ:=bg) (x:=x1) Y (by intro _; apply fM) rfl H3 (λ_ _=>rfl) λg5 w13 Bf=>?_
    have k10:=(((Bf.rm s10).rm s3).rm s0);exact Kj hS1 k10 ⟨g5,Y,Bf⟩ Y
   ·refine Bh (τ:=bg) (x:=x1) Y (by intro _; apply fM) rfl H3 (λ_ _=>rfl) λg6 w14 xM=>?_;have k11:=(((xM.rm s10).rm s3).rm s0);refine aO k11<|O1 4 Y<|nL xM s3 Y<|Kj hS1 k11 ⟨g6,Y,xM⟩ Y
  rintro _ w15 ⟨jW,jT,rfl,BI⟩;refine iT Y<|wO Y ?_
  have hop:lC (dB m s r aJ bR hs) it=_:=ai3 iq bN YX;rw [show(lC (dB m s r aJ bR hs) it).1.m=m from by rw [hop]];rw [show(lC (dB m s r aJ bR hs) it).1.s=s from by rw [hop]];rw [show(lC (dB m s r aJ bR hs) it).1.bR=(bR++([x1]:List aK)) from by rw [hop]];rw [show(lC (dB m s r aJ bR hs) it).2=0 from by rw [hop]];exact⟨A1,c1,A2,c2,A3,c3,A5,c5,jW,jT,hs,Y,(by rw [hop]),(((BI.cU 2 2).sel s1).mV 1 7)⟩
 refine jy ?_;refine He K5 (λ_ K=>((K.rm s9).rm s2)) (λl0 rk lJ wJ=>∃(pO:ah)(cj2:Nat),lJ=l0/\Hp b S wJ (GA iI A1 c1 A2 c2 A3 c3 A4 c4 A5 c5 A6 c6 pO cj2 m s r aJ gm (DY bR i)::aQ bg 112 pO cj2 (DY bR i)::aQ bg 112 A7 c7 bR::rk)) (λhns H4=>?_) ?_
 ·have k12:=((H4.rm s9).rm s2);refine lQ 0 Y Y k12<|tZ 1 iI 14 Az Y k12<|nJ 6 7 g1 1 om s1 Y k12<|nJ 8 9 g1 1 om s1 Y k12<|l9 10 Y (λ_ _=>dP Y Y) k12<|O1 4 Y<|nL H4 s2 Y<|aO k12<|O1 5 Y<|gU Y (BS _ (H4.o s9) aj) ?_
  rintro _ w16 ⟨XD,XE,rfl,h16⟩;have EB:=H4.f1 h16;have k13:=(((EB.rm s10).rm s3).rm s0);refine aO k13<|O1 11 Y<|gU Y (YW (i:=i) (j:=i+1) (EB.sel s0) aj aj) ?_
  rintro _ w17 ⟨rfl,BJ⟩;have k14:=(((BJ.rm s10).rm s3).rm s0);refine aO k14<|Sr 12 iI 14 Az Y k14<|O1 14 Y<|yD Y BJ s3 Y λw18 JR=>?_
  have k15:=((JR.rm s10).cU 0 2);refine aO k15<|Dn ⟨XD,XE,Y,((JR.mV 2 8).mV 8 3)⟩ Y
 rintro _ w19 ⟨pO,cj2,rfl,EC⟩;refine aY ?_
 rcases hg1:dY x1.To hs with _ | ⟨gh1,gs1,Zl,Ah1,ch1,YN,Zn,l1,es1⟩
 ·refine qU ak ak<|bB (bq Y) Y<|bB (d9 Y) Y<|bB (fQ (q:=⟨iI,13,none⟩) u6 Y Y) Y<|bB (eF UQ Y (EC.x s0) Y) Y<|bB (fQ (q:=⟨su,5,none⟩) Ab Y Y) Y<|bB (eF jN Y (EC.x s3) Y) Y<|bB (Ev.hN EC s11 hg1 EY zi vS Y Y) Y<|bB (pz Y) Y<|qV λw20 e20=>?_
  have Gy:=EC.grow e20;refine qU ak ak<|bB (fQ (q:=⟨g1,0,none⟩) o9 Y Y) Y<|bB (eF jN Y (Gy.x s4) Y) Y<|bB (iM Y Y) Y<|bB (bq Y) Y<|qY 8 73 ((decide (it.Kind=6))&&(decide (aJ<=x1.ji))) ?_ ?_
  ·cases aAD:decide (it.Kind=6) with
   | true=>
    have aEr:=iY aAD;refine dX Y (bq Y) Y<|dX Y (d9 Y) Y<|dX Y (fQ (q:=⟨iI,12,none⟩) BX Y Y) Y<|dX Y (eF jN Y (Gy.x s0) Y) Y<|dX Y (fQ (q:=⟨su,6,none⟩) X5 Y Y) Y<|dX Y (eF jN Y (Gy.x s3) Y) Y<|dX Y (u7 Y Y) Y<|bB (dM Y Y) Y<|jY Y
   | false=>
    refine dI Y Y Y<|dI Y Y Y<|dI Y Y Y<|dI Y Y Y<|dI Y Y Y<|dI Y Y Y<|dI Y Y Y<|bB (dS Y Y) Y<|jY Y
  refine bB (bq Y) Y<|qY 3 77 false ?_ ?_
  ·cases aAE:((decide (it.Kind=6))&&(decide (aJ<=x1.ji))) with
   | true=>
    have ar2:=aAE
    try simp only [bK,eu,bM,bV] at ar2
    refine dX Y (bq Y) Y<|dX Y (Ev.pnn Dh Y Y) Y<|bB (dM Y Y) Y<|Dm (t:=77) (u:=.bool false) (v:=.bool false) Y (aV Value.bool (by rfl))<|jY rfl
   | false=>
    refine dI Y Y Y<|dI Y Y Y<|bB (dS Y Y) Y<|Dm (t:=77) (u:=.bool false) (v:=.bool false) Y (aV Value.bool (by rfl))<|jY rfl
  refine bB (bq Y) Y<|dI Y Y Y<|dI Y Y Y<|dI Y Y Y<|dI Y Y Y<|bB (dS Y Y) Y<|qV λw21 e21=>?_
  have IV:=Gy.grow e21;refine bP Y nofun (λ_h=>?_);refine jy ?_;refine iT Y<|iP Y ?_
  have hop:lC (dB m s r aJ bR hs) it=_:=agB iq bN YX (by rintro⟨h1,h2,h3⟩; have h3':wL (kR hs) _=true:=h3; unfold wL at h3'; rw [jA,hg1] at h3'; cases h3');rw [show(lC (dB m s r aJ bR hs) it).1.m=m from by rw [hop]];rw [show(lC (dB m s r aJ bR hs) it).1.s=s from by rw [hop]];rw [show(lC (dB m s r aJ bR hs) it).1.bR=(DY bR i) from by rw [hop]];rw [show(lC (dB m s r aJ bR hs) it).2=0 from by rw [hop]];exact⟨A1,c1,A2,c2,A3,c3,A5,c5,pO,cj2,hs,Y,(by rw [hop]),(((IV.cU 2 3).sel s1).mV 1 7)⟩
 ·skip
  refine qU ak ak<|bB (bq Y) Y<|bB (d9 Y) Y<|bB (fQ u6 Y Y) Y<|bB (eF UQ Y (EC.x s0) Y) Y<|bB (fQ Ab Y Y) Y<|bB (eF jN Y (EC.x s3) Y) Y<|bB (Ev.hS EC s11 hg1 EY zi vS Y Y) Y<|bB (pz Y) Y<|qV λw22 e22=>?_
  have GR:=EC.grow e22;refine qU ak ak<|bB (fQ o9 Y Y) Y<|bB (eF jN Y (GR.x s4) Y) Y<|bB (iM Y Y) Y<|bB (bq Y) Y<|qY 8 73 ((decide (it.Kind=6))&&(decide (aJ<=x1.ji))) ?_ ?_
  ·cases aAD:decide (it.Kind=6) with
   | true=>
    have aEr:=iY aAD;refine dX Y (bq Y) Y<|dX Y (d9 Y) Y<|dX Y (fQ BX Y Y) Y<|dX Y (eF jN Y (GR.x s0) Y) Y<|dX Y (fQ X5 Y Y) Y<|dX Y (eF jN Y (GR.x s3) Y) Y<|dX Y (u7 Y Y) Y<|bB (dM Y Y) Y<|jY Y
   | false=>
    refine dI Y Y Y<|dI Y Y Y<|dI Y Y Y<|dI Y Y Y<|dI Y Y Y<|dI Y Y Y<|dI Y Y Y<|bB (dS Y Y) Y<|jY Y
  refine bB (bq Y) Y<|qY 3 77 (((decide (it.Kind=6))&&(decide (aJ<=x1.ji)))&&true) ?_ ?_
  ·cases aAE:((decide (it.Kind=6))&&(decide (aJ<=x1.ji))) with
   | true=>
    have ar2:=aAE
    try simp only [bK,eu,bM,bV] at ar2
    refine dX Y (bq Y) Y<|dX Y (Ev.pnn Dh Y Y) Y<|bB (dM Y Y) Y<|jY Y
   | false=>
    refine dI Y Y Y<|dI Y Y Y<|bB (dS Y Y) Y<|jY Y
  refine bB (bq Y) Y<|qY 5 83 ((((decide (it.Kind=6))&&(decide (aJ<=x1.ji)))&&true)&&YN) ?_ ?_
  ·cases aJR:(((decide (it.Kind=6))&&(decide (aJ<=x1.ji)))&&true) with
   | true=>
    have aEs:=aJR
    try simp only [bK,eu,bM,bV,acR,false_or,tq,true_and,uK] at aEs
    refine dX Y (bq Y) Y<|dX Y (d9 Y) Y<|dX Y (fQ Ju Y Y) Y<|dX Y (eF aiO Y (GR.EZ s11 hg1) Y) Y<|bB (dM Y Y) Y<|jY Y
   | false=>
    refine dI Y Y Y<|dI Y Y Y<|dI Y Y Y<|dI Y Y Y<|bB (dS Y Y) Y<|jY Y
  refine qV λw23 e23=>?_;have JU:=GR.grow e23;refine bP Y (λaAF=>?_) (λaAF=>?_)
  ·have aAG:(it.Kind=6/\aJ<=x1.ji)/\YN=true:=by simpa using aAF
   refine jC<|mv Y<|ev (fK wF Y Y (JU.x s3))<|mv Y<|gU Y (arZ ((((JU.mV 2 3).sel s11).sel s5).mV 5 7) x1 hm hb hl hd hz aj) ?_
   rintro _ w24 ⟨aEt,aEu,aEv,aEw,aEx,aEy,aEz,aEA,aAH,rfl,aEB,pK⟩;refine jD<|gy<|iT Y<|iP Y ?_
   have hop:lC (dB m s r aJ bR hs) it=(og (⟨m,s,r,aJ,(DY bR i),kR hs⟩:PC) x1,0):=ar1 iq bN YX ⟨aAG.1.1,aAG.1.2,by show wL (kR hs) _=true; unfold wL; rw [jA,hg1]; exact aAG.2⟩;have hdn:=akD (⟨m,s,r,aJ,(DY bR i),kR hs⟩:PC) x1;rw [show(lC (dB m s r aJ bR hs) it).1.m=(og (⟨m,s,r,aJ,(DY bR i),kR hs⟩:PC) x1).m from by rw [hop]];rw [show(lC (dB m s r aJ bR hs) it).1.s=(og (⟨m,s,r,aJ,(DY bR i),kR hs⟩:PC) x1).s from by rw [hop]];rw [show(lC (dB m s r aJ bR hs) it).1.bR=(DY bR i) from by rw [hop]; exact hdn.1];rw [show(lC (dB m s r aJ bR hs) it).2=0 from by rw [hop]];exact⟨aEt,aEu,aEv,aEw,aEx,aEy,aEz,aEA,pO,cj2,aAH,Y,(by rw [hop]; exact aEB),(pK.cU 9 3)⟩
  refine jy ?_;refine iT Y<|iP Y ?_
  have hop:lC (dB m s r aJ bR hs) it=_:=agB iq bN YX (by rintro⟨h1,h2,h3⟩; have h3':wL (kR hs) _=true:=h3; unfold wL at h3'; rw [jA,hg1] at h3'; have h4:YN=true:=h3'; simp [h1,h2,h4] at aAF);rw [show(lC (dB m s r aJ bR hs) it).1.m=m from by rw [hop]];rw [show(lC (dB m s r aJ bR hs) it).1.s=s from by rw [hop]];rw [show(lC (dB m s r aJ bR hs) it).1.bR=(DY bR i) from by rw [hop]];rw [show(lC (dB m s r aJ bR hs) it).2=0 from by rw [hop]];exact⟨A1,c1,A2,c2,A3,c3,A5,c5,pO,cj2,hs,Y,(by rw [hop]),(((JU.cU 2 3).sel s1).mV 1 7)⟩
theorem Di:(prog.underlying 3).isSome=true/\prog.underlying 5=some (.int (prog.intKind 5))/\prog.intKind 5=.u8:=⟨ak,ak,ak⟩
theorem ads(a0:Int)(a1:Int)(a2:Int)(a3:Int):∀ w,(Instr.buildSlice 33 4 (List.toArray [(0,.int .u8 a0),(1,.int .u8 a1),(2,.int .u8 a2),(3,.int .u8 a3)])).run prog w=.ok (.slice (some ⟨w.heap.size,0,none⟩) 4 4) (w.alloc (.cells (List.toArray [.int .u8 a0,.int .u8 a1,.int .u8 a2,.int .u8 a3]) 5)):=ay
theorem ar3:mg prog 26:=ay
theorem aEC:bJ prog 37:=ay
theorem akE(z:Int):IntKind.u8.wrap z=(((BitVec.ofInt 8 z).toNat:Nat):Int):=by
  rw [BitVec.toNat_ofInt];show z % 256=_;have:0<=z % ((2 ^ 8:Nat):Int):=Int.emod_nonneg _ au;rw [Int.toNat_of_nonneg this]; rfl
theorem av4{l:List aR}{aX:List fP}{hs:List Int}{t:aR}(h:uR l aH aX hs l=some t):t∈l:=by
  suffices g:∀(M:List aR)(b:Option aR),(∀ x,b=some x->x∈l)->(∀ x∈M,x∈l)->∀ x,M.foldl (tgF l aH aX hs) b=some x->x∈l from g l none (λx h=>by cases h) (λx h=>h) t h
  intro M
  induction M with
  | nil=>intro b hb _ x hx; exact hb x hx
  | cons n M ih=>
    intro b hb hM x hx;refine ih _ ?_ (λy hy=>hM y (by simp [hy])) x hx;intro y hy;unfold tgF at hy
    split at hy
    · split at hy
      · cases hy; exact hM _ av
      · split at hy
        · cases hy; exact hM _ av
        · cases hy; exact hb _ rfl
    · exact hb y hy
theorem agC{l:List aR}:∀(n:Nat)(aX:List fP)(hs:List Int),∀ z∈r9 l aH n aX hs,∃ x∈l,x.ID=z
  | 0,_,_,z,h=>by simp [r9] at h
  | n+1,aX,hs,z,h=>by
    unfold r9 at h
    cases ht:uR l aH aX hs l with
    | none=>rw [ht] at h; simp at h
    | some t=>
      rw [ht] at h
      rcases iR.1 h with rfl | h
      · exact⟨t,av4 ht,Y⟩
      · exact agC n _ _ z h
theorem aaZ{c v sum:Int}{fG:List (BitVec 8)}{q:kN × List Int}{z:Int}{h:oZ}(hg:dY z q.1=some h):vQ c v sum fG q z=(gK z ⟨h.up,h.bG,Hy h.l h.bG c v sum fG,tkD h.l h.bG c v sum fG h.d⟩ q.1,if TL h.l h.bG c v sum fG=true then q.2++[z] else q.2):=by unfold vQ; rw [hg]
theorem YZ{hs:kN}{x:aF}{z:Int}{k:Nat}{n:Int}{H:List Int}(h:H[k]? = some n):OY hs x z (H.drop k)=match dY n hs with
    | none=>OY hs x z (H.drop (k+1))
    | some h=>if h.up=true/\(uD h.l h.d z).2.2=0/\(uD h.l h.d z).2.1=x.aB/\((iQ (uD h.l h.d z).1).toNat:Int)=x.Sum then((uD h.l h.d z).1,0) else OY hs x z (H.drop (k+1)):=by
  obtain⟨hk,he⟩:=sN.1 h;rw [BA hk,he]; rfl
abbrev Nr(iE:Int):=BitVec.ofInt 8 (iE / 2 ^ 8)
abbrev Ns(iE:Int):=BitVec.ofInt 8 iE
theorem ar4(w:World)(aN:Int)(number:Int) :
    bO prog 13 #[aI aN,aI number] w λv w'=>∃(A0:ah)(c0:Nat),v=.slice A0 ((oh aN number).length) c0/\Hp w S0 w' [aQ gQ 5 A0 c0 (oh aN number)]:=by
 refine lg S0 func13 ntmps13 Y λH0=>iT Y<|bQ Y<|ev (Py Di.1 Di.2.1 Di.2.2 Y)<|gJ (t:=6) Y (aV (Value.int .u8) (akE aN))<|mv Y<|ev (Ev.aDI (c:=8) Y Y aj)<|ev (Py Di.1 Di.2.1 Di.2.2 Y)<|gJ (t:=9) Y (aV (Value.int .u8) (akE (aN / 2 ^ 8)))<|mv Y<|ev (Py Di.1 Di.2.1 Di.2.2 Y)<|gJ (t:=11) Y (aV (Value.int .u8) (akE number))<|mv Y<|ev (Ev.aDI (c:=8) Y Y aj)<|ev (Py Di.1 Di.2.1 Di.2.2 Y)<|gJ (t:=14) Y (aV (Value.int .u8) (akE (number / 2 ^ 8)))<|bsn (τ:=gQ) (xs:=([(Ns aN),(Nr aN),(Ns number),(Nr number)]:List (BitVec 8))) (css:=[[.int .u8 (((Ns aN)).toNat:Int)],[.int .u8 (((Nr aN)).toNat:Int)],[.int .u8 (((Ns number)).toNat:Int)],[.int .u8 (((Nr number)).toNat:Int)]]) Y (by intro _; apply ads) rfl rfl H0 (λ_ e=>⟨rfl,rfl,rfl,rfl,trivial⟩) λg1 w1 K1=>bX rfl<|iP rfl ?_
 have fT:(([(Ns aN),(Nr aN),(Ns number),(Nr number)]:List (BitVec 8)):List (BitVec 8))=(oh aN number):=by rfl
 rw [fT] at K1;exact⟨(some ⟨g1,0,none⟩),4,by rw [fT] <;> rfl,K1⟩
theorem av5(w:World){b0:World}{F0:List lG}(hH:Hp b0 S1 w (VR iI A1 c1 A2 c2 A3 c3 A4 c4 A5 c5 A6 c6 A7 c7 m s r aJ gm bR hs F0))(bH:Int) :
    bO prog 37 #[gI iI,aI bH] w λv w'=>v=.bool (wL (kR hs) bH)/\Hp w S0 w' []:=by
 refine lg S0 func37 ntmps37 Y λH0=>iT Y ?_
 rcases hg1:dY bH hs with _ | ⟨gh1,gs1,Zl,Ah1,ch1,YN,Zn,l1,es1⟩
 ·refine bQ Y<|ev (d9 Y)<|yV iI 13 u6 Y<|ev (eF UQ Y ((hH.x s0).ext H0.ext) Y)<|mv Y<|ev (Ev.hN (hH.grow H0.ext) s8 hg1 EY zi vS Y Y)<|bX Y<|bQ Y<|ev (Ev.pnn Dh Y Y)<|mv Y<|dN<|dN<|dN<|dN<|ev (dS Y Y)<|bX Y<|iP Y ?_
  have fT:(false:Bool)=(wL (kR hs) bH):=by unfold wL; rw [jA,hg1]; rfl
  exact⟨by rw [<- fT] <;> rfl,H0⟩
 ·refine bQ Y<|ev (d9 Y)<|yV iI 13 u6 Y<|ev (eF UQ Y ((hH.x s0).ext H0.ext) Y)<|mv Y<|ev (Ev.hS (hH.grow H0.ext) s8 hg1 EY zi vS Y Y)<|bX Y<|bQ Y<|ev (Ev.pnn Dh Y Y)<|mv Y<|bE Y (bq Y) Y<|bE Y (d9 Y) Y<|gfy gh1 1 Ju Y<|bE Y (eF aiO Y ((hH.grow H0.ext).EZ s8 hg1) Y) Y<|ev (dM Y Y)<|bX Y<|iP Y ?_
  have gu:(YN:Bool)=(wL (kR hs) bH):=by unfold wL; rw [jA,hg1]; rfl
  exact⟨by rw [<- gu] <;> rfl,H0⟩
theorem ai4(w:World)(id:Int){b0:World}{F0:List lG}{g2:Nat}(hH:Hp b0 S1 w (dW g2 26 [gI iI]::GA iI A1 c1 A2 c2 A3 c3 A4 c4 A5 c5 A6 c6 A7 c7 m s r aJ gm bR::dH bW A1 c1 m.aL::dH bD A2 c2 m.aA::dH dw A3 c3 m.aT::dH iK A4 c4 s.cZ::dH dz A5 c5 s.bI::dH bg A6 c6 s.bA::aQ bg 112 A7 c7 bR::jL gm hs::F0)) :
    bO prog 100 #[aI id,gI g2] w λv w'=>v=.bool (!wL (kR hs) id)/\Hp w S0 w' []:=by
 refine lg S0 func100 ntmps100 Y λH0=>iT Y<|rg<|ev (eF ar3 Y ((hH.x s0).ext H0.ext) Y)<|mv Y<|nD H0 Y (av5 (S0:=Any) _ ((hH.grow H0.ext).rm s0) id) λw1 K1=>ev (iG Y)<|bX Y<|iP Y ?_
 exact⟨by skip <;> rfl,K1⟩
end
section
variable {κ ν:Type}{m:dh}{it:AItem}{X:fH}{q:kN × List Int}{s:gG}{r:ARules}{aJ:Int}{bR:List aK}{hs:kN}{es:List (κ × ν)}
theorem adt:(prog.underlying 57).isSome=true/\prog.underlying 3=some (.int (prog.intKind 3))/\prog.intKind 3=.i64:=⟨ak,ak,ak⟩
theorem aAI:bJ prog 100:=ay
theorem ar5{cs:List aF}{ns:List aR}(h:sj ns=true):(oH cs ns).length<=1000:=by
  unfold oH; rw [aS h,kF]; have:=Ak h; omega
theorem av6{cs:List aF}{ns:List aR}(h:kI cs=true):∀ x∈oH cs ns,0<=x.N/\x.N<=1000000:=by
  intro x hx; unfold oH at hx; split at hx
  · obtain⟨n,_,rfl⟩:=gB.1 hx
    have h1:=P6 cs n.ID; have h2:=(kM.1 h).2.1;show 0<=((oW cs n.ID:Nat):Int)/\((oW cs n.ID:Nat):Int)<=1000000; omega
  · exact absurd hx av
theorem aa0[DecidableEq κ](k:κ)(v:ν)(es:List (κ × ν)):dY k (gK k v es)=some v:=by
  unfold gK
  split
  · rename_i h
    unfold dY at h ⊢
    have:(es.map λp=>if p.1=k then(k,v) else p).find? (λp=>decide (p.1=k))=some (k,v):=by
      induction es with
      | nil=>simp at h
      | cons p es ih=>
        rw [mR]
        by_cases hp:p.1=k
        · rw [aS hp,SV av]
        · rw [aP hp,zU (by simpa using hp)]
          refine ih ?_
          rwa [zU (by simpa using hp)] at h
    rw [this]; rfl
  · rename_i h
    unfold dY at h ⊢;rw [KX]
    cases hf:es.find? (λp=>decide (p.1=k)) with
    | none=>simp
    | some q=>rw [hf] at h; exact absurd rfl h
theorem akF[DecidableEq κ]{k:κ}{v:ν}{Q:ν->Prop}(h:∀ z x,dY z es=some x->Q x)(hv:Q v):∀ z x,dY z (gK k v es)=some x->Q x:=λz x hx=>by
  by_cases e:z=k
  · subst e; rw [aa0] at hx; cases hx; exact hv
  · rw [FX e] at hx; exact h z x hx
theorem agD[DecidableEq κ]{k z:κ}{v:ν}(h:(dY z es).isSome=true):(dY z (gK k v es)).isSome=true:=by
  by_cases e:z=k
  · subst e; rw [aa0]; rfl
  · rw [FX e]; exact h
theorem ar6(l:List aG)(c v:Int):(TJ l c v).length<=l.length:=by
  unfold TJ
  split
  · rename_i h
    unfold mW at h ⊢
    split
    · simp
    · rename_i ho
      rw [aP ho] at h;obtain⟨y,h1,h2,_,_⟩:=afY (by simpa using ho);have hl:=aM h2;refine lI (afZ _ _) ?_;have:=wY l
      simp only [jG,iF,rR]; omega
  · exact kJ _
theorem akG(l:List aG)(bG c v sum:Int)(fG:List (BitVec 8)):(Hy l bG c v sum fG).length<=l.length+1:=by
  have h:=agu l bG c v sum fG;unfold Hy; split
  · exact lI (ar6 _ _ _) h
  · exact h
theorem agE(hm:mG m=true){x:fH}(hx:x.Client=0)(hk:x.Kind=3∨x.Kind=4):(eH m x).1.aL=m.aL:=by
  rw [aky hm hx];show(yt m x).1=_
  rcases hk with h | h
  · rw [aaJ h]
  · rw [aaK h]
theorem anD{l:List Int}{f:Int->fH}{k:Nat}{z:Int}(h:l[k]? = some z):C9 m ((l.take (k+1)).map f)=tY (C9 m ((l.take k).map f)) (f z):=by
  unfold C9; rw [fC h,tu,zY]; rfl
theorem av7{c:PC}(hX:vY c.m it=X)(h:(eH c.m X).2<0):sF c it=(c,-(eH c.m X).2):=by
  unfold sF; rw [hX,aS h]
theorem ar7{c:PC}(hX:vY c.m it=X)(h:¬ (eH c.m X).2<0)(hq:q=(YM c (eH c.m X).1).foldl (vQ it.A (eH c.m X).2 (Js it.A it.B) (oh it.A it.B)) (c.hs,[]))(h0:q.2=[]):sF c it=({ c with hs:=q.1 },7):=by
  have:Jt c it=q:=by unfold Jt; rw [hX,hq]
  unfold sF; rw [this,hX,aP h,aS h0]
theorem ar8{c:PC}(hX:vY c.m it=X)(h:¬ (eH c.m X).2<0)(hq:q=(YM c (eH c.m X).1).foldl (vQ it.A (eH c.m X).2 (Js it.A it.B) (oh it.A it.B)) (c.hs,[]))(h0:¬ q.2=[]):sF c it=({ c with m:=C9 (eH c.m X).1 (q.2.map λz=>vX it.A z (eH c.m X).2),hs:=q.1 },0):=by
  have:Jt c it=q:=by unfold Jt; rw [hX,hq]
  unfold sF; rw [this,hX,aP h,aP h0]
theorem ar9{m1:dh}{e1:Int}(hX:vY m it=X)(h1:(eH m X).1=m1)(h2:(eH m X).2=e1)(h:e1<0):sF ⟨m,s,r,aJ,bR,hs⟩ it=(⟨m,s,r,aJ,bR,hs⟩,-e1):=by subst h2; exact av7 hX h
theorem anE{q:kN}{tg td:List Int}{m1:dh}{e1:Int}(hX:vY m it=X)(h1:(eH m X).1=m1)(h2:(eH m X).2=e1)(h:¬ e1<0)(htg:YM ⟨m,s,r,aJ,bR,hs⟩ m1=tg)
    (hf:(q,td)=tg.foldl (vQ it.A e1 (Js it.A it.B) (oh it.A it.B)) (hs,[])) (h0:td=[]):sF ⟨m,s,r,aJ,bR,hs⟩ it=(⟨m,s,r,aJ,bR,q⟩,7):=by subst h1 h2; exact ar7 (q:=(q,td)) hX h (by subst htg; exact hf) h0
theorem anF{q:kN}{tg td:List Int}{m1:dh}{e1:Int}(hX:vY m it=X)(h1:(eH m X).1=m1)(h2:(eH m X).2=e1)(h:¬ e1<0)(htg:YM ⟨m,s,r,aJ,bR,hs⟩ m1=tg)
    (hf:(q,td)=tg.foldl (vQ it.A e1 (Js it.A it.B) (oh it.A it.B)) (hs,[])) (h0:¬ td=[]):sF ⟨m,s,r,aJ,bR,hs⟩ it=(⟨C9 m1 (td.map fun(z:Int)=>vX it.A z e1),s,r,aJ,bR,q⟩,0):=by subst h1 h2; exact ar8 (q:=(q,td)) hX h (by subst htg; exact hf) h0
theorem anG{b w:World}{S:Nat->Prop}{F:List lG}{iI:Nat}{A1 A2 A3 A4 A5 A6 A7:ah}{c1 c2 c3 c4 c5 c6 c7 gm:Nat}{hs:kG}(H0:Hp b S w (GA iI A1 c1 A2 c2 A3 c3 A4 c4 A5 c5 A6 c6 A7 c7 m s r aJ gm bR::dH bW A1 c1 m.aL::dH bD A2 c2 m.aA::dH dw A3 c3 m.aT::dH iK A4 c4 s.cZ::dH dz A5 c5 s.bI::dH bg A6 c6 s.bA::aQ bg 112 A7 c7 bR::jL gm hs::F))(it:AItem)(hm:mG m=true)(hu:0<=aJ/\aJ<=549755813888)(hb:s.cZ.length<=1000)(hr:l5 r=true)(hz:∀ z h,dY z hs=some h->h.l.length<=900)(hN:∀ n∈m.aL,(dY n.ID hs).isSome=true) :
    bO prog 44 #[gI iI,.agg #[aI it.Kind,aI it.A,aI it.B,aI it.C]] w λv w'=>∃(B1:ah)(d1:Nat)(B2:ah)(d2:Nat)(B3:ah)(d3:Nat)(hs1:kG),v=aI ((sF (⟨m,s,r,aJ,bR,kR hs⟩:PC) it).2)/\kR hs1=(sF (⟨m,s,r,aJ,bR,kR hs⟩:PC) it).1.hs/\Hp b S w' (GA iI B1 d1 B2 d2 B3 d3 A4 c4 A5 c5 A6 c6 A7 c7 ((sF (⟨m,s,r,aJ,bR,kR hs⟩:PC) it).1.m) s r aJ gm bR::dH bW B1 d1 (((sF (⟨m,s,r,aJ,bR,kR hs⟩:PC) it).1.m).aL)::dH bD B2 d2 (((sF (⟨m,s,r,aJ,bR,kR hs⟩:PC) it).1.m).aA)::dH dw B3 d3 (((sF (⟨m,s,r,aJ,bR,kR hs⟩:PC) it).1.m).aT)::dH iK A4 c4 s.cZ::dH dz A5 c5 s.bI::dH bg A6 c6 s.bA::aQ bg 112 A7 c7 bR::jL gm hs1::F):=by
 refine rU func44 ntmps44 Y ?_;have hbd:=oq hr;have hzs:=FV hm;have hdl:((JV s.cZ aJ r.kY).map eY.Node).length<=1000:=by rw [kF]; unfold JV; exact lI (ni _ _) (lI (GY _) hb)
 refine rg<|bx Y Y H0 λg1 w1 K1=>bx Y Y K1 λg2 w2 K2=>bX Y<|rg<|j6 g2 1 om K2 s0 Y<|j6 g2 2 VK K2 s0 Y<|gU Y (ar4 (S0:=Any) _ it.A it.B) ?_
 rintro _ w3 ⟨qQ,qR,rfl,h3⟩;have K3:=K2.f1 h3;have aoY:=(K3.o s0).bC;refine bX Y<|bQ Y<|nD K3 Y (Yz _ (K3.o s0)) λw4 K4=>bX Y<|rg<|j6 g2 1 om K4 s1 Y<|mv Y<|ev (Ep (m:=(iQ (oh it.A it.B)).toNat) adt.1 adt.2.1 adt.2.2 Y (wQ (by have:=(iQ (oh it.A it.B)).isLt; omega)))<|ev (jX (vs:=[(2,aI 3),(3,aI it.A),(4,aI (((iQ (oh it.A it.B)).toNat:Nat):Int))]) (cs:=[aI 0,aI 0,aI 3,aI it.A,aI (((iQ (oh it.A it.B)).toNat:Nat):Int),aI 0]) rfl (by apply yH))<|al YO rfl K4 λg3 w5 K5=>sty rfl K5 s0 rfl λw6 K6=>dn<|aY<|He K6 (λ_ K=>K) (λl0 rk lJ wJ=>∃(su:Nat)(jW:ah)(jT:Nat),lJ=(9,.bool (gZ m.aA it.A))::l0/\Hp b S wJ (dW su 59 [aI ((aU m.aA it.A).ID),aI ((aU m.aA it.A).aB),gP ((aU m.aA it.A).Sum),.slice jW (((aU m.aA it.A).aC).length) jT]::dH dQ jW jT ((aU m.aA it.A).aC)::rk)) (λhns H1=>?_) ?_
 ·refine Db 0 s3 Y H1<|Sr 1 iI 0 AA Y H1<|nJ 3 4 iI 1 j4 s4 Y H1<|nJ 5 6 g2 1 om s2 Y H1<|Jn H1 (λl0 rk lJ wJ=>∃(g4:Nat)(Y0:ah)(Y1:Nat),lJ=(41,.bool (gZ m.aA it.A))::l0/\Hp b S wJ (dW g4 59 [aI ((aU m.aA it.A).ID),aI ((aU m.aA it.A).aB),gP ((aU m.aA it.A).Sum),.slice Y0 (((aU m.aA it.A).aC).length) Y1]::dH dQ Y0 Y1 ((aU m.aA it.A).aC)::rk)) 1 8191 ?_ λhS1=>?_
  ·rintro _ w13 ⟨g4,Y0,Y1,rfl,Bf⟩;have k6:=(Bf.cU 0 2);refine xL 13 Y Y k6<|Dn ⟨g4,Y0,Y1,Y,Bf⟩ Y
  refine O2 7 11 Y Y ?_ ?_
  ·refine gU Y (find_ok _ (H1.s s6) it.A hzs.2.1 hzs.2.2.1) ?_;rintro _ w14 ⟨adu,adv,rfl,h14⟩;have xM:=H1.c1 h14;have aJS:=(xM.s s0).bC;have k7:=(xM.rm s0);refine aO k7<|lQ 8 Y Y k7<|xU 9 Y (vs:=[.agg #[aI ((aU m.aA it.A).ID),aI ((aU m.aA it.A).aB),gP ((aU m.aA it.A).Sum),.slice adu (((aU m.aA it.A).aC).length) adv],.bool (gZ m.aA it.A)]) Y Y k7<|xU 10 Y (vs:=[.agg #[aI ((aU m.aA it.A).ID),aI ((aU m.aA it.A).aB),gP ((aU m.aA it.A).Sum),.slice adu (((aU m.aA it.A).aC).length) adv],.bool (gZ m.aA it.A)]) Y Y k7<|O1 11 Y<|al lX Y xM λg6 w15 BI=>?_
   have k8:=(BI.cU 0 2);refine aO k8<|O1 12 Y<|sty Y BI s0 Y λw16 EB=>?_
   have k9:=(EB.cU 0 2);exact Kj hS1 k9 ⟨g6,adu,adv,Y,EB⟩ Y
  ·refine al lX Y H1 λg7 w17 BJ=>?_;have k10:=(BJ.rm s0);refine aO k10<|O1 7 Y<|gU Y (find_ok _ (BJ.s s7) it.A hzs.2.1 hzs.2.2.1) ?_
   rintro _ w18 ⟨adw,adx,rfl,h18⟩;have JR:=BJ.c1 h18;have aJT:=(JR.s s0).bC;have k11:=(JR.cU 0 2);refine aO k11<|lQ 8 Y Y k11<|xU 9 Y (vs:=[.agg #[aI ((aU m.aA it.A).ID),aI ((aU m.aA it.A).aB),gP ((aU m.aA it.A).Sum),.slice adw (((aU m.aA it.A).aC).length) adx],.bool (gZ m.aA it.A)]) Y Y k11<|xU 10 Y (vs:=[.agg #[aI ((aU m.aA it.A).ID),aI ((aU m.aA it.A).aB),gP ((aU m.aA it.A).Sum),.slice adw (((aU m.aA it.A).aC).length) adx],.bool (gZ m.aA it.A)]) Y Y k11<|O1 12 Y<|sty Y JR s1 Y λw19 EC=>?_
   have k12:=(EC.cU 0 2);exact Kj hS1 k12 ⟨g7,adw,adx,Y,EC⟩ Y
 rintro _ w20 ⟨su,jW,jT,rfl,Gy⟩;refine bQ Y<|dn<|cjz Gy (λ_ K=>K.rm s2) (λl0 rk lJ wJ=>lJ=l0/\∃(x:fH),x.Client=0/\(x.Kind=3∨x.Kind=4)/\vY m it=x/\Hp b S wJ (dW g3 120 [aI x.Client,aI x.Seq,aI x.Kind,aI x.A,aI x.B,aI x.C]::rk)) ?_ λtl=>bP Y (λTv=>?_) (λTv=>?_)
 ·rintro _ _ ⟨rfl,x,hx0,hxk,hX,IV⟩;obtain⟨m1,h1⟩:∃ y,(eH m x).1=y:=⟨_,rfl⟩;obtain⟨e1,h2⟩:∃ y,(eH m x).2=y:=⟨_,rfl⟩;have hnd:m1.aL=m.aL:=h1▸agE hm hx0 hxk;have hm2:mG m1=true:=h1▸Jh hm _;obtain⟨al9,hal⟩:∃ y,(((JV s.cZ aJ r.kY).map eY.Node).filter fun(x:Int)=>!(!wL (kR hs) x))=y:=⟨_,rfl⟩;obtain⟨tg,htg⟩:∃ y,r9 m1.aL al9 r.jw.toNat (oH m.aA m1.aL) []=y:=⟨_,rfl⟩;refine He IV (λ_ K=>K) (λl0 rk lJ wJ=>∃(gj2:Nat)(pO:ah)(cj2:Nat)(wW:ah)(vV:Nat)(CQ:ah)(CS:Nat),lJ=(10,gI gj2)::(11,aI e1)::l0/\Hp b S wJ (dW gj2 45 [.slice pO (m1.aL.length) cj2,.slice wW (m1.aA.length) vV,.slice CQ (m1.aT.length) CS]::dH bW pO cj2 m1.aL::dH bD wW vV m1.aA::dH dw CQ CS m1.aT::rk)) (λhns H2=>?_) ?_
  ·refine Db 0 s5 Y H2<|Sr 1 iI 0 AA Y H2<|l9 3 Y (λ_ hK=>KF (cs':=[.slice A1 m.aL.length c1,.slice A2 m.aA.length c2,.slice A3 m.aT.length c3]) yg Y Y (hK.x s6) Y) H2<|l9 4 Y (λ_ hK=>fK EK Y Y (hK.x s0)) H2<|Jn H2 (λl0 rk lJ wJ=>∃(g8:Nat)(MZ:ah)(M0:Nat)(VT:ah)(VU:Nat)(VW:ah)(VX:Nat),lJ=(10,gI g8)::(52,aI e1)::l0/\Hp b S wJ (dW g8 45 [.slice MZ (m1.aL.length) M0,.slice VT (m1.aA.length) VU,.slice VW (m1.aT.length) VX]::dH bW MZ M0 m1.aL::dH bD VT VU m1.aA::dH dw VW VX m1.aT::rk)) 1 2047 ?_ λhS2=>?_
   ·rintro _ w28 ⟨g8,MZ,M0,VT,VU,VW,VX,rfl,GU⟩;have k18:=(GU.cU 0 4);refine xL 11 Y Y k18<|Dn ⟨g8,MZ,M0,VT,VU,VW,VX,Y,GU⟩ Y
   refine O2 5 9 Y Y ?_ ?_
   ·refine gU Y (by have h:=QN _ m (H2.s s7) (H2.s s8) (H2.s s9) x hzs hx0; rwa [h1,h2] at h) ?_;rintro _ w29 ⟨Jw,Jy,Jz,JA,JB,JD,rfl,h29⟩;have Ii:=H2.c3 h29;have asa:=(Ii.s s0).bC;have aAJ:=(Ii.s s1).bC;have aAK:=(Ii.s s2).bC;have k19:=(Ii.cU 0 3);refine aO k19<|lQ 6 Y Y k19<|l9 7 Y (λ_ _=>xP (vs:=[.agg #[.slice Jw (m1.aL.length) Jy,.slice Jz (m1.aA.length) JA,.slice JB (m1.aT.length) JD],aI e1]) Y Y) k19<|l9 8 Y (λ_ _=>xP (vs:=[.agg #[.slice Jw (m1.aL.length) Jy,.slice Jz (m1.aA.length) JA,.slice JB (m1.aT.length) JD],aI e1]) Y Y) k19<|O1 9 Y<|al yJ Y Ii λg10 w30 Gz=>?_
    have k20:=(Gz.cU 0 4);refine aO k20<|O1 10 Y<|sty Y Gz s0 Y λw31 NZ=>?_
    have k21:=(NZ.cU 0 4);exact Kj hS2 k21 ⟨g10,Jw,Jy,Jz,JA,JB,JD,Y,NZ⟩ Y
   ·refine al yJ Y H2 λg11 w32 Ph=>?_;have k22:=(Ph.rm s0);refine aO k22<|O1 5 Y<|gU Y (by have h:=QN _ m (Ph.s s8) (Ph.s s9) (Ph.s s10) x hzs hx0; rwa [h1,h2] at h) ?_
    rintro _ w33 ⟨ady,adA,adB,adC,adD,adE,rfl,h33⟩;have Vo:=Ph.c3 h33;have aAL:=(Vo.s s0).bC;have aJX:=(Vo.s s1).bC;have aJY:=(Vo.s s2).bC;have k23:=(Vo.cU 0 4);refine aO k23<|lQ 6 Y Y k23<|l9 7 Y (λ_ _=>xP (vs:=[.agg #[.slice ady (m1.aL.length) adA,.slice adB (m1.aA.length) adC,.slice adD (m1.aT.length) adE],aI e1]) Y Y) k23<|l9 8 Y (λ_ _=>xP (vs:=[.agg #[.slice ady (m1.aL.length) adA,.slice adB (m1.aA.length) adC,.slice adD (m1.aT.length) adE],aI e1]) Y Y) k23<|O1 10 Y<|sty Y Vo s3 Y λw34 K34=>?_
    have k24:=(K34.cU 0 4);exact Kj hS2 k24 ⟨g11,ady,adA,adB,adC,adD,adE,Y,K34⟩ Y
  rintro _ w35 ⟨gj2,pO,cj2,wW,vV,CQ,CS,rfl,K35⟩;refine aY<|bQ Y<|ev (fD Y Y)<|dn<|bP Y (λagF=>?_) (λagF=>?_)
  ·replace agF:=iY agF;refine bQ Y<|ev (Ev.neg Y (zP (by have:=Ni hm hx0; omega) (by have:=Ni hm hx0; omega)))<|bX rfl<|wO rfl ?_
   have hop:sF (⟨m,s,r,aJ,bR,kR hs⟩:PC) it=((⟨m,s,r,aJ,bR,kR hs⟩:PC),-e1):=ar9 hX h1 h2 agF;rw [show(sF (⟨m,s,r,aJ,bR,kR hs⟩:PC) it).1.m=m from by rw [hop]];rw [show(sF (⟨m,s,r,aJ,bR,kR hs⟩:PC) it).2=-e1 from by rw [hop]];exact⟨A1,c1,A2,c2,A3,c3,hs,Y,(by rw [hop]),(K35.cU 0 10)⟩
  replace agF:=jS agF;refine jy ?_;refine rg<|ev (rE Y)<|bX Y<|He K35 (λ_ K=>K) (λl0 rk lJ wJ=>∃(Aj5:ah)(cj5:Nat),lJ=(13,.slice Aj5 (al9.length) cj5)::l0/\Hp b S wJ (aQ dQ 3 Aj5 cj5 al9::rk)) (λhns H3=>?_) ?_
  ·refine Db 0 s9 Y H3<|Sr 1 iI 3 AJ Y H3<|nJ 3 4 iI 3 FP s10 Y H3<|Db 5 s9 Y H3<|Sr 6 iI 12 BX Y H3<|Db 8 s10 Y H3<|Db 9 s9 Y H3<|Sr 10 iI 6 VL Y H3<|nJ 12 13 iI 6 acd s10 Y H3<|lQ 15 Y Y H3<|O1 14 Y<|gU Y (N8 _ (H3.s s14).any aJ r.kY (lI hb au)) ?_
   rintro _ w36 ⟨aED,aEE,rfl,h36⟩;have ZF:=H3.f1 h36;have aJZ:=(ZF.o s0).bC;have k25:=(ZF.rm s0);refine aO k25<|O1 16 Y<|gU Y (by have h:=oQ (kd:=[gI g1]) ZF aAI (fun(x:Int)=>!wL (kR hs) x) (λw9 ys x9 _ K9=>(ai4 (S0:=Any) w9 x9 ((K9.mV 0 10).mV 10 10)).mono (by rintro _ _ ⟨rfl,h8⟩; exact⟨rfl,h8.ext⟩)) aj; rwa [hal] at h) ?_
   rintro _ w37 ⟨rfl,Vs⟩;have k26:=(Vs.rm s0);refine aO k26<|xL 17 Y Y k26<|Dn ⟨aED,aEE,Y,Vs⟩ Y
  rintro _ w38 ⟨Aj5,cj5,rfl,K38⟩;refine iT Y<|aY ?_
  have H4:=K38.fz s8;refine He H4 (λ_ K=>K) (λl0 rk lJ wJ=>∃(Aj6:ah)(cj6:Nat),lJ=(91,.slice Aj6 (tg.length) cj6)::(92,aI ((tg.length:Nat):Int))::(93,aI 0)::l0/\Hp b S wJ (aQ dQ 3 Aj6 cj6 tg::rk)) (λhns H5=>?_) ?_
  ·refine nJ 0 1 gj2 0 lM s2 Y H5<|lQ 2 Y Y H5<|Db 3 s10 Y H5<|Sr 4 iI 0 AA Y H5<|nJ 6 7 iI 1 j4 s11 Y H5<|nJ 8 9 gj2 0 lM s2 Y H5<|Db 11 s10 Y H5<|Sr 12 iI 6 VL Y H5<|nJ 14 15 iI 9 FN s11 Y H5<|lQ 18 Y Y H5<|O1 10 Y<|gU Y (SL _ (H5.s s13).any (H5.s s3).any (by rw [hnd]; exact lI (Ak (dV.1 hm).1) au)) ?_
   rintro _ w39 ⟨aL3,aL4,rfl,h39⟩;have ZH:=H5.f1 h39;have k27:=(ZH.rm s0);refine aO k27<|O1 16 Y<|gU Y (by have h:=avT _ (ZH.s s4).any (ZH.o s2) (ZH.o s0) (vI:=none) (vJ:=0) (cu:=([]:List Int)) (RV dQ Any _) r.jw (by rw [hnd]; exact lI (Ak (dV.1 hm).1) au) (ar5 (by rw [hnd]; exact(dV.1 hm).1)) av aj (av6 (dV.1 hm).2.1); rwa [htg] at h) ?_
   rintro _ w40 ⟨aqh,aqi,rfl,h40⟩;have K40:=ZH.f1 h40;have k28:=(K40.cU 0 2);refine aO k28<|l9 17 Y (λ_ _=>eX fA Y) k28<|Dn ⟨aqh,aqi,Y,(K40.rm s1)⟩ Y
  rintro _ w41 ⟨Aj6,cj6,rfl,K41⟩;refine cB ?_;have H6:=K41.nil dQ 3;have fT:(([]:List Int):List Int)=[]:=by rfl
  refine lF (t:=14) Y (aV (λz=>Value.slice none (List.length z) 0) fT) ?_;have H7:=H6.nil dQ 3;refine Lp ((H7.rm (sx 22)).cU 0 2) (λl0 rk mJ lJ wJ=>∃(k:Nat)(hs1:kG)(td:List Int)(A14:ah)(c14:Nat),lJ=(14,.slice A14 td.length c14)::(93,aI ((k:Nat):Int))::l0/\mJ=tg.length - k/\k<=tg.length/\((kR hs1,td)=(tg.take k).foldl (vQ it.A e1 (Js it.A it.B) (oh it.A it.B)) (kR hs,[]))/\(∀ z h,dY z hs1=some h->h.l.length<=900+k)/\(∀ z,(dY z hs).isSome=true->(dY z hs1).isSome=true)/\(td.length<=k)/\Hp b S wJ (aQ dQ 3 A14 c14 td::jL gm hs1::rk)) ⟨0,hs,[],none,0,Y,Y,fE _,by rfl,by intro z h hh; have:=hz z h hh; omega,by intro z hz; exact hz,av,(((H7.rm s1).mV 1 20).mV 20 2)⟩ rfl ?_;rintro _ _ w42 ⟨k,hs1,td,A14,c14,rfl,rfl,hk,hf,hzl,hns,htl,K42⟩;refine rg<|ev (fD Y Y)<|dn<|WP.cond Y (λasb=>?_) (λasb=>?_)
  ·replace asb:=iY asb;refine jy ?_;refine aY<|cB<|rg ?_
   obtain⟨x1,bN⟩:=bn (xs:=tg) (i:=k) aj;refine ev (eP (i:=k) fA uf Y Y Y (aM bN) ((K42.o s2).some_ bN))<|ev (kP jN Y ((K42.o s2).fJ (j:=0) bN Y))<|bX Y ?_
   rcases hg1:dY x1 hs1 with _ | ⟨gh1,gs1,Zl,Ah1,ch1,YN,Zn,l1,es1⟩
   ·exfalso; obtain⟨nd,aEF,hid⟩:=agC _ _ _ _ (htg▸bZ bN); rw [hnd] at aEF; have h5:=hns _ (hN nd aEF); rw [hid,hg1] at h5; cases h5
   ·have aOK:tg.length<=r.jw.toNat:=htg▸agn _ _ _ _ _;refine He K42 (λ_ K=>(K.rm s1)) (λl0 rk lJ wJ=>∃(Aj8:ah)(cj8:Nat)(Aj9:ah)(cj9:Nat),lJ=(108,.bool (TL l1 Zn it.A e1 ((iQ (oh it.A it.B)).toNat:Int) (oh it.A it.B)))::l0/\Hp b S wJ (jL gm (gK x1 (⟨gh1,gs1,Zl,Aj8,cj8,YN,Zn,(Hy l1 Zn it.A e1 ((iQ (oh it.A it.B)).toNat:Int) (oh it.A it.B)),(tkM l1 Zn it.A e1 ((iQ (oh it.A it.B)).toNat:Int) (oh it.A it.B) Aj9 cj9 es1)⟩:l6) hs1)::rk)) (λhns H8=>?_) ?_
    ·have k29:=(H8.rm s1);refine Db 0 s12 Y k29<|Sr 1 iI 13 u6 Y k29<|Db 3 s13 Y k29<|lQ 4 Y Y k29<|nJ 6 7 g2 1 om s11 Y k29<|lQ 8 Y Y k29<|lQ 9 Y Y k29<|lQ 10 Y Y k29<|O1 5 Y<|ev (Ev.hS H8 s1 hg1 EY zi vS Y Y)<|aO k29<|O1 11 Y ?_
     have H9:=H8.xg s1 hg1;have H10:=H9.push (H9.s s8);refine gU Y (aaT ((H10.sel s0).mV 1 5) it.A e1 ((iQ (oh it.A it.B)).toNat:Int) (by have h9:=hzl _ _ hg1; have h8:=aM bN; simp only at h9; omega)) ?_;rintro _ w43 ⟨aEG,aEH,aEI,aEJ,rfl,K43⟩;have H11:=Jr hg1 K43;have k30:=(H11.rm s0);refine aO k30<|Dn ⟨aEG,aEH,aEI,aEJ,Y,H11⟩ Y
    rintro _ w44 ⟨Aj8,cj8,Aj9,cj9,rfl,K44⟩;refine bP Y (λagG=>?_) (λagG=>?_)
    ·refine jC<|mv Y<|mv Y<|Bh (τ:=dQ) (x:=x1) Y (by intro _; apply pR) rfl K44 (λ_ _=>rfl) λg12 w45 K45=>ap (ys:=([x1]:List Int)) K45 s2 rfl rfl (K45.o s0) fA KU aj av rfl λpU pV w46 K46=>jk rfl<|jD<|iw (gy ?_)
     refine jC<|ev (dP Y Y)<|mv Y<|jD<|dG ⟨(k+1),(gK x1 (⟨gh1,gs1,Zl,Aj8,cj8,YN,Zn,(Hy l1 Zn it.A e1 ((iQ (oh it.A it.B)).toNat:Int) (oh it.A it.B)),(tkM l1 Zn it.A e1 ((iQ (oh it.A it.B)).toNat:Int) (oh it.A it.B) Aj9 cj9 es1)⟩:l6) hs1),(td++([x1]:List Int)),pU,pV,Y,Y,aj,by rw [fC bN,zY,<- hf]; show _=vQ _ _ _ _ _ _; rw [aaZ (show dY x1 (kR hs1)=some _ from by rw [jA,hg1]; rfl),Aw]; unfold l6.pl; simp only; rw [akw,show Js it.A it.B=((iQ (oh it.A it.B)).toNat:Int) from rfl]; first | rw [aS agG] | rw [aP (by rw [agG]; decide)],by intro z h hh; exact akF (Q:=λh=>h.l.length<=900+(k+1)) (λz h hh=>by have:=hzl z h hh; omega) (by have h1:=hzl _ _ hg1; have h2:=akG l1 Zn it.A e1 (Js it.A it.B) (oh it.A it.B); simp only at h1; show(Hy _ _ _ _ _ _).length<=_; first | exact lI h2 aj | omega) z h hh,by intro z hz; exact agD (hns z hz),by first | (rw [jG]; simp only [oV,uE]; omega) | omega,(K46.rm s1)⟩ rfl aj
    refine Ci ?_;refine jC<|ev (dP Y Y)<|mv Y<|jD<|dG ⟨(k+1),(gK x1 (⟨gh1,gs1,Zl,Aj8,cj8,YN,Zn,(Hy l1 Zn it.A e1 ((iQ (oh it.A it.B)).toNat:Int) (oh it.A it.B)),(tkM l1 Zn it.A e1 ((iQ (oh it.A it.B)).toNat:Int) (oh it.A it.B) Aj9 cj9 es1)⟩:l6) hs1),td,A14,c14,Y,Y,aj,by rw [fC bN,zY,<- hf]; show _=vQ _ _ _ _ _ _; rw [aaZ (show dY x1 (kR hs1)=some _ from by rw [jA,hg1]; rfl),Aw]; unfold l6.pl; simp only; rw [akw,show Js it.A it.B=((iQ (oh it.A it.B)).toNat:Int) from rfl]; first | rw [aS agG] | rw [aP (by rw [agG]; decide)],by intro z h hh; exact akF (Q:=λh=>h.l.length<=900+(k+1)) (λz h hh=>by have:=hzl z h hh; omega) (by have h1:=hzl _ _ hg1; have h2:=akG l1 Zn it.A e1 (Js it.A it.B) (oh it.A it.B); simp only at h1; show(Hy _ _ _ _ _ _).length<=_; first | exact lI h2 aj | omega) z h hh,by intro z hz; exact agD (hns z hz),by first | (rw [jG]; simp only [oV,uE]; omega) | omega,((K44.sel s0).sel s1)⟩ rfl aj
  replace asb:=jS asb;refine xq ?_;refine aY<|bQ Y<|ev (eX fA Y)<|ev (iM Y Y)<|dn<|bP Y (λY2=>?_) (λY2=>?_)
  ·replace Y2:=iY Y2;refine iT Y<|wO Y ?_
   have hf2:=hf;rw [gV aj] at hf2;have hop:sF (⟨m,s,r,aJ,bR,kR hs⟩:PC) it=((⟨m,s,r,aJ,bR,kR hs1⟩:PC),7):=anE (tg:=tg) hX h1 h2 agF (by rw [<- htg,<- hal]; rfl) hf2 (qF aj);rw [show(sF (⟨m,s,r,aJ,bR,kR hs⟩:PC) it).1.m=m from by rw [hop]];rw [show(sF (⟨m,s,r,aJ,bR,kR hs⟩:PC) it).2=7 from by rw [hop]];exact⟨A1,c1,A2,c2,A3,c3,hs1,Y,(by rw [hop]),((((K42.cU 2 12).rm s0).sel s0).mV 1 8)⟩
  replace Y2:=jS Y2;refine jy ?_;refine rg<|nL K42 s13 Y<|ev (fK yg Y Y (K42.x s5))<|ev (d9 Y)<|yV iI 0 AA Y<|stp Y Y Y aqj K42 s14 Y Y Y λw47 K47=>dn<|aY<|bQ Y<|ev (eX fA Y)<|mv Y<|dn<|cB ?_
  have aOL:=(K47.o s1).bC;refine Lp ((K47.cU 7 3).rm s0) (λl0 rk mJ lJ wJ=>∃(kb:Nat)(B1:ah)(d1:Nat)(B2:ah)(d2:Nat)(B3:ah)(d3:Nat),lJ=(123,aI ((kb:Nat):Int))::l0/\mJ=td.length - kb/\kb<=td.length/\Hp b S wJ (dH bW B1 d1 ((C9 m1 ((td.take kb).map fun(z:Int)=>vX it.A z e1)).aL)::dH bD B2 d2 ((C9 m1 ((td.take kb).map fun(z:Int)=>vX it.A z e1)).aA)::dH dw B3 d3 ((C9 m1 ((td.take kb).map fun(z:Int)=>vX it.A z e1)).aT)::GA iI B1 d1 B2 d2 B3 d3 A4 c4 A5 c5 A6 c6 A7 c7 (C9 m1 ((td.take kb).map fun(z:Int)=>vX it.A z e1)) s r aJ gm bR::rk)) ⟨0,pO,cj2,wW,vV,CQ,CS,Y,Y,fE _,((K47.mV 0 7).mV 7 3)⟩ Y ?_;rintro _ _ w48 ⟨kb,B1,d1,B2,d2,B3,d3,rfl,rfl,hkb,K48⟩;refine rg<|ev (fD Y Y)<|dn<|WP.cond Y (λagH=>?_) (λagH=>?_)
  ·replace agH:=iY agH;refine jy ?_;refine aY<|cB<|rg ?_
   obtain⟨x2,lN⟩:=bn (xs:=td) (i:=kb) aj;refine ev (eP (i:=kb) fA uf Y Y Y (aM lN) ((K48.o s4).some_ lN))<|ev (kP jN Y ((K48.o s4).fJ (j:=0) lN Y))<|bX Y<|jC<|nL K48 s14 Y<|j6 g2 1 om K48 s13 Y<|mv Y<|mv Y<|ev (jX (vs:=[(2,aI 5),(3,aI it.A),(4,aI x2),(5,aI e1)]) (cs:=[aI 0,aI 0,aI 5,aI it.A,aI x2,aI e1]) Y (by apply qK))<|gU rfl (zC (m:=(C9 m1 ((td.take kb).map fun(z:Int)=>vX it.A z e1))) (s:=s) (r:=r) ((((((K48.mV 6 12).sel (sx 16)).sel (sx 17)).mV 18 4).mV 18 3).sel (sx 21)) (⟨0,0,5,it.A,x2,e1⟩:fH) (Rj hm2 _) rfl) ?_
   rintro _ w49 ⟨aEK,aEL,aEM,aEN,aEO,aEP,rfl,K49⟩;refine jD<|iw (gy ?_)
   refine jC<|ev (dP Y Y)<|mv Y<|jD ?_
   have H12:=K49;rw [show(tY (C9 m1 ((td.take kb).map fun(z:Int)=>vX it.A z e1)) (⟨0,0,5,it.A,x2,e1⟩:fH))=(C9 m1 ((td.take (kb+1)).map fun(z:Int)=>vX it.A z e1)) from by rw [anD lN]] at H12;exact dG ⟨(kb+1),aEK,aEL,aEM,aEN,aEO,aEP,Y,Y,aj,((((((H12.mV 4 4).mV 10 12).sel (sx 20)).sel (sx 21)).sel (sx 18)).mV 19 3)⟩ rfl aj
  replace agH:=jS agH;refine xq ?_;refine iT Y<|iP Y ?_
  have hf2:=hf;rw [gV aj] at hf2;have hop:sF (⟨m,s,r,aJ,bR,kR hs⟩:PC) it=((⟨(C9 m1 (td.map fun(z:Int)=>vX it.A z e1)),s,r,aJ,bR,kR hs1⟩:PC),0):=anF (tg:=tg) hX h1 h2 agF (by rw [<- htg,<- hal]; rfl) hf2 (λh0=>by have h1:td=[]:=h0; rw [h1] at Y2; exact Y2 rfl);have H13:=K48;rw [show(C9 m1 ((td.take kb).map fun(z:Int)=>vX it.A z e1))=(C9 m1 (td.map fun(z:Int)=>vX it.A z e1)) from by rw [gV aj]] at H13;rw [show(sF (⟨m,s,r,aJ,bR,kR hs⟩:PC) it).1.m=(C9 m1 (td.map fun(z:Int)=>vX it.A z e1)) from by rw [hop]];rw [show(sF (⟨m,s,r,aJ,bR,kR hs⟩:PC) it).2=0 from by rw [hop]];exact⟨B1,d1,B2,d2,B3,d3,hs1,Y,(by rw [hop]),((((((H13.cU 6 12).rm s4).sel s4).mV 5 4).mV 5 3).sel s8)⟩
 ·refine jC<|yV g3 2 Yl Y<|yD Y Gy s2 Y λw21 IV=>jD<|gy ?_
  exact(tl _ _ ⟨Y,⟨0,0,4,it.A,(((iQ (oh it.A it.B)).toNat:Nat):Int),0⟩,Y,.inr Y,by unfold vY; rw [aS Tv]; rfl,IV⟩).kz rfl
 exact zo (gy (tl _ _ ⟨Y,⟨0,0,3,it.A,(((iQ (oh it.A it.B)).toNat:Nat):Int),0⟩,Y,.inl Y,by unfold vY; rw [aP (by simpa using Tv)]; rfl,Gy.sel s2⟩))
end
section
variable {b w:World}{S:Nat->Prop}{F:List lG}{iI:Nat}{A1 A2 A3 A4 A5 A6 A7:ah}{r:ARules}{aJ:Int}{bR:List aK}{hs:kG}{x:aF}{l:List Int}
abbrev adF(iE:Nat)(je:ah)(wP:Nat)(zZ:ah)(Fh:Nat)(QA:ah)(UH:Nat)(ZI:ah)(y8z:Nat)(y9z:ah)(Rk:Nat)(Rl:ah)(Ro:Nat)(Rq:ah)(Rt:Nat)(DW:dh)(DX:gG)(adi:ARules)(adk:Int)(Ru:Nat)(Rw:List aK)(adl:kG)(adn:List lG):=GA iE je wP zZ Fh QA UH ZI y8z y9z Rk Rl Ro Rq Rt DW DX adi adk Ru Rw::dH bW je wP DW.aL::dH bD zZ Fh DW.aA::dH dw QA UH DW.aT::dH iK ZI y8z DX.cZ::dH dz y9z Rk DX.bI::dH bg Rl Ro DX.bA::aQ bg 112 Rq Rt Rw::jL Ru adl::adn
theorem asc{c1 c2 c3 c4 c5 c6 c7 gm:Nat}{m:dh}{s:gG}(H0:Hp b S w (adF iI A1 c1 A2 c2 A3 c3 A4 c4 A5 c5 A6 c6 A7 c7 m s r aJ gm bR hs F))(hb:s.cZ.length<=1000)(hl:s.bI.length<=1000)(hd:s.bA.length<=100000) :
    bO prog 18 #[gI iI] w λv w'=>∃(vT:ah)(vU:Nat)(zH:ah)(zI:Nat)(zJ:ah)(zK:Nat),v=.agg #[.slice vT s.cZ.length vU,.slice zH s.bI.length zI,.slice zJ s.bA.length zK]/\Hp b S w' (aQ iK 107 vT vU s.cZ::aQ dz 117 zH zI s.bI::aQ bg 112 zJ zK s.bA::GA iI A1 c1 A2 c2 A3 c3 A4 c4 A5 c5 A6 c6 A7 c7 m s r aJ gm bR::dH bW A1 c1 m.aL::dH bD A2 c2 m.aA::dH dw A3 c3 m.aT::dH iK A4 c4 s.cZ::dH dz A5 c5 s.bI::dH bg A6 c6 s.bA::aQ bg 112 A7 c7 bR::jL gm hs::F):=by
 refine rU func18 ntmps18 Y<|rg<|al DL Y H0 λg1 w1 K1=>dn<|He K1 (λ_ K=>(K.rm s0)) (λl0 rk lJ wJ=>∃(jW:ah)(jT:Nat)(pO:ah)(cj2:Nat)(wW:ah)(vV:Nat),lJ=l0/\Hp b S wJ (dW g1 51 [.slice wW s.cZ.length vV,.slice pO s.bI.length cj2,.slice jW s.bA.length jT]::aQ bg 112 jW jT s.bA::aQ dz 117 pO cj2 s.bI::aQ iK 107 wW vV s.cZ::rk)) (λhns H1=>?_) ?_
 ·have k1:=(H1.rm s0);refine tZ 0 iI 3 AJ Y k1<|nJ 3 4 iI 3 FP s0 Y k1<|tZ 6 iI 3 AJ Y k1<|nJ 9 10 iI 4 yG s0 Y k1<|tZ 12 iI 3 AJ Y k1<|nJ 15 16 iI 5 DN s0 Y k1<|O1 5 Y<|gU Y (DK _ (H1.s s5).any aj) ?_
  rintro _ w2 ⟨pI,pJ,rfl,h2⟩;have K2:=H1.f1 h2;have k2:=(K2.cU 0 2);refine aO k2<|O1 11 Y<|gU Y (BR _ (K2.s s7).any aj) ?_
  rintro _ w3 ⟨qQ,qR,rfl,h3⟩;have K3:=K2.f1 h3;have k3:=(K3.cU 0 3);refine aO k3<|O1 17 Y<|gU Y (BS _ (K3.s s9).any aj) ?_
  rintro _ w4 ⟨uP,uQ,rfl,h4⟩;have K4:=K3.f1 h4;have k4:=(K4.cU 0 4);refine aO k4<|l9 18 Y (λ_ _=>jX (cs:=[.slice pI s.cZ.length pJ,.slice qQ s.bI.length qR,.slice uP s.bA.length uQ]) Y (by apply LG)) k4<|O1 19 rfl<|sty rfl K4 s3 rfl λw5 K5=>?_
  have k5:=(K5.cU 0 4);refine aO k5<|Dn ⟨uP,uQ,qQ,qR,pI,pJ,Y,K5⟩ Y
 rintro _ w6 ⟨jW,jT,pO,cj2,wW,vV,rfl,K6⟩;refine jf (sW Y ⟨_,_,Y,⟨_,Y,kK JX Y (K6.x s0)⟩,Y⟩ ?_);exact⟨wW,vV,pO,cj2,jW,jT,Y,((((K6.rm s0).sel s0).sel s1).sel s2)⟩
theorem aAM{z n:Int}{k:Nat}{H:l6}(h:l[k]? = some n)(hg:dY n hs=some H)(hb:¬ ((qx H.l H.es z).2.2=0/\(qx H.l H.es z).2.1=x.aB/\((iQ (qx H.l H.es z).1).toNat:Int)=x.Sum)) :
    OY (kR hs) x z (l.drop k)=OY (kR hs) x z (l.drop (k+1)):=by
  have e:uD H.pl.l H.pl.d z=qx H.l H.es z:=agr _ _ _;rw [YZ h,jA,hg]; simp only [abx];exact aP (λh9=>hb (by rw [e] at h9; exact h9.2))
theorem ase{z n:Int}{k:Nat}(h:l[k]? = some n)(hu:(!wL (kR hs) n)=true):OY (kR hs) x z (l.drop k)=OY (kR hs) x z (l.drop (k+1)):=by
  rw [YZ h]; unfold wL at hu
  cases hg:dY n (kR hs) with
  | none=>rfl
  | some g=>rw [hg] at hu; have h8:(!g.up)=true:=hu; exact aP (λh9=>by rw [h9.1] at h8; exact Bool.noConfusion h8)
theorem anH{z n:Int}{k:Nat}{H:l6}(h:l[k]? = some n)(hg:dY n hs=some H)(hu:H.up=true)(hb:(qx H.l H.es z).2.2=0/\(qx H.l H.es z).2.1=x.aB/\((iQ (qx H.l H.es z).1).toNat:Int)=x.Sum) :
    OY (kR hs) x z (l.drop k)=((qx H.l H.es z).1,0):=by
  have e:uD H.pl.l H.pl.d z=qx H.l H.es z:=agr _ _ _;rw [YZ h,jA,hg]; simp only [abx];rw [aS (by rw [e]; exact⟨hu,hb⟩),e]
theorem asf{c1 c2 c3 c4 c5 c6 c7 gm:Nat}{m:dh}{s:gG}(H0:Hp b S w (adF iI A1 c1 A2 c2 A3 c3 A4 c4 A5 c5 A6 c6 A7 c7 m s r aJ gm bR hs F))(aN:Int)(hm:mG m=true)(hz:hSz hs) :
    bO prog 12 #[gI iI,aI aN] w λv w'=>∃(A0:ah)(c0:Nat),v=.tuple #[.slice A0 (((HV (⟨m,s,r,aJ,bR,kR hs⟩:PC) aN).1).length) c0,aI ((HV (⟨m,s,r,aJ,bR,kR hs⟩:PC) aN).2)]/\Hp b S w' (aQ gQ 5 A0 c0 ((HV (⟨m,s,r,aJ,bR,kR hs⟩:PC) aN).1)::GA iI A1 c1 A2 c2 A3 c3 A4 c4 A5 c5 A6 c6 A7 c7 m s r aJ gm bR::dH bW A1 c1 m.aL::dH bD A2 c2 m.aA::dH dw A3 c3 m.aT::dH iK A4 c4 s.cZ::dH dz A5 c5 s.bI::dH bg A6 c6 s.bA::aQ bg 112 A7 c7 bR::jL gm hs::F):=by
 refine rU func12 ntmps12 Y ?_;have hzs:=FV hm;refine rg<|jk Y<|bX Y<|bQ Y<|ev (d9 Y)<|yV iI 0 AA Y<|j6 iI 1 j4 H0 s0 Y<|mv Y<|gU Y (find_ok _ (H0.s s2) aN hzs.2.1 hzs.2.2.1) ?_
 rintro _ w1 ⟨JE,JF,rfl,h1⟩;have K1:=H0.c1 h1;have JO:=(K1.s s0).bC;refine mv Y<|xt Y Y<|xt Y Y<|al lX Y K1 λg1 w2 K2=>sty Y K2 s0 Y λw3 K3=>bX Y<|aY<|bQ Y<|ev (iG Y)<|dn<|bP Y (λhc24=>?_) (λhc24=>?_)
 ·refine rg<|jk Y<|bX Y<|wO Y ?_
  have hop:(HV (⟨m,s,r,aJ,bR,kR hs⟩:PC) aN)=([],5):=by unfold HV; rw [aS (show gZ m.aA aN=false from by simpa using hc24)]
  rw [show(HV (⟨m,s,r,aJ,bR,kR hs⟩:PC) aN).1=([]:List (BitVec 8)) from by rw [hop]];rw [show(HV (⟨m,s,r,aJ,bR,kR hs⟩:PC) aN).2=5 from by rw [hop]];have H1:=K3.nil gQ 5;exact⟨none,0,Y,(H1.cU 1 2)⟩
 refine jy ?_;refine aY<|rg<|j6 g1 3 kH K3 s0 Y<|ev (eX fA Y)<|mv Y<|dn<|cB<|qZ (λmJ lJ wJ=>∃(k:Nat),lJ=[(0,gI iI),(1,aI aN),(6,gI g1),(26,.slice JE (((aU m.aA aN).aC).length) JF),(27,aI ((((aU m.aA aN).aC).length:Nat):Int)),(28,aI ((k:Nat):Int))]/\mJ=((aU m.aA aN).aC).length - k/\k<=((aU m.aA aN).aC).length/\(OY (kR hs) (aU m.aA aN) aN (aU m.aA aN).aC=OY (kR hs) (aU m.aA aN) aN ((aU m.aA aN).aC.drop k))/\Hp b S wJ (dW g1 59 [aI ((aU m.aA aN).ID),aI ((aU m.aA aN).aB),gP ((aU m.aA aN).Sum),.slice JE (((aU m.aA aN).aC).length) JF]::dH dQ JE JF ((aU m.aA aN).aC)::GA iI A1 c1 A2 c2 A3 c3 A4 c4 A5 c5 A6 c6 A7 c7 m s r aJ gm bR::dH bW A1 c1 m.aL::dH bD A2 c2 m.aA::dH dw A3 c3 m.aT::dH iK A4 c4 s.cZ::dH dz A5 c5 s.bI::dH bg A6 c6 s.bA::aQ bg 112 A7 c7 bR::jL gm hs::F)) ⟨0,Y,Y,fE _,by rfl,K3⟩ rfl ?_
 rintro _ _ w4 ⟨k,rfl,rfl,hk,av9,K4⟩;refine rg<|ev (fD Y Y)<|dn<|pG Y (λhc29=>?_) (λhc29=>?_)
 ·refine jy ?_;refine aY<|cB<|rg ?_
  obtain⟨x1,bN⟩:=bn (xs:=(aU m.aA aN).aC) (i:=k) aj;refine ev (eP (i:=k) fA uf Y Y Y (aM bN) ((K4.s s1).some_ bN))<|ev (kP jN Y ((K4.s s1).fJ (j:=0) bN Y))<|bX Y<|aY<|bQ Y<|mv Y<|gU Y (arH ((K4.mV 0 2).mV 2 9) x1) ?_
  rintro _ w5 ⟨rfl,K5⟩;have aL5:=(K5.s s1).bC;have aL6:=(K5.s s2).bC;have aL7:=(K5.s s3).bC;have aL8:=(K5.s s4).bC;have aL9:=(K5.s s5).bC;have aMa:=(K5.s s6).bC;refine ev (iG Y)<|dn<|bP Y (λGt=>?_) (λGt=>?_)
  ·refine sP (mY (um (gy ?_)));refine jC<|ev (dP Y Y)<|mv Y<|jD<|dG ⟨(k+1),Y,Y,aj,by rw [av9]; exact ase bN (by first | exact Gt | (rw [Gt]; rfl)),((K5.mV 0 9).mV 9 2)⟩ rfl aj
  refine jy ?_
  rcases hg1:dY x1 hs with _ | ⟨gh1,gs1,Zl,Ah1,ch1,YN,Zn,l1,es1⟩
  ·have h7:=Gt; unfold wL at h7; rw [jA,hg1] at h7; exact Bool.noConfusion (show true=false from h7)
  ·have hzf:=hz _ _ hg1;have hup:YN=true:=by have h7:=Gt; unfold wL at h7; rw [jA,hg1] at h7; have h8:(!YN)=false:=h7; simpa using h8
   refine bQ Y<|ev (d9 Y)<|j6 iI 13 u6 K5 s0 Y<|mv Y<|ev (Ev.hS K5 s8 hg1 EY zi vS Y Y)<|ev (d9 Y)<|yV gh1 0 yK Y<|ev (eF UN Y (K5.EZ s8 hg1) Y)<|mv Y ?_
   have H2:=K5.xg s8 hg1;refine gU Y (agh ((H2.sel s0).mV 1 4) aN (lI hzf.1 au) (hzf.2 _)) ?_;rintro _ w6 ⟨Fq,Fv,rfl,K6⟩;have H3:=YI hg1 ((((K6.sel s0).sel s6).mV 2 4).sel s6);refine mv Y<|xt Y Y<|xt Y Y<|xt Y Y<|jk Y<|jk Y<|bX Y<|qU ak ak<|bB (bq Y) Y<|bB (iM Y Y) Y<|bB (bq Y) Y<|qY 5 58 ((decide ((qx l1 es1 aN).2.2=0))&&(decide ((qx l1 es1 aN).2.1=(aU m.aA aN).aB))) ?_ ?_
   ·cases aOM:decide ((qx l1 es1 aN).2.2=0) with
    | true=>
     refine dX Y (bq Y) Y<|dX Y (fQ sJ Y Y) Y<|dX Y (eF jN Y (H3.x s10) Y) Y<|dX Y (iM Y Y) Y<|bB (dM Y Y) Y<|jY Y
    | false=>
     refine dI Y Y Y<|dI Y Y Y<|dI Y Y Y<|dI Y Y Y<|bB (dS Y Y) Y<|jY Y
   refine bB (bq Y) Y<|qY 6 65 (((decide ((qx l1 es1 aN).2.2=0))&&(decide ((qx l1 es1 aN).2.1=(aU m.aA aN).aB)))&&(decide (((iQ ((qx l1 es1 aN).1)).toNat:Int)=(aU m.aA aN).Sum))) ?_ ?_
   ·cases aJ0:((decide ((qx l1 es1 aN).2.2=0))&&(decide ((qx l1 es1 aN).2.1=(aU m.aA aN).aB))) with
    | true=>
     have aEQ:=aJ0
     try simp only [bK,eu,bM,bV] at aEQ
     refine dX Y (bq Y) Y<|Px Y Y Y Y arf (λwq eq=>(Yz wq ((H3.o s1).ext eq)).mono (by rintro _ _ ⟨rfl,gu⟩; exact⟨rfl,gu.ext⟩)) rfl<|dX rfl (fQ (q:=⟨g1,2,none⟩) Iz rfl rfl) rfl<|dX rfl (eF Xo rfl (H3.x s10) rfl) rfl<|dX rfl (iM rfl rfl) rfl<|bB (dM rfl rfl) rfl<|jY rfl
    | false=>
     refine dI Y Y Y<|dI Y Y Y<|dI Y Y Y<|dI Y Y Y<|dI Y Y Y<|bB (dS Y Y) Y<|jY Y
   refine qV λw7 e7=>?_;have K7:=H3.grow e7;refine bP Y (λaib=>?_) (λaib=>?_)
   ·refine bQ Y<|jk Y<|bX Y<|jf (iX (fO (fO (iX (fO (xV Y ?_))))))
    have hfd:OY (kR hs) (aU m.aA aN) aN (aU m.aA aN).aC=((qx l1 es1 aN).1,0):=by rw [av9]; exact anH (H:=⟨gh1,gs1,Zl,Ah1,ch1,YN,Zn,l1,es1⟩) bN hg1 hup (by simpa [and_assoc] using aib)
    have hop:(HV (⟨m,s,r,aJ,bR,kR hs⟩:PC) aN)=((qx l1 es1 aN).1,0):=by unfold HV; rw [aP (by rw [show gZ m.aA aN=true from by simpa using hc24]; decide)]; exact hfd
    rw [show(HV (⟨m,s,r,aJ,bR,kR hs⟩:PC) aN).1=(qx l1 es1 aN).1 from by rw [hop]];rw [show(HV (⟨m,s,r,aJ,bR,kR hs⟩:PC) aN).2=0 from by rw [hop]];exact⟨Fq,Fv,Y,(((K7.cU 10 2).sel s0).mV 1 9)⟩
   refine Ci ?_;refine jC<|ev (dP Y Y)<|mv Y<|jD<|dG ⟨(k+1),Y,Y,aj,by rw [av9]; exact aAM bN hg1 (λh9=>by obtain⟨h10,h11,h12⟩:=h9; simp [h10,h11,h12] at aib),((((K7.rm s1).sel s0).mV 1 8).mV 9 2)⟩ rfl aj
 refine xq ?_;refine rg<|jk Y<|bX Y<|iP Y ?_
 have hop:(HV (⟨m,s,r,aJ,bR,kR hs⟩:PC) aN)=([],8):=by unfold HV; rw [aP (by rw [show gZ m.aA aN=true from by simpa using hc24]; decide)]; show OY (kR hs) _ aN _=_; rw [av9,Gf aj]; rfl
 rw [show(HV (⟨m,s,r,aJ,bR,kR hs⟩:PC) aN).1=([]:List (BitVec 8)) from by rw [hop]];rw [show(HV (⟨m,s,r,aJ,bR,kR hs⟩:PC) aN).2=8 from by rw [hop]];have H4:=K4.nil gQ 5;exact⟨none,0,Y,(H4.cU 1 2)⟩
theorem awc (H0:Hp b S w F)(r:ARules)(hr:l5 r=false) :
    bO prog 10 #[.agg #[aI r.kY,aI r.l7,aI r.All,aI r.jw,aI r.iD,aI r.eZ]] w λv w'=>v=.tuple #[.pointer none,aI 1]/\Hp b S w' F:=by
 refine rU func10 ntmps10 Y<|rg<|bx Y Y H0 λg1 w1 K1=>jk Y<|bX Y<|aY<|rg<|ev (fK JZ Y Y (K1.x s0))<|nD K1 Y (acg (S0:=Any) _ r) λw2 K2=>?_
 have fT:(l5 r:Bool)=false:=by exact hr
 refine gJ (t:=5) Y (aV Value.bool fT)<|ev (iG Y)<|dn<|bP Y (λ_h=>?_) nofun
 refine rg<|jk Y<|bX Y<|wO Y ?_
 exact⟨Y,(K2.rm s0)⟩
theorem agI(XV:Int)(afw:Int)(afz:Int)(aER:Int)(aES:Int)(aET:Int)(a1:Option Nat):prog.built 84 [(2,.agg #[aI XV,aI afw,aI afz,aI aER,aI aES,aI aET]),(4,.map a1)]=some #[.slice none 0 0,.slice none 0 0,.slice none 0 0,.slice none 0 0,.slice none 0 0,.slice none 0 0,aI XV,aI afw,aI afz,aI aER,aI aES,aI aET,aI 0,.map a1,.slice none 0 0]:=ak
def mE:dh:=⟨[],[],[]⟩
def sE:gG:=⟨[],[],[]⟩
theorem asg (H0:Hp b S w F)(r:ARules)(hr:l5 r=true) :
    bO prog 10 #[.agg #[aI r.kY,aI r.l7,aI r.All,aI r.jw,aI r.iD,aI r.eZ]] w λv w'=>∃(gc gm:Nat)(B1:ah)(d1:Nat)(B2:ah)(d2:Nat)(B3:ah)(d3:Nat)(B4:ah)(d4:Nat)(B5:ah)(d5:Nat)(B6:ah)(d6:Nat)(B7:ah)(d7:Nat),v=.tuple #[gI gc,aI 0]/\Hp b S w' (GA gc B1 d1 B2 d2 B3 d3 B4 d4 B5 d5 B6 d6 B7 d7 mE sE r 0 gm ([]:List aK)::dH bW B1 d1 mE.aL::dH bD B2 d2 mE.aA::dH dw B3 d3 mE.aT::dH iK B4 d4 sE.cZ::dH dz B5 d5 sE.bI::dH bg B6 d6 sE.bA::aQ bg 112 B7 d7 ([]:List aK)::jL gm ([]:kG)::F):=by
 refine rU func10 ntmps10 Y<|rg<|bx Y Y H0 λg1 w1 K1=>jk Y<|bX Y<|aY<|rg<|ev (fK JZ Y Y (K1.x s0))<|nD K1 Y (acg (S0:=Any) _ r) λw2 K2=>?_
 have fT:(l5 r:Bool)=true:=by exact hr
 refine gJ (t:=5) Y (aV Value.bool fT)<|ev (iG Y)<|dn<|bP Y nofun (λ_h=>?_)
 refine jy ?_;refine rg<|ev (fK JZ Y Y (K2.x s0))<|mkA ekZ evH K2 λg2 w3 K3=>?_
 have H1:=K3.aAs;refine ev (jX Y (by apply agI))<|bx rfl rfl H1 λg3 w4 K4=>jk rfl<|bX rfl<|iP rfl ?_
 have H2:=K4.push (RV bW _ _);have gu:(([]:List aR):List aR)=mE.aL:=by rfl
 have H3:=H2.push (RV bD _ _);have kC:(([]:List aF):List aF)=mE.aA:=by rfl
 have H4:=H3.push (RV dw _ _);have nC:(([]:List fB):List fB)=mE.aT:=by rfl
 have H5:=H4.push (RV iK _ _);have rV:(([]:List eY):List eY)=sE.cZ:=by rfl
 have H6:=H5.push (RV dz _ _);have H7:=H6.push (RV bg _ _);have zX:(([]:List aK):List aK)=sE.bA:=by rfl
 have H8:=H7.nil bg 112;exact⟨g3,g2,none,0,none,0,none,0,none,0,none,0,none,0,none,0,Y,by rw [<- gu,<- kC,<- nC,<- rV,<- zX]; exact(((((((((H8.rm s9).sel s0).sel s1).sel s2).sel s3).sel s4).sel s5).sel s6).sel s7)⟩
set_option maxHeartbeats 1000000 in
theorem ash{c1 c2 c3 c4 c5 c6 c7 gm:Nat}{m:dh}{s:gG}(H0:Hp b S w (adF iI A1 c1 A2 c2 A3 c3 A4 c4 A5 c5 A6 c6 A7 c7 m s r aJ gm bR hs F))(hm:mG m=true) :
    bO prog 16 #[gI iI] w λv w'=>∃(vT:ah)(vU:Nat)(zH:ah)(zI:Nat)(zJ:ah)(zK:Nat),v=.agg #[.slice vT m.aL.length vU,.slice zH m.aA.length zI,.slice zJ m.aT.length zK]/\Hp b S w' (dH bW vT vU m.aL::dH bD zH zI m.aA::dH dw zJ zK m.aT::GA iI A1 c1 A2 c2 A3 c3 A4 c4 A5 c5 A6 c6 A7 c7 m s r aJ gm bR::dH bW A1 c1 m.aL::dH bD A2 c2 m.aA::dH dw A3 c3 m.aT::dH iK A4 c4 s.cZ::dH dz A5 c5 s.bI::dH bg A6 c6 s.bA::aQ bg 112 A7 c7 bR::jL gm hs::F):=by
 refine rU func16 ntmps16 Y ?_;have hzs:=FV hm;have hn:=hzs.1;have hc:=hzs.2.1;have hh:=hzs.2.2.1;have hsz:=hzs.2.2.2;refine rg<|al yJ Y H0 λg1 w1 K1=>dn<|bQ Y<|ev (d9 Y)<|yV iI 0 AA Y<|ev (KF (cs':=[.slice A1 m.aL.length c1,.slice A2 m.aA.length c2,.slice A3 m.aT.length c3]) yg Y Y (K1.x s1) Y)<|al yJ Y K1 λg2 w2 K2=>sty Y K2 s0 Y λw3 K3=>dn<|He K3 (λ_ K=>(K.cU 0 2)) (λl0 rk lJ wJ=>∃(jW:ah)(jT:Nat)(pO:ah)(cj2:Nat)(wW:ah)(vV:Nat),lJ=l0/\Hp b S wJ (dW g2 45 [.slice wW m.aL.length vV,.slice jW m.aA.length jT,.slice pO m.aT.length cj2]::aQ bD 59 jW jT m.aA::aQ dw 102 pO cj2 m.aT::aQ bW 78 wW vV m.aL::dW g1 45 [.slice none 0 0,.slice none 0 0,.slice none 0 0]::rk)) (λhns H1=>?_) ?_
 ·have k1:=(H1.cU 0 2);refine MO 0 g2 0 lM Y k1<|MO 3 g2 2 QF Y k1<|MO 6 g2 1 j4 Y k1<|Jn H1 (λl0 rk lJ wJ=>∃(Fq:ah)(Fv:Nat)(CG:ah)(CJ:Nat)(uP:ah)(uQ:Nat),lJ=(12,.slice uP m.aL.length uQ)::(15,.slice CG m.aT.length CJ)::(18,.slice Fq m.aA.length Fv)::(19,gI g2)::l0/\Hp b S wJ (aQ bD 59 Fq Fv m.aA::aQ dw 102 CG CJ m.aT::aQ bW 78 uP uQ m.aL::rk)) 5 1023 ?_ λhS1=>?_
  ·rintro _ w15 ⟨Fq,Fv,CG,CJ,uP,uQ,rfl,BI⟩;refine O1 10 Y<|yD Y BI s3 Y λw16 EB=>?_
   have k9:=(EB.cU 0 5);refine aO k9<|MO 11 g2 2 QF Y k9<|O1 12 Y<|yD Y EB s0 Y λw17 BJ=>?_
   have k10:=(BJ.cU 0 5);refine aO k10<|MO 13 g2 1 j4 Y k10<|O1 14 Y<|yD Y BJ s0 Y λw18 JR=>?_
   have k11:=(JR.cU 0 5);refine aO k11<|Dn ⟨Fq,Fv,CG,CJ,uP,uQ,Y,JR⟩ Y
  refine Jn H1 (λl0 rk lJ wJ=>∃(uP:ah)(uQ:Nat),lJ=(12,.slice uP m.aL.length uQ)::(14,.slice A3 m.aT.length c3)::(17,.slice A2 m.aA.length c2)::l0/\Hp b S wJ (aQ bW 78 uP uQ m.aL::rk)) 8 223 ?_ λhS2=>?_
  ·rintro _ w19 ⟨uP,uQ,rfl,EC⟩;have k12:=(EC.cU 0 3);refine MO 9 g2 0 lM Y k12<|O1 5 Y<|gU Y (DT _ (EC.s s6).any aj) ?_
   rintro _ w20 ⟨aqQ,aqR,rfl,h20⟩;have Gy:=EC.f1 h20;have aJ1:=(Gy.o s0).bC;have k13:=(Gy.cU 0 4);refine aO k13<|O1 8 Y<|gU Y (vG _ (Gy.s s6) aj) ?_
   rintro _ w21 ⟨aEU,aEV,rfl,h21⟩;have IV:=Gy.c1 h21;have aJ2:=(IV.o s0).bC;have k14:=(IV.cU 0 5);exact Kj hS1 k14 ⟨aEU,aEV,aqQ,aqR,uP,uQ,Y,IV⟩ Y
  refine Jn H1 (λl0 rk lJ wJ=>∃(uP:ah)(uQ:Nat),lJ=(12,.slice uP m.aL.length uQ)::(14,.slice A3 m.aT.length c3)::l0/\Hp b S wJ (aQ bW 78 uP uQ m.aL::rk)) 9 95 ?_ λhS3=>?_
  ·rintro _ w22 ⟨uP,uQ,rfl,GR⟩;refine O2 5 7 Y Y ?_ ?_
   ·refine gU Y (DT _ (GR.s s6).any aj) ?_;rintro _ w23 ⟨aqS,aqT,rfl,h23⟩;have JU:=GR.f1 h23;have aJ3:=(JU.o s0).bC;have k15:=(JU.cU 0 4);refine aO k15<|O1 7 Y<|nL JU s2 Y<|aO k15<|MO 9 g2 0 lM Y k15<|O1 8 Y<|gU Y (vG _ (JU.s s6) aj) ?_
    rintro _ w24 ⟨ap0,ap1,rfl,h24⟩;have pK:=JU.c1 h24;have azi:=(pK.o s0).bC;have k16:=(pK.cU 0 5);exact Kj hS1 k16 ⟨ap0,ap1,aqS,aqT,uP,uQ,Y,pK⟩ Y
   ·refine nL GR s1 Y ?_;have k17:=(GR.cU 0 3);exact Kj hS2 k17 ⟨uP,uQ,Y,GR⟩ Y
  refine Jn H1 (λl0 rk lJ wJ=>∃(uP:ah)(uQ:Nat),lJ=(12,.slice uP m.aL.length uQ)::(17,.slice A2 m.aA.length c2)::l0/\Hp b S wJ (aQ bW 78 uP uQ m.aL::rk)) 9 207 ?_ λhS4=>?_
  ·rintro _ w25 ⟨uP,uQ,rfl,Ea⟩;refine O1 4 Y<|nL Ea s1 Y ?_
   have k18:=(Ea.cU 0 3);exact Kj hS2 k18 ⟨uP,uQ,Y,Ea⟩ Y
  refine Jn H1 (λl0 rk lJ wJ=>lJ=(11,.slice A1 m.aL.length c1)::(14,.slice A3 m.aT.length c3)::(17,.slice A2 m.aA.length c2)::l0/\Hp b S wJ rk) 9 219 ?_ λhS5=>?_
  ·rintro _ w26 ⟨rfl,NK⟩;refine O1 2 Y<|gU Y (nE _ (NK.s s3).any aj) ?_
   rintro _ w27 ⟨aEW,aEX,rfl,h27⟩;have Ou:=NK.f1 h27;have aJ4:=(Ou.o s0).bC;have k19:=(Ou.cU 0 3);exact Kj hS2 k19 ⟨aEW,aEX,Y,Ou⟩ Y
  refine Jn H1 (λl0 rk lJ wJ=>lJ=(11,.slice A1 m.aL.length c1)::(14,.slice A3 m.aT.length c3)::l0/\Hp b S wJ rk) 10 91 ?_ λhS6=>?_
  ·rintro _ w28 ⟨rfl,GU⟩;refine O2 2 7 Y Y ?_ ?_
   ·refine gU Y (nE _ (GU.s s3).any aj) ?_;rintro _ w29 ⟨aEY,aEZ,rfl,h29⟩;have Ii:=GU.f1 h29;have asa:=(Ii.o s0).bC;have k20:=(Ii.cU 0 3);exact Kj hS3 k20 ⟨aEY,aEZ,Y,Ii⟩ Y
   ·refine nL GU s0 Y ?_;have k21:=(GU.cU 0 2);exact Kj hS5 k21 ⟨Y,GU⟩ Y
  refine Jn H1 (λl0 rk lJ wJ=>lJ=(11,.slice A1 m.aL.length c1)::(17,.slice A2 m.aA.length c2)::l0/\Hp b S wJ rk) 10 203 ?_ λhS7=>?_
  ·rintro _ w30 ⟨rfl,Gz⟩;refine O2 2 4 Y Y ?_ ?_
   ·refine gU Y (nE _ (Gz.s s3).any aj) ?_;rintro _ w31 ⟨aE0,aE1,rfl,h31⟩;have NZ:=Gz.f1 h31;have aAN:=(NZ.o s0).bC;have k22:=(NZ.cU 0 3);exact Kj hS4 k22 ⟨aE0,aE1,Y,NZ⟩ Y
   ·refine nL Gz s0 Y ?_;have k23:=(Gz.cU 0 2);exact Kj hS5 k23 ⟨Y,Gz⟩ Y
  refine Jn H1 (λl0 rk lJ wJ=>lJ=(14,.slice A3 m.aT.length c3)::(17,.slice A2 m.aA.length c2)::l0/\Hp b S wJ rk) 10 217 ?_ λhS8=>?_
  ·rintro _ w32 ⟨rfl,Ph⟩;refine O1 1 Y<|nL Ph s0 Y ?_
   have k24:=(Ph.cU 0 2);exact Kj hS5 k24 ⟨Y,Ph⟩ Y
  refine yT (fuel:=11) (rs:=[1,4,7]) ak au ?_
  simp only [wC,mP,xF,xG,uK]
  refine⟨?_,?_,?_⟩
  ·refine⟨_,Y,?_⟩;refine nL H1 s0 Y<|aO k1<|yT (fuel:=10) (rs:=[2,4,7]) ak au ?_
   simp only [wC,mP,xF,xG,uK]
   refine⟨?_,?_,?_⟩
   ·refine⟨_,Y,?_⟩;refine gU Y (nE _ (H1.s s3).any aj) ?_;rintro _ w33 ⟨axS,axT,rfl,h33⟩;have Vo:=H1.f1 h33;have aAL:=(Vo.o s0).bC;have k25:=(Vo.cU 0 3);refine aO k25<|O2 4 7 Y Y ?_ ?_
    ·refine nL Vo s1 Y<|Kj hS3 k25 ⟨axS,axT,Y,Vo⟩ Y
    ·refine nL Vo s1 Y<|Kj hS4 k25 ⟨axS,axT,Y,Vo⟩ Y
   ·refine⟨_,Y,?_⟩;refine nL H1 s0 Y<|Kj hS6 k1 ⟨Y,H1⟩ Y
   ·refine⟨_,Y,?_⟩;refine nL H1 s0 Y<|Kj hS7 k1 ⟨Y,H1⟩ Y
  ·refine⟨_,Y,?_⟩;refine nL H1 s0 Y<|aO k1<|O2 1 7 Y Y ?_ ?_
   ·refine nL H1 s0 Y<|Kj hS6 k1 ⟨Y,H1⟩ Y
   ·refine nL H1 s0 Y<|Kj hS8 k1 ⟨Y,H1⟩ Y
  ·refine⟨_,Y,?_⟩;refine nL H1 s0 Y<|aO k1<|O2 1 4 Y Y ?_ ?_
   ·refine nL H1 s0 Y<|Kj hS7 k1 ⟨Y,H1⟩ Y
   ·refine nL H1 s0 Y<|Kj hS8 k1 ⟨Y,H1⟩ Y
 rintro _ w34 ⟨jW,jT,pO,cj2,wW,vV,rfl,K34⟩;refine aY ?_;obtain⟨PI,aeE,HK1⟩:=Hp.toK K34 s1;have HK2:=HK1.aev dQ 3;have ahP:PI.length=m.aA.length:=by rw [<- aeE,kF]
 have HK3:=HK2;rw [<- ahP] at HK3;refine rg<|j6 g2 1 j4 HK3 s3 Y<|ev (eX iV Y)<|mv Y<|dn<|cB ?_
 have fT:[]=((PI.take 0).map ru):=by rfl
 rw [fT] at HK3;refine qZ (λmJ lJ wJ=>∃(k:Nat)(ks:List bF),lJ=[(2,gI g1),(3,gI g2),(23,.slice jW ks.length jT),(24,aI ((PI.length:Nat):Int)),(25,aI ((k:Nat):Int))]/\mJ=PI.length - k/\k<=PI.length/\(ks.length=PI.length)/\(ks.map bF.c=m.aA)/\(∀ j,k<=j->ks[j]? = PI[j]?)/\Hp b S wJ (aQ tK 59 jW jT ks::fU dQ 3 ((ks.take k).map ru)::U6 dQ (PI.map ru)::dW g2 45 [.slice wW m.aL.length vV,.slice jW PI.length jT,.slice pO m.aT.length cj2]::aQ dw 102 pO cj2 m.aT::aQ bW 78 wW vV m.aL::dW g1 45 [.slice none 0 0,.slice none 0 0,.slice none 0 0]::GA iI A1 c1 A2 c2 A3 c3 A4 c4 A5 c5 A6 c6 A7 c7 m s r aJ gm bR::dH bW A1 c1 m.aL::dH bD A2 c2 m.aA::dH dw A3 c3 m.aT::dH iK A4 c4 s.cZ::dH dz A5 c5 s.bI::dH bg A6 c6 s.bA::aQ bg 112 A7 c7 bR::jL gm hs::F)) ⟨0,PI,Y,Y,fE _,by rfl,by exact aeE,by intro j _; rfl,((HK3.sel s0).sel s1)⟩ rfl ?_;rintro _ _ w35 ⟨k,ks,rfl,rfl,hk,hkn,hka,hkb,K35⟩;refine rg<|ev (fD Y Y)<|dn<|pG Y (λNJ=>?_) (λNJ=>?_)
 ·refine jy ?_;refine aY<|cB<|bQ Y ?_
  obtain⟨x1,bN⟩:=bn (xs:=ks) (i:=k) aj;refine ev (eP (i:=k) iV qy Y Y Y (aM bN) ((K35.o s0).some_ bN))<|ev (iU pQ Y Y ((K35.o s0).fF bN))<|al lX Y K35 λg3 w36 ZF=>jk Y<|sty Y ZF s0 Y λw37 Vs=>dn ?_
  have hin:=Vs.aym s3 (gB.2 ⟨x1,bZ (by rw [<- hkb k (kJ _)]; exact bN),rfl⟩:(x1.B,x1.d,x1.c.aC)∈_);have hHl:x1.c.aC.length<=100000:=hh x1.c (by rw [<- hka]; exact gB.2 ⟨x1,bZ bN,rfl⟩);have H2:=Vs.push hin;refine Hf H2 (λ_ K=>(K.rm s2)) (λl0 rk lJ wJ=>∃(CQ:ah)(CS:Nat),lJ=(23,.slice jW ((ks.set k ({ x1 with B:=CQ,d:=CS }:bF)).length) jT)::l0/\Hp b S wJ (aQ tK 59 jW jT (ks.set k ({ x1 with B:=CQ,d:=CS }:bF))::aQ dQ 3 CQ CS x1.c.aC::rk)) (λhns H3=>?_) ?_
  ·have k26:=(H3.rm s2);refine MO 0 g2 1 j4 Y k26<|l9 1 Y (λ_ hK=>show Ev _ _ _ _ _ (.slice jW ks.length jT) from by rw [hkn]; exact(eF ajK rfl (hK.x s4) rfl)) k26<|lQ 2 rfl rfl k26<|nJ 3 4 g3 3 kH s1 rfl k26<|O1 5 rfl<|gU rfl (uq _ (H3.s s0).any aj) ?_
   rintro _ w38 ⟨UJ,UK,rfl,h38⟩;have K38:=H3.f1 h38;have k27:=((K38.rm s3).rm s0);refine aO k27<|O1 6 Y<|ev (eP (i:=k) iV qy Y Y Y (aM bN) ((K38.o s3).some_ bN))<|aO k27<|l9 7 Y (λ_ _=>fQ kH Y (fV _ _ _)) k27<|O1 8 Y<|se (x':=({ x1 with B:=UJ,d:=UK }:bF)) K38 s3 Y Y Y bN Y PG (nX Y) Y (by rintro _ _ _ ⟨⟩; rfl) λw39 ZH=>?_
   have hl1:(ks.set k ({ x1 with B:=UJ,d:=UK }:bF)).length=ks.length:=gW ..;refine gJ (t:=23) (u:=.slice jW ks.length jT) (v:=.slice jW ((ks.set k ({ x1 with B:=UJ,d:=UK }:bF)).length) jT) Y (by rw [hl1])<|gJ (t:=31) (u:=.slice jW ks.length jT) (v:=.slice jW ((ks.set k ({ x1 with B:=UJ,d:=UK }:bF)).length) jT) rfl (by rw [hl1]) ?_
   have k28:=(ZH.cU 0 2);refine aO k28<|Dn ⟨UJ,UK,Y,ZH⟩ Y
  rintro _ w40 ⟨CQ,CS,rfl,K40⟩;refine iw (gy ?_);have H4:=K40.PE s1 s3;refine jC<|ev (dP Y Y)<|mv Y<|jD ?_
  have gu:((ks.take k).map ru)++[(CQ,CS,x1.c.aC)]=(((ks.set k ({ x1 with B:=CQ,d:=CS }:bF)).take (k+1)).map ru):=by rw [SA bN]; rfl
  rw [gu] at H4;exact dG ⟨(k+1),(ks.set k ({ x1 with B:=CQ,d:=CS }:bF)),Y,Y,aj,by rw [gW]; exact hkn,by refine(Xj bN ?_).trans hka; rfl,by intro j hj; rw [Io aj]; exact hkb j aj,(((H4.cU 2 2).sel s0).sel s1)⟩ rfl aj
 refine xq ?_;have hfin:ks.take k=ks:=gV aj;have H5:=K35;rw [hfin] at H5;have H6:=H5.WW s1;have H7:=H6.ofK s1 s0;rw [hka,ahP] at H7;refine rg<|ev (fK yg Y Y (H7.x s2))<|sty Y H7 s5 Y λw41 K41=>dn<|jf (sW Y ⟨_,_,Y,⟨_,Y,kK (cs:=[.slice wW m.aL.length vV,.slice jW m.aA.length jT,.slice pO m.aT.length cj2]) yg Y (K41.x s0)⟩,Y⟩ ?_)
 have H8:=K41.fz s5;have H9:=H8.fz s2;have H10:=H9.fz s5;exact⟨wW,vV,jW,jT,pO,cj2,Y,((((H10.cU 3 3).sel s0).sel s1).sel s2)⟩
end
end Go.Proofs.YtlhnnmlenkahlaaGreat
