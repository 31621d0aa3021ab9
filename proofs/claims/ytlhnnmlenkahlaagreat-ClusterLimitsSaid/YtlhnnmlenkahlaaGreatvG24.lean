/- Lemmas. -/
import Derived.Test.YtlhnnmlenkahlaaGreatvG23
set_option maxRecDepth 4000
set_option linter.all false
namespace Go.Proofs.YtlhnnmlenkahlaaGreat
open Go.RowKit Go.Proofs.Tryz
variable {b w:World}{S:Nat->Prop}{F:List lC}{RY gs yR c iT c1 c2 c3 c4 c5 c6 c7 gm:Nat}{A A1 A2 A3 A4 A5 A6 A7:ah}{up:Bool}{bJ aN n:Int}{l:List aH}{es:List (bV × Option Addr × Nat × List (BitVec 8))}{cv:Value}{m:dU}{s:iM}{r:ARules}{dR:List aM}{hs:jV}
theorem awf:bI prog 180:=ay
theorem aaZ:dH prog 32 3 3:=ay
theorem aem(l:List aH)(bJ c v sum:Int)(gH:List (BitVec 8)):(yL l bJ c v sum gH).length<=l.length+1:=by
  unfold yL
  split
  · omega
  · split
    · omega
    · split
      · rename_i h
        unfold jY at h ⊢
        split
        · simp
        · split
          · simp
          · split
            · simp
            · split
              · simp
              · exact lG (adP _ _) (by have:=vI l; omega)
      · omega
theorem YP{Wh:ah}{Wi:Nat}{gH:List (BitVec 8)}(H0:Hp b S w (dJ RY 95 [fP gs,.bool up]::dJ gs 169 [aD bJ,.slice A l.length c,.map (some yR)]::dP bf A c l::pz uT uh yR es::fD gu 5 (es.map Prod.snd)::dP gu Wh Wi gH::F))(aL:Int)(bM:Int)(sum:Int)(hl:l.length<=1000) :
    bO prog 105 #[fP RY,aD aL,aD bM,fT sum,.slice Wh gH.length Wi] w λv w'=>∃(A1:ah)(c1:Nat)(B1:ah)(d1:Nat),v=.bool (XK l bJ aL bM sum gH)/\Hp b S w' (dJ RY 95 [fP gs,.bool up]::dJ gs 169 [aD bJ,.slice A1 ((KM l bJ aL bM sum gH).length) c1,.map (some yR)]::dP bf A1 c1 (KM l bJ aL bM sum gH)::pz uT uh yR (tkM l bJ aL bM sum gH B1 d1 es)::fD gu 5 ((tkM l bJ aL bM sum gH B1 d1 es).map Prod.snd)::F):=by
 refine sF func105 ntmps105 Y<|iY Y<|bQ Y<|ev (dS Y)<|jD RY 0 vJ H0 s0 Y<|mv Y<|mv Y<|mv Y<|mv Y ?_
 have H1:=H0.push (H0.s s5);refine gW Y (aj8 ((H1.mV 0 2).mV 2 4) aL bM sum (lG hl au)) ?_;rintro _ w1 ⟨aD9,aEa,akv,akw,rfl,K1⟩;have aF4:=(K1.s s1).bN;refine ev (iP Y Y)<|mv Y ?_
 cases R6:decide (qw l bJ aL bM sum gH=0) with
 | true=>
  have hd:=jC R6;have hbl:=aem l bJ aL bM sum gH;refine bG Y (bA Y) Y<|bG Y (dS Y) Y<|wP RY 0 vJ K1 s4 Y<|bG Y (bA Y) Y<|bG Y (bA Y) Y<|nu Y Y Y Y awf (agz K1 aL bM aj) Y ?_
  rintro _ w2 ⟨XQ,XR,rfl,K2⟩;refine bG Y (iP Y Y) Y<|ev (dY Y Y)<|bS Y<|iI Y ?_
  have d9:(decide ((lu (yL l bJ aL bM sum gH) aL bM).2=0):Bool)=(XK l bJ aL bM sum gH):=by unfold XK; rw [R6,Bool.true_and]
  have fG:((Rb (yL l bJ aL bM sum gH) aL bM):List aH)=(KM l bJ aL bM sum gH):=by unfold KM; rw [aO hd]
  have jQ:((Sj (yL l bJ aL bM sum gH) aL bM (FK l bJ aL bM sum gH akv akw es)):List (bV × Option Addr × Nat × List (BitVec 8)))=(tkM l bJ aL bM sum gH akv akw es):=by unfold tkM; rw [aO hd]
  exact⟨XQ,XR,akv,akw,by rw [<- d9] <;> rfl,by rw [<- fG,<- jQ]; exact(((K2.rm s5).mV 0 4).sel s4)⟩
 | false=>
  have hd:=kg R6;refine eB<|eB<|eB<|eB<|eB<|eB<|eB<|eB<|ev (eG Y Y)<|bS Y<|iI Y ?_
  have lV:(false:Bool)=(XK l bJ aL bM sum gH):=by unfold XK; rw [R6,Bool.false_and]
  have qU:((yL l bJ aL bM sum gH):List aH)=(KM l bJ aL bM sum gH):=by unfold KM; rw [aK hd]
  have vY:((FK l bJ aL bM sum gH akv akw es):List (bV × Option Addr × Nat × List (BitVec 8)))=(tkM l bJ aL bM sum gH akv akw es):=by unfold tkM; rw [aK hd]
  exact⟨aD9,aEa,akv,akw,by rw [<- lV] <;> rfl,by rw [<- qU,<- vY]; exact(((K1.rm s5).mV 0 4).sel s4)⟩
theorem aor(H0:Hp b S w (dJ RY 95 [fP gs,.bool up]::dJ gs 169 [aD bJ,.slice A l.length c,.map (some yR)]::dP bf A c l::pz uT uh yR es::fD gu 5 (es.map Prod.snd)::F))(it:AItem) :
    bO prog 48 #[cv,.agg #[aD it.Kind,aD it.A,aD it.B,aD it.C],fP RY] w λv w'=>v=aD 0/\Hp b S w' (dJ RY 95 [fP gs,.bool false]::dJ gs 169 [aD bJ,.slice A l.length c,.map (some yR)]::dP bf A c l::pz uT uh yR es::fD gu 5 (es.map Prod.snd)::F):=by
 refine sF func48 ntmps48 Y<|rg<|bx Y Y H0 λg1 w1 K1=>bS Y<|bQ Y<|ev (dS Y)<|wC RY 1 G8 Y<|wD Y K1 s1 Y λw2 K2=>dn<|iY Y<|iI Y ?_
 exact⟨Y,(K2.rm s1)⟩
theorem aos(H0:Hp b S w (dJ RY 95 [fP gs,.bool up]::dJ gs 169 [aD bJ,.slice A l.length c,.map (some yR)]::dP bf A c l::pz uT uh yR es::fD gu 5 (es.map Prod.snd)::F))(it:AItem)(hl:l.length<=1000) :
    bO prog 49 #[cv,.agg #[aD it.Kind,aD it.A,aD it.B,aD it.C],fP RY] w λv w'=>∃(A1:ah)(c1:Nat),v=aD 0/\Hp b S w' (dJ RY 95 [fP gs,.bool true]::dJ gs 169 [aD bJ,.slice A1 (((pX l es l.length).1).length) c1,.map (some yR)]::dP bf A1 c1 ((pX l es l.length).1)::pz uT uh yR ((pX l es l.length).2)::fD gu 5 (((pX l es l.length).2).map Prod.snd)::F):=by
 refine sF func49 ntmps49 Y<|rg<|bx Y Y H0 λg1 w1 K1=>bS Y<|bQ Y<|ev (dS Y)<|jD RY 0 vJ K1 s1 Y<|gW Y (ad1 ((K1.mV 0 2).mV 2 4) (lG hl au)) ?_
 rintro _ w2 ⟨XQ,XR,rfl,K2⟩;refine dn<|bQ Y<|ev (dS Y)<|wC RY 1 G8 Y<|wD Y K2 s5 Y λw3 K3=>dn<|iY Y<|iI Y ?_
 exact⟨XQ,XR,Y,(K3.rm s5)⟩
theorem akx(H0:Hp b S w (dJ RY 95 [fP gs,.bool up]::dJ gs 169 [aD bJ,.slice A l.length c,.map (some yR)]::dP bf A c l::pz uT uh yR es::fD gu 5 (es.map Prod.snd)::F))(it:AItem)(hl:l.length<=1000) :
    bO prog 50 #[cv,.agg #[aD it.Kind,aD it.A,aD it.B,aD it.C],fP RY] w λv w'=>∃(A1:ah)(c1:Nat),v=aD 0/\Hp b S w' (dJ RY 95 [fP gs,.bool up]::dJ gs 169 [aD bJ,.slice A1 (((sH l es (Dt l es).length).1).length) c1,.map (some yR)]::dP bf A1 c1 ((sH l es (Dt l es).length).1)::pz uT uh yR ((sH l es (Dt l es).length).2)::fD gu 5 (((sH l es (Dt l es).length).2).map Prod.snd)::F):=by
 refine sF func50 ntmps50 Y<|rg<|bx Y Y H0 λg1 w1 K1=>bS Y<|bQ Y<|ev (dS Y)<|jD RY 0 vJ K1 s1 Y<|gW Y (akf ((K1.mV 0 2).mV 2 4) (lG hl au)) ?_
 rintro _ w2 ⟨ni,nk,XQ,XR,rfl,K2⟩;refine dn<|iY Y<|iI Y ?_
 exact⟨XQ,XR,Y,((((K2.rm s5).rm s0).mV 0 4).sel s4)⟩
theorem aky(H0:Hp b S w (dJ RY 95 [fP gs,.bool up]::dJ gs 169 [aD bJ,.slice A l.length c,.map (some yR)]::dP bf A c l::pz uT uh yR es::fD gu 5 (es.map Prod.snd)::F))(it:AItem)(hb:(fU ⟨it.B,false⟩ es).2.2.length<=1000)(hi:uJ it.C) :
    bO prog 51 #[cv,.agg #[aD it.Kind,aD it.A,aD it.B,aD it.C],fP RY] w λv w'=>v=aD (if(fU ⟨it.B,false⟩ es).2.2.length=0 then 5 else 0)/\Hp b S w' (dJ RY 95 [fP gs,.bool up]::dJ gs 169 [aD bJ,.slice A l.length c,.map (some yR)]::dP bf A c l::pz uT uh yR (O9 it.B it.C es)::fD gu 5 ((O9 it.B it.C es).map Prod.snd)::F):=by
 refine sF func51 ntmps51 Y<|rg<|bx Y Y H0 λg1 w1 K1=>bS Y<|He K1 (λ_ K=>((K.cU 4 2).rm s2)) (λl0 rk lJ wJ=>lJ=(6,aD (if(fU ⟨it.B,false⟩ es).2.2.length=0 then 5 else 0))::l0/\Hp b S wJ (pz uT uh yR (O9 it.B it.C es)::fD gu 5 ((O9 it.B it.C es).map Prod.snd)::dJ gs 169 [aD bJ,.slice A l.length c,.map (some yR)]::rk)) (λhns H1=>?_) ?_
 ·have k1:=((H1.cU 4 2).rm s2);refine sw 0 RY 0 vJ Y k1<|Ai 3 s1 Y k1<|mD 4 5 g1 2 TD s0 Y k1<|mD 6 7 g1 3 aaZ s0 Y k1<|O1 8 Y<|gW Y (akb ((H1.mV 0 2).mV 2 4) it.B it.C hb hi) ?_
  rintro _ w2 ⟨rfl,K2⟩;have k2:=((((K2.cU 2 2).rm s0).sel s0).mV 1 2);refine aP k2<|xJ 9 Y Y k2<|Dn ⟨Y,((((K2.sel s1).mV 4 2).sel s3).mV 4 2)⟩ Y
 rintro _ w3 ⟨rfl,K3⟩;refine iI Y ?_;exact⟨Y,(((((K3.rm s3).mV 0 2).sel s4).sel s3).sel s4)⟩
theorem aot(H0:Hp b S w (dJ RY 95 [fP gs,.bool up]::dJ gs 169 [aD bJ,.slice A l.length c,.map (some yR)]::dP bf A c l::pz uT uh yR es::fD gu 5 (es.map Prod.snd)::F))(it:AItem) :
    bO prog 52 #[cv,.agg #[aD it.Kind,aD it.A,aD it.B,aD it.C],fP RY] w λv w'=>v=aD 0/\Hp b S w' (dJ RY 95 [fP gs,.bool up]::dJ gs 169 [aD bJ,.slice none (([]:List aH).length) 0,.map (some yR)]::dP bf none 0 ([]:List aH)::pz uT uh yR ([]:nJ)::fD gu 5 (([]:nJ).map Prod.snd)::F):=by
 refine sF func52 ntmps52 Y<|rg<|bx Y Y H0 λg1 w1 K1=>bS Y<|bQ Y<|ev (dS Y)<|jD RY 0 vJ K1 s1 Y<|gW Y (an4 ((K1.mV 0 2).mV 2 4) ) ?_
 rintro _ w2 ⟨rfl,K2⟩;refine dn<|iY Y<|iI Y ?_
 have H1:=K2.push (Cb bf _ _);exact⟨Y,((((((H1.rm s5).rm s2).mV 2 2).sel s2).sel s3).sel s4)⟩
theorem aen(a0:ah)(a1:Bool):prog.built 95 [(0,.pointer a0),(1,.bool a1)]=some #[.pointer a0,.bool a1]:=ak
theorem TH:dH prog 84 2 6:=ay
theorem Wt:∀ w,(zeroValue 120).run prog w=.ok (.agg #[aD 0,aD 0,aD 0,aD 0,aD 0,aD 0]) w:=ay
theorem aou:bI prog 109:=ay
abbrev Ht(gJ:AItem):=(⟨0,0,1,gJ.A,gJ.B,gJ.C⟩:gD)
abbrev aa0(gJ:Nat)(iK:ah)(tF:Nat)(vP:ah)(DI:Nat)(OD:ah)(RU:Nat)(XC:ah)(y8z:Nat)(y9z:ah)(Pz:Nat)(PD:ah)(PE:Nat)(PG:ah)(PI:Nat)(BK:dU)(BL:iM)(aaV:ARules)(aaW:Int)(PK:Nat)(PL:List aM)(aaX:jV)(aaY:List lC):=Iu gJ iK tF vP DI OD RU XC y8z y9z Pz PD PE PG PI BK BL aaV aaW PK PL::dP bX iK tF BK.aY::dP bH vP DI BK.aA::dP bZ OD RU BK.aQ::dP iL XC y8z BL.dX::dP dB y9z Pz BL.bY::dP bF PD PE BL.dM::aR bF 112 PG PI PL::jF PK aaX::aaY
theorem arP(H0:Hp b S w (aa0 iT A1 c1 A2 c2 A3 c3 A4 c4 A5 c5 A6 c6 A7 c7 m s r aN gm dR hs F))(it:AItem)(hm:qz m=true) :
    bO prog 40 #[fP iT,.agg #[aD it.Kind,aD it.A,aD it.B,aD it.C]] w λv w'=>∃(B1:ah)(d1:Nat)(B2:ah)(d2:Nat)(B3:ah)(d3:Nat)(hs1:jV),v=aD (knE m (Ht it))/\(jR hs1=if knE m (Ht it)=0 then gV it.A ⟨true,FJ it.C,[],[]⟩ (jR hs) else jR hs)/\Hp b S w' (Iu iT B1 d1 B2 d2 B3 d3 A4 c4 A5 c5 A6 c6 A7 c7 (AU m (Ht it)) s r aN gm dR::dP bX B1 d1 ((AU m (Ht it)).aY)::dP bH B2 d2 ((AU m (Ht it)).aA)::dP bZ B3 d3 ((AU m (Ht it)).aQ)::dP iL A4 c4 s.dX::dP dB A5 c5 s.bY::dP bF A6 c6 s.dM::aR bF 112 A7 c7 dR::jF gm hs1::F):=by
 refine sF func40 ntmps40 Y<|rg<|bx Y Y H0 λg1 w1 K1=>bS Y<|bQ Y<|jD g1 1 nI K1 s0 Y<|jD g1 2 TD K1 s0 Y<|jD g1 3 aaZ K1 s0 Y<|ev (iE (vs:=[(2,aD 1),(3,aD it.A),(4,aD it.B),(5,aD it.C)]) (cs:=[aD 0,aD 0,aD 1,aD it.A,aD it.B,aD it.C]) Y (by apply pY))<|gW rfl (xQ (m:=m) (s:=s) (r:=r) ((K1.sel s0).mV 1 9) (Ht it) aj rfl) ?_
 rintro _ w2 ⟨akp,akq,akr,aks,akt,aku,rfl,K2⟩;refine bS Y<|aZ<|bQ Y<|ev (iP Y Y)<|dn<|kX Y (λhc16=>?_) (λhc16=>?_)
 ·refine Hf K2 (λ_ K=>(K.rm s8)) (λl0 rk lJ wJ=>∃(jB cj2 vD:Nat),lJ=l0/\Hp b S wJ (jF gm (gV it.A (⟨jB,cj2,vD,none,0,true,(FJ it.C),[],([]:nJ)⟩:kS) hs)::rk)) (λhns H1=>?_) ?_
  ·have k1:=(H1.rm s8);refine sw 0 iT 13 qQ Y k1<|Ai 3 s0 Y k1<|mD 4 5 g1 1 nI s8 Y k1<|mD 6 7 g1 3 aaZ s8 Y k1<|O1 8 Y<|gW Y (arz H1 it.C) ?_
   rintro _ w3 ⟨arQ,azo,rfl,K3⟩;have k2:=((K3.rm s11).cU 0 3);refine aP k2<|lH 9 Y (λ_ _=>iE (vs:=[(0,fP arQ),(1,.bool true)]) (cs:=[fP arQ,.bool true]) Y (by apply aen)) k2<|O1 10 rfl<|bx rfl rfl K3 λg2 w4 K4=>?_
   have k3:=((K4.rm s12).cU 0 4);refine aP k3<|O1 11 Y<|aD7 (z:=it.A) (v:=g2) K4 s12 zZ vw Y Y Y λw5 K5=>?_
   have H2:=K5.push (Cb bf _ _);have H3:=Hp.arL (h:=⟨g2,arQ,azo,none,0,true,(FJ it.C),[],([]:nJ)⟩) ((((H2.sel s1).mV 4 2).sel s3).mV 4 2);have k4:=(H3.rm s0);refine aP k4<|Dn ⟨g2,arQ,azo,Y,H3⟩ Y
  rintro _ w6 ⟨jB,cj2,vD,rfl,K6⟩;refine gB<|bQ Y<|bS Y<|iI Y ?_
  exact⟨akp,akq,akr,aks,akt,aku,(gV it.A (⟨jB,cj2,vD,none,0,true,(FJ it.C),[],([]:nJ)⟩:kS) hs),Y,(by rw [aO hc16,yO]; rfl),(((K6.rm s9).sel s0).mV 1 8)⟩
 refine jh ?_;refine bQ Y<|bS Y<|iI Y ?_
 exact⟨akp,akq,akr,aks,akt,aku,hs,Y,(by rw [aK hc16]),(K2.rm s9)⟩
abbrev Hu(gJ:iM)(iK:AItem)(tF:Int):=(⟨ze gJ.dX iK.A tF,gJ.bY,gJ.dM⟩:iM)
theorem aov{hv:Value}(H0:Hp b S w (aa0 iT A1 c1 A2 c2 A3 c3 A4 c4 A5 c5 A6 c6 A7 c7 m s r aN gm dR hs F))(it:AItem)(hb:s.dX.length<=1000) :
    bO prog 46 #[fP iT,.agg #[aD it.Kind,aD it.A,aD it.B,aD it.C],hv] w λv w'=>∃(B4:ah)(d4:Nat),v=aD 0/\Hp b S w' (Iu iT A1 c1 A2 c2 A3 c3 B4 d4 A5 c5 A6 c6 A7 c7 m (Hu s it aN) r aN gm dR::dP bX A1 c1 m.aY::dP bH A2 c2 m.aA::dP bZ A3 c3 m.aQ::dP iL B4 d4 ((Hu s it aN).dX)::dP dB A5 c5 ((Hu s it aN).bY)::dP bF A6 c6 ((Hu s it aN).dM)::aR bF 112 A7 c7 dR::jF gm hs::F):=by
 refine sF func46 ntmps46 Y<|rg<|bx Y Y H0 λg1 w1 K1=>bS Y<|He K1 (λ_ K=>(K.rm s1)) (λl0 rk lJ wJ=>∃(jE:ah)(jB:Nat),lJ=l0/\Hp b S wJ (dJ iT 84 [.slice A1 m.aY.length c1,.slice A2 m.aA.length c2,.slice A3 m.aQ.length c3,.slice jE ((ze s.dX it.A aN).length) jB,.slice A5 s.bY.length c5,.slice A6 s.dM.length c6,aD r.ku,aD r.l5,aD r.All,aD r.qj,aD r.jy,aD r.fA,aD aN,.map (some gm),.slice A7 dR.length c7]::aR iL 107 jE jB (ze s.dX it.A aN)::rk)) (λhns H1=>?_) ?_
 ·have k1:=(H1.rm s1);refine kT 0 Y Y k1<|sw 1 iT 3 yQ Y k1<|Ko 4 iT 3 D7 Y k1<|mD 6 7 g1 1 nI s0 Y k1<|sw 8 iT 12 BJ Y k1<|Jn H1 (λl0 rk lJ wJ=>lJ=(12,.slice A4 s.dX.length c4)::(18,aD aN)::l0/\Hp b S wJ rk) 5 4095 ?_ λhS1=>?_
  ·rintro _ w4 ⟨rfl,K4⟩;refine O1 12 Y<|gW Y (aoe _ (K4.s s5).any it.A aN (lG hb au)) ?_
   rintro _ w5 ⟨xA,xB,rfl,h5⟩;have K5:=K4.f1 h5;have k4:=((K5.rm s2).rm s0);refine aP k4<|Qk 13 iT 3 yQ Y k4<|Ko 15 iT 3 D7 Y k4<|O1 16 Y<|wD Y K5 s2 Y λw6 K6=>?_
   have k5:=(K6.cU 0 2);refine aP k5<|Dn ⟨xA,xB,Y,K6⟩ Y
  refine O2 5 11 Y Y ?_ ?_
  ·refine mK H1 s1 Y<|aP k1<|O1 11 Y<|mK H1 s1 Y<|Kj hS1 k1 ⟨Y,H1⟩ Y
  ·refine mK H1 s1 Y<|aP k1<|O1 5 Y<|mK H1 s1 Y<|Kj hS1 k1 ⟨Y,H1⟩ Y
 rintro _ w7 ⟨jE,jB,rfl,K7⟩;refine iY Y<|iI Y ?_
 have H2:=K7.fz s1;have d9:(ze s.dX it.A aN:List eZ)=((Hu s it aN).dX):=by rfl
 have fG:(s.bY:List bB)=((Hu s it aN).bY):=by rfl
 have jQ:(s.dM:List aM)=((Hu s it aN).dM):=by rfl
 exact⟨jE,jB,Y,by rw [<- d9,<- fG,<- jQ]; exact((((H2.rm s6).rm s2).sel s0).mV 1 4)⟩
theorem arR(m:dU)(s:iM)(r:ARules)(aN:Int):∀ x∈qN m s r aN,x.Client=0:=by
  intro x hx;unfold qN at hx
  split at hx
  · obtain⟨o,_,rfl⟩:=jI.1 hx; rfl
  · simp at hx
theorem aow(ls:List bB)(os:List aM)(ks dh:List aI)(ns:List aW)(aG:List Int)(j5 dD all u:Int):(Vx ls os ks dh ns aG j5 dD all u).length<=os.length+1:=by
  unfold Vx
  split
  · unfold Ea; split <;> simp
  · omega
theorem aeo(m:dU)(s:iM)(r:ARules)(aN:Int):(qN m s r aN).length<=m.aA.length:=by
  unfold qN
  split
  · rw [jN]
    have hsl:(OH m s aN).length=m.aA.length:=KA _ _;rw [<- hsl]; exact Jw _ _ _ _ _ _ _
  · simp
theorem aep(hl:s.bY.length<=64):(xY m s r aN).length<=200+m.aA.length:=by
  unfold xY rdO
  split
  · rename_i h
    have hmay:nM r=true:=by unfold rdB at h; revert h; cases nM r <;> simp
    have hbd:=zA hmay;have hpl:=Kz s aN;have hsl:(OH m s aN).length=m.aA.length:=KA _ _;have hrl:=VB (x:=rdX m s r aN) hbd.2.2.2.1.2 (rdN m s r aN) ((gY s aN).bY,[]) (lG hpl.1 hl)
    have hrl2:(DN m s r aN).2.length<=64:=by
      have h2:=hrl.2; have h3:(DN m s r aN).1.length<=64:=hrl.1; simp only [qx] at h2;show(rA (rdX m s r aN) (rdN m s r aN) ((gY s aN).bY,[])).2.length<=64;have h4:(rA (rdX m s r aN) (rdN m s r aN) ((gY s aN).bY,[])).1.length<=64:=hrl.1;omega
    have htl:(Fz m s r aN).length<=(OH m s aN).length:=Jw _ _ _ _ _ _ _;have hba:=aow (DN m s r aN).1 ((DN m s r aN).2++Fz m s r aN) m.aA (OH m s aN) m.aY (R9 s r aN) r.fA r.l5 r.All (aN+r.jy)
    split <;> simp only [iO] at hba ⊢ <;> omega
  · simp
abbrev Ei(gJ:dU)(iK:iM)(tF:ARules)(vP:Int):=((qh gJ iK tF vP).dX).length
abbrev Ej(gJ:dU)(iK:iM)(tF:ARules)(vP:Int):=((qh gJ iK tF vP).bY).length
abbrev Em(gJ:dU)(iK:iM)(tF:ARules)(vP:Int):=((qh gJ iK tF vP).dM).length
theorem akz(H0:Hp b S w (aa0 iT A1 c1 A2 c2 A3 c3 A4 c4 A5 c5 A6 c6 A7 c7 m s r aN gm dR hs F))(it:AItem)(hm:qz m=true)(hb:s.dX.length<=1000)(hl:s.bY.length<=64)(hd:s.dM.length<=50000)(hu:0<=aN/\aN<=549755813888)(hw:dR.length<=500000) :
    bO prog 42 #[fP iT,.agg #[aD it.Kind,aD it.A,aD it.B,aD it.C]] w λv w'=>∃(B1:ah)(d1:Nat)(B2:ah)(d2:Nat)(B3:ah)(d3:Nat)(B4:ah)(d4:Nat)(B5:ah)(d5:Nat)(B6:ah)(d6:Nat)(B7:ah)(d7:Nat),v=aD 0/\Hp b S w' (Iu iT B1 d1 B2 d2 B3 d3 B4 d4 B5 d5 B6 d6 B7 d7 (FU m (qN m s r aN)) (qh m s r aN) r aN gm (dR++xY m s r aN)::dP bX B1 d1 ((FU m (qN m s r aN)).aY)::dP bH B2 d2 ((FU m (qN m s r aN)).aA)::dP bZ B3 d3 ((FU m (qN m s r aN)).aQ)::dP iL B4 d4 ((qh m s r aN).dX)::dP dB B5 d5 ((qh m s r aN).bY)::dP bF B6 d6 ((qh m s r aN).dM)::aR bF 112 B7 d7 (dR++xY m s r aN)::jF gm hs::F):=by
 refine sF func42 ntmps42 Y ?_;have hz:=Ee hm;have hzc:=(zq (nG.1 hm).2.1).1;have hro:=aep (m:=m) (r:=r) (aN:=aN) hl;have aEb:=aeo m s r aN;refine rg<|bx Y Y H0 λg1 w1 K1=>bS Y<|He K1 (λ_ K=>K) (λl0 rk lJ wJ=>∃(rH:Nat)(jE:ah)(jB:Nat)(oQ:ah)(cj2:Nat)(wm:ah)(vD:Nat)(Au:ah)(Aw:Nat)(Aj5:ah)(cj5:Nat),lJ=(5,fP rH)::(6,.slice Au ((xY m s r aN).length) Aw)::(7,.slice Aj5 ((qN m s r aN).length) cj5)::l0/\Hp b S wJ (dJ rH 51 [.slice jE (Ei m s r aN) jB,.slice oQ (Ej m s r aN) cj2,.slice wm (Em m s r aN) vD]::aR iL 107 jE jB ((qh m s r aN).dX)::aR dB 117 oQ cj2 ((qh m s r aN).bY)::aR bF 112 wm vD ((qh m s r aN).dM)::aR bF 112 Au Aw (xY m s r aN)::aR yY 120 Aj5 cj5 (qN m s r aN)::rk)) (λhns H1=>?_) ?_
 ·refine sw 0 iT 0 yP Y H1<|lH 3 Y (λ_ hK=>Cm (cs':=[.slice A1 m.aY.length c1,.slice A2 m.aA.length c2,.slice A3 m.aQ.length c3]) qO Y Y (hK.x s1) Y) H1<|sw 4 iT 3 yQ Y H1<|lH 7 Y (λ_ hK=>Cm (cs':=[.slice A4 s.dX.length c4,.slice A5 s.bY.length c5,.slice A6 s.dM.length c6]) Ij Y Y (hK.x s1) Y) H1<|sw 8 iT 6 TH Y H1<|lH 11 Y (λ_ hK=>Cm (cs':=[aD r.ku,aD r.l5,aD r.All,aD r.qj,aD r.jy,aD r.fA]) OI Y Y (hK.x s1) Y) H1<|sw 12 iT 12 BJ Y H1<|Ai 15 s1 Y H1<|Jn H1 (λl0 rk lJ wJ=>∃(g2:Nat)(G9:ah)(Hg:Nat)(Hl:ah)(Ho:Nat)(Hq:ah)(Hr:Nat)(XQ:ah)(XR:Nat)(arS:ah)(arT:Nat),lJ=(5,fP g2)::(29,.slice XQ ((xY m s r aN).length) XR)::(30,.slice arS ((qN m s r aN).length) arT)::l0/\Hp b S wJ (dJ g2 51 [.slice G9 (Ei m s r aN) Hg,.slice Hl (Ej m s r aN) Ho,.slice Hq (Em m s r aN) Hr]::aR iL 107 G9 Hg ((qh m s r aN).dX)::aR dB 117 Hl Ho ((qh m s r aN).bY)::aR bF 112 Hq Hr ((qh m s r aN).dM)::aR bF 112 XQ XR (xY m s r aN)::aR yY 120 arS arT (qN m s r aN)::rk)) 2 8388607 ?_ λhS1=>?_
  ·rintro _ w8 ⟨g2,G9,Hg,Hl,Ho,Hq,Hr,XQ,XR,arS,arT,rfl,K8⟩;have k6:=(K8.cU 0 6);refine xJ 23 Y Y k6<|xJ 24 Y Y k6<|Dn ⟨g2,G9,Hg,Hl,Ho,Hq,Hr,XQ,XR,arS,arT,Y,K8⟩ Y
  refine O2 16 21 Y Y ?_ ?_
  ·refine gW Y (ado _ m (H1.s s2).any (H1.s s3).any (H1.s s4).any s (H1.s s5).any (H1.s s6).any (H1.s s7).any r aN aj aj aj (lG (FE (nG.1 hm).1) au) (lG hzc au) aj) ?_;rintro _ w9 ⟨Du,Dv,Dw,Dx,Dy,Dz,arU,arV,arW,arX,rfl,h9⟩;have K9:=H1.f5 h9;have azp:=(K9.o s0).bN;have azq:=(K9.o s1).bN;have azr:=(K9.o s2).bN;have aF5:=(K9.o s3).bN;have aF6:=(K9.o s4).bN;have k7:=(K9.cU 0 5);refine aP k7<|kT 17 Y Y k7<|yj 18 Y (vs:=[.agg #[.slice Du (Ei m s r aN) Dv,.slice Dw (Ej m s r aN) Dx,.slice Dy (Em m s r aN) Dz],.slice arU ((xY m s r aN).length) arV,.slice arW ((qN m s r aN).length) arX]) Y Y k7<|yj 19 Y (vs:=[.agg #[.slice Du (Ei m s r aN) Dv,.slice Dw (Ej m s r aN) Dx,.slice Dy (Em m s r aN) Dz],.slice arU ((xY m s r aN).length) arV,.slice arW ((qN m s r aN).length) arX]) Y Y k7<|yj 20 Y (vs:=[.agg #[.slice Du (Ei m s r aN) Dv,.slice Dw (Ej m s r aN) Dx,.slice Dy (Em m s r aN) Dz],.slice arU ((xY m s r aN).length) arV,.slice arW ((qN m s r aN).length) arX]) Y Y k7<|O1 21 Y<|al Ox Y K9 λg4 Nn K10=>?_
   have k8:=(K10.cU 0 6);refine aP k8<|O1 22 Y<|sty Y K10 s0 Y λRG tO=>?_
   have k9:=(tO.cU 0 6);exact Kj hS1 k9 ⟨g4,Du,Dv,Dw,Dx,Dy,Dz,arU,arV,arW,arX,Y,tO⟩ Y
  ·refine al Ox Y H1 λg5 Qp rW=>?_;have k10:=(rW.rm s0);refine aP k10<|O1 16 Y<|gW Y (ado _ m (rW.s s3).any (rW.s s4).any (rW.s s5).any s (rW.s s6).any (rW.s s7).any (rW.s s8).any r aN aj aj aj (lG (FE (nG.1 hm).1) au) (lG hzc au) aj) ?_
   rintro _ WO ⟨oL,oM,wV,wW,wX,wY,ah8,ah9,aia,aib,rfl,h13⟩;have vC:=rW.f5 h13;have aEc:=(vC.o s0).bN;have aEd:=(vC.o s1).bN;have aEe:=(vC.o s2).bN;have aEf:=(vC.o s3).bN;have aEg:=(vC.o s4).bN;have k11:=(vC.cU 0 6);refine aP k11<|kT 17 Y Y k11<|yj 18 Y (vs:=[.agg #[.slice oL (Ei m s r aN) oM,.slice wV (Ej m s r aN) wW,.slice wX (Em m s r aN) wY],.slice ah8 ((xY m s r aN).length) ah9,.slice aia ((qN m s r aN).length) aib]) Y Y k11<|yj 19 Y (vs:=[.agg #[.slice oL (Ei m s r aN) oM,.slice wV (Ej m s r aN) wW,.slice wX (Em m s r aN) wY],.slice ah8 ((xY m s r aN).length) ah9,.slice aia ((qN m s r aN).length) aib]) Y Y k11<|yj 20 Y (vs:=[.agg #[.slice oL (Ei m s r aN) oM,.slice wV (Ej m s r aN) wW,.slice wX (Em m s r aN) wY],.slice ah8 ((xY m s r aN).length) ah9,.slice aia ((qN m s r aN).length) aib]) Y Y k11<|O1 22 Y<|sty Y vC s5 Y λXv vo=>?_
   have k12:=(vo.cU 0 6);exact Kj hS1 k12 ⟨g5,oL,oM,wV,wW,wX,wY,ah8,ah9,aia,aib,Y,vo⟩ Y
 rintro _ Yg ⟨rH,jE,jB,oQ,cj2,wm,vD,Au,Aw,Aj5,cj5,rfl,yX⟩;refine bQ Y<|ev (dK Ij Y Y (yX.x s0))<|ev (dS Y)<|wC iT 3 yQ Y<|stp Y Y Y asZ yX s7 Y Y Y λw16 Bv=>dn<|aZ ?_
 have H2:=Bv.fz s2;have H3:=H2.fz s3;have H4:=H3.fz s4;refine bQ Y<|ev (eY MO Y)<|mv Y<|dn<|cZ<|Lp ((H4.cU 8 3).rm s3) (λl0 rk mJ lJ wJ=>∃(k:Nat)(B1:ah)(d1:Nat)(B2:ah)(d2:Nat)(B3:ah)(d3:Nat),lJ=(37,aD ((k:Nat):Int))::l0/\mJ=(qN m s r aN).length - k/\k<=(qN m s r aN).length/\Hp b S wJ (dP bX B1 d1 ((FU m ((qN m s r aN).take k)).aY)::dP bH B2 d2 ((FU m ((qN m s r aN).take k)).aA)::dP bZ B3 d3 ((FU m ((qN m s r aN).take k)).aQ)::Iu iT B1 d1 B2 d2 B3 d3 jE jB oQ cj2 wm vD A7 c7 (FU m ((qN m s r aN).take k)) (qh m s r aN) r aN gm dR::rk)) ⟨0,A1,c1,A2,c2,A3,c3,Y,Y,fK _,((((H4.mV 4 4).mV 4 3).sel s7).mV 8 3)⟩ Y ?_
 rintro _ _ w17 ⟨k,B1,d1,B2,d2,B3,d3,rfl,rfl,hk,xS⟩;refine rg<|ev (fB Y Y)<|dn<|oC Y (λhc38=>?_) (λhc38=>?_)
 ·refine jh ?_;refine aZ<|cZ<|rg ?_
  obtain⟨x1,bP⟩:=bC (xs:=(qN m s r aN)) (i:=k) aj;refine ev (eU (i:=k) MO agh Y Y Y (aJ bP) ((xS.o s9).some_ bP))<|ev (fV AA Y Y ((xS.o s9).eX bP))<|al Wt Y xS λg6 w18 FR=>sty Y FR s0 Y λw19 Bf=>dn<|jr<|mv Y<|ev (dK AA Y Y (Bf.x s0))<|gW Y (xQ (m:=(FU m ((qN m s r aN).take k))) (s:=(qh m s r aN)) (r:=r) ((((((((Bf.mV 8 7).sel s7).mV 15 2).sel s14).sel s15).sel (sx 16)).mV 13 3).sel (sx 16)) x1 (TB hm _) (arR _ _ _ _ _ (dA bP))) ?_
  rintro _ w20 ⟨aox,aoy,aoz,aoA,aoB,aoC,rfl,DL⟩;have aEh:=(DL.s s1).bN;have aEi:=(DL.s s2).bN;have aEj:=(DL.s s3).bN;have aEk:=(DL.s s4).bN;have aEl:=(DL.s s5).bN;have aEm:=(DL.s s6).bN;refine jv<|ig (gB ?_)
  refine jr<|ev (dW Y Y)<|mv Y<|jv ?_
  have H5:=DL;rw [show(AU (FU m ((qN m s r aN).take k)) x1)=(FU m ((qN m s r aN).take (k+1))) from by rw [aoo bP]] at H5;exact dQ ⟨(k+1),aox,aoy,aoz,aoA,aoB,aoC,Y,Y,aj,((((((((H5.rm s9).mV 7 2).mV 9 7).sel s13).sel s14).sel s15).sel s12).mV 13 3)⟩ rfl aj
 refine wQ ?_;refine bQ Y<|mv Y<|ev (dS Y)<|jD iT 14 zJ xS s3 Y<|mv Y<|ap (ys:=(xY m s r aN)) xS s14 Y Y (xS.o s8) kR Dj aj aj Y λnY nZ w21 Gp=>ev (dS Y)<|wC iT 14 zJ Y<|wD Y Gp s4 Y λw22 Fa=>dn<|iY Y<|iI Y ?_
 have H6:=Fa;rw [show(FU m ((qN m s r aN).take k))=(FU m (qN m s r aN)) from by rw [iD aj]] at H6;have d9:((dR++(xY m s r aN)):List aM)=(dR++xY m s r aN):=by simp
 exact⟨B1,d1,B2,d2,B3,d3,jE,jB,oQ,cj2,wm,vD,nY,nZ,Y,by rw [<- d9]; exact(((((H6.cU 8 7).sel s1).sel s5).sel s6).mV 3 5)⟩
theorem Wu{l:List gD}{k:Nat}{x:gD}(h:l[k]? = some x):oG s aN n m (l.take (k+1))=aeg s aN n (oG s aN n m (l.take k)) x:=by
  unfold oG; rw [fI h,xD]; rfl
theorem PN(hm:qz m=true)(l:List gD):qz (oG s aN n m l)=true:=by
  unfold oG
  induction l generalizing m with
  | nil=>exact hm
  | cons x l ih=>
    refine ih ?_;unfold aeg; split
    · exact BI hm x
    · exact hm
theorem aic(l:List aI)(bq:Int)(report:List aH):∀ x∈lS l bq report,x.Client=0:=by
  intro x hx;unfold lS at hx
  split at hx
  · obtain⟨c,_,hc⟩:=List.mem_flatMap.1 hx
    unfold recC at hc
    split at hc
    · rw [nL.1 hc]
    · split at hc
      · rw [nL.1 hc]
      · simp at hc
  · simp at hx
theorem aer{st:List Int}{u:Int}{k:Nat}{x:aH}(h:l[k]? = some x)(hb:st.contains x.aB=true):y7 (l.take (k+1)) st n u=y7 (l.take k) st n u++[⟨1,x.aB,x.aC,x.Sum,n,n,u⟩]:=by
  unfold y7; rw [fI h,yg,pR]; simp only [I9,hb,if_true,List.filter_nil,mO,vL]
theorem aie{st:List Int}{u:Int}{k:Nat}{x:aH}(h:l[k]? = some x)(hb:st.contains x.aB=false):y7 (l.take (k+1)) st n u=y7 (l.take k) st n u:=by
  unfold y7; rw [fI h,yg,pR]; simp only [I9,hb,Ug,if_false,List.filter_nil,vL,Ad]
theorem aoD(l:List aH)(st:List Int)(n u:Int):(y7 l st n u).length<=l.length:=by unfold y7; rw [jN]; exact lX _ _
abbrev TI(gJ:List aM)(iK:List aH)(tF:Nat)(vP:iM)(DI:Int)(OD:AItem)(RU:dU)(XC:ARules):=(gJ++y7 ((eT iK).take tF) (nX (oG vP DI OD.A RU (lS RU.aA OD.A (eT iK))).aA (eT iK)) OD.A (DI+XC.jy)).length
theorem agJ{gh:Nat}{Ah:ah}{ch:Nat}(H0:Hp b S w (Iu iT A1 c1 A2 c2 A3 c3 A4 c4 A5 c5 A6 c6 A7 c7 m s r aN gm dR::dP bX A1 c1 m.aY::dP bH A2 c2 m.aA::dP bZ A3 c3 m.aQ::dP iL A4 c4 s.dX::dP dB A5 c5 s.bY::dP bF A6 c6 s.dM::aR bF 112 A7 c7 dR::jF gm hs::F))(it:AItem)(hm:qz m=true)(hb:s.dX.length<=1000)(hl:s.bY.length<=64)(hd:s.dM.length<=50000)(hu:0<=aN/\aN<=549755813888)(hw:dR.length<=500000)(hr:nM r=true)(hg:fH it.A hs=some ⟨gh,gs,yR,Ah,ch,up,bJ,l,es⟩)(hz:l.length<=1000) :
    bO prog 47 #[fP iT,.agg #[aD it.Kind,aD it.A,aD it.B,aD it.C],fP gh] w λv w'=>∃(B1:ah)(d1:Nat)(B2:ah)(d2:Nat)(B3:ah)(d3:Nat)(B7:ah)(d7:Nat),v=aD 0/\Hp b S w' (Iu iT B1 d1 B2 d2 B3 d3 A4 c4 A5 c5 A6 c6 B7 d7 (oG s aN it.A m (lS m.aA it.A (eT l))) s r aN gm (dR++y7 (eT l) (nX (oG s aN it.A m (lS m.aA it.A (eT l))).aA (eT l)) it.A (aN+r.jy))::dP bX B1 d1 ((oG s aN it.A m (lS m.aA it.A (eT l))).aY)::dP bH B2 d2 ((oG s aN it.A m (lS m.aA it.A (eT l))).aA)::dP bZ B3 d3 ((oG s aN it.A m (lS m.aA it.A (eT l))).aQ)::dP iL A4 c4 s.dX::dP dB A5 c5 s.bY::dP bF A6 c6 s.dM::aR bF 112 B7 d7 (dR++y7 (eT l) (nX (oG s aN it.A m (lS m.aA it.A (eT l))).aA (eT l)) it.A (aN+r.jy))::jF gm hs::F):=by
 refine sF func47 ntmps47 Y ?_;have hrl:=KH l;have aF7:=(zq (nG.1 hm).2.1).1;have aEb:=aoh m.aA it.A (eT l);have hbd:=zA hr;have hzs:=Ee hm;have hmr:=Ee (PN (s:=s) (aN:=aN) (n:=it.A) hm (lS m.aA it.A (eT l)));have hqn:=λk=>aoD ((eT l).take k) (nX (oG s aN it.A m (lS m.aA it.A (eT l))).aA (eT l)) it.A (aN+r.jy)
 simp only [fE] at hqn
 refine rg<|bx Y Y H0 λg1 w1 K1=>bS Y<|bQ Y<|ev (dS Y)<|wC gh 0 vJ Y<|ev (cu Pg Y (K1.AP s9 hg) Y) ?_
 have H1:=K1.uO s9 hg;refine gW Y (M6 ((H1.sel s0).mV 1 4) (lG hz au)) ?_;rintro _ w2 ⟨ni,nk,rfl,K2⟩;have UD:=(K2.o s0).bN;have H2:=Ri hg ((((K2.sel s0).sel s6).mV 2 4).sel s6);refine bS Y<|aZ<|He H2 (λ_ K=>K) (λl0 rk lJ wJ=>∃(jE:ah)(jB:Nat),lJ=(26,.slice jE ((lS m.aA it.A (eT l)).length) jB)::(27,aD (((lS m.aA it.A (eT l)).length:Nat):Int))::(28,aD 0)::l0/\Hp b S wJ (aR yY 120 jE jB (lS m.aA it.A (eT l))::rk)) (λhns H3=>?_) ?_
 ·refine sw 0 iT 0 yP Y H3<|mD 3 4 iT 1 kE s3 Y H3<|mD 5 6 g1 1 nI s2 Y H3<|kT 7 Y Y H3<|kT 10 Y Y H3<|O1 8 Y<|gW Y (aaO _ (H3.s s5).any it.A (H3.o s1) hzs.2.1) ?_
  rintro _ w3 ⟨mR,mU,rfl,h3⟩;have K3:=H3.f1 h3;have alL:=(K3.o s0).bN;have k1:=(K3.rm s0);refine aP k1<|lH 9 Y (λ_ _=>eY MO Y) k1<|Dn ⟨mR,mU,Y,K3⟩ Y
 rintro _ w4 ⟨jE,jB,rfl,K4⟩;refine cZ<|Lp (K4.cU 4 4) (λl0 rk mJ lJ wJ=>∃(k:Nat)(B1:ah)(d1:Nat)(B2:ah)(d2:Nat)(B3:ah)(d3:Nat),lJ=(28,aD ((k:Nat):Int))::l0/\mJ=(lS m.aA it.A (eT l)).length - k/\k<=(lS m.aA it.A (eT l)).length/\Hp b S wJ (dP bX B1 d1 ((oG s aN it.A m ((lS m.aA it.A (eT l)).take k)).aY)::dP bH B2 d2 ((oG s aN it.A m ((lS m.aA it.A (eT l)).take k)).aA)::dP bZ B3 d3 ((oG s aN it.A m ((lS m.aA it.A (eT l)).take k)).aQ)::Iu iT B1 d1 B2 d2 B3 d3 A4 c4 A5 c5 A6 c6 A7 c7 (oG s aN it.A m ((lS m.aA it.A (eT l)).take k)) s r aN gm dR::rk)) ⟨0,A1,c1,A2,c2,A3,c3,Y,Y,fK _,(((K4.mV 0 4).sel s4).mV 5 3)⟩ Y ?_
 rintro _ _ w5 ⟨k,B1,d1,B2,d2,B3,d3,rfl,rfl,hk,K5⟩;refine rg<|ev (fB Y Y)<|dn<|oC Y (λhc29=>?_) (λhc29=>?_)
 ·refine jh ?_;refine aZ<|cZ<|rg ?_
  obtain⟨x1,bP⟩:=bC (xs:=lS m.aA it.A (eT l)) (i:=k) aj;refine ev (eU (i:=k) MO agh Y Y Y (aJ bP) ((K5.o s4).some_ bP))<|ev (fV AA Y Y ((K5.o s4).eX bP))<|al Wt Y K5 λg2 w6 K6=>sty Y K6 s0 Y λw7 K7=>dn<|rg<|jD g2 2 VT K7 s0 Y<|ev (rz Y Y)<|mv Y ?_
  cases Ql:(!decide (x1.Kind=5)) with
  | true=>
   refine eB<|eB<|eB<|eB<|eB<|eB<|eB<|ev (dY Y Y)<|dn<|bR Y (λ_h=>?_) nofun
   refine jr<|mv Y<|ev (dK AA Y Y (K7.x s0))<|gW Y (xQ (m:=(oG s aN it.A m ((lS m.aA it.A (eT l)).take k))) (s:=s) (r:=r) (((((((K7.mV 7 2).sel s7).sel s3).sel s8).mV 9 4).mV 9 3).sel s12) x1 (PN hm _) (aic _ _ _ _ (dA bP))) ?_
   rintro _ w8 ⟨aEn,aEo,aEp,aEq,aEr,aEs,rfl,K8⟩;have axO:=(K8.s s1).bN;have aF9:=(K8.s s2).bN;have aGa:=(K8.s s3).bN;have aGb:=(K8.s s4).bN;have aGc:=(K8.s s5).bN;have aGd:=(K8.s s6).bN;refine jv<|ig (gB ?_)
   refine jr<|ev (dW Y Y)<|mv Y<|jv ?_
   have H4:=K8;rw [show(AU (oG s aN it.A m ((lS m.aA it.A (eT l)).take k)) x1)=(oG s aN it.A m ((lS m.aA it.A (eT l)).take (k+1))) from by rw [Wu bP]; unfold aeg; first | rw [aO (by rw [Ql]; rfl)] | rw [aO (by rw [Ql,Df]; rfl)] | rw [aK (by rw [Ql,Df]; decide)]] at H4;exact dQ ⟨(k+1),aEn,aEo,aEp,aEq,aEr,aEs,Y,Y,aj,(((((((H4.rm s9).mV 4 4).mV 10 2).sel s10).sel s11).sel s8).mV 9 3)⟩ rfl aj
  | false=>
   refine bG Y (bA Y) Y<|wP g2 3 uf K7 s0 Y<|wP g1 1 nI K7 s8 Y<|nu Y Y Y Y aou (ael (m:=(oG s aN it.A m ((lS m.aA it.A (eT l)).take k))) (s:=s) (r:=r) (((((((K7.mV 7 2).sel s7).sel s3).sel s8).mV 9 4).mV 9 3).sel s12) x1.A it.A hb hl hd) Y ?_
   rintro _ w9 ⟨rfl,K9⟩;refine bG Y (gZ Y) Y<|ev (eG Y Y)<|dn<|bR Y (λDf=>?_) (λDf=>?_)
   ·refine jr<|mv Y<|ev (dK AA Y Y (K9.x s9))<|gW Y (xQ (m:=(oG s aN it.A m ((lS m.aA it.A (eT l)).take k))) (s:=s) (r:=r) K9 x1 (PN hm _) (aic _ _ _ _ (dA bP))) ?_
    rintro _ Nn ⟨azs,azt,azu,azw,azx,azy,rfl,K10⟩;refine jv<|ig (gB ?_)
    refine jr<|ev (dW Y Y)<|mv Y<|jv ?_
    have H5:=K10;rw [show(AU (oG s aN it.A m ((lS m.aA it.A (eT l)).take k)) x1)=(oG s aN it.A m ((lS m.aA it.A (eT l)).take (k+1))) from by rw [Wu bP]; unfold aeg; first | rw [aO (by rw [Ql]; rfl)] | rw [aO (by rw [Ql,Df]; rfl)] | rw [aK (by rw [Ql,Df]; decide)]] at H5;exact dQ ⟨(k+1),azs,azt,azu,azw,azx,azy,Y,Y,aj,(((((((H5.rm s9).mV 4 4).mV 10 2).sel s10).sel s11).sel s8).mV 9 3)⟩ rfl aj
   refine zF ?_;refine jr<|ev (dW Y Y)<|mv Y<|jv ?_
   have H6:=K9;rw [show(oG s aN it.A m ((lS m.aA it.A (eT l)).take k))=(oG s aN it.A m ((lS m.aA it.A (eT l)).take (k+1))) from by rw [Wu bP]; unfold aeg; first | rw [aO (by rw [Ql]; rfl)] | rw [aO (by rw [Ql,Df]; rfl)] | rw [aK (by rw [Ql,Df]; decide)]] at H6;exact dQ ⟨(k+1),B1,d1,B2,d2,B3,d3,Y,Y,aj,(((((((H6.rm s9).mV 4 4).mV 10 2).sel s10).sel s11).sel s8).mV 9 3)⟩ rfl aj
 refine wQ ?_;have H7:=K5;rw [show(oG s aN it.A m ((lS m.aA it.A (eT l)).take k))=(oG s aN it.A m (lS m.aA it.A (eT l))) from by rw [iD aj]] at H7;refine bQ Y<|ev (dS Y)<|wC iT 0 yP Y<|jD iT 1 kE H7 s3 Y<|mv Y<|gW Y (aoj _ (H7.s s1).any (H7.o s6) hmr.2.1 hmr.2.2.1 aj) ?_
 rintro _ RG ⟨YB,YC,rfl,h11⟩;have tO:=H7.f1 h11;refine bS Y<|aZ<|bQ Y<|ev (eY jo Y)<|mv Y<|dn<|cZ ?_
 have d9:(dR:List aM)=(dR++y7 ((eT l).take 0) (nX (oG s aN it.A m (lS m.aA it.A (eT l))).aA (eT l)) it.A (aN+r.jy)):=by simp [y7]
 rw [d9] at tO;refine rR (λmJ lJ wJ=>∃(kb:Nat)(A9:ah)(c9:Nat),lJ=[(0,fP iT),(4,fP g1),(10,.slice YB ((nX ((oG s aN it.A m (lS m.aA it.A (eT l))).aA) (eT l)).length) YC),(55,.slice ni ((eT l).length) nk),(56,aD (((eT l).length:Nat):Int)),(57,aD ((kb:Nat):Int))]/\mJ=(eT l).length - kb/\kb<=(eT l).length/\Hp b S wJ (aR bF 112 A9 c9 (dR++y7 ((eT l).take kb) (nX (oG s aN it.A m (lS m.aA it.A (eT l))).aA (eT l)) it.A (aN+r.jy))::Iu iT B1 d1 B2 d2 B3 d3 A4 c4 A5 c5 A6 c6 A9 c9 (oG s aN it.A m (lS m.aA it.A (eT l))) s r aN gm (dR++y7 ((eT l).take kb) (nX (oG s aN it.A m (lS m.aA it.A (eT l))).aA (eT l)) it.A (aN+r.jy))::aR dL 3 YB YC (nX ((oG s aN it.A m (lS m.aA it.A (eT l))).aA) (eT l))::dP bX B1 d1 ((oG s aN it.A m (lS m.aA it.A (eT l))).aY)::dP bH B2 d2 ((oG s aN it.A m (lS m.aA it.A (eT l))).aA)::dP bZ B3 d3 ((oG s aN it.A m (lS m.aA it.A (eT l))).aQ)::aR yY 120 jE jB (lS m.aA it.A (eT l))::jF gm hs::aR bf 132 ni nk (eT l)::dJ g1 32 [aD it.Kind,aD it.A,aD it.B,aD it.C]::dP iL A4 c4 s.dX::dP dB A5 c5 s.bY::dP bF A6 c6 s.dM::F)) ⟨0,A7,c7,Y,Y,fK _,((((tO.mV 5 7).mV 7 4).sel s11).sel s12)⟩ Y ?_;rintro _ _ Qp ⟨kb,A9,c9,rfl,rfl,hkb,rW⟩;refine rg<|ev (fB Y Y)<|dn<|oC Y (λaEt=>?_) (λaEt=>?_)
 ·refine jh ?_;refine aZ<|cZ<|rg ?_
  obtain⟨x2,kK⟩:=bC (xs:=eT l) (i:=kb) aj;refine ev (eU (i:=kb) jo lQ Y Y Y (aJ kK) ((rW.o s8).some_ kK))<|ev (fV oF Y Y ((rW.o s8).eX kK))<|al yK Y rW λg3 WO vC=>sty Y vC s0 Y λXv vo=>dn<|bQ Y<|jD g3 0 lZ vo s0 Y<|lF vo Y (jT _ (vo.o s3) x2.aB) λYg yX=>dn<|bR Y (λaoE=>?_) (λaoE=>?_)
  ·refine Hf yX (λ_ K=>(K.cU 1 2)) (λl0 rk lJ wJ=>∃(oQ:ah)(cj2:Nat),lJ=l0/\Hp b S wJ (Iu iT B1 d1 B2 d2 B3 d3 A4 c4 A5 c5 A6 c6 oQ cj2 (oG s aN it.A m (lS m.aA it.A (eT l))) s r aN gm ((dR++y7 ((eT l).take kb) (nX (oG s aN it.A m (lS m.aA it.A (eT l))).aA (eT l)) it.A (aN+r.jy))++([(⟨1,x2.aB,x2.aC,x2.Sum,it.A,it.A,aN+r.jy⟩:aM)]:List aM))::aR bF 112 oQ cj2 ((dR++y7 ((eT l).take kb) (nX (oG s aN it.A m (lS m.aA it.A (eT l))).aA (eT l)) it.A (aN+r.jy))++([(⟨1,x2.aB,x2.aC,x2.Sum,it.A,it.A,aN+r.jy⟩:aM)]:List aM))::rk)) (λhns H8=>?_) ?_
   ·have k2:=(H8.cU 1 2);refine kT 0 Y Y k2<|sw 1 iT 14 zJ Y k2<|mD 5 6 g3 0 lZ s0 Y k2<|mD 7 8 g3 1 su s0 Y k2<|mD 9 10 g3 2 Wn s0 Y k2<|mD 11 12 g1 1 nI s8 Y k2<|mD 13 14 g1 1 nI s8 Y k2<|sw 15 iT 12 BJ Y k2<|sw 19 iT 6 TH Y k2<|Ko 22 iT 10 SQ Y k2<|Jn H8 (λl0 rk lJ wJ=>∃(g4:Nat),lJ=(69,.slice A9 (TI dR l kb s aN it m r) c9)::(91,.slice (some ⟨g4,0,none⟩) (([(⟨1,x2.aB,x2.aC,x2.Sum,it.A,it.A,aN+r.jy⟩:aM)]:List aM).length) 1)::l0/\Hp b S wJ (aR bF 112 (some ⟨g4,0,none⟩) 1 ([(⟨1,x2.aB,x2.aC,x2.Sum,it.A,it.A,aN+r.jy⟩:aM)]:List aM)::rk)) 4 134217727 ?_ λhS1=>?_
    ·rintro _ w21 ⟨g4,rfl,Gp⟩;refine O1 27 Y<|ap (ys:=([(⟨1,x2.aB,x2.aC,x2.Sum,it.A,it.A,aN+r.jy⟩:aM)]:List aM)) Gp s2 Y Y (Gp.o s0) kR Dj (by have:=hqn kb; rw [iO]; omega) av rfl λSC cp2 w22 Fa=>?_
     have k7:=((Fa.rm s3).cU 0 2);refine aP k7<|Qk 28 iT 14 zJ Y k7<|O1 30 Y<|wD Y Fa s3 Y λw23 Jk=>?_
     have k8:=(Jk.cU 0 3);refine aP k8<|Dn ⟨SC,cp2,Y,(Jk.rm s2)⟩ Y
    refine Jn H8 (λl0 rk lJ wJ=>lJ=(69,.slice A9 (TI dR l kb s aN it m r) c9)::(83,aD aN)::(88,aD r.jy)::l0/\Hp b S wJ rk) 7 16777215 ?_ λhS2=>?_
    ·rintro _ w24 ⟨rfl,pG⟩;have k9:=(pG.cU 1 2);refine lH 24 Y (λ_ _=>dW Y Y) k9<|lH 25 Y (λ_ _=>iE (vs:=[(0,aD 1),(1,aD x2.aB),(2,aD x2.aC),(3,fT x2.Sum),(4,aD it.A),(5,aD it.A),(6,aD (aN+r.jy))]) (cs:=[aD 1,aD x2.aB,aD x2.aC,fT x2.Sum,aD it.A,aD it.A,aD (aN+r.jy)]) Y (by apply mY)) k9<|O1 26 rfl<|yU (τ:=bF) (x:=(⟨1,x2.aB,x2.aC,x2.Sum,it.A,it.A,aN+r.jy⟩:aM)) rfl (by intro _; apply fF) rfl pG (λ_ _=>rfl) λg7 w25 FT=>?_
     have k10:=((FT.cU 2 2).rm s0);exact Kj hS1 k10 ⟨g7,Y,FT⟩ Y
    refine Jn H8 (λl0 rk lJ wJ=>lJ=(69,.slice A9 (TI dR l kb s aN it m r) c9)::(83,aD aN)::l0/\Hp b S wJ rk) 8 8388607 ?_ λhS3=>?_
    ·rintro _ w26 ⟨rfl,Np⟩;refine O1 23 Y<|mK Np s2 Y ?_
     have k11:=(Np.cU 1 2);exact Kj hS2 k11 ⟨Y,Np⟩ Y
    refine Jn H8 (λl0 rk lJ wJ=>lJ=(69,.slice A9 (TI dR l kb s aN it m r) c9)::(88,aD r.jy)::l0/\Hp b S wJ rk) 8 16515071 ?_ λhS4=>?_
    ·rintro _ w27 ⟨rfl,N9⟩;refine O1 18 Y<|mK N9 s2 Y ?_
     have k12:=(N9.cU 1 2);exact Kj hS2 k12 ⟨Y,N9⟩ Y
    refine Jn H8 (λl0 rk lJ wJ=>lJ=(83,aD aN)::(88,aD r.jy)::l0/\Hp b S wJ rk) 8 16777199 ?_ λhS5=>?_
    ·rintro _ w28 ⟨rfl,Ig⟩;have k13:=(Ig.cU 1 2);refine lH 24 Y (λ_ _=>dW Y Y) k13<|lH 25 Y (λ_ _=>iE (vs:=[(0,aD 1),(1,aD x2.aB),(2,aD x2.aC),(3,fT x2.Sum),(4,aD it.A),(5,aD it.A),(6,aD (aN+r.jy))]) (cs:=[aD 1,aD x2.aB,aD x2.aC,fT x2.Sum,aD it.A,aD it.A,aD (aN+r.jy)]) Y (by apply mY)) k13<|O2 4 26 rfl rfl ?_ ?_
     ·refine mK Ig s2 Y<|aP k13<|O1 26 Y<|yU (τ:=bF) (x:=(⟨1,x2.aB,x2.aC,x2.Sum,it.A,it.A,aN+r.jy⟩:aM)) Y (by intro _; apply fF) rfl Ig (λ_ _=>rfl) λg8 w29 Ld=>?_
      have k14:=((Ld.cU 2 2).rm s0);exact Kj hS1 k14 ⟨g8,Y,Ld⟩ Y
     ·refine yU (τ:=bF) (x:=(⟨1,x2.aB,x2.aC,x2.Sum,it.A,it.A,aN+r.jy⟩:aM)) Y (by intro _; apply fF) rfl Ig (λ_ _=>rfl) λg9 w30 LG=>?_;have k15:=((LG.cU 2 2).rm s0);refine aP k15<|O1 4 Y<|mK LG s3 Y<|Kj hS1 k15 ⟨g9,Y,LG⟩ Y
    refine xq (fuel:=9) (rs:=[4,18,23]) ak au ?_
    simp only [vV,kY,vW,vX,tq]
    refine⟨?_,?_,?_⟩
    ·refine⟨_,Y,?_⟩;refine mK H8 s2 Y<|aP k2<|O2 18 23 Y Y ?_ ?_
     ·refine mK H8 s2 Y<|Kj hS3 k2 ⟨Y,H8⟩ Y
     ·refine mK H8 s2 Y<|Kj hS4 k2 ⟨Y,H8⟩ Y
    ·refine⟨_,Y,?_⟩;refine mK H8 s2 Y<|aP k2<|O2 4 23 Y Y ?_ ?_
     ·refine mK H8 s2 Y<|Kj hS3 k2 ⟨Y,H8⟩ Y
     ·refine mK H8 s2 Y<|Kj hS5 k2 ⟨Y,H8⟩ Y
    ·refine⟨_,Y,?_⟩;refine mK H8 s2 Y<|aP k2<|O2 4 18 Y Y ?_ ?_
     ·refine mK H8 s2 Y<|Kj hS4 k2 ⟨Y,H8⟩ Y
     ·refine mK H8 s2 Y<|Kj hS5 k2 ⟨Y,H8⟩ Y
   rintro _ w31 ⟨oQ,cj2,rfl,SG⟩;refine ig (gB ?_);refine jr<|ev (dW Y Y)<|mv Y<|jv ?_
   have fG:(((dR++y7 ((eT l).take kb) (nX (oG s aN it.A m (lS m.aA it.A (eT l))).aA (eT l)) it.A (aN+r.jy))++([(⟨1,x2.aB,x2.aC,x2.Sum,it.A,it.A,aN+r.jy⟩:aM)]:List aM)):List aM)=(dR++y7 ((eT l).take (kb+1)) (nX (oG s aN it.A m (lS m.aA it.A (eT l))).aA (eT l)) it.A (aN+r.jy)):=by first | (rw [aer kK aoE,nU]; done) | (rw [aie kK (by simpa using aoE)]; done)
   rw [fG] at SG;exact dQ ⟨(kb+1),oQ,cj2,Y,Y,aj,(((SG.rm s2).sel s0).sel s1)⟩ rfl aj
  refine zF ?_;refine jr<|ev (dW Y Y)<|mv Y<|jv ?_
  have jQ:((dR++y7 ((eT l).take kb) (nX (oG s aN it.A m (lS m.aA it.A (eT l))).aA (eT l)) it.A (aN+r.jy)):List aM)=(dR++y7 ((eT l).take (kb+1)) (nX (oG s aN it.A m (lS m.aA it.A (eT l))).aA (eT l)) it.A (aN+r.jy)):=by first | (rw [aer kK aoE,nU]; done) | (rw [aie kK (by simpa using aoE)]; done)
  rw [jQ] at yX;exact dQ ⟨(kb+1),A9,c9,Y,Y,aj,(yX.rm s0)⟩ rfl aj
 refine wQ ?_;refine iY Y<|iI Y ?_
 have lV:((dR++y7 ((eT l).take kb) (nX (oG s aN it.A m (lS m.aA it.A (eT l))).aA (eT l)) it.A (aN+r.jy)):List aM)=(dR++y7 (eT l) (nX (oG s aN it.A m (lS m.aA it.A (eT l))).aA (eT l)) it.A (aN+r.jy)):=by rw [iD aj]
 exact⟨B1,d1,B2,d2,B3,d3,A9,c9,Y,by rw [<- lV]; exact((((((rW.cU 8 2).rm s6).rm s2).sel s5).sel s1).mV 2 7)⟩
end Go.Proofs.YtlhnnmlenkahlaaGreat
