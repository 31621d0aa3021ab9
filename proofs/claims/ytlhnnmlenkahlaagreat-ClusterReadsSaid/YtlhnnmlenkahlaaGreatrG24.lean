/- Lemmas. -/
import Derived.Test.YtlhnnmlenkahlaaGreatrG23
set_option maxRecDepth 4000
set_option linter.all false
namespace Go.Proofs.YtlhnnmlenkahlaaGreat
open Go.RowKit Go.Proofs.Tryz
variable {b w:World}{S:Nat->Prop}{F:List lH}{U2 gs Ao c je c1 c2 c3 c4 c5 c6 c7 gm:Nat}{A A1 A2 A3 A4 A5 A6 A7:ah}{up:Bool}{bM aN n:Int}{l:List aI}{es:List (bZ × Option Addr × Nat × List (BitVec 8))}{cv:Value}{m:dF}{s:iF}{r:ARules}{eD:List aM}{hs:kK}
theorem aAy:bF prog 180:=ay
theorem adK:eu prog 32 3 3:=ay
theorem agW(l:List aI)(bM c v sum:Int)(fG:List (BitVec 8)):(Af l bM c v sum fG).length<=l.length+1:=by
  unfold Af
  split
  · omega
  · split
    · omega
    · split
      · rename_i h
        unfold kN at h ⊢
        split
        · simp
        · split
          · simp
          · split
            · simp
            · split
              · simp
              · exact lV (agv _ _) (by have:=wN l; omega)
      · omega
theorem abn{YE:ah}{YF:Nat}{fG:List (BitVec 8)}(H0:Hp b S w (dY U2 95 [gD gs,.bool up]::dY gs 169 [aF bM,.slice A l.length c,.map (some Ao)]::dP bq A c l::qH wG vK Ao es::fZ gV 5 (es.map Prod.snd)::dP gV YE YF fG::F))(aL:Int)(bR:Int)(sum:Int)(hl:l.length<=1000) :
    bS prog 105 #[gD U2,aF aL,aF bR,gK sum,.slice YE fG.length YF] w λv w'=>∃(A1:ah)(c1:Nat)(B1:ah)(d1:Nat),v=.bool (Sn l bM aL bR sum fG)/\Hp b S w' (dY U2 95 [gD gs,.bool up]::dY gs 169 [aF bM,.slice A1 ((Ig l bM aL bR sum fG).length) c1,.map (some Ao)]::dP bq A1 c1 (Ig l bM aL bR sum fG)::qH wG vK Ao (tkM l bM aL bR sum fG B1 d1 es)::fZ gV 5 ((tkM l bM aL bR sum fG B1 d1 es).map Prod.snd)::F):=by
 refine sV func105 ntmps105 Y<|iZ Y<|bQ Y<|ev (eX Y)<|jT U2 0 yM H0 s0 Y<|mv Y<|mv Y<|mv Y<|mv Y ?_
 have H1:=H0.push (H0.s s5);refine gX Y (anw ((H1.mV 0 2).mV 2 4) aL bR sum (lV hl au)) ?_;rintro _ w1 ⟨aH8,aH9,anT,anU,rfl,K1⟩;have aDv:=(K1.s s1).bH;refine ev (iA Y Y)<|mv Y ?_
 cases Vb:decide (rF l bM aL bR sum fG=0) with
 | true=>
  have hd:=gW Vb;have hbl:=agW l bM aL bR sum fG;refine bn Y (bf Y) Y<|bn Y (eX Y) Y<|wL U2 0 yM K1 s4 Y<|bn Y (bf Y) Y<|bn Y (bf Y) Y<|oh Y Y Y Y aAy (ajq K1 aL bR aj) Y ?_
  rintro _ w2 ⟨aar,aas,rfl,K2⟩;refine bn Y (iA Y Y) Y<|ev (dH Y Y)<|bU Y<|jc Y ?_
  have eO:(decide ((mF (Af l bM aL bR sum fG) aL bR).2=0):Bool)=(Sn l bM aL bR sum fG):=by unfold Sn; rw [Vb,Bool.true_and]
  have fQ:((Uf (Af l bM aL bR sum fG) aL bR):List aI)=(Ig l bM aL bR sum fG):=by unfold Ig; rw [aO hd]
  have jW:((Vk (Af l bM aL bR sum fG) aL bR (Ib l bM aL bR sum fG anT anU es)):List (bZ × Option Addr × Nat × List (BitVec 8)))=(tkM l bM aL bR sum fG anT anU es):=by unfold tkM; rw [aO hd]
  exact⟨aar,aas,anT,anU,by rw [<- eO] <;> rfl,by rw [<- fQ,<- jW]; exact(((K2.rm s5).mV 0 4).sel s4)⟩
 | false=>
  have hd:=iJ Vb;refine dN<|dN<|dN<|dN<|dN<|dN<|dN<|dN<|ev (dL Y Y)<|bU Y<|jc Y ?_
  have mH:(false:Bool)=(Sn l bM aL bR sum fG):=by unfold Sn; rw [Vb,Bool.false_and]
  have rR:((Af l bM aL bR sum fG):List aI)=(Ig l bM aL bR sum fG):=by unfold Ig; rw [aK hd]
  have wM:((Ib l bM aL bR sum fG anT anU es):List (bZ × Option Addr × Nat × List (BitVec 8)))=(tkM l bM aL bR sum fG anT anU es):=by unfold tkM; rw [aK hd]
  exact⟨aH8,aH9,anT,anU,by rw [<- mH] <;> rfl,by rw [<- rR,<- wM]; exact(((K1.rm s5).mV 0 4).sel s4)⟩
theorem ar8(H0:Hp b S w (dY U2 95 [gD gs,.bool up]::dY gs 169 [aF bM,.slice A l.length c,.map (some Ao)]::dP bq A c l::qH wG vK Ao es::fZ gV 5 (es.map Prod.snd)::F))(it:AItem) :
    bS prog 48 #[cv,.agg #[aF it.Kind,aF it.A,aF it.B,aF it.C],gD U2] w λv w'=>v=aF 0/\Hp b S w' (dY U2 95 [gD gs,.bool false]::dY gs 169 [aF bM,.slice A l.length c,.map (some Ao)]::dP bq A c l::qH wG vK Ao es::fZ gV 5 (es.map Prod.snd)::F):=by
 refine sV func48 ntmps48 Y<|rg<|bx Y Y H0 λg1 w1 K1=>bU Y<|bQ Y<|ev (eX Y)<|yA U2 1 JD Y<|xP Y K1 s1 Y λw2 K2=>dn<|iZ Y<|jc Y ?_
 exact⟨Y,(K2.rm s1)⟩
theorem ar9(H0:Hp b S w (dY U2 95 [gD gs,.bool up]::dY gs 169 [aF bM,.slice A l.length c,.map (some Ao)]::dP bq A c l::qH wG vK Ao es::fZ gV 5 (es.map Prod.snd)::F))(it:AItem)(hl:l.length<=1000) :
    bS prog 49 #[cv,.agg #[aF it.Kind,aF it.A,aF it.B,aF it.C],gD U2] w λv w'=>∃(A1:ah)(c1:Nat),v=aF 0/\Hp b S w' (dY U2 95 [gD gs,.bool true]::dY gs 169 [aF bM,.slice A1 (((qP l es l.length).1).length) c1,.map (some Ao)]::dP bq A1 c1 ((qP l es l.length).1)::qH wG vK Ao ((qP l es l.length).2)::fZ gV 5 (((qP l es l.length).2).map Prod.snd)::F):=by
 refine sV func49 ntmps49 Y<|rg<|bx Y Y H0 λg1 w1 K1=>bU Y<|bQ Y<|ev (eX Y)<|jT U2 0 yM K1 s1 Y<|gX Y (agH ((K1.mV 0 2).mV 2 4) (lV hl au)) ?_
 rintro _ w2 ⟨aar,aas,rfl,K2⟩;refine dn<|bQ Y<|ev (eX Y)<|yA U2 1 JD Y<|xP Y K2 s5 Y λw3 K3=>dn<|iZ Y<|jc Y ?_
 exact⟨aar,aas,Y,(K3.rm s5)⟩
theorem anV(H0:Hp b S w (dY U2 95 [gD gs,.bool up]::dY gs 169 [aF bM,.slice A l.length c,.map (some Ao)]::dP bq A c l::qH wG vK Ao es::fZ gV 5 (es.map Prod.snd)::F))(it:AItem)(hl:l.length<=1000) :
    bS prog 50 #[cv,.agg #[aF it.Kind,aF it.A,aF it.B,aF it.C],gD U2] w λv w'=>∃(A1:ah)(c1:Nat),v=aF 0/\Hp b S w' (dY U2 95 [gD gs,.bool up]::dY gs 169 [aF bM,.slice A1 (((uz l es (EG l es).length).1).length) c1,.map (some Ao)]::dP bq A1 c1 ((uz l es (EG l es).length).1)::qH wG vK Ao ((uz l es (EG l es).length).2)::fZ gV 5 (((uz l es (EG l es).length).2).map Prod.snd)::F):=by
 refine sV func50 ntmps50 Y<|rg<|bx Y Y H0 λg1 w1 K1=>bU Y<|bQ Y<|ev (eX Y)<|jT U2 0 yM K1 s1 Y<|gX Y (anD ((K1.mV 0 2).mV 2 4) (lV hl au)) ?_
 rintro _ w2 ⟨oo,oq,aar,aas,rfl,K2⟩;refine dn<|iZ Y<|jc Y ?_
 exact⟨aar,aas,Y,((((K2.rm s5).rm s0).mV 0 4).sel s4)⟩
theorem anW(H0:Hp b S w (dY U2 95 [gD gs,.bool up]::dY gs 169 [aF bM,.slice A l.length c,.map (some Ao)]::dP bq A c l::qH wG vK Ao es::fZ gV 5 (es.map Prod.snd)::F))(it:AItem)(hb:(gL ⟨it.B,false⟩ es).2.2.length<=1000)(hi:qm it.C) :
    bS prog 51 #[cv,.agg #[aF it.Kind,aF it.A,aF it.B,aF it.C],gD U2] w λv w'=>v=aF (if(gL ⟨it.B,false⟩ es).2.2.length=0 then 5 else 0)/\Hp b S w' (dY U2 95 [gD gs,.bool up]::dY gs 169 [aF bM,.slice A l.length c,.map (some Ao)]::dP bq A c l::qH wG vK Ao (RG it.B it.C es)::fZ gV 5 ((RG it.B it.C es).map Prod.snd)::F):=by
 refine sV func51 ntmps51 Y<|rg<|bx Y Y H0 λg1 w1 K1=>bU Y<|He K1 (λ_ K=>((K.cU 4 2).rm s2)) (λl0 rk lJ wJ=>lJ=(6,aF (if(gL ⟨it.B,false⟩ es).2.2.length=0 then 5 else 0))::l0/\Hp b S wJ (qH wG vK Ao (RG it.B it.C es)::fZ gV 5 ((RG it.B it.C es).map Prod.snd)::dY gs 169 [aF bM,.slice A l.length c,.map (some Ao)]::rk)) (λhns H1=>?_) ?_
 ·have k1:=((H1.cU 4 2).rm s2);refine uw 0 U2 0 yM Y k1<|Ci 3 s1 Y k1<|ng 4 5 g1 2 RU s0 Y k1<|ng 6 7 g1 3 adK s0 Y k1<|O1 8 Y<|gX Y (anz ((H1.mV 0 2).mV 2 4) it.B it.C hb hi) ?_
  rintro _ w2 ⟨rfl,K2⟩;have k2:=((((K2.cU 2 2).rm s0).sel s0).mV 1 2);refine aQ k2<|xI 9 Y Y k2<|Dn ⟨Y,((((K2.sel s1).mV 4 2).sel s3).mV 4 2)⟩ Y
 rintro _ w3 ⟨rfl,K3⟩;refine jc Y ?_;exact⟨Y,(((((K3.rm s3).mV 0 2).sel s4).sel s3).sel s4)⟩
theorem asa(H0:Hp b S w (dY U2 95 [gD gs,.bool up]::dY gs 169 [aF bM,.slice A l.length c,.map (some Ao)]::dP bq A c l::qH wG vK Ao es::fZ gV 5 (es.map Prod.snd)::F))(it:AItem) :
    bS prog 52 #[cv,.agg #[aF it.Kind,aF it.A,aF it.B,aF it.C],gD U2] w λv w'=>v=aF 0/\Hp b S w' (dY U2 95 [gD gs,.bool up]::dY gs 169 [aF bM,.slice none (([]:List aI).length) 0,.map (some Ao)]::dP bq none 0 ([]:List aI)::qH wG vK Ao ([]:oF)::fZ gV 5 (([]:oF).map Prod.snd)::F):=by
 refine sV func52 ntmps52 Y<|rg<|bx Y Y H0 λg1 w1 K1=>bU Y<|bQ Y<|ev (eX Y)<|jT U2 0 yM K1 s1 Y<|gX Y (arL ((K1.mV 0 2).mV 2 4) ) ?_
 rintro _ w2 ⟨rfl,K2⟩;refine dn<|iZ Y<|jc Y ?_
 have H1:=K2.push (DV bq _ _);exact⟨Y,((((((H1.rm s5).rm s2).mV 2 2).sel s2).sel s3).sel s4)⟩
theorem agX(a0:ah)(a1:Bool):prog.built 95 [(0,.pointer a0),(1,.bool a1)]=some #[.pointer a0,.bool a1]:=ak
theorem VU:eu prog 84 2 6:=ay
theorem YR:∀ w,(zeroValue 120).run prog w=.ok (.agg #[aF 0,aF 0,aF 0,aF 0,aF 0,aF 0]) w:=ay
theorem asb:bF prog 109:=ay
abbrev JL(iD:AItem):=(⟨0,0,1,iD.A,iD.B,iD.C⟩:fV)
abbrev adL(iD:Nat)(ji:ah)(uS:Nat)(wV:ah)(ES:Nat)(Q0:ah)(UO:Nat)(y7z:ah)(y8z:Nat)(y9z:ah)(RV:Nat)(RX:ah)(RY:Nat)(RZ:ah)(R3:Nat)(Dz:dF)(DC:iF)(adG:ARules)(adH:Int)(R4:Nat)(R5:List aM)(adI:kK)(adJ:List lH):=Iq iD ji uS wV ES Q0 UO y7z y8z y9z RV RX RY RZ R3 Dz DC adG adH R4 R5::dP cZ ji uS Dz.aT::dP bJ wV ES Dz.aA::dP bX Q0 UO Dz.aP::dP iO y7z y8z DC.eF::dP dJ y9z RV DC.bY::dP bG RX RY DC.bL::aS bG 112 RZ R3 R5::jP R4 adI::adJ
theorem av8(H0:Hp b S w (adL je A1 c1 A2 c2 A3 c3 A4 c4 A5 c5 A6 c6 A7 c7 m s r aN gm eD hs F))(it:AItem)(hm:mD m=true) :
    bS prog 40 #[gD je,.agg #[aF it.Kind,aF it.A,aF it.B,aF it.C]] w λv w'=>∃(B1:ah)(d1:Nat)(B2:ah)(d2:Nat)(B3:ah)(d3:Nat)(hs1:kK),v=aF (knE m (JL it))/\(kH hs1=if knE m (JL it)=0 then iy it.A ⟨true,Ia it.C,[],[]⟩ (kH hs) else kH hs)/\Hp b S w' (Iq je B1 d1 B2 d2 B3 d3 A4 c4 A5 c5 A6 c6 A7 c7 (uD m (JL it)) s r aN gm eD::dP cZ B1 d1 ((uD m (JL it)).aT)::dP bJ B2 d2 ((uD m (JL it)).aA)::dP bX B3 d3 ((uD m (JL it)).aP)::dP iO A4 c4 s.eF::dP dJ A5 c5 s.bY::dP bG A6 c6 s.bL::aS bG 112 A7 c7 eD::jP gm hs1::F):=by
 refine sV func40 ntmps40 Y<|rg<|bx Y Y H0 λg1 w1 K1=>bU Y<|bQ Y<|jT g1 1 nV K1 s0 Y<|jT g1 2 RU K1 s0 Y<|jT g1 3 adK K1 s0 Y<|ev (iY (vs:=[(2,aF 1),(3,aF it.A),(4,aF it.B),(5,aF it.C)]) (cs:=[aF 0,aF 0,aF 1,aF it.A,aF it.B,aF it.C]) Y (by apply qQ))<|gX rfl (zx (m:=m) (s:=s) (r:=r) ((K1.sel s0).mV 1 9) (JL it) aj rfl) ?_
 rintro _ w2 ⟨anN,anO,anP,anQ,anR,anS,rfl,K2⟩;refine bU Y<|aW<|bQ Y<|ev (iA Y Y)<|dn<|mQ Y (λhc16=>?_) (λhc16=>?_)
 ·refine Hf K2 (λ_ K=>(K.rm s8)) (λl0 rk lJ wJ=>∃(jO cj2 vM:Nat),lJ=l0/\Hp b S wJ (jP gm (iy it.A (⟨jO,cj2,vM,none,0,true,(Ia it.C),[],([]:oF)⟩:lZ) hs)::rk)) (λhns H1=>?_) ?_
  ·have k1:=(H1.rm s8);refine uw 0 je 13 uW Y k1<|Ci 3 s0 Y k1<|ng 4 5 g1 1 nV s8 Y k1<|ng 6 7 g1 3 adK s8 Y k1<|O1 8 Y<|gX Y (avT H1 it.C) ?_
   rintro _ w3 ⟨av9,aDw,rfl,K3⟩;have k2:=((K3.rm s11).cU 0 3);refine aQ k2<|lD 9 Y (λ_ _=>iY (vs:=[(0,gD av9),(1,.bool true)]) (cs:=[gD av9,.bool true]) Y (by apply agX)) k2<|O1 10 rfl<|bx rfl rfl K3 λg2 w4 K4=>?_
   have k3:=((K4.rm s12).cU 0 4);refine aQ k3<|O1 11 Y<|aH6 (z:=it.A) (v:=g2) K4 s12 EJ yZ Y Y Y λw5 K5=>?_
   have H2:=K5.push (DV bq _ _);have H3:=Hp.av3 (h:=⟨g2,av9,aDw,none,0,true,(Ia it.C),[],([]:oF)⟩) ((((H2.sel s1).mV 4 2).sel s3).mV 4 2);have k4:=(H3.rm s0);refine aQ k4<|Dn ⟨g2,av9,aDw,Y,H3⟩ Y
  rintro _ w6 ⟨jO,cj2,vM,rfl,K6⟩;refine gG<|bQ Y<|bU Y<|jc Y ?_
  exact⟨anN,anO,anP,anQ,anR,anS,(iy it.A (⟨jO,cj2,vM,none,0,true,(Ia it.C),[],([]:oF)⟩:lZ) hs),Y,(by rw [aO hc16,Aj]; rfl),(((K6.rm s9).sel s0).mV 1 8)⟩
 refine jm ?_;refine bQ Y<|bU Y<|jc Y ?_
 exact⟨anN,anO,anP,anQ,anR,anS,hs,Y,(by rw [aK hc16]),(K2.rm s9)⟩
abbrev JM(iD:iF)(ji:AItem)(uS:Int):=(⟨Bh iD.eF ji.A uS,iD.bY,iD.bL⟩:iF)
theorem asc{hv:Value}(H0:Hp b S w (adL je A1 c1 A2 c2 A3 c3 A4 c4 A5 c5 A6 c6 A7 c7 m s r aN gm eD hs F))(it:AItem)(hb:s.eF.length<=1000) :
    bS prog 46 #[gD je,.agg #[aF it.Kind,aF it.A,aF it.B,aF it.C],hv] w λv w'=>∃(B4:ah)(d4:Nat),v=aF 0/\Hp b S w' (Iq je A1 c1 A2 c2 A3 c3 B4 d4 A5 c5 A6 c6 A7 c7 m (JM s it aN) r aN gm eD::dP cZ A1 c1 m.aT::dP bJ A2 c2 m.aA::dP bX A3 c3 m.aP::dP iO B4 d4 ((JM s it aN).eF)::dP dJ A5 c5 ((JM s it aN).bY)::dP bG A6 c6 ((JM s it aN).bL)::aS bG 112 A7 c7 eD::jP gm hs::F):=by
 refine sV func46 ntmps46 Y<|rg<|bx Y Y H0 λg1 w1 K1=>bU Y<|He K1 (λ_ K=>(K.rm s1)) (λl0 rk lJ wJ=>∃(jR:ah)(jO:Nat),lJ=l0/\Hp b S wJ (dY je 84 [.slice A1 m.aT.length c1,.slice A2 m.aA.length c2,.slice A3 m.aP.length c3,.slice jR ((Bh s.eF it.A aN).length) jO,.slice A5 s.bY.length c5,.slice A6 s.bL.length c6,aF r.jV,aF r.lQ,aF r.All,aF r.nE,aF r.jr,aF r.eP,aF aN,.map (some gm),.slice A7 eD.length c7]::aS iO 107 jR jO (Bh s.eF it.A aN)::rk)) (λhns H1=>?_) ?_
 ·have k1:=(H1.rm s1);refine kX 0 Y Y k1<|uw 1 je 3 Am Y k1<|Np 4 je 3 FM Y k1<|ng 6 7 g1 1 nV s0 Y k1<|uw 8 je 12 BI Y k1<|Jn H1 (λl0 rk lJ wJ=>lJ=(12,.slice A4 s.eF.length c4)::(18,aF aN)::l0/\Hp b S wJ rk) 5 4095 ?_ λhS1=>?_
  ·rintro _ w4 ⟨rfl,K4⟩;refine O1 12 Y<|gX Y (arV _ (K4.s s5).any it.A aN (lV hb au)) ?_
   rintro _ w5 ⟨yS,yT,rfl,h5⟩;have K5:=K4.f1 h5;have k4:=((K5.rm s2).rm s0);refine aQ k4<|SX 13 je 3 Am Y k4<|Np 15 je 3 FM Y k4<|O1 16 Y<|xP Y K5 s2 Y λw6 K6=>?_
   have k5:=(K6.cU 0 2);refine aQ k5<|Dn ⟨yS,yT,Y,K6⟩ Y
  refine O2 5 11 Y Y ?_ ?_
  ·refine nO H1 s1 Y<|aQ k1<|O1 11 Y<|nO H1 s1 Y<|Kj hS1 k1 ⟨Y,H1⟩ Y
  ·refine nO H1 s1 Y<|aQ k1<|O1 5 Y<|nO H1 s1 Y<|Kj hS1 k1 ⟨Y,H1⟩ Y
 rintro _ w7 ⟨jR,jO,rfl,K7⟩;refine iZ Y<|jc Y ?_
 have H2:=K7.fz s1;have eO:(Bh s.eF it.A aN:List fK)=((JM s it aN).eF):=by rfl
 have fQ:(s.bY:List bD)=((JM s it aN).bY):=by rfl
 have jW:(s.bL:List aM)=((JM s it aN).bL):=by rfl
 exact⟨jR,jO,Y,by rw [<- eO,<- fQ,<- jW]; exact((((H2.rm s6).rm s2).sel s0).mV 1 4)⟩
theorem awc(m:dF)(s:iF)(r:ARules)(aN:Int):∀ x∈nY m s r aN,x.Client=0:=by
  intro x hx;unfold nY at hx
  split at hx
  · obtain⟨o,_,rfl⟩:=gQ.1 hx; rfl
  · simp at hx
theorem ase(ls:List bD)(os:List aM)(ks dG:List aH)(ns:List aV)(aG:List Int)(kr dV all u:Int):(Vg ls os ks dG ns aG kr dV all u).length<=os.length+1:=by
  unfold Vg
  split
  · unfold Df; split <;> simp
  · omega
theorem agY(m:dF)(s:iF)(r:ARules)(aN:Int):(nY m s r aN).length<=m.aA.length:=by
  unfold nY
  split
  · rw [jY]
    have hsl:(Ji m s aN).length=m.aA.length:=Hq _ _;rw [<- hsl]; exact LW _ _ _ _ _ _ _
  · simp
theorem agZ(hl:s.bY.length<=64):(xF m s r aN).length<=200+m.aA.length:=by
  unfold xF rdO
  split
  · rename_i h
    have hmay:lY r=true:=by unfold rdB at h; revert h; cases lY r <;> simp
    have hbd:=Bw hmay;have hpl:=vE s aN;have hsl:(Ji m s aN).length=m.aA.length:=Hq _ _;have hrl:=Yd (x:=rdX m s r aN) hbd.2.2.2.1.2 (rdN m s r aN) ((dS s aN).bY,[]) (lV hpl.1 hl)
    have hrl2:(CJ m s r aN).2.length<=64:=by
      have h2:=hrl.2; have h3:(CJ m s r aN).1.length<=64:=hrl.1; simp only [rH] at h2;show(sQ (rdX m s r aN) (rdN m s r aN) ((dS s aN).bY,[])).2.length<=64;have h4:(sQ (rdX m s r aN) (rdN m s r aN) ((dS s aN).bY,[])).1.length<=64:=hrl.1;omega
    have htl:(AZ m s r aN).length<=(Ji m s aN).length:=LW _ _ _ _ _ _ _;have hba:=ase (CJ m s r aN).1 ((CJ m s r aN).2++AZ m s r aN) m.aA (Ji m s aN) m.aT (Ey s r aN) r.eP r.lQ r.All (aN+r.jr)
    split <;> simp only [jd] at hba ⊢ <;> omega
  · simp
abbrev FW(iD:dF)(ji:iF)(uS:ARules)(wV:Int):=((mZ iD ji uS wV).eF).length
abbrev FX(iD:dF)(ji:iF)(uS:ARules)(wV:Int):=((mZ iD ji uS wV).bY).length
abbrev FY(iD:dF)(ji:iF)(uS:ARules)(wV:Int):=((mZ iD ji uS wV).bL).length
theorem anX(H0:Hp b S w (adL je A1 c1 A2 c2 A3 c3 A4 c4 A5 c5 A6 c6 A7 c7 m s r aN gm eD hs F))(it:AItem)(hm:mD m=true)(hb:s.eF.length<=1000)(hl:s.bY.length<=64)(hd:s.bL.length<=50000)(hu:0<=aN/\aN<=549755813888)(hw:eD.length<=500000) :
    bS prog 42 #[gD je,.agg #[aF it.Kind,aF it.A,aF it.B,aF it.C]] w λv w'=>∃(B1:ah)(d1:Nat)(B2:ah)(d2:Nat)(B3:ah)(d3:Nat)(B4:ah)(d4:Nat)(B5:ah)(d5:Nat)(B6:ah)(d6:Nat)(B7:ah)(d7:Nat),v=aF 0/\Hp b S w' (Iq je B1 d1 B2 d2 B3 d3 B4 d4 B5 d5 B6 d6 B7 d7 (AP m (nY m s r aN)) (mZ m s r aN) r aN gm (eD++xF m s r aN)::dP cZ B1 d1 ((AP m (nY m s r aN)).aT)::dP bJ B2 d2 ((AP m (nY m s r aN)).aA)::dP bX B3 d3 ((AP m (nY m s r aN)).aP)::dP iO B4 d4 ((mZ m s r aN).eF)::dP dJ B5 d5 ((mZ m s r aN).bY)::dP bG B6 d6 ((mZ m s r aN).bL)::aS bG 112 B7 d7 (eD++xF m s r aN)::jP gm hs::F):=by
 refine sV func42 ntmps42 Y ?_;have hz:=FR hm;have hzc:=(zQ (iU.1 hm).2.1).1;have hro:=agZ (m:=m) (r:=r) (aN:=aN) hl;have aIa:=agY m s r aN;refine rg<|bx Y Y H0 λg1 w1 K1=>bU Y<|He K1 (λ_ K=>K) (λl0 rk lJ wJ=>∃(tN:Nat)(jR:ah)(jO:Nat)(ql:ah)(cj2:Nat)(wF:ah)(vM:Nat)(CF:ah)(CG:Nat)(Aj5:ah)(cj5:Nat),lJ=(5,gD tN)::(6,.slice CF ((xF m s r aN).length) CG)::(7,.slice Aj5 ((nY m s r aN).length) cj5)::l0/\Hp b S wJ (dY tN 51 [.slice jR (FW m s r aN) jO,.slice ql (FX m s r aN) cj2,.slice wF (FY m s r aN) vM]::aS iO 107 jR jO ((mZ m s r aN).eF)::aS dJ 117 ql cj2 ((mZ m s r aN).bY)::aS bG 112 wF vM ((mZ m s r aN).bL)::aS bG 112 CF CG (xF m s r aN)::aS AY 120 Aj5 cj5 (nY m s r aN)::rk)) (λhns H1=>?_) ?_
 ·refine uw 0 je 0 Ak Y H1<|lD 3 Y (λ_ hK=>D6 (cs':=[.slice A1 m.aT.length c1,.slice A2 m.aA.length c2,.slice A3 m.aP.length c3]) sG Y Y (hK.x s1) Y) H1<|uw 4 je 3 Am Y H1<|lD 7 Y (λ_ hK=>D6 (cs':=[.slice A4 s.eF.length c4,.slice A5 s.bY.length c5,.slice A6 s.bL.length c6]) Ko Y Y (hK.x s1) Y) H1<|uw 8 je 6 VU Y H1<|lD 11 Y (λ_ hK=>D6 (cs':=[aF r.jV,aF r.lQ,aF r.All,aF r.nE,aF r.jr,aF r.eP]) Hr Y Y (hK.x s1) Y) H1<|uw 12 je 12 BI Y H1<|Ci 15 s1 Y H1<|Jn H1 (λl0 rk lJ wJ=>∃(g2:Nat)(JE:ah)(JF:Nat)(JG:ah)(JH:Nat)(JI:ah)(JJ:Nat)(aar:ah)(aas:Nat)(awd:ah)(awe:Nat),lJ=(5,gD g2)::(29,.slice aar ((xF m s r aN).length) aas)::(30,.slice awd ((nY m s r aN).length) awe)::l0/\Hp b S wJ (dY g2 51 [.slice JE (FW m s r aN) JF,.slice JG (FX m s r aN) JH,.slice JI (FY m s r aN) JJ]::aS iO 107 JE JF ((mZ m s r aN).eF)::aS dJ 117 JG JH ((mZ m s r aN).bY)::aS bG 112 JI JJ ((mZ m s r aN).bL)::aS bG 112 aar aas (xF m s r aN)::aS AY 120 awd awe (nY m s r aN)::rk)) 2 8388607 ?_ λhS1=>?_
  ·rintro _ w8 ⟨g2,JE,JF,JG,JH,JI,JJ,aar,aas,awd,awe,rfl,K8⟩;have k6:=(K8.cU 0 6);refine xI 23 Y Y k6<|xI 24 Y Y k6<|Dn ⟨g2,JE,JF,JG,JH,JI,JJ,aar,aas,awd,awe,Y,K8⟩ Y
  refine O2 16 21 Y Y ?_ ?_
  ·refine gX Y (af3 _ m (H1.s s2).any (H1.s s3).any (H1.s s4).any s (H1.s s5).any (H1.s s6).any (H1.s s7).any r aN aj aj aj (lV (Hz (iU.1 hm).1) au) (lV hzc au) aj) ?_;rintro _ w9 ⟨MS,MV,MW,MX,MZ,M0,awf,awg,awh,awi,rfl,h9⟩;have K9:=H1.f5 h9;have aKh:=(K9.o s0).bH;have aKi:=(K9.o s1).bH;have aKj:=(K9.o s2).bH;have aKk:=(K9.o s3).bH;have aKl:=(K9.o s4).bH;have k7:=(K9.cU 0 5);refine aQ k7<|kX 17 Y Y k7<|zL 18 Y (vs:=[.agg #[.slice MS (FW m s r aN) MV,.slice MW (FX m s r aN) MX,.slice MZ (FY m s r aN) M0],.slice awf ((xF m s r aN).length) awg,.slice awh ((nY m s r aN).length) awi]) Y Y k7<|zL 19 Y (vs:=[.agg #[.slice MS (FW m s r aN) MV,.slice MW (FX m s r aN) MX,.slice MZ (FY m s r aN) M0],.slice awf ((xF m s r aN).length) awg,.slice awh ((nY m s r aN).length) awi]) Y Y k7<|zL 20 Y (vs:=[.agg #[.slice MS (FW m s r aN) MV,.slice MW (FX m s r aN) MX,.slice MZ (FY m s r aN) M0],.slice awf ((xF m s r aN).length) awg,.slice awh ((nY m s r aN).length) awi]) Y Y k7<|O1 21 Y<|al FL Y K9 λg4 Oz K10=>?_
   have k8:=(K10.cU 0 6);refine aQ k8<|O1 22 Y<|sty Y K10 s0 Y λTi tZ=>?_
   have k9:=(tZ.cU 0 6);exact Kj hS1 k9 ⟨g4,MS,MV,MW,MX,MZ,M0,awf,awg,awh,awi,Y,tZ⟩ Y
  ·refine al FL Y H1 λg5 Sm sJ=>?_;have k10:=(sJ.rm s0);refine aQ k10<|O1 16 Y<|gX Y (af3 _ m (sJ.s s3).any (sJ.s s4).any (sJ.s s5).any s (sJ.s s6).any (sJ.s s7).any (sJ.s s8).any r aN aj aj aj (lV (Hz (iU.1 hm).1) au) (lV hzc au) aj) ?_
   rintro _ Xu ⟨p8,p9,yG,yH,yI,yJ,ak4,ak5,ak6,ak7,rfl,h13⟩;have wz:=sJ.f5 h13;have aIb:=(wz.o s0).bH;have aIc:=(wz.o s1).bH;have aId:=(wz.o s2).bH;have aIe:=(wz.o s3).bH;have aIf:=(wz.o s4).bH;have k11:=(wz.cU 0 6);refine aQ k11<|kX 17 Y Y k11<|zL 18 Y (vs:=[.agg #[.slice p8 (FW m s r aN) p9,.slice yG (FX m s r aN) yH,.slice yI (FY m s r aN) yJ],.slice ak4 ((xF m s r aN).length) ak5,.slice ak6 ((nY m s r aN).length) ak7]) Y Y k11<|zL 19 Y (vs:=[.agg #[.slice p8 (FW m s r aN) p9,.slice yG (FX m s r aN) yH,.slice yI (FY m s r aN) yJ],.slice ak4 ((xF m s r aN).length) ak5,.slice ak6 ((nY m s r aN).length) ak7]) Y Y k11<|zL 20 Y (vs:=[.agg #[.slice p8 (FW m s r aN) p9,.slice yG (FX m s r aN) yH,.slice yI (FY m s r aN) yJ],.slice ak4 ((xF m s r aN).length) ak5,.slice ak6 ((nY m s r aN).length) ak7]) Y Y k11<|O1 22 Y<|sty Y wz s5 Y λZ0 wB=>?_
   have k12:=(wB.cU 0 6);exact Kj hS1 k12 ⟨g5,p8,p9,yG,yH,yI,yJ,ak4,ak5,ak6,ak7,Y,wB⟩ Y
 rintro _ Z4 ⟨tN,jR,jO,ql,cj2,wF,vM,CF,CG,Aj5,cj5,rfl,zB⟩;refine bQ Y<|ev (dU Ko Y Y (zB.x s0))<|ev (eX Y)<|yA je 3 Am Y<|stp Y Y Y axw zB s7 Y Y Y λw16 BR=>dn<|aW ?_
 have H2:=BR.fz s2;have H3:=H2.fz s3;have H4:=H3.fz s4;refine bQ Y<|ev (eU Pj Y)<|mv Y<|dn<|cB<|Lp ((H4.cU 8 3).rm s3) (λl0 rk mJ lJ wJ=>∃(k:Nat)(B1:ah)(d1:Nat)(B2:ah)(d2:Nat)(B3:ah)(d3:Nat),lJ=(37,aF ((k:Nat):Int))::l0/\mJ=(nY m s r aN).length - k/\k<=(nY m s r aN).length/\Hp b S wJ (dP cZ B1 d1 ((AP m ((nY m s r aN).take k)).aT)::dP bJ B2 d2 ((AP m ((nY m s r aN).take k)).aA)::dP bX B3 d3 ((AP m ((nY m s r aN).take k)).aP)::Iq je B1 d1 B2 d2 B3 d3 jR jO ql cj2 wF vM A7 c7 (AP m ((nY m s r aN).take k)) (mZ m s r aN) r aN gm eD::rk)) ⟨0,A1,c1,A2,c2,A3,c3,Y,Y,fJ _,((((H4.mV 4 4).mV 4 3).sel s7).mV 8 3)⟩ Y ?_
 rintro _ _ w17 ⟨k,B1,d1,B2,d2,B3,d3,rfl,rfl,hk,yB⟩;refine rg<|ev (fC Y Y)<|dn<|pQ Y (λhc38=>?_) (λhc38=>?_)
 ·refine jm ?_;refine aW<|cB<|rg ?_
  obtain⟨x1,bP⟩:=bC (xs:=(nY m s r aN)) (i:=k) aj;refine ev (cu (i:=k) Pj ai8 Y Y Y (aJ bP) ((yB.o s9).some_ bP))<|ev (gI CO Y Y ((yB.o s9).fE bP))<|al YR Y yB λg6 w18 ET=>sty Y ET s0 Y λw19 Cc=>dn<|jy<|mv Y<|ev (dU CO Y Y (Cc.x s0))<|gX Y (zx (m:=(AP m ((nY m s r aN).take k))) (s:=(mZ m s r aN)) (r:=r) ((((((((Cc.mV 8 7).sel s7).mV 15 2).sel s14).sel s15).sel (sx 16)).mV 13 3).sel (sx 16)) x1 (VR hm _) (awc _ _ _ _ _ (bT bP))) ?_
  rintro _ w20 ⟨asf,asg,ash,asi,asj,asl,rfl,C8⟩;have aAz:=(C8.s s1).bH;have aAA:=(C8.s s2).bH;have aIg:=(C8.s s3).bH;have aIh:=(C8.s s4).bH;have aIi:=(C8.s s5).bH;have aIj:=(C8.s s6).bH;refine jA<|iE (gG ?_)
  refine jy<|ev (dO Y Y)<|mv Y<|jA ?_
  have H5:=C8;rw [show(uD (AP m ((nY m s r aN).take k)) x1)=(AP m ((nY m s r aN).take (k+1))) from by rw [ar3 bP]] at H5;exact dI ⟨(k+1),asf,asg,ash,asi,asj,asl,Y,Y,aj,((((((((H5.rm s9).mV 7 2).mV 9 7).sel s13).sel s14).sel s15).sel s12).mV 13 3)⟩ rfl aj
 refine wE ?_;refine bQ Y<|mv Y<|ev (eX Y)<|jT je 14 BJ yB s3 Y<|mv Y<|ap (ys:=(xF m s r aN)) yB s14 Y Y (yB.o s8) kY Eu aj aj Y λoL oM w21 FH=>ev (eX Y)<|yA je 14 BJ Y<|xP Y FH s4 Y λw22 EU=>dn<|iZ Y<|jc Y ?_
 have H6:=EU;rw [show(AP m ((nY m s r aN).take k))=(AP m (nY m s r aN)) from by rw [iH aj]] at H6;have eO:((eD++(xF m s r aN)):List aM)=(eD++xF m s r aN):=by simp
 exact⟨B1,d1,B2,d2,B3,d3,jR,jO,ql,cj2,wF,vM,oL,oM,Y,by rw [<- eO]; exact(((((H6.cU 8 7).sel s1).sel s5).sel s6).mV 3 5)⟩
theorem YS{l:List fV}{k:Nat}{x:fV}(h:l[k]? = some x):mW s aN n m (l.take (k+1))=KG s aN n (mW s aN n m (l.take k)) x:=by
  unfold mW; rw [fD h,yU]; rfl
theorem M5(hm:mD m=true)(l:List fV):mD (mW s aN n m l)=true:=by
  unfold mW
  induction l generalizing m with
  | nil=>exact hm
  | cons x l ih=>
    refine ih ?_;unfold KG; split
    · exact mY hm x
    · exact hm
theorem ak8(l:List aH)(bE:Int)(report:List aI):∀ x∈lg l bE report,x.Client=0:=by
  intro x hx;unfold lg at hx
  split at hx
  · obtain⟨c,_,hc⟩:=SQ.1 hx
    unfold recC at hc
    split at hc
    · rw [j4.1 hc]
    · split at hc
      · rw [j4.1 hc]
      · simp at hc
  · simp at hx
theorem ag0{st:List Int}{u:Int}{k:Nat}{x:aI}(h:l[k]? = some x)(hb:st.contains x.aC=true):zJ (l.take (k+1)) st n u=zJ (l.take k) st n u++[⟨1,x.aC,x.aB,x.Sum,n,n,u⟩]:=by
  unfold zJ; rw [fD h,vX,qc]; simp only [Iz,hb,if_true,abY,nG,wP]
theorem ak9{st:List Int}{u:Int}{k:Nat}{x:aI}(h:l[k]? = some x)(hb:st.contains x.aC=false):zJ (l.take (k+1)) st n u=zJ (l.take k) st n u:=by
  unfold zJ; rw [fD h,vX,qc]; simp only [Iz,hb,WB,if_false,abY,wP,yN]
theorem asn(l:List aI)(st:List Int)(n u:Int):(zJ l st n u).length<=l.length:=by unfold zJ; rw [jY]; exact mR _ _
abbrev VW(iD:List aM)(ji:List aI)(uS:Nat)(wV:iF)(ES:Int)(Q0:AItem)(UO:dF)(y7z:ARules):=(iD++zJ ((eY ji).take uS) (nM (mW wV ES Q0.A UO (lg UO.aA Q0.A (eY ji))).aA (eY ji)) Q0.A (ES+y7z.jr)).length
theorem ajA{gh:Nat}{Ah:ah}{ch:Nat}(H0:Hp b S w (Iq je A1 c1 A2 c2 A3 c3 A4 c4 A5 c5 A6 c6 A7 c7 m s r aN gm eD::dP cZ A1 c1 m.aT::dP bJ A2 c2 m.aA::dP bX A3 c3 m.aP::dP iO A4 c4 s.eF::dP dJ A5 c5 s.bY::dP bG A6 c6 s.bL::aS bG 112 A7 c7 eD::jP gm hs::F))(it:AItem)(hm:mD m=true)(hb:s.eF.length<=1000)(hl:s.bY.length<=64)(hd:s.bL.length<=50000)(hu:0<=aN/\aN<=549755813888)(hw:eD.length<=500000)(hr:lY r=true)(hg:fI it.A hs=some ⟨gh,gs,Ao,Ah,ch,up,bM,l,es⟩)(hz:l.length<=1000) :
    bS prog 47 #[gD je,.agg #[aF it.Kind,aF it.A,aF it.B,aF it.C],gD gh] w λv w'=>∃(B1:ah)(d1:Nat)(B2:ah)(d2:Nat)(B3:ah)(d3:Nat)(B7:ah)(d7:Nat),v=aF 0/\Hp b S w' (Iq je B1 d1 B2 d2 B3 d3 A4 c4 A5 c5 A6 c6 B7 d7 (mW s aN it.A m (lg m.aA it.A (eY l))) s r aN gm (eD++zJ (eY l) (nM (mW s aN it.A m (lg m.aA it.A (eY l))).aA (eY l)) it.A (aN+r.jr))::dP cZ B1 d1 ((mW s aN it.A m (lg m.aA it.A (eY l))).aT)::dP bJ B2 d2 ((mW s aN it.A m (lg m.aA it.A (eY l))).aA)::dP bX B3 d3 ((mW s aN it.A m (lg m.aA it.A (eY l))).aP)::dP iO A4 c4 s.eF::dP dJ A5 c5 s.bY::dP bG A6 c6 s.bL::aS bG 112 B7 d7 (eD++zJ (eY l) (nM (mW s aN it.A m (lg m.aA it.A (eY l))).aA (eY l)) it.A (aN+r.jr))::jP gm hs::F):=by
 refine sV func47 ntmps47 Y ?_;have hrl:=NP l;have aKm:=(zQ (iU.1 hm).2.1).1;have aIa:=arY m.aA it.A (eY l);have hbd:=Bw hr;have hzs:=FR hm;have hmr:=FR (M5 (s:=s) (aN:=aN) (n:=it.A) hm (lg m.aA it.A (eY l)));have hqn:=λk=>asn ((eY l).take k) (nM (mW s aN it.A m (lg m.aA it.A (eY l))).aA (eY l)) it.A (aN+r.jr)
 simp only [fO] at hqn
 refine rg<|bx Y Y H0 λg1 w1 K1=>bU Y<|bQ Y<|ev (eX Y)<|yA gh 0 yM Y<|ev (dx UY Y (K1.EK s9 hg) Y) ?_
 have H1:=K1.wO s9 hg;refine gX Y (PK ((H1.sel s0).mV 1 4) (lV hz au)) ?_;rintro _ w2 ⟨oo,oq,rfl,K2⟩;have Xc:=(K2.o s0).bH;have H2:=YM hg ((((K2.sel s0).sel s6).mV 2 4).sel s6);refine bU Y<|aW<|He H2 (λ_ K=>K) (λl0 rk lJ wJ=>∃(jR:ah)(jO:Nat),lJ=(26,.slice jR ((lg m.aA it.A (eY l)).length) jO)::(27,aF (((lg m.aA it.A (eY l)).length:Nat):Int))::(28,aF 0)::l0/\Hp b S wJ (aS AY 120 jR jO (lg m.aA it.A (eY l))::rk)) (λhns H3=>?_) ?_
 ·refine uw 0 je 0 Ak Y H3<|ng 3 4 je 1 jE s3 Y H3<|ng 5 6 g1 1 nV s2 Y H3<|kX 7 Y Y H3<|kX 10 Y Y H3<|O1 8 Y<|gX Y (adA _ (H3.s s5).any it.A (H3.o s1) hzs.2.1) ?_
  rintro _ w3 ⟨nR,nS,rfl,h3⟩;have K3:=H3.f1 h3;have apk:=(K3.o s0).bH;have k1:=(K3.rm s0);refine aQ k1<|lD 9 Y (λ_ _=>eU Pj Y) k1<|Dn ⟨nR,nS,Y,K3⟩ Y
 rintro _ w4 ⟨jR,jO,rfl,K4⟩;refine cB<|Lp (K4.cU 4 4) (λl0 rk mJ lJ wJ=>∃(k:Nat)(B1:ah)(d1:Nat)(B2:ah)(d2:Nat)(B3:ah)(d3:Nat),lJ=(28,aF ((k:Nat):Int))::l0/\mJ=(lg m.aA it.A (eY l)).length - k/\k<=(lg m.aA it.A (eY l)).length/\Hp b S wJ (dP cZ B1 d1 ((mW s aN it.A m ((lg m.aA it.A (eY l)).take k)).aT)::dP bJ B2 d2 ((mW s aN it.A m ((lg m.aA it.A (eY l)).take k)).aA)::dP bX B3 d3 ((mW s aN it.A m ((lg m.aA it.A (eY l)).take k)).aP)::Iq je B1 d1 B2 d2 B3 d3 A4 c4 A5 c5 A6 c6 A7 c7 (mW s aN it.A m ((lg m.aA it.A (eY l)).take k)) s r aN gm eD::rk)) ⟨0,A1,c1,A2,c2,A3,c3,Y,Y,fJ _,(((K4.mV 0 4).sel s4).mV 5 3)⟩ Y ?_
 rintro _ _ w5 ⟨k,B1,d1,B2,d2,B3,d3,rfl,rfl,hk,K5⟩;refine rg<|ev (fC Y Y)<|dn<|pQ Y (λhc29=>?_) (λhc29=>?_)
 ·refine jm ?_;refine aW<|cB<|rg ?_
  obtain⟨x1,bP⟩:=bC (xs:=lg m.aA it.A (eY l)) (i:=k) aj;refine ev (cu (i:=k) Pj ai8 Y Y Y (aJ bP) ((K5.o s4).some_ bP))<|ev (gI CO Y Y ((K5.o s4).fE bP))<|al YR Y K5 λg2 w6 K6=>sty Y K6 s0 Y λw7 K7=>dn<|rg<|jT g2 2 Yr K7 s0 Y<|ev (nQ Y Y)<|mv Y ?_
  cases S9:(!decide (x1.Kind=5)) with
  | true=>
   refine dN<|dN<|dN<|dN<|dN<|dN<|dN<|ev (dH Y Y)<|dn<|bK Y (λ_h=>?_) nofun
   refine jy<|mv Y<|ev (dU CO Y Y (K7.x s0))<|gX Y (zx (m:=(mW s aN it.A m ((lg m.aA it.A (eY l)).take k))) (s:=s) (r:=r) (((((((K7.mV 7 2).sel s7).sel s3).sel s8).mV 9 4).mV 9 3).sel s12) x1 (M5 hm _) (ak8 _ _ _ _ (bT bP))) ?_
   rintro _ w8 ⟨aIk,aIl,aIm,aIn,aIo,aIp,rfl,K8⟩;have aB9:=(K8.s s1).bH;have aKo:=(K8.s s2).bH;have aKp:=(K8.s s3).bH;have aKq:=(K8.s s4).bH;have aKr:=(K8.s s5).bH;have aKs:=(K8.s s6).bH;refine jA<|iE (gG ?_)
   refine jy<|ev (dO Y Y)<|mv Y<|jA ?_
   have H4:=K8;rw [show(uD (mW s aN it.A m ((lg m.aA it.A (eY l)).take k)) x1)=(mW s aN it.A m ((lg m.aA it.A (eY l)).take (k+1))) from by rw [YS bP]; unfold KG; first | rw [aO (by rw [S9]; rfl)] | rw [aO (by rw [S9,xE]; rfl)] | rw [aK (by rw [S9,xE]; decide)]] at H4;exact dI ⟨(k+1),aIk,aIl,aIm,aIn,aIo,aIp,Y,Y,aj,(((((((H4.rm s9).mV 4 4).mV 10 2).sel s10).sel s11).sel s8).mV 9 3)⟩ rfl aj
  | false=>
   refine bn Y (bf Y) Y<|wL g2 3 vo K7 s0 Y<|wL g1 1 nV K7 s8 Y<|oh Y Y Y Y asb (agV (m:=(mW s aN it.A m ((lg m.aA it.A (eY l)).take k))) (s:=s) (r:=r) (((((((K7.mV 7 2).sel s7).sel s3).sel s8).mV 9 4).mV 9 3).sel s12) x1.A it.A hb hl hd) Y ?_
   rintro _ w9 ⟨rfl,K9⟩;refine bn Y (iB Y) Y<|ev (dL Y Y)<|dn<|bK Y (λxE=>?_) (λxE=>?_)
   ·refine jy<|mv Y<|ev (dU CO Y Y (K9.x s9))<|gX Y (zx (m:=(mW s aN it.A m ((lg m.aA it.A (eY l)).take k))) (s:=s) (r:=r) K9 x1 (M5 hm _) (ak8 _ _ _ _ (bT bP))) ?_
    rintro _ Oz ⟨aDx,aDy,aDz,aDA,aDB,aDC,rfl,K10⟩;refine jA<|iE (gG ?_)
    refine jy<|ev (dO Y Y)<|mv Y<|jA ?_
    have H5:=K10;rw [show(uD (mW s aN it.A m ((lg m.aA it.A (eY l)).take k)) x1)=(mW s aN it.A m ((lg m.aA it.A (eY l)).take (k+1))) from by rw [YS bP]; unfold KG; first | rw [aO (by rw [S9]; rfl)] | rw [aO (by rw [S9,xE]; rfl)] | rw [aK (by rw [S9,xE]; decide)]] at H5;exact dI ⟨(k+1),aDx,aDy,aDz,aDA,aDB,aDC,Y,Y,aj,(((((((H5.rm s9).mV 4 4).mV 10 2).sel s10).sel s11).sel s8).mV 9 3)⟩ rfl aj
   refine xQ ?_;refine jy<|ev (dO Y Y)<|mv Y<|jA ?_
   have H6:=K9;rw [show(mW s aN it.A m ((lg m.aA it.A (eY l)).take k))=(mW s aN it.A m ((lg m.aA it.A (eY l)).take (k+1))) from by rw [YS bP]; unfold KG; first | rw [aO (by rw [S9]; rfl)] | rw [aO (by rw [S9,xE]; rfl)] | rw [aK (by rw [S9,xE]; decide)]] at H6;exact dI ⟨(k+1),B1,d1,B2,d2,B3,d3,Y,Y,aj,(((((((H6.rm s9).mV 4 4).mV 10 2).sel s10).sel s11).sel s8).mV 9 3)⟩ rfl aj
 refine wE ?_;have H7:=K5;rw [show(mW s aN it.A m ((lg m.aA it.A (eY l)).take k))=(mW s aN it.A m (lg m.aA it.A (eY l))) from by rw [iH aj]] at H7;refine bQ Y<|ev (eX Y)<|yA je 0 Ak Y<|jT je 1 jE H7 s3 Y<|mv Y<|gX Y (arZ _ (H7.s s1).any (H7.o s6) hmr.2.1 hmr.2.2.1 aj) ?_
 rintro _ Ti ⟨aa7,aa8,rfl,h11⟩;have tZ:=H7.f1 h11;refine bU Y<|aW<|bQ Y<|ev (eU jK Y)<|mv Y<|dn<|cB ?_
 have eO:(eD:List aM)=(eD++zJ ((eY l).take 0) (nM (mW s aN it.A m (lg m.aA it.A (eY l))).aA (eY l)) it.A (aN+r.jr)):=by simp [zJ]
 rw [eO] at tZ;refine pK (λmJ lJ wJ=>∃(kb:Nat)(A9:ah)(c9:Nat),lJ=[(0,gD je),(4,gD g1),(10,.slice aa7 ((nM ((mW s aN it.A m (lg m.aA it.A (eY l))).aA) (eY l)).length) aa8),(55,.slice oo ((eY l).length) oq),(56,aF (((eY l).length:Nat):Int)),(57,aF ((kb:Nat):Int))]/\mJ=(eY l).length - kb/\kb<=(eY l).length/\Hp b S wJ (aS bG 112 A9 c9 (eD++zJ ((eY l).take kb) (nM (mW s aN it.A m (lg m.aA it.A (eY l))).aA (eY l)) it.A (aN+r.jr))::Iq je B1 d1 B2 d2 B3 d3 A4 c4 A5 c5 A6 c6 A9 c9 (mW s aN it.A m (lg m.aA it.A (eY l))) s r aN gm (eD++zJ ((eY l).take kb) (nM (mW s aN it.A m (lg m.aA it.A (eY l))).aA (eY l)) it.A (aN+r.jr))::aS dQ 3 aa7 aa8 (nM ((mW s aN it.A m (lg m.aA it.A (eY l))).aA) (eY l))::dP cZ B1 d1 ((mW s aN it.A m (lg m.aA it.A (eY l))).aT)::dP bJ B2 d2 ((mW s aN it.A m (lg m.aA it.A (eY l))).aA)::dP bX B3 d3 ((mW s aN it.A m (lg m.aA it.A (eY l))).aP)::aS AY 120 jR jO (lg m.aA it.A (eY l))::jP gm hs::aS bq 132 oo oq (eY l)::dY g1 32 [aF it.Kind,aF it.A,aF it.B,aF it.C]::dP iO A4 c4 s.eF::dP dJ A5 c5 s.bY::dP bG A6 c6 s.bL::F)) ⟨0,A7,c7,Y,Y,fJ _,((((tZ.mV 5 7).mV 7 4).sel s11).sel s12)⟩ Y ?_;rintro _ _ Sm ⟨kb,A9,c9,rfl,rfl,hkb,sJ⟩;refine rg<|ev (fC Y Y)<|dn<|pQ Y (λaIq=>?_) (λaIq=>?_)
 ·refine jm ?_;refine aW<|cB<|rg ?_
  obtain⟨x2,kZ⟩:=bC (xs:=eY l) (i:=kb) aj;refine ev (cu (i:=kb) jK mG Y Y Y (aJ kZ) ((sJ.o s8).some_ kZ))<|ev (gI oZ Y Y ((sJ.o s8).fE kZ))<|al yj Y sJ λg3 Xu wz=>sty Y wz s0 Y λZ0 wB=>dn<|bQ Y<|jT g3 0 mM wB s0 Y<|mU wB Y (kJ _ (wB.o s3) x2.aC) λZ4 zB=>dn<|bK Y (λaso=>?_) (λaso=>?_)
  ·refine Hf zB (λ_ K=>(K.cU 1 2)) (λl0 rk lJ wJ=>∃(ql:ah)(cj2:Nat),lJ=l0/\Hp b S wJ (Iq je B1 d1 B2 d2 B3 d3 A4 c4 A5 c5 A6 c6 ql cj2 (mW s aN it.A m (lg m.aA it.A (eY l))) s r aN gm ((eD++zJ ((eY l).take kb) (nM (mW s aN it.A m (lg m.aA it.A (eY l))).aA (eY l)) it.A (aN+r.jr))++([(⟨1,x2.aC,x2.aB,x2.Sum,it.A,it.A,aN+r.jr⟩:aM)]:List aM))::aS bG 112 ql cj2 ((eD++zJ ((eY l).take kb) (nM (mW s aN it.A m (lg m.aA it.A (eY l))).aA (eY l)) it.A (aN+r.jr))++([(⟨1,x2.aC,x2.aB,x2.Sum,it.A,it.A,aN+r.jr⟩:aM)]:List aM))::rk)) (λhns H8=>?_) ?_
   ·have k2:=(H8.cU 1 2);refine kX 0 Y Y k2<|uw 1 je 14 BJ Y k2<|ng 5 6 g3 0 mM s0 Y k2<|ng 7 8 g3 1 sH s0 Y k2<|ng 9 10 g3 2 RH s0 Y k2<|ng 11 12 g1 1 nV s8 Y k2<|ng 13 14 g1 1 nV s8 Y k2<|uw 15 je 12 BI Y k2<|uw 19 je 6 VU Y k2<|Np 22 je 10 Vz Y k2<|Jn H8 (λl0 rk lJ wJ=>∃(g4:Nat),lJ=(69,.slice A9 (VW eD l kb s aN it m r) c9)::(91,.slice (some ⟨g4,0,none⟩) (([(⟨1,x2.aC,x2.aB,x2.Sum,it.A,it.A,aN+r.jr⟩:aM)]:List aM).length) 1)::l0/\Hp b S wJ (aS bG 112 (some ⟨g4,0,none⟩) 1 ([(⟨1,x2.aC,x2.aB,x2.Sum,it.A,it.A,aN+r.jr⟩:aM)]:List aM)::rk)) 4 134217727 ?_ λhS1=>?_
    ·rintro _ w21 ⟨g4,rfl,FH⟩;refine O1 27 Y<|ap (ys:=([(⟨1,x2.aC,x2.aB,x2.Sum,it.A,it.A,aN+r.jr⟩:aM)]:List aM)) FH s2 Y Y (FH.o s0) kY Eu (by have:=hqn kb; rw [jd]; omega) av rfl λVs cp2 w22 EU=>?_
     have k7:=((EU.rm s3).cU 0 2);refine aQ k7<|SX 28 je 14 BJ Y k7<|O1 30 Y<|xP Y EU s3 Y λw23 KA=>?_
     have k8:=(KA.cU 0 3);refine aQ k8<|Dn ⟨Vs,cp2,Y,(KA.rm s2)⟩ Y
    refine Jn H8 (λl0 rk lJ wJ=>lJ=(69,.slice A9 (VW eD l kb s aN it m r) c9)::(83,aF aN)::(88,aF r.jr)::l0/\Hp b S wJ rk) 7 16777215 ?_ λhS2=>?_
    ·rintro _ w24 ⟨rfl,qB⟩;have k9:=(qB.cU 1 2);refine lD 24 Y (λ_ _=>dO Y Y) k9<|lD 25 Y (λ_ _=>iY (vs:=[(0,aF 1),(1,aF x2.aC),(2,aF x2.aB),(3,gK x2.Sum),(4,aF it.A),(5,aF it.A),(6,aF (aN+r.jr))]) (cs:=[aF 1,aF x2.aC,aF x2.aB,gK x2.Sum,aF it.A,aF it.A,aF (aN+r.jr)]) Y (by apply nU)) k9<|O1 26 rfl<|Az (τ:=bG) (x:=(⟨1,x2.aC,x2.aB,x2.Sum,it.A,it.A,aN+r.jr⟩:aM)) rfl (by intro _; apply gu) rfl qB (λ_ _=>rfl) λg7 w25 FI=>?_
     have k10:=((FI.cU 2 2).rm s0);exact Kj hS1 k10 ⟨g7,Y,FI⟩ Y
    refine Jn H8 (λl0 rk lJ wJ=>lJ=(69,.slice A9 (VW eD l kb s aN it m r) c9)::(83,aF aN)::l0/\Hp b S wJ rk) 8 8388607 ?_ λhS3=>?_
    ·rintro _ w26 ⟨rfl,Nw⟩;refine O1 23 Y<|nO Nw s2 Y ?_
     have k11:=(Nw.cU 1 2);exact Kj hS2 k11 ⟨Y,Nw⟩ Y
    refine Jn H8 (λl0 rk lJ wJ=>lJ=(69,.slice A9 (VW eD l kb s aN it m r) c9)::(88,aF r.jr)::l0/\Hp b S wJ rk) 8 16515071 ?_ λhS4=>?_
    ·rintro _ w27 ⟨rfl,OB⟩;refine O1 18 Y<|nO OB s2 Y ?_
     have k12:=(OB.cU 1 2);exact Kj hS2 k12 ⟨Y,OB⟩ Y
    refine Jn H8 (λl0 rk lJ wJ=>lJ=(83,aF aN)::(88,aF r.jr)::l0/\Hp b S wJ rk) 8 16777199 ?_ λhS5=>?_
    ·rintro _ w28 ⟨rfl,FJ⟩;have k13:=(FJ.cU 1 2);refine lD 24 Y (λ_ _=>dO Y Y) k13<|lD 25 Y (λ_ _=>iY (vs:=[(0,aF 1),(1,aF x2.aC),(2,aF x2.aB),(3,gK x2.Sum),(4,aF it.A),(5,aF it.A),(6,aF (aN+r.jr))]) (cs:=[aF 1,aF x2.aC,aF x2.aB,gK x2.Sum,aF it.A,aF it.A,aF (aN+r.jr)]) Y (by apply nU)) k13<|O2 4 26 rfl rfl ?_ ?_
     ·refine nO FJ s2 Y<|aQ k13<|O1 26 Y<|Az (τ:=bG) (x:=(⟨1,x2.aC,x2.aB,x2.Sum,it.A,it.A,aN+r.jr⟩:aM)) Y (by intro _; apply gu) rfl FJ (λ_ _=>rfl) λg8 w29 Lx=>?_
      have k14:=((Lx.cU 2 2).rm s0);exact Kj hS1 k14 ⟨g8,Y,Lx⟩ Y
     ·refine Az (τ:=bG) (x:=(⟨1,x2.aC,x2.aB,x2.Sum,it.A,it.A,aN+r.jr⟩:aM)) Y (by intro _; apply gu) rfl FJ (λ_ _=>rfl) λg9 w30 KC=>?_;have k15:=((KC.cU 2 2).rm s0);refine aQ k15<|O1 4 Y<|nO KC s3 Y<|Kj hS1 k15 ⟨g9,Y,KC⟩ Y
    refine yO (fuel:=9) (rs:=[4,18,23]) ak au ?_
    simp only [xB,lM,xC,xD,uO]
    refine⟨?_,?_,?_⟩
    ·refine⟨_,Y,?_⟩;refine nO H8 s2 Y<|aQ k2<|O2 18 23 Y Y ?_ ?_
     ·refine nO H8 s2 Y<|Kj hS3 k2 ⟨Y,H8⟩ Y
     ·refine nO H8 s2 Y<|Kj hS4 k2 ⟨Y,H8⟩ Y
    ·refine⟨_,Y,?_⟩;refine nO H8 s2 Y<|aQ k2<|O2 4 23 Y Y ?_ ?_
     ·refine nO H8 s2 Y<|Kj hS3 k2 ⟨Y,H8⟩ Y
     ·refine nO H8 s2 Y<|Kj hS5 k2 ⟨Y,H8⟩ Y
    ·refine⟨_,Y,?_⟩;refine nO H8 s2 Y<|aQ k2<|O2 4 18 Y Y ?_ ?_
     ·refine nO H8 s2 Y<|Kj hS4 k2 ⟨Y,H8⟩ Y
     ·refine nO H8 s2 Y<|Kj hS5 k2 ⟨Y,H8⟩ Y
   rintro _ w31 ⟨ql,cj2,rfl,QC⟩;refine iE (gG ?_);refine jy<|ev (dO Y Y)<|mv Y<|jA ?_
   have fQ:(((eD++zJ ((eY l).take kb) (nM (mW s aN it.A m (lg m.aA it.A (eY l))).aA (eY l)) it.A (aN+r.jr))++([(⟨1,x2.aC,x2.aB,x2.Sum,it.A,it.A,aN+r.jr⟩:aM)]:List aM)):List aM)=(eD++zJ ((eY l).take (kb+1)) (nM (mW s aN it.A m (lg m.aA it.A (eY l))).aA (eY l)) it.A (aN+r.jr)):=by first | (rw [ag0 kZ aso,oV]; done) | (rw [ak9 kZ (by simpa using aso)]; done)
   rw [fQ] at QC;exact dI ⟨(kb+1),ql,cj2,Y,Y,aj,(((QC.rm s2).sel s0).sel s1)⟩ rfl aj
  refine xQ ?_;refine jy<|ev (dO Y Y)<|mv Y<|jA ?_
  have jW:((eD++zJ ((eY l).take kb) (nM (mW s aN it.A m (lg m.aA it.A (eY l))).aA (eY l)) it.A (aN+r.jr)):List aM)=(eD++zJ ((eY l).take (kb+1)) (nM (mW s aN it.A m (lg m.aA it.A (eY l))).aA (eY l)) it.A (aN+r.jr)):=by first | (rw [ag0 kZ aso,oV]; done) | (rw [ak9 kZ (by simpa using aso)]; done)
  rw [jW] at zB;exact dI ⟨(kb+1),A9,c9,Y,Y,aj,(zB.rm s0)⟩ rfl aj
 refine wE ?_;refine iZ Y<|jc Y ?_
 have mH:((eD++zJ ((eY l).take kb) (nM (mW s aN it.A m (lg m.aA it.A (eY l))).aA (eY l)) it.A (aN+r.jr)):List aM)=(eD++zJ (eY l) (nM (mW s aN it.A m (lg m.aA it.A (eY l))).aA (eY l)) it.A (aN+r.jr)):=by rw [iH aj]
 exact⟨B1,d1,B2,d2,B3,d3,A9,c9,Y,by rw [<- mH]; exact((((((sJ.cU 8 2).rm s6).rm s2).sel s5).sel s1).mV 2 7)⟩
end Go.Proofs.YtlhnnmlenkahlaaGreat
