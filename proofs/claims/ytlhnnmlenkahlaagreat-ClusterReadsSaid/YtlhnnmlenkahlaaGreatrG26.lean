/- Lemmas. -/
import Derived.Test.YtlhnnmlenkahlaaGreatrG25
set_option maxRecDepth 4000
set_option linter.all false
namespace Go.Proofs.YtlhnnmlenkahlaaGreat
open Go.RowKit Go.Proofs.Tryz
variable {κ ν:Type}{m:dF}{it:AItem}{X:fV}{q:lq × List Int}{s:iF}{r:ARules}{aN:Int}{eD:List aM}{hs:lq}{es:List (κ × ν)}
theorem ax1:bF prog 13:=ay
theorem adN:(prog.underlying 57).isSome=true/\prog.underlying 3=some (.int (prog.intKind 3))/\prog.intKind 3=.i64:=⟨ak,ak,ak⟩
theorem aAI:bF prog 100:=ay
theorem asz{cs:List aH}{ns:List aV}(h:uy ns=true):(oH cs ns).length<=1000:=by
  unfold oH; rw [aO h,jY]; have:=Hz h; omega
theorem awm{cs:List aH}{ns:List aV}(h:kR cs=true):∀ x∈oH cs ns,0<=x.N/\x.N<=1000000:=by
  intro x hx; unfold oH at hx; split at hx
  · obtain⟨n,_,rfl⟩:=gQ.1 hx
    have h1:=Xn cs n.ID; have h2:=(kF.1 h).2.1;show 0<=((oP cs n.ID:Nat):Int)/\((oP cs n.ID:Nat):Int)<=1000000; omega
  · exact absurd hx av
theorem abv[DecidableEq κ](k:κ)(v:ν)(es:List (κ × ν)):fI k (iy k v es)=some v:=by
  unfold iy
  split
  · rename_i h
    unfold fI at h ⊢
    have:(es.map λp=>if p.1=k then(k,v) else p).find? (λp=>decide (p.1=k))=some (k,v):=by
      induction es with
      | nil=>simp at h
      | cons p es ih=>
        rw [nG]
        by_cases hp:p.1=k
        · rw [aO hp,Gj av]
        · rw [aK hp,vI (by simpa using hp)]
          refine ih ?_
          rwa [vI (by simpa using hp)] at h
    rw [this]; rfl
  · rename_i h
    unfold fI at h ⊢;rw [IJ]
    cases hf:es.find? (λp=>decide (p.1=k)) with
    | none=>simp
    | some q=>rw [hf] at h; exact absurd rfl h
theorem ale[DecidableEq κ]{k:κ}{v:ν}{Q:ν->Prop}(h:∀ z x,fI z es=some x->Q x)(hv:Q v):∀ z x,fI z (iy k v es)=some x->Q x:=λz x hx=>by
  by_cases e:z=k
  · subst e; rw [abv] at hx; cases hx; exact hv
  · rw [FU e] at hx; exact h z x hx
theorem ag6[DecidableEq κ]{k z:κ}{v:ν}(h:(fI z es).isSome=true):(fI z (iy k v es)).isSome=true:=by
  by_cases e:z=k
  · subst e; rw [abv]; rfl
  · rw [FU e]; exact h
theorem asA(l:List aI)(c v:Int):(Uf l c v).length<=l.length:=by
  unfold Uf
  split
  · rename_i h
    unfold mF at h ⊢
    split
    · simp
    · rename_i ho
      rw [aK ho] at h;obtain⟨y,h1,h2,_,_⟩:=agu (by simpa using ho);have hl:=aJ h2;refine lV (agv _ _) ?_;have:=wN l
      simp only [jd,fO,kW]; omega
  · exact kV _
theorem alf(l:List aI)(bM c v sum:Int)(fG:List (BitVec 8)):(Ig l bM c v sum fG).length<=l.length+1:=by
  have h:=agW l bM c v sum fG;unfold Ig; split
  · exact lV (asA _ _ _) h
  · exact h
theorem ag7(hm:mD m=true){x:fV}(hx:x.Client=0)(hk:x.Kind=3∨x.Kind=4):(dD m x).1.aT=m.aT:=by
  rw [ak3 hm hx];show(xJ m x).1=_
  rcases hk with h | h
  · rw [Yt h]
  · rw [UQ h]
theorem an5{l:List Int}{f:Int->fV}{k:Nat}{z:Int}(h:l[k]? = some z):AP m ((l.take (k+1)).map f)=uD (AP m ((l.take k).map f)) (f z):=by
  unfold AP; rw [fD h,qc,yU]; rfl
theorem awn{c:PC}(hX:rO c.m it=X)(h:(dD c.m X).2<0):rC c it=(c,-(dD c.m X).2):=by
  unfold rC; rw [hX,aO h]
theorem asB{c:PC}(hX:rO c.m it=X)(h:¬ (dD c.m X).2<0)(hq:q=(YO c (dD c.m X).1).foldl (vL it.A (dD c.m X).2 (E9 it.A it.B) (nH it.A it.B)) (c.hs,[]))(h0:q.2=[]):rC c it=({ c with hs:=q.1 },7):=by
  have:Ij c it=q:=by unfold Ij; rw [hX,hq]
  unfold rC; rw [this,hX,aK h,aO h0]
theorem asC{c:PC}(hX:rO c.m it=X)(h:¬ (dD c.m X).2<0)(hq:q=(YO c (dD c.m X).1).foldl (vL it.A (dD c.m X).2 (E9 it.A it.B) (nH it.A it.B)) (c.hs,[]))(h0:¬ q.2=[]):rC c it=({ c with m:=AP (dD c.m X).1 (q.2.map λz=>y7 it.A z (dD c.m X).2),hs:=q.1 },0):=by
  have:Ij c it=q:=by unfold Ij; rw [hX,hq]
  unfold rC; rw [this,hX,aK h,aK h0]
theorem asD{m1:dF}{e1:Int}(hX:rO m it=X)(h1:(dD m X).1=m1)(h2:(dD m X).2=e1)(h:e1<0):rC ⟨m,s,r,aN,eD,hs⟩ it=(⟨m,s,r,aN,eD,hs⟩,-e1):=by subst h2; exact awn (c:=⟨m,s,r,aN,eD,hs⟩) hX h
theorem an6{q:lq}{tg td:List Int}{m1:dF}{e1:Int}(hX:rO m it=X)(h1:(dD m X).1=m1)(h2:(dD m X).2=e1)(h:¬ e1<0)(htg:YO ⟨m,s,r,aN,eD,hs⟩ m1=tg)
    (hf:(q,td)=tg.foldl (vL it.A e1 (E9 it.A it.B) (nH it.A it.B)) (hs,[])) (h0:td=[]):rC ⟨m,s,r,aN,eD,hs⟩ it=(⟨m,s,r,aN,eD,q⟩,7):=by subst h1 h2; exact asB (c:=⟨m,s,r,aN,eD,hs⟩) (q:=(q,td)) hX h (by subst htg; exact hf) h0
theorem an7{q:lq}{tg td:List Int}{m1:dF}{e1:Int}(hX:rO m it=X)(h1:(dD m X).1=m1)(h2:(dD m X).2=e1)(h:¬ e1<0)(htg:YO ⟨m,s,r,aN,eD,hs⟩ m1=tg)
    (hf:(q,td)=tg.foldl (vL it.A e1 (E9 it.A it.B) (nH it.A it.B)) (hs,[])) (h0:¬ td=[]):rC ⟨m,s,r,aN,eD,hs⟩ it=(⟨AP m1 (td.map fun(z:Int)=>y7 it.A z e1),s,r,aN,eD,q⟩,0):=by subst h1 h2; exact asC (c:=⟨m,s,r,aN,eD,hs⟩) (q:=(q,td)) hX h (by subst htg; exact hf) h0
theorem an8{b w:World}{S:Nat->Prop}{F:List lH}{je:Nat}{A1 A2 A3 A4 A5 A6 A7:ah}{c1 c2 c3 c4 c5 c6 c7 gm:Nat}{hs:kK}(H0:Hp b S w (Iq je A1 c1 A2 c2 A3 c3 A4 c4 A5 c5 A6 c6 A7 c7 m s r aN gm eD::dP cZ A1 c1 m.aT::dP bJ A2 c2 m.aA::dP bX A3 c3 m.aP::dP iO A4 c4 s.eF::dP dJ A5 c5 s.bY::dP bG A6 c6 s.bL::aS bG 112 A7 c7 eD::jP gm hs::F))(it:AItem)(hm:mD m=true)(hu:0<=aN/\aN<=549755813888)(hb:s.eF.length<=1000)(hr:lY r=true)(hz:∀ z h,fI z hs=some h->h.l.length<=900)(hN:∀ n∈m.aT,(fI n.ID hs).isSome=true) :
    bS prog 44 #[gD je,.agg #[aF it.Kind,aF it.A,aF it.B,aF it.C]] w λv w'=>∃(B1:ah)(d1:Nat)(B2:ah)(d2:Nat)(B3:ah)(d3:Nat)(hs1:kK),v=aF ((rC (⟨m,s,r,aN,eD,kH hs⟩:PC) it).2)/\kH hs1=(rC (⟨m,s,r,aN,eD,kH hs⟩:PC) it).1.hs/\Hp b S w' (Iq je B1 d1 B2 d2 B3 d3 A4 c4 A5 c5 A6 c6 A7 c7 ((rC (⟨m,s,r,aN,eD,kH hs⟩:PC) it).1.m) s r aN gm eD::dP cZ B1 d1 (((rC (⟨m,s,r,aN,eD,kH hs⟩:PC) it).1.m).aT)::dP bJ B2 d2 (((rC (⟨m,s,r,aN,eD,kH hs⟩:PC) it).1.m).aA)::dP bX B3 d3 (((rC (⟨m,s,r,aN,eD,kH hs⟩:PC) it).1.m).aP)::dP iO A4 c4 s.eF::dP dJ A5 c5 s.bY::dP bG A6 c6 s.bL::aS bG 112 A7 c7 eD::jP gm hs1::F):=by
 refine sV func44 ntmps44 Y ?_;have hbd:=Bw hr;have hzs:=FR hm;have hdl:((LJ s.eF aN r.jV).map fK.Node).length<=1000:=by rw [jY]; unfold LJ; exact lV (mR _ _) (lV (G9 _) hb)
 refine rg<|bx Y Y H0 λg1 w1 K1=>bx Y Y K1 λg2 w2 K2=>bU Y<|rg<|jT g2 1 nV K2 s0 Y<|jT g2 2 RU K2 s0 Y<|gX Y (YW (S0:=Any) _ it.A it.B) ?_
 rintro _ w3 ⟨nR,nS,rfl,h3⟩;have K3:=K2.f1 h3;have apk:=(K3.o s0).bH;refine bU Y<|bQ Y<|mU K3 Y (YC _ (K3.o s0)) λw4 K4=>bU Y<|rg<|jT g2 1 nV K4 s1 Y<|mv Y<|ev (Bl (m:=(iM (nH it.A it.B)).toNat) adN.1 adN.2.1 adN.2.2 Y (uL (by have:=(iM (nH it.A it.B)).isLt; omega)))<|ev (iY (vs:=[(2,aF 3),(3,aF it.A),(4,aF (((iM (nH it.A it.B)).toNat:Nat):Int))]) (cs:=[aF 0,aF 0,aF 3,aF it.A,aF (((iM (nH it.A it.B)).toNat:Nat):Int),aF 0]) rfl (by apply yE))<|al YR rfl K4 λg3 w5 K5=>sty rfl K5 s0 rfl λw6 K6=>dn<|aW<|He K6 (λ_ K=>K) (λl0 rk lJ wJ=>∃(tN:Nat)(jR:ah)(jO:Nat),lJ=(9,.bool (gY m.aA it.A))::l0/\Hp b S wJ (dY tN 59 [aF ((aU m.aA it.A).ID),aF ((aU m.aA it.A).aB),gK ((aU m.aA it.A).Sum),.slice jR (((aU m.aA it.A).aD).length) jO]::dP dQ jR jO ((aU m.aA it.A).aD)::rk)) (λhns H1=>?_) ?_
 ·refine Ci 0 s3 Y H1<|SX 1 je 0 Ak Y H1<|ng 3 4 je 1 jE s4 Y H1<|ng 5 6 g2 1 nV s2 Y H1<|Jn H1 (λl0 rk lJ wJ=>∃(g4:Nat)(EL:ah)(EM:Nat),lJ=(41,.bool (gY m.aA it.A))::l0/\Hp b S wJ (dY g4 59 [aF ((aU m.aA it.A).ID),aF ((aU m.aA it.A).aB),gK ((aU m.aA it.A).Sum),.slice EL (((aU m.aA it.A).aD).length) EM]::dP dQ EL EM ((aU m.aA it.A).aD)::rk)) 1 8191 ?_ λhS1=>?_
  ·rintro _ Xu ⟨g4,EL,EM,rfl,wz⟩;have k6:=(wz.cU 0 2);refine xI 13 Y Y k6<|Dn ⟨g4,EL,EM,Y,wz⟩ Y
  refine O2 7 11 Y Y ?_ ?_
  ·refine gX Y (find_ok _ (H1.s s6) it.A hzs.2.1 hzs.2.2.1) ?_;rintro _ Z0 ⟨adO,adP,rfl,h14⟩;have wB:=H1.c1 h14;have aIx:=(wB.s s0).bH;have k7:=(wB.rm s0);refine aQ k7<|kX 8 Y Y k7<|zL 9 Y (vs:=[.agg #[aF ((aU m.aA it.A).ID),aF ((aU m.aA it.A).aB),gK ((aU m.aA it.A).Sum),.slice adO (((aU m.aA it.A).aD).length) adP],.bool (gY m.aA it.A)]) Y Y k7<|zL 10 Y (vs:=[.agg #[aF ((aU m.aA it.A).ID),aF ((aU m.aA it.A).aB),gK ((aU m.aA it.A).Sum),.slice adO (((aU m.aA it.A).aD).length) adP],.bool (gY m.aA it.A)]) Y Y k7<|O1 11 Y<|al lU Y wB λg6 Z4 zB=>?_
   have k8:=(zB.cU 0 2);refine aQ k8<|O1 12 Y<|sty Y zB s0 Y λw16 BR=>?_
   have k9:=(BR.cU 0 2);exact Kj hS1 k9 ⟨g6,adO,adP,Y,BR⟩ Y
  ·refine al lU Y H1 λg7 w17 yB=>?_;have k10:=(yB.rm s0);refine aQ k10<|O1 7 Y<|gX Y (find_ok _ (yB.s s7) it.A hzs.2.1 hzs.2.2.1) ?_
   rintro _ w18 ⟨adQ,adR,rfl,h18⟩;have ET:=yB.c1 h18;have aIy:=(ET.s s0).bH;have k11:=(ET.cU 0 2);refine aQ k11<|kX 8 Y Y k11<|zL 9 Y (vs:=[.agg #[aF ((aU m.aA it.A).ID),aF ((aU m.aA it.A).aB),gK ((aU m.aA it.A).Sum),.slice adQ (((aU m.aA it.A).aD).length) adR],.bool (gY m.aA it.A)]) Y Y k11<|zL 10 Y (vs:=[.agg #[aF ((aU m.aA it.A).ID),aF ((aU m.aA it.A).aB),gK ((aU m.aA it.A).Sum),.slice adQ (((aU m.aA it.A).aD).length) adR],.bool (gY m.aA it.A)]) Y Y k11<|O1 12 Y<|sty Y ET s1 Y λw19 Cc=>?_
   have k12:=(Cc.cU 0 2);exact Kj hS1 k12 ⟨g7,adQ,adR,Y,Cc⟩ Y
 rintro _ w20 ⟨tN,jR,jO,rfl,C8⟩;refine bQ Y<|dn<|cjz C8 (λ_ K=>K.rm s2) (λl0 rk lJ wJ=>lJ=l0/\∃(x:fV),x.Client=0/\(x.Kind=3∨x.Kind=4)/\rO m it=x/\Hp b S wJ (dY g3 120 [aF x.Client,aF x.Seq,aF x.Kind,aF x.A,aF x.B,aF x.C]::rk)) ?_ λtl=>bK Y (λCB=>?_) (λCB=>?_)
 ·rintro _ _ ⟨rfl,x,hx0,hxk,hX,FH⟩;obtain⟨m1,h1⟩:∃ y,(dD m x).1=y:=⟨_,rfl⟩;obtain⟨e1,h2⟩:∃ y,(dD m x).2=y:=⟨_,rfl⟩;have hnd:m1.aT=m.aT:=h1▸ag7 hm hx0 hxk;have hm2:mD m1=true:=h1▸Ez hm _;obtain⟨al9,hal⟩:∃ y,(((LJ s.eF aN r.jV).map fK.Node).filter fun(x:Int)=>!(!PO (kH hs) x))=y:=⟨_,rfl⟩;obtain⟨tg,htg⟩:∃ y,sW m1.aT al9 r.nE.toNat (oH m.aA m1.aT) []=y:=⟨_,rfl⟩;refine He FH (λ_ K=>K) (λl0 rk lJ wJ=>∃(gj2:Nat)(ql:ah)(cj2:Nat)(wF:ah)(vM:Nat)(CF:ah)(CG:Nat),lJ=(10,gD gj2)::(11,aF e1)::l0/\Hp b S wJ (dY gj2 45 [.slice ql (m1.aT.length) cj2,.slice wF (m1.aA.length) vM,.slice CF (m1.aP.length) CG]::dP cZ ql cj2 m1.aT::dP bJ wF vM m1.aA::dP bX CF CG m1.aP::rk)) (λhns H2=>?_) ?_
  ·refine Ci 0 s5 Y H2<|SX 1 je 0 Ak Y H2<|lD 3 Y (λ_ hK=>D6 (cs':=[.slice A1 m.aT.length c1,.slice A2 m.aA.length c2,.slice A3 m.aP.length c3]) sG Y Y (hK.x s6) Y) H2<|lD 4 Y (λ_ hK=>dU CO Y Y (hK.x s0)) H2<|Jn H2 (λl0 rk lJ wJ=>∃(g8:Nat)(zV:ah)(zW:Nat)(JN:ah)(JO:Nat)(JQ:ah)(JR:Nat),lJ=(10,gD g8)::(52,aF e1)::l0/\Hp b S wJ (dY g8 45 [.slice zV (m1.aT.length) zW,.slice JN (m1.aA.length) JO,.slice JQ (m1.aP.length) JR]::dP cZ zV zW m1.aT::dP bJ JN JO m1.aA::dP bX JQ JR m1.aP::rk)) 1 2047 ?_ λhS2=>?_
   ·rintro _ w28 ⟨g8,zV,zW,JN,JO,JQ,JR,rfl,FJ⟩;have k18:=(FJ.cU 0 4);refine xI 11 Y Y k18<|Dn ⟨g8,zV,zW,JN,JO,JQ,JR,Y,FJ⟩ Y
   refine O2 5 9 Y Y ?_ ?_
   ·refine gX Y (by have h:=Ru _ m (H2.s s7) (H2.s s8) (H2.s s9) x hzs; rwa [h1,h2] at h) ?_;rintro _ w29 ⟨adS,adT,adU,adV,adW,adX,rfl,h29⟩;have Lx:=H2.c3 h29;have aAJ:=(Lx.s s0).bH;have aIB:=(Lx.s s1).bH;have aIC:=(Lx.s s2).bH;have k19:=(Lx.cU 0 3);refine aQ k19<|kX 6 Y Y k19<|lD 7 Y (λ_ _=>wS (vs:=[.agg #[.slice adS (m1.aT.length) adT,.slice adU (m1.aA.length) adV,.slice adW (m1.aP.length) adX],aF e1]) Y Y) k19<|lD 8 Y (λ_ _=>wS (vs:=[.agg #[.slice adS (m1.aT.length) adT,.slice adU (m1.aA.length) adV,.slice adW (m1.aP.length) adX],aF e1]) Y Y) k19<|O1 9 Y<|al yL Y Lx λg10 w30 KC=>?_
    have k20:=(KC.cU 0 4);refine aQ k20<|O1 10 Y<|sty Y KC s0 Y λw31 QC=>?_
    have k21:=(QC.cU 0 4);exact Kj hS2 k21 ⟨g10,adS,adT,adU,adV,adW,adX,Y,QC⟩ Y
   ·refine al yL Y H2 λg11 w32 OC=>?_;have k22:=(OC.rm s0);refine aQ k22<|O1 5 Y<|gX Y (by have h:=Ru _ m (OC.s s8) (OC.s s9) (OC.s s10) x hzs; rwa [h1,h2] at h) ?_
    rintro _ w33 ⟨adY,adZ,ad1,ad2,ad3,ad4,rfl,h33⟩;have Xy:=OC.c3 h33;have aAK:=(Xy.s s0).bH;have aIE:=(Xy.s s1).bH;have aIF:=(Xy.s s2).bH;have k23:=(Xy.cU 0 4);refine aQ k23<|kX 6 Y Y k23<|lD 7 Y (λ_ _=>wS (vs:=[.agg #[.slice adY (m1.aT.length) adZ,.slice ad1 (m1.aA.length) ad2,.slice ad3 (m1.aP.length) ad4],aF e1]) Y Y) k23<|lD 8 Y (λ_ _=>wS (vs:=[.agg #[.slice adY (m1.aT.length) adZ,.slice ad1 (m1.aA.length) ad2,.slice ad3 (m1.aP.length) ad4],aF e1]) Y Y) k23<|O1 10 Y<|sty Y Xy s3 Y λw34 K34=>?_
    have k24:=(K34.cU 0 4);exact Kj hS2 k24 ⟨g11,adY,adZ,ad1,ad2,ad3,ad4,Y,K34⟩ Y
  rintro _ w35 ⟨gj2,ql,cj2,wF,vM,CF,CG,rfl,K35⟩;refine aW<|bQ Y<|ev (fC Y Y)<|dn<|bK Y (λag8=>?_) (λag8=>?_)
  ·replace ag8:=gW ag8;refine bQ Y<|ev (Ev.neg Y (wQ (by have:=NT hm hx0; omega) (by have:=NT hm hx0; omega)))<|bU rfl<|uX rfl ?_
   have hop:rC (⟨m,s,r,aN,eD,kH hs⟩:PC) it=((⟨m,s,r,aN,eD,kH hs⟩:PC),-e1):=asD hX h1 h2 ag8;rw [show(rC (⟨m,s,r,aN,eD,kH hs⟩:PC) it).1.m=m from by rw [hop]];rw [show(rC (⟨m,s,r,aN,eD,kH hs⟩:PC) it).2=-e1 from by rw [hop]];exact⟨A1,c1,A2,c2,A3,c3,hs,Y,(by rw [hop]),(K35.cU 0 10)⟩
  replace ag8:=iJ ag8;refine jm ?_;refine rg<|ev (rW Y)<|bU Y<|He K35 (λ_ K=>K) (λl0 rk lJ wJ=>∃(Aj5:ah)(cj5:Nat),lJ=(13,.slice Aj5 (al9.length) cj5)::l0/\Hp b S wJ (aS dQ 3 Aj5 cj5 al9::rk)) (λhns H3=>?_) ?_
  ·refine Ci 0 s9 Y H3<|SX 1 je 3 Am Y H3<|ng 3 4 je 3 FM s10 Y H3<|Ci 5 s9 Y H3<|SX 6 je 12 BI Y H3<|Ci 8 s10 Y H3<|Ci 9 s9 Y H3<|SX 10 je 6 VU Y H3<|ng 12 13 je 6 acG s10 Y H3<|kX 15 Y Y H3<|O1 14 Y<|gX Y (OG _ (H3.s s14).any aN r.jV (lV hb au)) ?_
   rintro _ w36 ⟨asE,asF,rfl,h36⟩;have Zl:=H3.f1 h36;have aAL:=(Zl.o s0).bH;have k25:=(Zl.rm s0);refine aQ k25<|O1 16 Y<|gX Y (by have h:=oW (kd:=[gD g1]) Zl aAI (fun(x:Int)=>!PO (kH hs) x) (λw9 ys x9 _ K9=>(ajC (S0:=Any) w9 x9 ((K9.mV 0 10).mV 10 10)).mono (by rintro _ _ ⟨rfl,h8⟩; exact⟨rfl,h8.ext⟩)) aj; rwa [hal] at h) ?_
   rintro _ w37 ⟨rfl,K37⟩;have k26:=(K37.rm s0);refine aQ k26<|xI 17 Y Y k26<|Dn ⟨asE,asF,Y,K37⟩ Y
  rintro _ w38 ⟨Aj5,cj5,rfl,K38⟩;refine iZ Y<|aW ?_
  have H4:=K38.fz s8;refine He H4 (λ_ K=>K) (λl0 rk lJ wJ=>∃(Aj6:ah)(cj6:Nat),lJ=(91,.slice Aj6 (tg.length) cj6)::(92,aF ((tg.length:Nat):Int))::(93,aF 0)::l0/\Hp b S wJ (aS dQ 3 Aj6 cj6 tg::rk)) (λhns H5=>?_) ?_
  ·refine ng 0 1 gj2 0 pY s2 Y H5<|kX 2 Y Y H5<|Ci 3 s10 Y H5<|SX 4 je 0 Ak Y H5<|ng 6 7 je 1 jE s11 Y H5<|ng 8 9 gj2 0 pY s2 Y H5<|Ci 11 s10 Y H5<|SX 12 je 6 VU Y H5<|ng 14 15 je 9 QV s11 Y H5<|kX 18 Y Y H5<|O1 10 Y<|gX Y (TB _ (H5.s s13).any (H5.s s3).any (by rw [hnd]; exact lV (Hz (iU.1 hm).1) au)) ?_
   rintro _ w39 ⟨aKv,aKw,rfl,h39⟩;have K39:=H5.f1 h39;have k27:=(K39.rm s0);refine aQ k27<|O1 16 Y<|gX Y (by have h:=av1 _ (K39.s s4).any (K39.o s2) (K39.o s0) (vC:=none) (vD:=0) (dw:=([]:List Int)) (DV dQ Any _) r.nE (by rw [hnd]; exact lV (Hz (iU.1 hm).1) au) (asz (by rw [hnd]; exact(iU.1 hm).1)) av aj (awm (iU.1 hm).2.1); rwa [htg] at h) ?_
   rintro _ w40 ⟨aqF,aqG,rfl,h40⟩;have K40:=K39.f1 h40;have k28:=(K40.cU 0 2);refine aQ k28<|lD 17 Y (λ_ _=>eU fB Y) k28<|Dn ⟨aqF,aqG,Y,(K40.rm s1)⟩ Y
  rintro _ w41 ⟨Aj6,cj6,rfl,K41⟩;refine cB ?_;have H6:=K41.nil dQ 3;have eO:(([]:List Int):List Int)=[]:=by rfl
  refine lC (t:=14) Y (aR (λz=>Value.slice none (List.length z) 0) eO) ?_;have H7:=H6.nil dQ 3;refine Lp ((H7.rm (sx 22)).cU 0 2) (λl0 rk mJ lJ wJ=>∃(k:Nat)(hs1:kK)(td:List Int)(A14:ah)(c14:Nat),lJ=(14,.slice A14 td.length c14)::(93,aF ((k:Nat):Int))::l0/\mJ=tg.length - k/\k<=tg.length/\((kH hs1,td)=(tg.take k).foldl (vL it.A e1 (E9 it.A it.B) (nH it.A it.B)) (kH hs,[]))/\(∀ z h,fI z hs1=some h->h.l.length<=900+k)/\(∀ z,(fI z hs).isSome=true->(fI z hs1).isSome=true)/\(td.length<=k)/\Hp b S wJ (aS dQ 3 A14 c14 td::jP gm hs1::rk)) ⟨0,hs,[],none,0,Y,Y,fJ _,by rfl,by intro z h hh; have:=hz z h hh; omega,by intro z hz; exact hz,av,(((H7.rm s1).mV 1 20).mV 20 2)⟩ rfl ?_;rintro _ _ w42 ⟨k,hs1,td,A14,c14,rfl,rfl,hk,hf,hzl,hns,htl,K42⟩;refine rg<|ev (fC Y Y)<|dn<|WP.cond Y (λGI=>?_) (λGI=>?_)
  ·replace GI:=gW GI;refine jm ?_;refine aW<|cB<|rg ?_
   obtain⟨x1,bP⟩:=bC (xs:=tg) (i:=k) aj;refine ev (cu (i:=k) fB rZ Y Y Y (aJ bP) ((K42.o s2).some_ bP))<|ev (iL jD Y ((K42.o s2).fF (j:=0) bP Y))<|bU Y ?_
   rcases hg1:fI x1 hs1 with _ | ⟨Zz,gs1,Xt,Ah1,ch1,VT,YQ,l1,es1⟩
   ·exfalso; obtain⟨nd,aD0,hid⟩:=ag5 _ _ _ _ (htg▸bT bP); rw [hnd] at aD0; have h5:=hns _ (hN nd aD0); rw [hid,hg1] at h5; cases h5
   ·have aNm:tg.length<=r.nE.toNat:=htg▸agS _ _ _ _ _;refine He K42 (λ_ K=>(K.rm s1)) (λl0 rk lJ wJ=>∃(Aj8:ah)(cj8:Nat)(Aj9:ah)(cj9:Nat),lJ=(108,.bool (Sn l1 YQ it.A e1 ((iM (nH it.A it.B)).toNat:Int) (nH it.A it.B)))::l0/\Hp b S wJ (jP gm (iy x1 (⟨Zz,gs1,Xt,Aj8,cj8,VT,YQ,(Ig l1 YQ it.A e1 ((iM (nH it.A it.B)).toNat:Int) (nH it.A it.B)),(tkM l1 YQ it.A e1 ((iM (nH it.A it.B)).toNat:Int) (nH it.A it.B) Aj9 cj9 es1)⟩:lZ) hs1)::rk)) (λhns H8=>?_) ?_
    ·have k29:=(H8.rm s1);refine Ci 0 s12 Y k29<|SX 1 je 13 uW Y k29<|Ci 3 s13 Y k29<|kX 4 Y Y k29<|ng 6 7 g2 1 nV s11 Y k29<|kX 8 Y Y k29<|kX 9 Y Y k29<|kX 10 Y Y k29<|O1 5 Y<|ev (Ev.hS H8 s1 hg1 EJ yZ vO Y Y)<|aQ k29<|O1 11 Y ?_
     have H9:=H8.wO s1 hg1;have H10:=H9.push (H9.s s8);refine gX Y (abn ((H10.sel s0).mV 1 5) it.A e1 ((iM (nH it.A it.B)).toNat:Int) (by have h9:=hzl _ _ hg1; have h8:=aJ bP; simp only at h9; omega)) ?_;rintro _ w43 ⟨aD1,aD2,aD3,aD4,rfl,K43⟩;have H11:=JC hg1 K43;have k30:=(H11.rm s0);refine aQ k30<|Dn ⟨aD1,aD2,aD3,aD4,Y,H11⟩ Y
    rintro _ w44 ⟨Aj8,cj8,Aj9,cj9,rfl,K44⟩;refine bK Y (λag9=>?_) (λag9=>?_)
    ·refine jy<|mv Y<|mv Y<|Az (τ:=dQ) (x:=x1) Y (by intro _; apply pW) rfl K44 (λ_ _=>rfl) λg12 w45 K45=>ap (ys:=([x1]:List Int)) K45 s2 rfl rfl (K45.o s0) fB Lh aj av rfl λoL oM w46 K46=>iI rfl<|jA<|iE (gG ?_)
     refine jy<|ev (dO Y Y)<|mv Y<|jA<|dI ⟨(k+1),(iy x1 (⟨Zz,gs1,Xt,Aj8,cj8,VT,YQ,(Ig l1 YQ it.A e1 ((iM (nH it.A it.B)).toNat:Int) (nH it.A it.B)),(tkM l1 YQ it.A e1 ((iM (nH it.A it.B)).toNat:Int) (nH it.A it.B) Aj9 cj9 es1)⟩:lZ) hs1),(td++([x1]:List Int)),oL,oM,Y,Y,aj,by rw [fD bP,yU,<- hf]; show _=vL _ _ _ _ _ _; rw [abu (show fI x1 (kH hs1)=some _ from by rw [jI,hg1]; rfl),Aj]; unfold lZ.pl; simp only; rw [ak1,show E9 it.A it.B=((iM (nH it.A it.B)).toNat:Int) from rfl]; first | rw [aO ag9] | rw [aK (by rw [ag9]; decide)],by intro z h hh; exact ale (Q:=λh=>h.l.length<=900+(k+1)) (λz h hh=>by have:=hzl z h hh; omega) (by have h1:=hzl _ _ hg1; have h2:=alf l1 YQ it.A e1 (E9 it.A it.B) (nH it.A it.B); simp only at h1; show(Ig _ _ _ _ _ _).length<=_; first | exact lV h2 aj | omega) z h hh,by intro z hz; exact ag6 (hns z hz),by first | (rw [jd]; simp only [pF,rH]; omega) | omega,(K46.rm s1)⟩ rfl aj
    refine xQ ?_;refine jy<|ev (dO Y Y)<|mv Y<|jA<|dI ⟨(k+1),(iy x1 (⟨Zz,gs1,Xt,Aj8,cj8,VT,YQ,(Ig l1 YQ it.A e1 ((iM (nH it.A it.B)).toNat:Int) (nH it.A it.B)),(tkM l1 YQ it.A e1 ((iM (nH it.A it.B)).toNat:Int) (nH it.A it.B) Aj9 cj9 es1)⟩:lZ) hs1),td,A14,c14,Y,Y,aj,by rw [fD bP,yU,<- hf]; show _=vL _ _ _ _ _ _; rw [abu (show fI x1 (kH hs1)=some _ from by rw [jI,hg1]; rfl),Aj]; unfold lZ.pl; simp only; rw [ak1,show E9 it.A it.B=((iM (nH it.A it.B)).toNat:Int) from rfl]; first | rw [aO ag9] | rw [aK (by rw [ag9]; decide)],by intro z h hh; exact ale (Q:=λh=>h.l.length<=900+(k+1)) (λz h hh=>by have:=hzl z h hh; omega) (by have h1:=hzl _ _ hg1; have h2:=alf l1 YQ it.A e1 (E9 it.A it.B) (nH it.A it.B); simp only at h1; show(Ig _ _ _ _ _ _).length<=_; first | exact lV h2 aj | omega) z h hh,by intro z hz; exact ag6 (hns z hz),by first | (rw [jd]; simp only [pF,rH]; omega) | omega,((K44.sel s0).sel s1)⟩ rfl aj
  replace GI:=iJ GI;refine wE ?_;refine aW<|bQ Y<|ev (eU fB Y)<|ev (iA Y Y)<|dn<|bK Y (λYX=>?_) (λYX=>?_)
  ·replace YX:=gW YX;refine iZ Y<|uX Y ?_
   have hf2:=hf;rw [iH aj] at hf2;have hop:rC (⟨m,s,r,aN,eD,kH hs⟩:PC) it=((⟨m,s,r,aN,eD,kH hs1⟩:PC),7):=an6 (tg:=tg) hX h1 h2 ag8 (by rw [<- htg,<- hal]; rfl) hf2 (uE aj);rw [show(rC (⟨m,s,r,aN,eD,kH hs⟩:PC) it).1.m=m from by rw [hop]];rw [show(rC (⟨m,s,r,aN,eD,kH hs⟩:PC) it).2=7 from by rw [hop]];exact⟨A1,c1,A2,c2,A3,c3,hs1,Y,(by rw [hop]),((((K42.cU 2 12).rm s0).sel s0).mV 1 8)⟩
  replace YX:=iJ YX;refine jm ?_;refine rg<|nO K42 s13 Y<|ev (dU sG Y Y (K42.x s5))<|ev (eX Y)<|yA je 0 Ak Y<|stp Y Y Y aqH K42 s14 Y Y Y λw47 K47=>dn<|aW<|bQ Y<|ev (eU fB Y)<|mv Y<|dn<|cB ?_
  have aNn:=(K47.o s1).bH;refine Lp ((K47.cU 7 3).rm s0) (λl0 rk mJ lJ wJ=>∃(kb:Nat)(B1:ah)(d1:Nat)(B2:ah)(d2:Nat)(B3:ah)(d3:Nat),lJ=(123,aF ((kb:Nat):Int))::l0/\mJ=td.length - kb/\kb<=td.length/\Hp b S wJ (dP cZ B1 d1 ((AP m1 ((td.take kb).map fun(z:Int)=>y7 it.A z e1)).aT)::dP bJ B2 d2 ((AP m1 ((td.take kb).map fun(z:Int)=>y7 it.A z e1)).aA)::dP bX B3 d3 ((AP m1 ((td.take kb).map fun(z:Int)=>y7 it.A z e1)).aP)::Iq je B1 d1 B2 d2 B3 d3 A4 c4 A5 c5 A6 c6 A7 c7 (AP m1 ((td.take kb).map fun(z:Int)=>y7 it.A z e1)) s r aN gm eD::rk)) ⟨0,ql,cj2,wF,vM,CF,CG,Y,Y,fJ _,((K47.mV 0 7).mV 7 3)⟩ Y ?_;rintro _ _ w48 ⟨kb,B1,d1,B2,d2,B3,d3,rfl,rfl,hkb,K48⟩;refine rg<|ev (fC Y Y)<|dn<|WP.cond Y (λaha=>?_) (λaha=>?_)
  ·replace aha:=gW aha;refine jm ?_;refine aW<|cB<|rg ?_
   obtain⟨x2,kZ⟩:=bC (xs:=td) (i:=kb) aj;refine ev (cu (i:=kb) fB rZ Y Y Y (aJ kZ) ((K48.o s4).some_ kZ))<|ev (iL jD Y ((K48.o s4).fF (j:=0) kZ Y))<|bU Y<|jy<|nO K48 s14 Y<|jT g2 1 nV K48 s13 Y<|mv Y<|mv Y<|ev (iY (vs:=[(2,aF 5),(3,aF it.A),(4,aF x2),(5,aF e1)]) (cs:=[aF 0,aF 0,aF 5,aF it.A,aF x2,aF e1]) Y (by apply qQ))<|gX rfl (zx (m:=(AP m1 ((td.take kb).map fun(z:Int)=>y7 it.A z e1))) (s:=s) (r:=r) ((((((K48.mV 6 12).sel (sx 16)).sel (sx 17)).mV 18 4).mV 18 3).sel (sx 21)) (⟨0,0,5,it.A,x2,e1⟩:fV) (VR hm2 _) rfl) ?_
   rintro _ w49 ⟨aD5,aD6,aD7,aD8,aD9,aEa,rfl,K49⟩;refine jA<|iE (gG ?_)
   refine jy<|ev (dO Y Y)<|mv Y<|jA ?_
   have H12:=K49;rw [show(uD (AP m1 ((td.take kb).map fun(z:Int)=>y7 it.A z e1)) (⟨0,0,5,it.A,x2,e1⟩:fV))=(AP m1 ((td.take (kb+1)).map fun(z:Int)=>y7 it.A z e1)) from by rw [an5 kZ]] at H12;exact dI ⟨(kb+1),aD5,aD6,aD7,aD8,aD9,aEa,Y,Y,aj,((((((H12.mV 4 4).mV 10 12).sel (sx 20)).sel (sx 21)).sel (sx 18)).mV 19 3)⟩ rfl aj
  replace aha:=iJ aha;refine wE ?_;refine iZ Y<|jc Y ?_
  have hf2:=hf;rw [iH aj] at hf2;have hop:rC (⟨m,s,r,aN,eD,kH hs⟩:PC) it=((⟨(AP m1 (td.map fun(z:Int)=>y7 it.A z e1)),s,r,aN,eD,kH hs1⟩:PC),0):=an7 (tg:=tg) hX h1 h2 ag8 (by rw [<- htg,<- hal]; rfl) hf2 (λh0=>by have h1:td=[]:=h0; rw [h1] at YX; exact YX rfl);have H13:=K48;rw [show(AP m1 ((td.take kb).map fun(z:Int)=>y7 it.A z e1))=(AP m1 (td.map fun(z:Int)=>y7 it.A z e1)) from by rw [iH aj]] at H13;rw [show(rC (⟨m,s,r,aN,eD,kH hs⟩:PC) it).1.m=(AP m1 (td.map fun(z:Int)=>y7 it.A z e1)) from by rw [hop]];rw [show(rC (⟨m,s,r,aN,eD,kH hs⟩:PC) it).2=0 from by rw [hop]];exact⟨B1,d1,B2,d2,B3,d3,hs1,Y,(by rw [hop]),((((((H13.cU 6 12).rm s4).sel s4).mV 5 4).mV 5 3).sel s8)⟩
 ·refine jy<|yA g3 2 Yr Y<|xP Y C8 s2 Y λw21 FH=>jA<|gG ?_
  exact(tl _ _ ⟨Y,⟨0,0,4,it.A,(((iM (nH it.A it.B)).toNat:Nat):Int),0⟩,Y,.inr Y,by unfold rO; rw [aO CB]; rfl,FH⟩).kz rfl
 exact ze (gG (tl _ _ ⟨Y,⟨0,0,3,it.A,(((iM (nH it.A it.B)).toNat:Nat):Int),0⟩,Y,.inl Y,by unfold rO; rw [aK (by simpa using CB)]; rfl,C8.sel s2⟩))
end Go.Proofs.YtlhnnmlenkahlaaGreat
