/- Lemmas. -/
import Derived.Test.YtlhnnmlenkahlaaGreatvG25
set_option maxRecDepth 4000
set_option linter.all false
namespace Go.Proofs.YtlhnnmlenkahlaaGreat
open Go.RowKit Go.Proofs.Tryz
variable {κ ν:Type}{m:dU}{it:AItem}{X:gD}{q:ru × List Int}{s:iM}{r:ARules}{aN:Int}{dR:List aM}{hs:ru}{es:List (κ × ν)}
theorem aa2:(prog.underlying 57).isSome=true/\prog.underlying 3=some (.int (prog.intKind 3))/\prog.intKind 3=.i64:=⟨ak,ak,ak⟩
theorem awo:bI prog 100:=ay
theorem aoN{cs:List aI}{ns:List aW}(h:uR ns=true):(oN cs ns).length<=1000:=by
  unfold oN; rw [aO h,jN]; have:=FE h; omega
theorem ar1{cs:List aI}{ns:List aW}(h:lY cs=true):∀ x∈oN cs ns,0<=x.N/\x.N<=1000000:=by
  intro x hx; unfold oN at hx; split at hx
  · obtain⟨n,_,rfl⟩:=jI.1 hx
    have h1:=UR cs n.ID; have h2:=(mQ.1 h).2.1;show 0<=((DX cs n.ID:Nat):Int)/\((DX cs n.ID:Nat):Int)<=1000000; omega
  · exact absurd hx av
theorem YW[DecidableEq κ](k:κ)(v:ν)(es:List (κ × ν)):fH k (gV k v es)=some v:=by
  unfold gV
  split
  · rename_i h
    unfold fH at h ⊢
    have:(es.map λp=>if p.1=k then(k,v) else p).find? (λp=>decide (p.1=k))=some (k,v):=by
      induction es with
      | nil=>simp at h
      | cons p es ih=>
        rw [mO]
        by_cases hp:p.1=k
        · rw [aO hp,F4 av]
        · rw [aK hp,u6 (by simpa using hp)]
          refine ih ?_
          rwa [u6 (by simpa using hp)] at h
    rw [this]; rfl
  · rename_i h
    unfold fH at h ⊢;rw [Gg]
    cases hf:es.find? (λp=>decide (p.1=k)) with
    | none=>simp
    | some q=>rw [hf] at h; exact absurd rfl h
theorem ail[DecidableEq κ]{k:κ}{v:ν}{Q:ν->Prop}(h:∀ z x,fH z es=some x->Q x)(hv:Q v):∀ z x,fH z (gV k v es)=some x->Q x:=λz x hx=>by
  by_cases e:z=k
  · subst e; rw [YW] at hx; cases hx; exact hv
  · rw [Eh e] at hx; exact h z x hx
theorem aey[DecidableEq κ]{k z:κ}{v:ν}(h:(fH z es).isSome=true):(fH z (gV k v es)).isSome=true:=by
  by_cases e:z=k
  · subst e; rw [YW]; rfl
  · rw [Eh e]; exact h
theorem aoO(l:List aH)(c v:Int):(Rb l c v).length<=l.length:=by
  unfold Rb
  split
  · rename_i h
    unfold lu at h ⊢
    split
    · simp
    · rename_i ho
      rw [aK ho] at h;obtain⟨y,h1,h2,_,_⟩:=adO (by simpa using ho);have hl:=aJ h2;refine lG (adP _ _) ?_;have:=vI l
      simp only [iO,fE,kN]; omega
  · exact kH _
theorem ain(l:List aH)(bJ c v sum:Int)(gH:List (BitVec 8)):(KM l bJ c v sum gH).length<=l.length+1:=by
  have h:=aem l bJ c v sum gH;unfold KM; split
  · exact lG (aoO _ _ _) h
  · exact h
theorem aez(hm:qz m=true){x:gD}(hx:x.Client=0)(hk:x.Kind=3∨x.Kind=4):(dO m x).1.aY=m.aY:=by
  rw [ah7 hm hx];show(EN m x).1=_
  rcases hk with h | h
  · rw [VU h]
  · rw [VW h]
theorem akH{l:List Int}{f:Int->gD}{k:Nat}{z:Int}(h:l[k]? = some z):FU m ((l.take (k+1)).map f)=AU (FU m ((l.take k).map f)) (f z):=by
  unfold FU; rw [fI h,pR,xD]; rfl
theorem ar2{c:PC}(hX:AX c.m it=X)(h:(dO c.m X).2<0):vB c it=(c,-(dO c.m X).2):=by
  unfold vB; rw [hX,aO h]
theorem aoP{c:PC}(hX:AX c.m it=X)(h:¬ (dO c.m X).2<0)(hq:q=(agH c (dO c.m X).1).foldl (Nb it.A (dO c.m X).2 (Rj it.A it.B) (oh it.A it.B)) (c.hs,[]))(h0:q.2=[]):vB c it=({ c with hs:=q.1 },7):=by
  have:XP c it=q:=by unfold XP; rw [hX,hq]
  unfold vB; rw [this,hX,aK h,aO h0]
theorem aoQ{c:PC}(hX:AX c.m it=X)(h:¬ (dO c.m X).2<0)(hq:q=(agH c (dO c.m X).1).foldl (Nb it.A (dO c.m X).2 (Rj it.A it.B) (oh it.A it.B)) (c.hs,[]))(h0:¬ q.2=[]):vB c it=({ c with m:=FU (dO c.m X).1 (q.2.map λz=>IC it.A z (dO c.m X).2),hs:=q.1 },0):=by
  have:XP c it=q:=by unfold XP; rw [hX,hq]
  unfold vB; rw [this,hX,aK h,aK h0]
theorem aoR{m1:dU}{e1:Int}(hX:AX m it=X)(h1:(dO m X).1=m1)(h2:(dO m X).2=e1)(h:e1<0):vB ⟨m,s,r,aN,dR,hs⟩ it=(⟨m,s,r,aN,dR,hs⟩,-e1):=by subst h2; exact ar2 (c:=⟨m,s,r,aN,dR,hs⟩) hX h
theorem akI{q:ru}{tg td:List Int}{m1:dU}{e1:Int}(hX:AX m it=X)(h1:(dO m X).1=m1)(h2:(dO m X).2=e1)(h:¬ e1<0)(htg:agH ⟨m,s,r,aN,dR,hs⟩ m1=tg)
    (hf:(q,td)=tg.foldl (Nb it.A e1 (Rj it.A it.B) (oh it.A it.B)) (hs,[])) (h0:td=[]):vB ⟨m,s,r,aN,dR,hs⟩ it=(⟨m,s,r,aN,dR,q⟩,7):=by subst h1 h2; exact aoP (c:=⟨m,s,r,aN,dR,hs⟩) (q:=(q,td)) hX h (by subst htg; exact hf) h0
theorem akJ{q:ru}{tg td:List Int}{m1:dU}{e1:Int}(hX:AX m it=X)(h1:(dO m X).1=m1)(h2:(dO m X).2=e1)(h:¬ e1<0)(htg:agH ⟨m,s,r,aN,dR,hs⟩ m1=tg)
    (hf:(q,td)=tg.foldl (Nb it.A e1 (Rj it.A it.B) (oh it.A it.B)) (hs,[])) (h0:¬ td=[]):vB ⟨m,s,r,aN,dR,hs⟩ it=(⟨FU m1 (td.map fun(z:Int)=>IC it.A z e1),s,r,aN,dR,q⟩,0):=by subst h1 h2; exact aoQ (c:=⟨m,s,r,aN,dR,hs⟩) (q:=(q,td)) hX h (by subst htg; exact hf) h0
theorem akK{b w:World}{S:Nat->Prop}{F:List lC}{iT:Nat}{A1 A2 A3 A4 A5 A6 A7:ah}{c1 c2 c3 c4 c5 c6 c7 gm:Nat}{hs:jV}(H0:Hp b S w (Iu iT A1 c1 A2 c2 A3 c3 A4 c4 A5 c5 A6 c6 A7 c7 m s r aN gm dR::dP bX A1 c1 m.aY::dP bH A2 c2 m.aA::dP bZ A3 c3 m.aQ::dP iL A4 c4 s.dX::dP dB A5 c5 s.bY::dP bF A6 c6 s.dM::aR bF 112 A7 c7 dR::jF gm hs::F))(it:AItem)(hm:qz m=true)(hu:0<=aN/\aN<=549755813888)(hb:s.dX.length<=1000)(hr:nM r=true)(hz:∀ z h,fH z hs=some h->h.l.length<=900)(hN:∀ n∈m.aY,(fH n.ID hs).isSome=true) :
    bO prog 44 #[fP iT,.agg #[aD it.Kind,aD it.A,aD it.B,aD it.C]] w λv w'=>∃(B1:ah)(d1:Nat)(B2:ah)(d2:Nat)(B3:ah)(d3:Nat)(hs1:jV),v=aD ((vB (⟨m,s,r,aN,dR,jR hs⟩:PC) it).2)/\jR hs1=(vB (⟨m,s,r,aN,dR,jR hs⟩:PC) it).1.hs/\Hp b S w' (Iu iT B1 d1 B2 d2 B3 d3 A4 c4 A5 c5 A6 c6 A7 c7 ((vB (⟨m,s,r,aN,dR,jR hs⟩:PC) it).1.m) s r aN gm dR::dP bX B1 d1 (((vB (⟨m,s,r,aN,dR,jR hs⟩:PC) it).1.m).aY)::dP bH B2 d2 (((vB (⟨m,s,r,aN,dR,jR hs⟩:PC) it).1.m).aA)::dP bZ B3 d3 (((vB (⟨m,s,r,aN,dR,jR hs⟩:PC) it).1.m).aQ)::dP iL A4 c4 s.dX::dP dB A5 c5 s.bY::dP bF A6 c6 s.dM::aR bF 112 A7 c7 dR::jF gm hs1::F):=by
 refine sF func44 ntmps44 Y ?_;have hbd:=zA hr;have hzs:=Ee hm;have hdl:((Ju s.dX aN r.ku).map eZ.Node).length<=1000:=by rw [jN]; unfold Ju; exact lG (lX _ _) (lG (Fh _) hb)
 refine rg<|bx Y Y H0 λg1 w1 K1=>bx Y Y K1 λg2 w2 K2=>bS Y<|rg<|jD g2 1 nI K2 s0 Y<|jD g2 2 TD K2 s0 Y<|gW Y (aoM (S0:=Any) _ it.A it.B) ?_
 rintro _ w3 ⟨mR,mU,rfl,h3⟩;have K3:=K2.f1 h3;have alL:=(K3.o s0).bN;refine bS Y<|bQ Y<|lF K3 Y (V9 _ (K3.o s0)) λw4 K4=>bS Y<|rg<|jD g2 1 nI K4 s1 Y<|mv Y<|ev (zi (m:=(iV (oh it.A it.B)).toNat) aa2.1 aa2.2.1 aa2.2.2 Y (sS (by have:=(iV (oh it.A it.B)).isLt; omega)))<|ev (iE (vs:=[(2,aD 3),(3,aD it.A),(4,aD (((iV (oh it.A it.B)).toNat:Nat):Int))]) (cs:=[aD 0,aD 0,aD 3,aD it.A,aD (((iV (oh it.A it.B)).toNat:Nat):Int),aD 0]) rfl (by apply wT))<|al Wt rfl K4 λg3 w5 K5=>sty rfl K5 s0 rfl λw6 K6=>dn<|aZ<|He K6 (λ_ K=>K) (λl0 rk lJ wJ=>∃(rH:Nat)(jE:ah)(jB:Nat),lJ=(9,.bool (gU m.aA it.A))::l0/\Hp b S wJ (dJ rH 59 [aD ((aV m.aA it.A).ID),aD ((aV m.aA it.A).aC),fT ((aV m.aA it.A).Sum),.slice jE (((aV m.aA it.A).aF).length) jB]::dP dL jE jB ((aV m.aA it.A).aF)::rk)) (λhns H1=>?_) ?_
 ·refine Ai 0 s3 Y H1<|Qk 1 iT 0 yP Y H1<|mD 3 4 iT 1 kE s4 Y H1<|mD 5 6 g2 1 nI s2 Y H1<|Jn H1 (λl0 rk lJ wJ=>∃(g4:Nat)(aa3:ah)(aa4:Nat),lJ=(41,.bool (gU m.aA it.A))::l0/\Hp b S wJ (dJ g4 59 [aD ((aV m.aA it.A).ID),aD ((aV m.aA it.A).aC),fT ((aV m.aA it.A).Sum),.slice aa3 (((aV m.aA it.A).aF).length) aa4]::dP dL aa3 aa4 ((aV m.aA it.A).aF)::rk)) 1 8191 ?_ λhS1=>?_
  ·rintro _ WO ⟨g4,aa3,aa4,rfl,vC⟩;have k6:=(vC.cU 0 2);refine xJ 13 Y Y k6<|Dn ⟨g4,aa3,aa4,Y,vC⟩ Y
  refine O2 7 11 Y Y ?_ ?_
  ·refine gW Y (find_ok _ (H1.s s6) it.A hzs.2.1 hzs.2.2.1) ?_;rintro _ Xv ⟨aa5,aa6,rfl,h14⟩;have vo:=H1.c1 h14;have aEA:=(vo.s s0).bN;have k7:=(vo.rm s0);refine aP k7<|kT 8 Y Y k7<|yj 9 Y (vs:=[.agg #[aD ((aV m.aA it.A).ID),aD ((aV m.aA it.A).aC),fT ((aV m.aA it.A).Sum),.slice aa5 (((aV m.aA it.A).aF).length) aa6],.bool (gU m.aA it.A)]) Y Y k7<|yj 10 Y (vs:=[.agg #[aD ((aV m.aA it.A).ID),aD ((aV m.aA it.A).aC),fT ((aV m.aA it.A).Sum),.slice aa5 (((aV m.aA it.A).aF).length) aa6],.bool (gU m.aA it.A)]) Y Y k7<|O1 11 Y<|al kZ Y vo λg6 Yg yX=>?_
   have k8:=(yX.cU 0 2);refine aP k8<|O1 12 Y<|sty Y yX s0 Y λw16 Bv=>?_
   have k9:=(Bv.cU 0 2);exact Kj hS1 k9 ⟨g6,aa5,aa6,Y,Bv⟩ Y
  ·refine al kZ Y H1 λg7 w17 xS=>?_;have k10:=(xS.rm s0);refine aP k10<|O1 7 Y<|gW Y (find_ok _ (xS.s s7) it.A hzs.2.1 hzs.2.2.1) ?_
   rintro _ w18 ⟨aa7,aa8,rfl,h18⟩;have FR:=xS.c1 h18;have aEB:=(FR.s s0).bN;have k11:=(FR.cU 0 2);refine aP k11<|kT 8 Y Y k11<|yj 9 Y (vs:=[.agg #[aD ((aV m.aA it.A).ID),aD ((aV m.aA it.A).aC),fT ((aV m.aA it.A).Sum),.slice aa7 (((aV m.aA it.A).aF).length) aa8],.bool (gU m.aA it.A)]) Y Y k11<|yj 10 Y (vs:=[.agg #[aD ((aV m.aA it.A).ID),aD ((aV m.aA it.A).aC),fT ((aV m.aA it.A).Sum),.slice aa7 (((aV m.aA it.A).aF).length) aa8],.bool (gU m.aA it.A)]) Y Y k11<|O1 12 Y<|sty Y FR s1 Y λw19 Bf=>?_
   have k12:=(Bf.cU 0 2);exact Kj hS1 k12 ⟨g7,aa7,aa8,Y,Bf⟩ Y
 rintro _ w20 ⟨rH,jE,jB,rfl,DL⟩;refine bQ Y<|dn<|cjz DL (λ_ K=>K.rm s2) (λl0 rk lJ wJ=>lJ=l0/\∃(x:gD),x.Client=0/\(x.Kind=3∨x.Kind=4)/\AX m it=x/\Hp b S wJ (dJ g3 120 [aD x.Client,aD x.Seq,aD x.Kind,aD x.A,aD x.B,aD x.C]::rk)) ?_ λtl=>bR Y (λQU=>?_) (λQU=>?_)
 ·rintro _ _ ⟨rfl,x,hx0,hxk,hX,Gp⟩;obtain⟨m1,h1⟩:∃ y,(dO m x).1=y:=⟨_,rfl⟩;obtain⟨e1,h2⟩:∃ y,(dO m x).2=y:=⟨_,rfl⟩;have hnd:m1.aY=m.aY:=h1▸aez hm hx0 hxk;have hm2:qz m1=true:=h1▸VZ hm _;obtain⟨al9,hal⟩:∃ y,(((Ju s.dX aN r.ku).map eZ.Node).filter fun(x:Int)=>!(!M9 (jR hs) x))=y:=⟨_,rfl⟩;obtain⟨tg,htg⟩:∃ y,um m1.aY al9 r.qj.toNat (oN m.aA m1.aY) []=y:=⟨_,rfl⟩;refine He Gp (λ_ K=>K) (λl0 rk lJ wJ=>∃(gj2:Nat)(oQ:ah)(cj2:Nat)(wm:ah)(vD:Nat)(Au:ah)(Aw:Nat),lJ=(10,fP gj2)::(11,aD e1)::l0/\Hp b S wJ (dJ gj2 45 [.slice oQ (m1.aY.length) cj2,.slice wm (m1.aA.length) vD,.slice Au (m1.aQ.length) Aw]::dP bX oQ cj2 m1.aY::dP bH wm vD m1.aA::dP bZ Au Aw m1.aQ::rk)) (λhns H2=>?_) ?_
  ·refine Ai 0 s5 Y H2<|Qk 1 iT 0 yP Y H2<|lH 3 Y (λ_ hK=>Cm (cs':=[.slice A1 m.aY.length c1,.slice A2 m.aA.length c2,.slice A3 m.aQ.length c3]) qO Y Y (hK.x s6) Y) H2<|lH 4 Y (λ_ hK=>dK AA Y Y (hK.x s0)) H2<|Jn H2 (λl0 rk lJ wJ=>∃(g8:Nat)(Eb:ah)(Ec:Nat)(TK:ah)(TL:Nat)(TM:ah)(TN:Nat),lJ=(10,fP g8)::(52,aD e1)::l0/\Hp b S wJ (dJ g8 45 [.slice Eb (m1.aY.length) Ec,.slice TK (m1.aA.length) TL,.slice TM (m1.aQ.length) TN]::dP bX Eb Ec m1.aY::dP bH TK TL m1.aA::dP bZ TM TN m1.aQ::rk)) 1 2047 ?_ λhS2=>?_
   ·rintro _ w28 ⟨g8,Eb,Ec,TK,TL,TM,TN,rfl,Ig⟩;have k18:=(Ig.cU 0 4);refine xJ 11 Y Y k18<|Dn ⟨g8,Eb,Ec,TK,TL,TM,TN,Y,Ig⟩ Y
   refine O2 5 9 Y Y ?_ ?_
   ·refine gW Y (by have h:=OX _ m (H2.s s7) (H2.s s8) (H2.s s9) x hzs; rwa [h1,h2] at h) ?_;rintro _ w29 ⟨aa9,abb,abd,abe,abf,abg,rfl,h29⟩;have Ld:=H2.c3 h29;have awp:=(Ld.s s0).bN;have aEE:=(Ld.s s1).bN;have aEF:=(Ld.s s2).bN;have k19:=(Ld.cU 0 3);refine aP k19<|kT 6 Y Y k19<|lH 7 Y (λ_ _=>vN (vs:=[.agg #[.slice aa9 (m1.aY.length) abb,.slice abd (m1.aA.length) abe,.slice abf (m1.aQ.length) abg],aD e1]) Y Y) k19<|lH 8 Y (λ_ _=>vN (vs:=[.agg #[.slice aa9 (m1.aY.length) abb,.slice abd (m1.aA.length) abe,.slice abf (m1.aQ.length) abg],aD e1]) Y Y) k19<|O1 9 Y<|al yG Y Ld λg10 w30 LG=>?_
    have k20:=(LG.cU 0 4);refine aP k20<|O1 10 Y<|sty Y LG s0 Y λw31 SG=>?_
    have k21:=(SG.cU 0 4);exact Kj hS2 k21 ⟨g10,aa9,abb,abd,abe,abf,abg,Y,SG⟩ Y
   ·refine al yG Y H2 λg11 w32 QD=>?_;have k22:=(QD.rm s0);refine aP k22<|O1 5 Y<|gW Y (by have h:=OX _ m (QD.s s8) (QD.s s9) (QD.s s10) x hzs; rwa [h1,h2] at h) ?_
    rintro _ w33 ⟨abh,abj,abk,abl,abm,abn,rfl,h33⟩;have Xx:=QD.c3 h33;have awq:=(Xx.s s0).bN;have aEH:=(Xx.s s1).bN;have aEI:=(Xx.s s2).bN;have k23:=(Xx.cU 0 4);refine aP k23<|kT 6 Y Y k23<|lH 7 Y (λ_ _=>vN (vs:=[.agg #[.slice abh (m1.aY.length) abj,.slice abk (m1.aA.length) abl,.slice abm (m1.aQ.length) abn],aD e1]) Y Y) k23<|lH 8 Y (λ_ _=>vN (vs:=[.agg #[.slice abh (m1.aY.length) abj,.slice abk (m1.aA.length) abl,.slice abm (m1.aQ.length) abn],aD e1]) Y Y) k23<|O1 10 Y<|sty Y Xx s3 Y λw34 K34=>?_
    have k24:=(K34.cU 0 4);exact Kj hS2 k24 ⟨g11,abh,abj,abk,abl,abm,abn,Y,K34⟩ Y
  rintro _ w35 ⟨gj2,oQ,cj2,wm,vD,Au,Aw,rfl,K35⟩;refine aZ<|bQ Y<|ev (fB Y Y)<|dn<|bR Y (λaeA=>?_) (λaeA=>?_)
  ·replace aeA:=jC aeA;refine bQ Y<|ev (Ev.neg Y (vM (by have:=KN hm hx0; omega) (by have:=KN hm hx0; omega)))<|bS rfl<|vG rfl ?_
   have hop:vB (⟨m,s,r,aN,dR,jR hs⟩:PC) it=((⟨m,s,r,aN,dR,jR hs⟩:PC),-e1):=aoR hX h1 h2 aeA;rw [show(vB (⟨m,s,r,aN,dR,jR hs⟩:PC) it).1.m=m from by rw [hop]];rw [show(vB (⟨m,s,r,aN,dR,jR hs⟩:PC) it).2=-e1 from by rw [hop]];exact⟨A1,c1,A2,c2,A3,c3,hs,Y,(by rw [hop]),(K35.cU 0 10)⟩
  replace aeA:=kg aeA;refine jh ?_;refine rg<|ev (qC Y)<|bS Y<|He K35 (λ_ K=>K) (λl0 rk lJ wJ=>∃(Aj5:ah)(cj5:Nat),lJ=(13,.slice Aj5 (al9.length) cj5)::l0/\Hp b S wJ (aR dL 3 Aj5 cj5 al9::rk)) (λhns H3=>?_) ?_
  ·refine Ai 0 s9 Y H3<|Qk 1 iT 3 yQ Y H3<|mD 3 4 iT 3 D7 s10 Y H3<|Ai 5 s9 Y H3<|Qk 6 iT 12 BJ Y H3<|Ai 8 s10 Y H3<|Ai 9 s9 Y H3<|Qk 10 iT 6 TH Y H3<|mD 12 13 iT 6 ZT s10 Y H3<|kT 15 Y Y H3<|O1 14 Y<|gW Y (LP _ (H3.s s14).any aN r.ku (lG hb au)) ?_
   rintro _ w36 ⟨azW,azX,rfl,h36⟩;have K36:=H3.f1 h36;have aEJ:=(K36.o s0).bN;have k25:=(K36.rm s0);refine aP k25<|O1 16 Y<|gW Y (by have h:=nV (kd:=[fP g1]) K36 awo (fun(x:Int)=>!M9 (jR hs) x) (λw9 ys x9 _ K9=>(agL (S0:=Any) w9 x9 ((K9.mV 0 10).mV 10 10)).mono (by rintro _ _ ⟨rfl,h8⟩; exact⟨rfl,h8.ext⟩)) aj; rwa [hal] at h) ?_
   rintro _ w37 ⟨rfl,K37⟩;have k26:=(K37.rm s0);refine aP k26<|xJ 17 Y Y k26<|Dn ⟨azW,azX,Y,K37⟩ Y
  rintro _ w38 ⟨Aj5,cj5,rfl,K38⟩;refine iY Y<|aZ ?_
  have H4:=K38.fz s8;refine He H4 (λ_ K=>K) (λl0 rk lJ wJ=>∃(Aj6:ah)(cj6:Nat),lJ=(91,.slice Aj6 (tg.length) cj6)::(92,aD ((tg.length:Nat):Int))::(93,aD 0)::l0/\Hp b S wJ (aR dL 3 Aj6 cj6 tg::rk)) (λhns H5=>?_) ?_
  ·refine mD 0 1 gj2 0 nD s2 Y H5<|kT 2 Y Y H5<|Ai 3 s10 Y H5<|Qk 4 iT 0 yP Y H5<|mD 6 7 iT 1 kE s11 Y H5<|mD 8 9 gj2 0 nD s2 Y H5<|Ai 11 s10 Y H5<|Qk 12 iT 6 TH Y H5<|mD 14 15 iT 9 Ov s11 Y H5<|kT 18 Y Y H5<|O1 10 Y<|gW Y (Qx _ (H5.s s13).any (H5.s s3).any (by rw [hnd]; exact lG (FE (nG.1 hm).1) au)) ?_
   rintro _ w39 ⟨aGg,aGh,rfl,h39⟩;have K39:=H5.f1 h39;have k27:=(K39.rm s0);refine aP k27<|O1 16 Y<|gW Y (by have h:=arJ _ (K39.s s4).any (K39.o s2) (K39.o s0) (uy:=none) (uz:=0) (dw:=([]:List Int)) (Cb dL Any _) r.qj (by rw [hnd]; exact lG (FE (nG.1 hm).1) au) (aoN (by rw [hnd]; exact(nG.1 hm).1)) av aj (ar1 (nG.1 hm).2.1); rwa [htg] at h) ?_
   rintro _ w40 ⟨am3,am4,rfl,h40⟩;have K40:=K39.f1 h40;have k28:=(K40.cU 0 2);refine aP k28<|lH 17 Y (λ_ _=>eY fq Y) k28<|Dn ⟨am3,am4,Y,(K40.rm s1)⟩ Y
  rintro _ w41 ⟨Aj6,cj6,rfl,K41⟩;refine cZ ?_;have H6:=K41.nil dL 3;have d9:(([]:List Int):List Int)=[]:=by rfl
  refine kP (t:=14) Y (aS (λz=>Value.slice none (List.length z) 0) d9) ?_;have H7:=H6.nil dL 3;refine Lp ((H7.rm (sx 22)).cU 0 2) (λl0 rk mJ lJ wJ=>∃(k:Nat)(hs1:jV)(td:List Int)(A14:ah)(c14:Nat),lJ=(14,.slice A14 td.length c14)::(93,aD ((k:Nat):Int))::l0/\mJ=tg.length - k/\k<=tg.length/\((jR hs1,td)=(tg.take k).foldl (Nb it.A e1 (Rj it.A it.B) (oh it.A it.B)) (jR hs,[]))/\(∀ z h,fH z hs1=some h->h.l.length<=900+k)/\(∀ z,(fH z hs).isSome=true->(fH z hs1).isSome=true)/\(td.length<=k)/\Hp b S wJ (aR dL 3 A14 c14 td::jF gm hs1::rk)) ⟨0,hs,[],none,0,Y,Y,fK _,by rfl,by intro z h hh; have:=hz z h hh; omega,by intro z hz; exact hz,av,(((H7.rm s1).mV 1 20).mV 20 2)⟩ rfl ?_;rintro _ _ w42 ⟨k,hs1,td,A14,c14,rfl,rfl,hk,hf,hzl,hns,htl,K42⟩;refine rg<|ev (fB Y Y)<|dn<|WP.cond Y (λaoS=>?_) (λaoS=>?_)
  ·replace aoS:=jC aoS;refine jh ?_;refine aZ<|cZ<|rg ?_
   obtain⟨x1,bP⟩:=bC (xs:=tg) (i:=k) aj;refine ev (eU (i:=k) fq sZ Y Y Y (aJ bP) ((K42.o s2).some_ bP))<|ev (jq jG Y ((K42.o s2).fZ (j:=0) bP Y))<|bS Y ?_
   rcases hg1:fH x1 hs1 with _ | ⟨TF,gs1,SF,Ah1,ch1,Sm,TG,l1,es1⟩
   ·exfalso; obtain⟨nd,azY,hid⟩:=aex _ _ _ _ (htg▸dA bP); rw [hnd] at azY; have h5:=hns _ (hN nd azY); rw [hid,hg1] at h5; cases h5
   ·have aIR:tg.length<=r.qj.toNat:=htg▸aec _ _ _ _ _;refine He K42 (λ_ K=>(K.rm s1)) (λl0 rk lJ wJ=>∃(Aj8:ah)(cj8:Nat)(Aj9:ah)(cj9:Nat),lJ=(108,.bool (XK l1 TG it.A e1 ((iV (oh it.A it.B)).toNat:Int) (oh it.A it.B)))::l0/\Hp b S wJ (jF gm (gV x1 (⟨TF,gs1,SF,Aj8,cj8,Sm,TG,(KM l1 TG it.A e1 ((iV (oh it.A it.B)).toNat:Int) (oh it.A it.B)),(tkM l1 TG it.A e1 ((iV (oh it.A it.B)).toNat:Int) (oh it.A it.B) Aj9 cj9 es1)⟩:kS) hs1)::rk)) (λhns H8=>?_) ?_
    ·have k29:=(H8.rm s1);refine Ai 0 s12 Y k29<|Qk 1 iT 13 qQ Y k29<|Ai 3 s13 Y k29<|kT 4 Y Y k29<|mD 6 7 g2 1 nI s11 Y k29<|kT 8 Y Y k29<|kT 9 Y Y k29<|kT 10 Y Y k29<|O1 5 Y<|ev (Ev.hS H8 s1 hg1 zZ vw rJ Y Y)<|aP k29<|O1 11 Y ?_
     have H9:=H8.uO s1 hg1;have H10:=H9.push (H9.s s8);refine gW Y (YP ((H10.sel s0).mV 1 5) it.A e1 ((iV (oh it.A it.B)).toNat:Int) (by have h9:=hzl _ _ hg1; have h8:=aJ bP; simp only at h9; omega)) ?_;rintro _ w43 ⟨azZ,az0,az1,az2,rfl,K43⟩;have H11:=G7 hg1 K43;have k30:=(H11.rm s0);refine aP k30<|Dn ⟨azZ,az0,az1,az2,Y,H11⟩ Y
    rintro _ w44 ⟨Aj8,cj8,Aj9,cj9,rfl,K44⟩;refine bR Y (λaeB=>?_) (λaeB=>?_)
    ·refine jr<|mv Y<|mv Y<|yU (τ:=dL) (x:=x1) Y (by intro _; apply pE) rfl K44 (λ_ _=>rfl) λg12 w45 K45=>ap (ys:=([x1]:List Int)) K45 s2 rfl rfl (K45.o s0) fq KY aj av rfl λnY nZ w46 K46=>iA rfl<|jv<|ig (gB ?_)
     refine jr<|ev (dW Y Y)<|mv Y<|jv<|dQ ⟨(k+1),(gV x1 (⟨TF,gs1,SF,Aj8,cj8,Sm,TG,(KM l1 TG it.A e1 ((iV (oh it.A it.B)).toNat:Int) (oh it.A it.B)),(tkM l1 TG it.A e1 ((iV (oh it.A it.B)).toNat:Int) (oh it.A it.B) Aj9 cj9 es1)⟩:kS) hs1),(td++([x1]:List Int)),nY,nZ,Y,Y,aj,by rw [fI bP,xD,<- hf]; show _=Nb _ _ _ _ _ _; rw [YV (show fH x1 (jR hs1)=some _ from by rw [iW,hg1]; rfl),yO]; unfold kS.pl; simp only; rw [ah4,show Rj it.A it.B=((iV (oh it.A it.B)).toNat:Int) from rfl]; first | rw [aO aeB] | rw [aK (by rw [aeB]; decide)],by intro z h hh; exact ail (Q:=λh=>h.l.length<=900+(k+1)) (λz h hh=>by have:=hzl z h hh; omega) (by have h1:=hzl _ _ hg1; have h2:=ain l1 TG it.A e1 (Rj it.A it.B) (oh it.A it.B); simp only at h1; show(KM _ _ _ _ _ _).length<=_; first | exact lG h2 aj | omega) z h hh,by intro z hz; exact aey (hns z hz),by first | (rw [iO]; simp only [oI,qx]; omega) | omega,(K46.rm s1)⟩ rfl aj
    refine zF ?_;refine jr<|ev (dW Y Y)<|mv Y<|jv<|dQ ⟨(k+1),(gV x1 (⟨TF,gs1,SF,Aj8,cj8,Sm,TG,(KM l1 TG it.A e1 ((iV (oh it.A it.B)).toNat:Int) (oh it.A it.B)),(tkM l1 TG it.A e1 ((iV (oh it.A it.B)).toNat:Int) (oh it.A it.B) Aj9 cj9 es1)⟩:kS) hs1),td,A14,c14,Y,Y,aj,by rw [fI bP,xD,<- hf]; show _=Nb _ _ _ _ _ _; rw [YV (show fH x1 (jR hs1)=some _ from by rw [iW,hg1]; rfl),yO]; unfold kS.pl; simp only; rw [ah4,show Rj it.A it.B=((iV (oh it.A it.B)).toNat:Int) from rfl]; first | rw [aO aeB] | rw [aK (by rw [aeB]; decide)],by intro z h hh; exact ail (Q:=λh=>h.l.length<=900+(k+1)) (λz h hh=>by have:=hzl z h hh; omega) (by have h1:=hzl _ _ hg1; have h2:=ain l1 TG it.A e1 (Rj it.A it.B) (oh it.A it.B); simp only at h1; show(KM _ _ _ _ _ _).length<=_; first | exact lG h2 aj | omega) z h hh,by intro z hz; exact aey (hns z hz),by first | (rw [iO]; simp only [oI,qx]; omega) | omega,((K44.sel s0).sel s1)⟩ rfl aj
  replace aoS:=kg aoS;refine wQ ?_;refine aZ<|bQ Y<|ev (eY fq Y)<|ev (iP Y Y)<|dn<|bR Y (λWz=>?_) (λWz=>?_)
  ·replace Wz:=jC Wz;refine iY Y<|vG Y ?_
   have hf2:=hf;rw [iD aj] at hf2;have hop:vB (⟨m,s,r,aN,dR,jR hs⟩:PC) it=((⟨m,s,r,aN,dR,jR hs1⟩:PC),7):=akI (tg:=tg) hX h1 h2 aeA (by rw [<- htg,<- hal]; rfl) hf2 (uI aj);rw [show(vB (⟨m,s,r,aN,dR,jR hs⟩:PC) it).1.m=m from by rw [hop]];rw [show(vB (⟨m,s,r,aN,dR,jR hs⟩:PC) it).2=7 from by rw [hop]];exact⟨A1,c1,A2,c2,A3,c3,hs1,Y,(by rw [hop]),((((K42.cU 2 12).rm s0).sel s0).mV 1 8)⟩
  replace Wz:=kg Wz;refine jh ?_;refine rg<|mK K42 s13 Y<|ev (dK qO Y Y (K42.x s5))<|ev (dS Y)<|wC iT 0 yP Y<|stp Y Y Y am5 K42 s14 Y Y Y λw47 K47=>dn<|aZ<|bQ Y<|ev (eY fq Y)<|mv Y<|dn<|cZ ?_
  have aIS:=(K47.o s1).bN;refine Lp ((K47.cU 7 3).rm s0) (λl0 rk mJ lJ wJ=>∃(kb:Nat)(B1:ah)(d1:Nat)(B2:ah)(d2:Nat)(B3:ah)(d3:Nat),lJ=(123,aD ((kb:Nat):Int))::l0/\mJ=td.length - kb/\kb<=td.length/\Hp b S wJ (dP bX B1 d1 ((FU m1 ((td.take kb).map fun(z:Int)=>IC it.A z e1)).aY)::dP bH B2 d2 ((FU m1 ((td.take kb).map fun(z:Int)=>IC it.A z e1)).aA)::dP bZ B3 d3 ((FU m1 ((td.take kb).map fun(z:Int)=>IC it.A z e1)).aQ)::Iu iT B1 d1 B2 d2 B3 d3 A4 c4 A5 c5 A6 c6 A7 c7 (FU m1 ((td.take kb).map fun(z:Int)=>IC it.A z e1)) s r aN gm dR::rk)) ⟨0,oQ,cj2,wm,vD,Au,Aw,Y,Y,fK _,((K47.mV 0 7).mV 7 3)⟩ Y ?_;rintro _ _ w48 ⟨kb,B1,d1,B2,d2,B3,d3,rfl,rfl,hkb,K48⟩;refine rg<|ev (fB Y Y)<|dn<|WP.cond Y (λaeC=>?_) (λaeC=>?_)
  ·replace aeC:=jC aeC;refine jh ?_;refine aZ<|cZ<|rg ?_
   obtain⟨x2,kK⟩:=bC (xs:=td) (i:=kb) aj;refine ev (eU (i:=kb) fq sZ Y Y Y (aJ kK) ((K48.o s4).some_ kK))<|ev (jq jG Y ((K48.o s4).fZ (j:=0) kK Y))<|bS Y<|jr<|mK K48 s14 Y<|jD g2 1 nI K48 s13 Y<|mv Y<|mv Y<|ev (iE (vs:=[(2,aD 5),(3,aD it.A),(4,aD x2),(5,aD e1)]) (cs:=[aD 0,aD 0,aD 5,aD it.A,aD x2,aD e1]) Y (by apply pY))<|gW rfl (xQ (m:=(FU m1 ((td.take kb).map fun(z:Int)=>IC it.A z e1))) (s:=s) (r:=r) ((((((K48.mV 6 12).sel (sx 16)).sel (sx 17)).mV 18 4).mV 18 3).sel (sx 21)) (⟨0,0,5,it.A,x2,e1⟩:gD) (TB hm2 _) rfl) ?_
   rintro _ w49 ⟨az3,az4,az5,az6,az7,az8,rfl,K49⟩;refine jv<|ig (gB ?_)
   refine jr<|ev (dW Y Y)<|mv Y<|jv ?_
   have H12:=K49;rw [show(AU (FU m1 ((td.take kb).map fun(z:Int)=>IC it.A z e1)) (⟨0,0,5,it.A,x2,e1⟩:gD))=(FU m1 ((td.take (kb+1)).map fun(z:Int)=>IC it.A z e1)) from by rw [akH kK]] at H12;exact dQ ⟨(kb+1),az3,az4,az5,az6,az7,az8,Y,Y,aj,((((((H12.mV 4 4).mV 10 12).sel (sx 20)).sel (sx 21)).sel (sx 18)).mV 19 3)⟩ rfl aj
  replace aeC:=kg aeC;refine wQ ?_;refine iY Y<|iI Y ?_
  have hf2:=hf;rw [iD aj] at hf2;have hop:vB (⟨m,s,r,aN,dR,jR hs⟩:PC) it=((⟨(FU m1 (td.map fun(z:Int)=>IC it.A z e1)),s,r,aN,dR,jR hs1⟩:PC),0):=akJ (tg:=tg) hX h1 h2 aeA (by rw [<- htg,<- hal]; rfl) hf2 (λh0=>by have h1:td=[]:=h0; rw [h1] at Wz; exact Wz rfl);have H13:=K48;rw [show(FU m1 ((td.take kb).map fun(z:Int)=>IC it.A z e1))=(FU m1 (td.map fun(z:Int)=>IC it.A z e1)) from by rw [iD aj]] at H13;rw [show(vB (⟨m,s,r,aN,dR,jR hs⟩:PC) it).1.m=(FU m1 (td.map fun(z:Int)=>IC it.A z e1)) from by rw [hop]];rw [show(vB (⟨m,s,r,aN,dR,jR hs⟩:PC) it).2=0 from by rw [hop]];exact⟨B1,d1,B2,d2,B3,d3,hs1,Y,(by rw [hop]),((((((H13.cU 6 12).rm s4).sel s4).mV 5 4).mV 5 3).sel s8)⟩
 ·refine jr<|wC g3 2 VT Y<|wD Y DL s2 Y λw21 Gp=>jv<|gB ?_
  exact(tl _ _ ⟨Y,⟨0,0,4,it.A,(((iV (oh it.A it.B)).toNat:Nat):Int),0⟩,Y,.inr Y,by unfold AX; rw [aO QU]; rfl,Gp⟩).kz rfl
 exact xH (gB (tl _ _ ⟨Y,⟨0,0,3,it.A,(((iV (oh it.A it.B)).toNat:Nat):Int),0⟩,Y,.inl Y,by unfold AX; rw [aK (by simpa using QU)]; rfl,DL.sel s2⟩))
end Go.Proofs.YtlhnnmlenkahlaaGreat
