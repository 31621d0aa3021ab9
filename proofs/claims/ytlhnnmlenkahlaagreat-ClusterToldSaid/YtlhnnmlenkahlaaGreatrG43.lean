/- Lemmas. -/
import Derived.Test.YtlhnnmlenkahlaaGreatrG30
import Derived.Test.YtlhnnmlenkahlaaGreatrG32
import Derived.Test.YtlhnnmlenkahlaaGreatrG34
import Derived.Test.YtlhnnmlenkahlaaGreatrG39
import Derived.Test.YtlhnnmlenkahlaaGreatrG42
set_option maxRecDepth 4000
set_option linter.all false
namespace Go.Proofs.YtlhnnmlenkahlaaGreat
open Go.RowKit Go.Proofs.Tryz
theorem aLn:bF prog 19:=ay
theorem aLo:bF prog 20:=ay
theorem ato:bF prog 21:=ay
theorem Ur{S0:Nat->Prop}(w:World){jl:ah}{jk:Nat}{l:List Int}(jo:Sl dQ S0 w jl jk l)(n:Int) :
    bS prog 21 #[.slice jl l.length jk,aF n] w λv w'=>v=.bool (l.contains n)/\Hp w S0 w' []:=by
 refine kP S0 func21 ntmps21 Y λH0=>?_;have EY:=jo.bH;refine iZ Y<|aW<|iZ Y<|cB<|Lp H0 (λl0 rk mJ lJ wJ=>∃(k:Nat),lJ=(5,aF ((k:Nat):Int))::l0/\mJ=l.length - k/\k<=l.length/\(∀ y∈l.take k,y≠n)/\Hp w S0 wJ rk) ⟨0,Y,Y,fJ _,av,H0⟩ rfl ?_
 rintro _ _ w1 ⟨k,rfl,rfl,hk,hno,K1⟩;refine aW<|bQ Y<|mv Y<|ev (eU fB Y)<|ev (fC Y Y)<|dn<|bK Y (λER=>?_) (λER=>?_)
 ·replace ER:=gW ER;refine jm ?_;refine aW<|cB<|bQ Y<|mv Y ?_
  obtain⟨x1,bP⟩:=bC (xs:=l) (i:=k) aj;refine ev (cu (i:=k) fB rZ Y Y Y (aJ bP) ((K1.a jo).some_ bP))<|ev (iL jD Y ((K1.a jo).fF (j:=0) bP Y))<|mv Y<|ev (iA Y Y)<|dn<|bK Y (λhc17=>?_) (λhc17=>?_)
  ·replace hc17:=gW hc17;refine iZ Y<|jf (jg (fT (fT (jg (fT (zA Y ?_))))))
   have eO:(true:Bool)=(l.contains n):=by symm; rw [nI]; subst hc17; exact bT bP
   exact⟨by rw [<- eO] <;> rfl,K1⟩
  replace hc17:=iJ hc17;refine xQ ?_;refine jy<|mv Y<|ev (dO Y Y)<|iI Y<|jA<|dI ⟨(k+1),Y,Y,aj,by exact pJ (q:=λy=>y≠n) hno bP aj,K1⟩ rfl aj
 replace ER:=iJ ER;refine wE ?_;refine iZ Y<|jc Y ?_
 have fQ:(false:Bool)=(l.contains n):=by symm; rw [xA]; intro h; rw [nI] at h; rw [iH aj] at hno; exact hno n h rfl
 exact⟨by rw [<- fQ] <;> rfl,K1⟩
theorem P5{S0:Nat->Prop}(w:World){Ja:ah}{Jb:Nat}{gZ:List aM}(zU:Sl bG S0 w Ja Jb gZ)(aL:Int)(hn:gZ.length<=100000) :
    bS prog 20 #[.slice Ja gZ.length Jb,aF aL] w λv w'=>∃(A0:ah)(c0:Nat),v=.slice A0 ((kG gZ aL).length) c0/\Hp w S0 w' [aS dQ 3 A0 c0 (kG gZ aL)]:=by
 refine kP S0 func20 ntmps20 Y λH0=>?_;have aqs:=zU.bH;have hq:=λk=>mR (fun(o:aM)=>decide (o.aC=aL)) (gZ.take k)
 simp only [fO] at hq
 refine iZ Y<|iZ Y<|aW<|iZ Y<|cB ?_
 have H1:=H0.nil dQ 3;have eO:(([]:List Int):List Int)=(((gZ.take 0).filter (fun(o:aM)=>decide (o.aC=aL))).map aM.To):=by rfl
 refine lC (t:=5) Y (aR (λz=>Value.slice none (List.length z) 0) eO) ?_;have H2:=H1.nil dQ 3;have H3:=(eO▸H2:Hp w S0 w (aS dQ 3 none 0 (((gZ.take 0).filter (fun(o:aM)=>decide (o.aC=aL))).map aM.To)::[aS dQ 3 none 0 []]));refine Lp (H3.cU 0 2) (λl0 rk mJ lJ wJ=>∃(k:Nat)(A5:ah)(c5:Nat),lJ=(5,.slice A5 ((((gZ.take k).filter (fun(o:aM)=>decide (o.aC=aL))).map aM.To).length) c5)::(6,aF ((k:Nat):Int))::l0/\mJ=gZ.length - k/\k<=gZ.length/\Hp w S0 wJ (aS dQ 3 A5 c5 (((gZ.take k).filter (fun(o:aM)=>decide (o.aC=aL))).map aM.To)::rk)) ⟨0,none,0,Y,Y,fJ _,(H3.rm s1)⟩ Y ?_;rintro _ _ w1 ⟨k,A5,c5,rfl,rfl,hk,K1⟩;refine aW<|bQ Y<|mv Y<|ev (eU kY Y)<|ev (fC Y Y)<|dn<|bK Y (λGm=>?_) (λGm=>?_)
 ·replace Gm:=gW Gm;refine jm ?_;refine aW<|cB<|bQ Y<|mv Y ?_
  obtain⟨x1,bP⟩:=bC (xs:=gZ) (i:=k) aj;refine ev (cu (i:=k) kY wo Y Y Y (aJ bP) ((K1.a zU).some_ bP))<|ev (dW sw Y (fH _ _ _))<|ev (iL jD Y ((K1.a zU).fF (j:=1) bP Y))<|mv Y<|ev (iA Y Y)<|dn<|bK Y (λhc19=>?_) (λhc19=>?_)
  ·replace hc19:=gW hc19;refine jy<|mv Y<|mv Y<|mv Y<|ev (cu (i:=k) kY wo Y Y Y (aJ bP) ((K1.a zU).some_ bP))<|ev (dW xX Y (fH _ _ _))<|ev (iL jD Y ((K1.a zU).fF (j:=5) bP Y))<|Az (τ:=dQ) (x:=x1.To) Y (by intro _; apply pW) rfl K1 (λ_ _=>rfl) λg1 w2 K2=>ap (ys:=([x1.To]:List Int)) K2 s1 rfl rfl (K2.o s0) fB Lh (by have:=hq k; simp only [jY]; omega) av rfl λoL oM w3 K3=>iI rfl<|jA<|iE (gG ?_)
   refine jy<|mv Y<|ev (dO Y Y)<|iI Y<|jA ?_
   have fQ:(((((gZ.take k).filter (fun(o:aM)=>decide (o.aC=aL))).map aM.To)++([x1.To]:List Int)):List Int)=(((gZ.take (k+1)).filter (fun(o:aM)=>decide (o.aC=aL))).map aM.To):=by rw [lX bP]; simp [hc19]
   refine jq (t:=5) Y (aR (λz=>Value.slice oL (List.length z) oM) fQ) ?_;rw [fQ] at K3;exact dI ⟨(k+1),oL,oM,Y,Y,aj,(K3.rm s1)⟩ rfl aj
  replace hc19:=iJ hc19;refine xQ ?_;refine jy<|mv Y<|ev (dO Y Y)<|iI Y<|jA ?_
  have jW:((((gZ.take k).filter (fun(o:aM)=>decide (o.aC=aL))).map aM.To):List Int)=(((gZ.take (k+1)).filter (fun(o:aM)=>decide (o.aC=aL))).map aM.To):=by rw [lX bP]; simp [hc19]
  refine jq (t:=5) Y (aR (λz=>Value.slice A5 (List.length z) c5) jW) ?_;rw [jW] at K1;exact dI ⟨(k+1),A5,c5,Y,Y,aj,K1⟩ rfl aj
 replace Gm:=iJ Gm;refine wE ?_;refine bQ Y<|bU Y<|jc Y ?_
 have mH:((((gZ.take k).filter (fun(o:aM)=>decide (o.aC=aL))).map aM.To):List Int)=(kG gZ aL):=by rw [iH aj]; rfl
 rw [mH] at K1;exact⟨A5,c5,by rw [mH] <;> rfl,K1⟩
theorem atp{b w:World}{S:Nat->Prop}{F:List lH}{jl:ah}{jk:Nat}{l:List AItem}(H0:Hp b S w (dP tItem jl jk l::F))(r:ARules)(hr:lY r=false)(hwf:∀ x∈l,qm x.C) :
    bS prog 5 #[.agg #[aF r.jV,aF r.lQ,aF r.All,aF r.nE,aF r.jr,aF r.eP],.slice jl l.length jk] w λv w'=>v=.bool true/\Hp b S w' F:=by
 refine sV func5 ntmps5 Y<|rg<|bx Y Y H0 λg1 w1 K1=>bU Y<|rg<|gX Y (Io K1 ) ?_
 rintro _ w2 ⟨rfl,K2⟩;refine bU Y<|rg<|ev (dU Hr Y Y (K2.x s0))<|gX Y (ad6 K2 r hr) ?_
 rintro _ w3 ⟨rfl,K3⟩;refine mv Y<|xt Y Y<|xt Y Y<|iI Y<|bU Y<|aW<|bQ Y<|ev (iB Y)<|mv Y<|bn Y (bf Y) Y<|bn Y (eU underlying24 Y) Y<|bn Y (pV Y Y) Y<|ev (dL Y Y)<|mv Y ?_
 cases apG:decide (150<((l.length:Nat):Int)) with
 | true=>
  refine dN<|dN<|ev (dH Y Y)<|mv Y<|dN<|dN<|ev (dH Y Y)<|dn<|bK Y (λ_h=>?_) nofun
  refine bQ Y<|bU Y<|uX Y ?_
  exact⟨Y,(K3.cU 0 2)⟩
 | false=>
  refine bn Y (bf Y) Y<|bn Y (nQ Y Y) Y<|ev (dL Y Y)<|mv Y<|dN<|dN<|ev (dH Y Y)<|dn<|bK Y (λ_h=>?_) nofun
  refine bQ Y<|bU Y<|uX Y ?_
  exact⟨Y,(K3.cU 0 2)⟩
theorem aoq{b w:World}{S:Nat->Prop}{F:List lH}{jl:ah}{jk:Nat}{l:List AItem}(H0:Hp b S w (dP tItem jl jk l::F))(r:ARules)(hr:lY r=true)(hwf:∀ x∈l,qm x.C) :
    bS prog 5 #[.agg #[aF r.jV,aF r.lQ,aF r.All,aF r.nE,aF r.jr,aF r.eP],.slice jl l.length jk] w λv w'=>v=.bool true/\Hp b S w' F:=by
 refine sV func5 ntmps5 Y<|rg<|bx Y Y H0 λg1 w1 K1=>bU Y<|rg<|gX Y (Io K1 ) ?_
 rintro _ w2 ⟨rfl,K2⟩;refine bU Y<|rg<|ev (dU Hr Y Y (K2.x s0))<|gX Y (V4 K2 r hr) ?_
 rintro _ w3 ⟨PZ,ahp,rfl,Y9,K3⟩;refine mv Y<|xt Y Y<|xt Y Y<|iI Y<|bU Y<|aW<|bQ Y<|ev (iB Y)<|mv Y<|bn Y (bf Y) Y<|bn Y (eU underlying24 Y) Y<|bn Y (pV Y Y) Y<|ev (dL Y Y)<|mv Y ?_
 cases apG:decide (150<((l.length:Nat):Int)) with
 | true=>
  refine dN<|dN<|ev (dH Y Y)<|mv Y<|dN<|dN<|ev (dH Y Y)<|dn<|bK Y (λ_h=>?_) nofun
  refine bQ Y<|bU Y<|uX Y ?_
  exact⟨Y,(K3.cU 0 3)⟩
 | false=>
  refine bn Y (bf Y) Y<|bn Y (nQ Y Y) Y<|ev (dL Y Y)<|mv Y<|bn Y (bf Y) Y<|bn Y (Ev.agA aee Y Y) Y<|ev (dL Y Y)<|dn<|bK Y nofun (λ_h=>?_)
  refine jm ?_;refine aW ?_;have aFX:l.length<=150:=by have h9:¬ (150:Int)<((l.length:Nat):Int):=iJ (by assumption); omega
  refine iZ Y<|cB<|pK (λmJ lJ wJ=>∃(k:Nat)(Gk:GC),lJ=[(1,.slice jl l.length jk),(6,gD PZ),(8,aF ((k:Nat):Int))]/\mJ=l.length - k/\k<=l.length/\(Gk.pl=aec (V3 r) (l.take k))/\(Told Gk.pl)/\Hp b S wJ (CU PZ Gk::dY g1 23 [aF r.jV,aF r.lQ,aF r.All,aF r.nE,aF r.jr,aF r.eP]::dP tItem jl jk l::F)) ⟨0,ahp,Y,Y,fJ _,by rw [Y9]; rfl,by rw [Y9]; exact aA9 r,K3⟩ rfl ?_
  rintro _ _ w4 ⟨k,Gk,rfl,rfl,hk,hG,hT,K4⟩;refine aW<|bQ Y<|mv Y<|ev (eU underlying24 Y)<|ev (fC Y Y)<|dn<|bK Y (λCB=>?_) (λCB=>?_)
  ·replace CB:=gW CB;refine jm ?_;refine aW<|cB ?_
   have hI:Inv Gk.pl k:=by rw [hG]; exact aed hr aj
   refine bQ Y<|gX Y (Y8 K4 (hI.ok aj)) ?_
   rintro _ w5 ⟨Gv,Gw,aen,aeo,aep,aer,rfl,K5⟩;have axr:=(K5.s s0).bH;have aEb:=(K5.s s1).bH;have aEc:=(K5.s s2).bH;refine ev (Ev.fld (cs:=[.slice Gv Gk.pl.m.aT.length Gw,.slice aen Gk.pl.m.aA.length aeo,.slice aep Gk.pl.m.aP.length aer]) underlying45 Y Y Xr Y Y)<|ev (eU iN Y)<|bU Y<|bQ Y<|mv Y<|mv Y ?_
   obtain⟨x1,bP⟩:=bC (xs:=l) (i:=k) aj;refine ev (cu (i:=k) underlying24 OL Y Y Y (aJ bP) ((K5.s s5).some_ bP))<|ev (gI Ar Y Y ((K5.s s5).fE bP))<|gX Y (J2 ((K5.mV 0 3).sel s3) x1 (hI.ok aj) (hwf _ (bT bP))) ?_
   rintro _ w6 ⟨ig,rfl,J3,K6⟩;have hI2:Inv ig.pl (k+1):=by rw [J3]; exact GJ hI _
   have hr9:ig.pl.r=r:=by rw [J3,awD,hG,alq]; rfl
   skip
   refine bU Y<|bQ Y<|gX Y (Y8 K6 (hI2.ok aj)) ?_
   rintro _ w7 ⟨EL,EM,Us,Ut,Uu,Uw,rfl,K7⟩;have aLp:=(K7.s s0).bH;have aLq:=(K7.s s1).bH;have aLr:=(K7.s s2).bH;refine al yL Y K7 λg2 w8 K8=>sty Y K8 s0 Y λw9 K9=>dn<|aW<|bQ Y<|mv Y<|ev (cu (i:=k) underlying24 OL Y Y Y (aJ bP) ((K9.s s9).some_ bP))<|ev (dW oD Y (fH _ _ _))<|ev (iL jD Y ((K9.s s9).fF (j:=0) bP Y))<|ev (iA Y Y)<|mv Y ?_
   cases aFY:decide (x1.Kind=11) with
   | true=>
    refine bn Y (bf Y) Y<|bn Y (iA Y Y) Y<|ev (dH Y Y)<|mv Y ?_
    cases aNw:decide ((AU Gk.pl x1).2=0) with
    | true=>
     refine wL g2 1 jE K9 s0 Y<|bn Y (eU iN Y) Y<|bn Y (bf Y) Y<|bn Y (iA Y Y) Y<|ev (dH Y Y)<|dn<|bK Y (λatq=>?_) (λatq=>?_)
     ·replace atq:=gW atq;refine iZ Y<|jf (fT (jg (fT (fT (jg (fT (zA Y ?_)))))))
      exact⟨Y,(K9.cU 0 10)⟩
     replace atq:=iJ atq;refine jm ?_
     have hT2:Told ig.pl:=by
      rw [J3]; refine aem hI hT x1 ?_;rw [<- J3]; rintro⟨h7,h8,h9⟩; simp_all
     refine bQ Y<|gX Y (Y7 ((K9.mV 0 4).sel s4) (hI2.ok aj)) ?_
     rintro _ Oz ⟨awN,awO,awP,awQ,awR,awS,rfl,K10⟩;have aA4:=(K10.o s0).bH;have aIX:=(K10.o s1).bH;have aIY:=(K10.o s2).bH;refine mv Y<|gX Y (aeh ((K10.mV 0 3).sel s3) ) ?_
     rintro _ Ti ⟨rfl,tZ⟩;refine gX Y (LQ _ ig.pl.s (tZ.o s1) (tZ.o s2) (tZ.o s3) ig.pl.aN (by have h9:=hI2.hb; omega) (by have h9:=hI2.aeb; omega) (by have h9:=hI2.hd; omega)) ?_;rintro _ Sm ⟨ND,NG,alI,alJ,alK,alL,rfl,h12⟩;have sJ:=tZ.f3 h12;have aqA:=(sJ.o s0).bH;have aIZ:=(sJ.o s1).bH;have aI0:=(sJ.o s2).bH;refine al FL Y sJ λg3 Xu wz=>sty Y wz s0 Y λZ0 wB=>dn<|iZ Y<|cB<|pK (λmJ lJ wJ=>∃(kb:Nat),lJ=[(1,.slice jl l.length jk),(6,gD PZ),(8,aF ((k:Nat):Int)),(11,gD g2),(12,gD g3),(13,aF ((kb:Nat):Int))]/\mJ=ig.pl.m.aA.length - kb/\kb<=ig.pl.m.aA.length/\Hp b S wJ (dY g3 51 [.slice ND (((dS ig.pl.s ig.pl.aN).eF).length) NG,.slice alI (((dS ig.pl.s ig.pl.aN).bY).length) alJ,.slice alK (((dS ig.pl.s ig.pl.aN).bL).length) alL]::aS iO 107 ND NG ((dS ig.pl.s ig.pl.aN).eF)::aS dJ 117 alI alJ ((dS ig.pl.s ig.pl.aN).bY)::aS bG 112 alK alL ((dS ig.pl.s ig.pl.aN).bL)::CU PZ ig::aS iO 107 awN awO ig.pl.s.eF::aS dJ 117 awP awQ ig.pl.s.bY::aS bG 112 awR awS ig.pl.s.bL::dY g2 45 [.slice EL ig.pl.m.aT.length EM,.slice Us ig.pl.m.aA.length Ut,.slice Uu ig.pl.m.aP.length Uw]::dP cZ EL EM ig.pl.m.aT::dP bJ Us Ut ig.pl.m.aA::dP bX Uu Uw ig.pl.m.aP::dP cZ Gv Gw Gk.pl.m.aT::dP bJ aen aeo Gk.pl.m.aA::dP bX aep aer Gk.pl.m.aP::dY g1 23 [aF r.jV,aF r.lQ,aF r.All,aF r.nE,aF r.jr,aF r.eP]::dP tItem jl jk l::F)) ⟨0,Y,Y,fJ _,wB⟩ Y ?_
     rintro _ _ Z4 ⟨kb,rfl,rfl,hkb,zB⟩;refine aW<|bQ Y<|jT g2 1 jE zB s8 Y<|ev (eU iN Y)<|ev (fC Y Y)<|dn<|bK Y (λGH=>?_) (λGH=>?_)
     ·replace GH:=gW GH;refine jm ?_;refine aW<|cB ?_
      obtain⟨x2,kZ⟩:=bC (xs:=ig.pl.m.aA) (i:=kb) aj;refine He zB (λ_ K=>K) (λl0 rk lJ wJ=>∃(jR:ah)(jO:Nat),lJ=(14,.slice jR ((kG ((dS ig.pl.s ig.pl.aN).bL) x2.ID).length) jO)::l0/\Hp b S wJ (aS dQ 3 jR jO (kG ((dS ig.pl.s ig.pl.aN).bL) x2.ID)::rk)) (λhns H1=>?_) ?_
      ·refine ng 0 1 g3 2 yD s0 Y H1<|ng 2 3 g2 1 jE s8 Y H1<|kX 4 Y Y H1<|lD 5 Y (λ_ hK=>cu (i:=kb) iN o9 Y Y Y (aJ kZ) ((hK.s s10).some_ kZ)) H1<|lD 6 Y (λ_ _=>dW pq Y (fH _ _ _)) H1<|O1 7 Y ?_
       obtain⟨B1,d1,zP,hi1⟩:=uP (H1.is s10 kZ);have H2:=H1.push hi1;refine ev (iL jD Y (zP 0 _ Y)) ?_;have k1:=(H2.rm s0);refine aQ k1<|O1 8 Y<|gX Y (P5 _ (H2.o s4) x2.ID (lV (vE _ _).2 (by have h9:=hI2.hd; omega))) ?_
       rintro _ w16 ⟨LC,LD,rfl,h16⟩;have BR:=H2.f1 h16;have aqB:=(BR.o s0).bH;have k2:=(BR.cU 0 2);refine aQ k2<|xI 9 Y Y k2<|Dn ⟨LC,LD,Y,(BR.rm s1)⟩ Y
      rintro _ w17 ⟨jR,jO,rfl,yB⟩;have hgb:=Nz (dS ig.pl.s ig.pl.aN).bL x2.ID; have aF2:=(vE ig.pl.s ig.pl.aN).2; have aF3:=hI2.hd;refine iZ Y<|cB<|Lp yB (λl0 rk mJ lJ wJ=>∃(kc:Nat),lJ=(15,aF ((kc:Nat):Int))::l0/\mJ=(kG ((dS ig.pl.s ig.pl.aN).bL) x2.ID).length - kc/\kc<=(kG ((dS ig.pl.s ig.pl.aN).bL) x2.ID).length/\Hp b S wJ rk) ⟨0,Y,Y,fJ _,yB⟩ Y ?_
      rintro _ _ w18 ⟨kc,rfl,rfl,hkc,ET⟩;refine aW<|bQ Y<|mv Y<|ev (eU fB Y)<|ev (fC Y Y)<|dn<|bK Y (λhc98=>?_) (λhc98=>?_)
      ·replace hc98:=gW hc98;refine jm ?_;refine aW<|cB<|qo ak ak<|bA (dW (q:=⟨g2,1,none⟩) jE Y Y) Y<|bA (dx Xr Y (ET.x s9) Y) Y<|bA (bf Y) Y<|bA (cu (i:=kb) iN o9 Y Y Y (aJ kZ) ((ET.s s11).some_ kZ)) Y<|bA (dW j5 Y (fH _ _ _)) Y ?_
       obtain⟨B2,d2,ah9,hi2⟩:=uP (ET.is s11 kZ);have H3:=ET.push hi2;refine bA (iL Bf Y (ah9 3 _ Y)) Y<|bA (bf Y) Y<|bA (bf Y) Y ?_
       obtain⟨x3,hx3⟩:=bC (xs:=kG ((dS ig.pl.s ig.pl.aN).bL) x2.ID) (i:=kc) aj;refine bA (cu (i:=kc) fB rZ Y Y Y (aJ hx3) ((H3.o s1).some_ hx3)) Y<|bA (iL jD Y ((H3.o s1).fF (j:=0) hx3 Y)) Y<|Fv (v:=.bool (x2.aD.contains x3)) Y Y Y ato (λwq eq=>(Ur wq ((H3.s s0).any.ext eq) x3).mono (by rintro _ _ ⟨rfl,fQ⟩; exact⟨rfl,fQ.ext⟩)) rfl<|bA (om rfl) rfl<|qp λw19 e19=>?_
       have Cc:=H3.grow e19;refine bQ Y ?_;have eO:(x2.aD.contains x3:Bool)=false:=by exact Zi hT2 (bT kZ) (bT hx3)
       refine fU (t:=112) Y (aR Value.bool eO)<|dn<|bK Y nofun (λ_h=>?_)
       refine xQ ?_;refine jy<|mv Y<|ev (dO Y Y)<|iI Y<|jA<|dI ⟨(kc+1),Y,Y,aj,(Cc.rm s0)⟩ rfl aj
      replace hc98:=iJ hc98;refine qJ (lu (lu (rE (iE (gG ?_)))));refine jy<|mv Y<|ev (dO Y Y)<|iI Y<|jA<|dI ⟨(kb+1),Y,Y,aj,(ET.rm s0)⟩ rfl aj
     replace GH:=iJ GH;refine qJ (lu (lu (rE (iE (gG ?_)))));refine jy<|mv Y<|ev (dO Y Y)<|iI Y<|jA<|dI ⟨(k+1),ig,Y,Y,aj,by rw [fD bP,vG,<- hG]; exact J3,by exact hT2,((zB.cU 5 10).cU 0 4)⟩ rfl aj
    | false=>
     refine dN<|dN<|dN<|dN<|dN<|ev (dL Y Y)<|dn<|bK Y nofun (λ_h=>?_)
     refine jm ?_
     have hT2:Told ig.pl:=by
      rw [J3]; refine aem hI hT x1 ?_;rw [<- J3]; rintro⟨h7,h8,h9⟩; simp_all
     refine bQ Y<|gX Y (Y7 ((K9.mV 0 4).sel s4) (hI2.ok aj)) ?_
     rintro _ w20 ⟨awT,awU,awV,awW,awX,awY,rfl,C8⟩;have aAN:=(C8.o s0).bH;have aAz:=(C8.o s1).bH;have aAA:=(C8.o s2).bH;refine mv Y<|gX Y (aeh ((C8.mV 0 3).sel s3) ) ?_
     rintro _ w21 ⟨rfl,FH⟩;refine gX Y (LQ _ ig.pl.s (FH.o s1) (FH.o s2) (FH.o s3) ig.pl.aN (by have h9:=hI2.hb; omega) (by have h9:=hI2.aeb; omega) (by have h9:=hI2.hd; omega)) ?_;rintro _ w22 ⟨zV,zW,JN,JO,JQ,JR,rfl,h22⟩;have EU:=FH.f3 h22;have aqg:=(EU.o s0).bH;have aI1:=(EU.o s1).bH;have aI2:=(EU.o s2).bH;refine al FL Y EU λg4 w23 KA=>sty Y KA s0 Y λw24 qB=>dn<|iZ Y<|cB<|pK (λmJ lJ wJ=>∃(kb:Nat),lJ=[(1,.slice jl l.length jk),(6,gD PZ),(8,aF ((k:Nat):Int)),(11,gD g2),(12,gD g4),(13,aF ((kb:Nat):Int))]/\mJ=ig.pl.m.aA.length - kb/\kb<=ig.pl.m.aA.length/\Hp b S wJ (dY g4 51 [.slice zV (((dS ig.pl.s ig.pl.aN).eF).length) zW,.slice JN (((dS ig.pl.s ig.pl.aN).bY).length) JO,.slice JQ (((dS ig.pl.s ig.pl.aN).bL).length) JR]::aS iO 107 zV zW ((dS ig.pl.s ig.pl.aN).eF)::aS dJ 117 JN JO ((dS ig.pl.s ig.pl.aN).bY)::aS bG 112 JQ JR ((dS ig.pl.s ig.pl.aN).bL)::CU PZ ig::aS iO 107 awT awU ig.pl.s.eF::aS dJ 117 awV awW ig.pl.s.bY::aS bG 112 awX awY ig.pl.s.bL::dY g2 45 [.slice EL ig.pl.m.aT.length EM,.slice Us ig.pl.m.aA.length Ut,.slice Uu ig.pl.m.aP.length Uw]::dP cZ EL EM ig.pl.m.aT::dP bJ Us Ut ig.pl.m.aA::dP bX Uu Uw ig.pl.m.aP::dP cZ Gv Gw Gk.pl.m.aT::dP bJ aen aeo Gk.pl.m.aA::dP bX aep aer Gk.pl.m.aP::dY g1 23 [aF r.jV,aF r.lQ,aF r.All,aF r.nE,aF r.jr,aF r.eP]::dP tItem jl jk l::F)) ⟨0,Y,Y,fJ _,qB⟩ Y ?_
     rintro _ _ w25 ⟨kb,rfl,rfl,hkb,FI⟩;refine aW<|bQ Y<|jT g2 1 jE FI s8 Y<|ev (eU iN Y)<|ev (fC Y Y)<|dn<|bK Y (λGH=>?_) (λGH=>?_)
     ·replace GH:=gW GH;refine jm ?_;refine aW<|cB ?_
      obtain⟨x4,hx4⟩:=bC (xs:=ig.pl.m.aA) (i:=kb) aj;refine He FI (λ_ K=>K) (λl0 rk lJ wJ=>∃(wF:ah)(vM:Nat),lJ=(14,.slice wF ((kG ((dS ig.pl.s ig.pl.aN).bL) x4.ID).length) vM)::l0/\Hp b S wJ (aS dQ 3 wF vM (kG ((dS ig.pl.s ig.pl.aN).bL) x4.ID)::rk)) (λhns H4=>?_) ?_
      ·refine ng 0 1 g4 2 yD s0 Y H4<|ng 2 3 g2 1 jE s8 Y H4<|kX 4 Y Y H4<|lD 5 Y (λ_ hK=>cu (i:=kb) iN o9 Y Y Y (aJ hx4) ((hK.s s10).some_ hx4)) H4<|lD 6 Y (λ_ _=>dW pq Y (fH _ _ _)) H4<|O1 7 Y ?_
       obtain⟨B3,d3,aI3,hi3⟩:=uP (H4.is s10 hx4);have H5:=H4.push hi3;refine ev (iL jD Y (aI3 0 _ Y)) ?_;have k3:=(H5.rm s0);refine aQ k3<|O1 8 Y<|gX Y (P5 _ (H5.o s4) x4.ID (lV (vE _ _).2 (by have h9:=hI2.hd; omega))) ?_
       rintro _ w26 ⟨arf,arh,rfl,h26⟩;have Nw:=H5.f1 h26;have aqC:=(Nw.o s0).bH;have k4:=(Nw.cU 0 2);refine aQ k4<|xI 9 Y Y k4<|Dn ⟨arf,arh,Y,(Nw.rm s1)⟩ Y
      rintro _ w27 ⟨wF,vM,rfl,OB⟩;have hgb:=Nz (dS ig.pl.s ig.pl.aN).bL x4.ID; have aF2:=(vE ig.pl.s ig.pl.aN).2; have aF3:=hI2.hd;refine iZ Y<|cB<|Lp OB (λl0 rk mJ lJ wJ=>∃(kc:Nat),lJ=(15,aF ((kc:Nat):Int))::l0/\mJ=(kG ((dS ig.pl.s ig.pl.aN).bL) x4.ID).length - kc/\kc<=(kG ((dS ig.pl.s ig.pl.aN).bL) x4.ID).length/\Hp b S wJ rk) ⟨0,Y,Y,fJ _,OB⟩ Y ?_
      rintro _ _ w28 ⟨kc,rfl,rfl,hkc,FJ⟩;refine aW<|bQ Y<|mv Y<|ev (eU fB Y)<|ev (fC Y Y)<|dn<|bK Y (λhc98=>?_) (λhc98=>?_)
      ·replace hc98:=gW hc98;refine jm ?_;refine aW<|cB<|qo ak ak<|bA (dW (q:=⟨g2,1,none⟩) jE Y Y) Y<|bA (dx Xr Y (FJ.x s9) Y) Y<|bA (bf Y) Y<|bA (cu (i:=kb) iN o9 Y Y Y (aJ hx4) ((FJ.s s11).some_ hx4)) Y<|bA (dW j5 Y (fH _ _ _)) Y ?_
       obtain⟨B4,d4,aI4,hi4⟩:=uP (FJ.is s11 hx4);have H6:=FJ.push hi4;refine bA (iL Bf Y (aI4 3 _ Y)) Y<|bA (bf Y) Y<|bA (bf Y) Y ?_
       obtain⟨x5,hx5⟩:=bC (xs:=kG ((dS ig.pl.s ig.pl.aN).bL) x4.ID) (i:=kc) aj;refine bA (cu (i:=kc) fB rZ Y Y Y (aJ hx5) ((H6.o s1).some_ hx5)) Y<|bA (iL jD Y ((H6.o s1).fF (j:=0) hx5 Y)) Y<|Fv (v:=.bool (x4.aD.contains x5)) Y Y Y ato (λwq eq=>(Ur wq ((H6.s s0).any.ext eq) x5).mono (by rintro _ _ ⟨rfl,fQ⟩; exact⟨rfl,fQ.ext⟩)) rfl<|bA (om rfl) rfl<|qp λw29 e29=>?_
       have Lx:=H6.grow e29;refine bQ Y ?_;have fQ:(x4.aD.contains x5:Bool)=false:=by exact Zi hT2 (bT hx4) (bT hx5)
       refine fU (t:=112) Y (aR Value.bool fQ)<|dn<|bK Y nofun (λ_h=>?_)
       refine xQ ?_;refine jy<|mv Y<|ev (dO Y Y)<|iI Y<|jA<|dI ⟨(kc+1),Y,Y,aj,(Lx.rm s0)⟩ rfl aj
      replace hc98:=iJ hc98;refine qJ (lu (lu (rE (iE (gG ?_)))));refine jy<|mv Y<|ev (dO Y Y)<|iI Y<|jA<|dI ⟨(kb+1),Y,Y,aj,(FJ.rm s0)⟩ rfl aj
     replace GH:=iJ GH;refine qJ (lu (lu (rE (iE (gG ?_)))));refine jy<|mv Y<|ev (dO Y Y)<|iI Y<|jA<|dI ⟨(k+1),ig,Y,Y,aj,by rw [fD bP,vG,<- hG]; exact J3,by exact hT2,((FI.cU 5 10).cU 0 4)⟩ rfl aj
   | false=>
    refine dN<|dN<|ev (dL Y Y)<|mv Y<|dN<|dN<|dN<|dN<|dN<|ev (dL Y Y)<|dn<|bK Y nofun (λ_h=>?_)
    refine jm ?_
    have hT2:Told ig.pl:=by
     rw [J3]; refine aem hI hT x1 ?_;rw [<- J3]; rintro⟨h7,h8,h9⟩; simp_all
    refine bQ Y<|gX Y (Y7 ((K9.mV 0 4).sel s4) (hI2.ok aj)) ?_
    rintro _ w30 ⟨Q5,Q7,awZ,aw0,aw1,aw2,rfl,KC⟩;have aqD:=(KC.o s0).bH;have aI5:=(KC.o s1).bH;have aI6:=(KC.o s2).bH;refine mv Y<|gX Y (aeh ((KC.mV 0 3).sel s3) ) ?_
    rintro _ w31 ⟨rfl,QC⟩;refine gX Y (LQ _ ig.pl.s (QC.o s1) (QC.o s2) (QC.o s3) ig.pl.aN (by have h9:=hI2.hb; omega) (by have h9:=hI2.aeb; omega) (by have h9:=hI2.hd; omega)) ?_;rintro _ w32 ⟨alM,alN,alO,alP,alQ,alR,rfl,h32⟩;have OC:=QC.f3 h32;have azS:=(OC.o s0).bH;have aI7:=(OC.o s1).bH;have aI8:=(OC.o s2).bH;refine al FL Y OC λg5 w33 Xy=>sty Y Xy s0 Y λw34 K34=>dn<|iZ Y<|cB<|pK (λmJ lJ wJ=>∃(kb:Nat),lJ=[(1,.slice jl l.length jk),(6,gD PZ),(8,aF ((k:Nat):Int)),(11,gD g2),(12,gD g5),(13,aF ((kb:Nat):Int))]/\mJ=ig.pl.m.aA.length - kb/\kb<=ig.pl.m.aA.length/\Hp b S wJ (dY g5 51 [.slice alM (((dS ig.pl.s ig.pl.aN).eF).length) alN,.slice alO (((dS ig.pl.s ig.pl.aN).bY).length) alP,.slice alQ (((dS ig.pl.s ig.pl.aN).bL).length) alR]::aS iO 107 alM alN ((dS ig.pl.s ig.pl.aN).eF)::aS dJ 117 alO alP ((dS ig.pl.s ig.pl.aN).bY)::aS bG 112 alQ alR ((dS ig.pl.s ig.pl.aN).bL)::CU PZ ig::aS iO 107 Q5 Q7 ig.pl.s.eF::aS dJ 117 awZ aw0 ig.pl.s.bY::aS bG 112 aw1 aw2 ig.pl.s.bL::dY g2 45 [.slice EL ig.pl.m.aT.length EM,.slice Us ig.pl.m.aA.length Ut,.slice Uu ig.pl.m.aP.length Uw]::dP cZ EL EM ig.pl.m.aT::dP bJ Us Ut ig.pl.m.aA::dP bX Uu Uw ig.pl.m.aP::dP cZ Gv Gw Gk.pl.m.aT::dP bJ aen aeo Gk.pl.m.aA::dP bX aep aer Gk.pl.m.aP::dY g1 23 [aF r.jV,aF r.lQ,aF r.All,aF r.nE,aF r.jr,aF r.eP]::dP tItem jl jk l::F)) ⟨0,Y,Y,fJ _,K34⟩ Y ?_
    rintro _ _ w35 ⟨kb,rfl,rfl,hkb,K35⟩;refine aW<|bQ Y<|jT g2 1 jE K35 s8 Y<|ev (eU iN Y)<|ev (fC Y Y)<|dn<|bK Y (λGH=>?_) (λGH=>?_)
    ·replace GH:=gW GH;refine jm ?_;refine aW<|cB ?_
     obtain⟨x6,hx6⟩:=bC (xs:=ig.pl.m.aA) (i:=kb) aj;refine He K35 (λ_ K=>K) (λl0 rk lJ wJ=>∃(Aj5:ah)(cj5:Nat),lJ=(14,.slice Aj5 ((kG ((dS ig.pl.s ig.pl.aN).bL) x6.ID).length) cj5)::l0/\Hp b S wJ (aS dQ 3 Aj5 cj5 (kG ((dS ig.pl.s ig.pl.aN).bL) x6.ID)::rk)) (λhns H7=>?_) ?_
     ·refine ng 0 1 g5 2 yD s0 Y H7<|ng 2 3 g2 1 jE s8 Y H7<|kX 4 Y Y H7<|lD 5 Y (λ_ hK=>cu (i:=kb) iN o9 Y Y Y (aJ hx6) ((hK.s s10).some_ hx6)) H7<|lD 6 Y (λ_ _=>dW pq Y (fH _ _ _)) H7<|O1 7 Y ?_
      obtain⟨B5,d5,aI9,hi5⟩:=uP (H7.is s10 hx6);have H8:=H7.push hi5;refine ev (iL jD Y (aI9 0 _ Y)) ?_;have k5:=(H8.rm s0);refine aQ k5<|O1 8 Y<|gX Y (P5 _ (H8.o s4) x6.ID (lV (vE _ _).2 (by have h9:=hI2.hd; omega))) ?_
      rintro _ w36 ⟨asE,asF,rfl,h36⟩;have Zl:=H8.f1 h36;have aAL:=(Zl.o s0).bH;have k6:=(Zl.cU 0 2);refine aQ k6<|xI 9 Y Y k6<|Dn ⟨asE,asF,Y,(Zl.rm s1)⟩ Y
     rintro _ w37 ⟨Aj5,cj5,rfl,K37⟩;have hgb:=Nz (dS ig.pl.s ig.pl.aN).bL x6.ID; have aF2:=(vE ig.pl.s ig.pl.aN).2; have aF3:=hI2.hd;refine iZ Y<|cB<|Lp K37 (λl0 rk mJ lJ wJ=>∃(kc:Nat),lJ=(15,aF ((kc:Nat):Int))::l0/\mJ=(kG ((dS ig.pl.s ig.pl.aN).bL) x6.ID).length - kc/\kc<=(kG ((dS ig.pl.s ig.pl.aN).bL) x6.ID).length/\Hp b S wJ rk) ⟨0,Y,Y,fJ _,K37⟩ Y ?_
     rintro _ _ w38 ⟨kc,rfl,rfl,hkc,K38⟩;refine aW<|bQ Y<|mv Y<|ev (eU fB Y)<|ev (fC Y Y)<|dn<|bK Y (λhc98=>?_) (λhc98=>?_)
     ·replace hc98:=gW hc98;refine jm ?_;refine aW<|cB<|qo ak ak<|bA (dW (q:=⟨g2,1,none⟩) jE Y Y) Y<|bA (dx Xr Y (K38.x s9) Y) Y<|bA (bf Y) Y<|bA (cu (i:=kb) iN o9 Y Y Y (aJ hx6) ((K38.s s11).some_ hx6)) Y<|bA (dW j5 Y (fH _ _ _)) Y ?_
      obtain⟨B6,d6,aJa,hi6⟩:=uP (K38.is s11 hx6);have H9:=K38.push hi6;refine bA (iL Bf Y (aJa 3 _ Y)) Y<|bA (bf Y) Y<|bA (bf Y) Y ?_
      obtain⟨x7,hx7⟩:=bC (xs:=kG ((dS ig.pl.s ig.pl.aN).bL) x6.ID) (i:=kc) aj;refine bA (cu (i:=kc) fB rZ Y Y Y (aJ hx7) ((H9.o s1).some_ hx7)) Y<|bA (iL jD Y ((H9.o s1).fF (j:=0) hx7 Y)) Y<|Fv (v:=.bool (x6.aD.contains x7)) Y Y Y ato (λwq eq=>(Ur wq ((H9.s s0).any.ext eq) x7).mono (by rintro _ _ ⟨rfl,fQ⟩; exact⟨rfl,fQ.ext⟩)) rfl<|bA (om rfl) rfl<|qp λw39 e39=>?_
      have K39:=H9.grow e39;refine bQ Y ?_;have jW:(x6.aD.contains x7:Bool)=false:=by exact Zi hT2 (bT hx6) (bT hx7)
      refine fU (t:=112) Y (aR Value.bool jW)<|dn<|bK Y nofun (λ_h=>?_)
      refine xQ ?_;refine jy<|mv Y<|ev (dO Y Y)<|iI Y<|jA<|dI ⟨(kc+1),Y,Y,aj,(K39.rm s0)⟩ rfl aj
     replace hc98:=iJ hc98;refine qJ (lu (lu (rE (iE (gG ?_)))));refine jy<|mv Y<|ev (dO Y Y)<|iI Y<|jA<|dI ⟨(kb+1),Y,Y,aj,(K38.rm s0)⟩ rfl aj
    replace GH:=iJ GH;refine qJ (lu (lu (rE (iE (gG ?_)))));refine jy<|mv Y<|ev (dO Y Y)<|iI Y<|jA<|dI ⟨(k+1),ig,Y,Y,aj,by rw [fD bP,vG,<- hG]; exact J3,by exact hT2,((K35.cU 5 10).cU 0 4)⟩ rfl aj
  replace CB:=iJ CB;refine wE ?_;refine iZ Y<|jc Y ?_
  exact⟨Y,(K4.cU 0 3)⟩
theorem ctold_true{S0:Nat->Prop}(w:World)(r:ARules){A:ah}{c:Nat}{l:List AItem}(jo:Sl tItem S0 w A c l)(hwf:∀ x∈l,x.wf) :
    bS prog 5 #[.agg #[aF r.jV,aF r.lQ,aF r.All,aF r.nE,aF r.jr,aF r.eP],.slice A l.length c] w λv w'=>v=.bool true/\Hp w S0 w' []:=by
  have H0:=(KM w S0).push ((KM w S0).a jo);have hC:∀ x∈l,qm x.C:=λx hx=>(hwf x hx).2.2.2
  cases hr:lY r with
  | false=>exact atp (F:=[]) H0 r hr hC
  | true=>exact aoq (F:=[]) H0 r hr hC
end Go.Proofs.YtlhnnmlenkahlaaGreat
