/- Lemmas. -/
import Derived.Test.YtlhnnmlenkahlaaGreatrG30
import Derived.Test.YtlhnnmlenkahlaaGreatrG32
import Derived.Test.YtlhnnmlenkahlaaGreatrG34
import Derived.Test.YtlhnnmlenkahlaaGreatrG38
import Derived.Test.YtlhnnmlenkahlaaGreatrG39
set_option maxRecDepth 4000
set_option linter.all false
namespace Go.Proofs.YtlhnnmlenkahlaaGreat
open Go.RowKit Go.Proofs.Tryz
theorem aoj{b w:World}{S:Nat->Prop}{F:List lH}{jl:ah}{jk:Nat}{l:List AItem}(H0:Hp b S w (dP tItem jl jk l::F))(r:ARules)(aL:Int)(hr:lY r=false)(hwf:∀ x∈l,qm x.C) :
    bS prog 3 #[.agg #[aF r.jV,aF r.lQ,aF r.All,aF r.nE,aF r.jr,aF r.eP],.slice jl l.length jk,aF aL] w λv w'=>v=.bool true/\Hp b S w' F:=by
 refine sV func3 ntmps3 Y<|rg<|bx Y Y H0 λg1 w1 K1=>bU Y<|rg<|gX Y (Io K1 ) ?_
 rintro _ w2 ⟨rfl,K2⟩;refine bU Y<|rg<|ev (dU Hr Y Y (K2.x s0))<|gX Y (ad6 K2 r hr) ?_
 rintro _ w3 ⟨rfl,K3⟩;refine mv Y<|xt Y Y<|xt Y Y<|iI Y<|bU Y<|aW<|bQ Y<|ev (iB Y)<|mv Y<|bn Y (bf Y) Y<|bn Y (eU underlying24 Y) Y<|bn Y (pV Y Y) Y<|ev (dL Y Y)<|mv Y ?_
 cases afk:decide (150<((l.length:Nat):Int)) with
 | true=>
  refine dN<|dN<|ev (dH Y Y)<|mv Y<|dN<|dN<|ev (dH Y Y)<|mv Y<|dN<|dN<|ev (dH Y Y)<|mv Y<|dN<|dN<|ev (dH Y Y)<|dn<|bK Y (λ_h=>?_) nofun
  refine bQ Y<|bU Y<|uX Y ?_
  exact⟨Y,(K3.cU 0 2)⟩
 | false=>
  refine bn Y (bf Y) Y<|bn Y (nQ Y Y) Y<|ev (dL Y Y)<|mv Y<|dN<|dN<|ev (dH Y Y)<|mv Y<|dN<|dN<|ev (dH Y Y)<|mv Y<|dN<|dN<|ev (dH Y Y)<|dn<|bK Y (λ_h=>?_) nofun
  refine bQ Y<|bU Y<|uX Y ?_
  exact⟨Y,(K3.cU 0 2)⟩
theorem ajL{b w:World}{S:Nat->Prop}{F:List lH}{jl:ah}{jk:Nat}{l:List AItem}(H0:Hp b S w (dP tItem jl jk l::F))(r:ARules)(aL:Int)(hr:lY r=true)(hwf:∀ x∈l,qm x.C) :
    bS prog 3 #[.agg #[aF r.jV,aF r.lQ,aF r.All,aF r.nE,aF r.jr,aF r.eP],.slice jl l.length jk,aF aL] w λv w'=>v=.bool true/\Hp b S w' F:=by
 refine sV func3 ntmps3 Y<|rg<|bx Y Y H0 λg1 w1 K1=>bU Y<|rg<|gX Y (Io K1 ) ?_
 rintro _ w2 ⟨rfl,K2⟩;refine bU Y<|rg<|ev (dU Hr Y Y (K2.x s0))<|gX Y (V4 K2 r hr) ?_
 rintro _ w3 ⟨PZ,ahp,rfl,Y9,K3⟩;refine mv Y<|xt Y Y<|xt Y Y<|iI Y<|bU Y<|aW<|bQ Y<|ev (iB Y)<|mv Y<|bn Y (bf Y) Y<|bn Y (eU underlying24 Y) Y<|bn Y (pV Y Y) Y<|ev (dL Y Y)<|mv Y ?_
 cases afk:decide (150<((l.length:Nat):Int)) with
 | true=>
  refine dN<|dN<|ev (dH Y Y)<|mv Y<|dN<|dN<|ev (dH Y Y)<|mv Y<|dN<|dN<|ev (dH Y Y)<|mv Y<|dN<|dN<|ev (dH Y Y)<|dn<|bK Y (λ_h=>?_) nofun
  refine bQ Y<|bU Y<|uX Y ?_
  exact⟨Y,(K3.cU 0 3)⟩
 | false=>
  refine bn Y (bf Y) Y<|bn Y (nQ Y Y) Y<|ev (dL Y Y)<|mv Y<|bn Y (bf Y) Y<|bn Y (Ev.agA aee Y Y) Y<|ev (dL Y Y)<|mv Y<|bn Y (bf Y) Y<|bn Y (fC Y Y) Y<|ev (dL Y Y)<|mv Y ?_
  cases amU:decide (aL<0) with
  | true=>
   refine dN<|dN<|ev (dH Y Y)<|dn<|bK Y (λ_h=>?_) nofun
   refine bQ Y<|bU Y<|uX Y ?_
   exact⟨Y,(K3.cU 0 3)⟩
  | false=>
   refine bn Y (bf Y) Y<|bn Y (pV Y Y) Y<|ev (dL Y Y)<|dn<|bK Y (λxE=>?_) (λxE=>?_)
   ·replace xE:=gW xE;refine bQ Y<|bU Y<|uX Y ?_
    exact⟨Y,(K3.cU 0 3)⟩
   replace xE:=iJ xE;refine jm ?_;have aFX:l.length<=150:=by have h9:¬ (150:Int)<((l.length:Nat):Int):=iJ (by assumption); omega
   refine iZ Y<|aW<|iZ Y<|cB ?_
   have eO:((-1):Int)=(none.getD (-1)):=by rfl
   refine lC (t:=10) Y (aR (Value.int .i64) eO)<|pK (λmJ lJ wJ=>∃(k:Nat)(Gk:GC)(o:Option Int),lJ=[(1,.slice jl l.length jk),(2,aF aL),(8,gD PZ),(10,aF (o.getD (-1))),(11,aF ((k:Nat):Int))]/\mJ=l.length - k/\k<=l.length/\(Gk.pl=aec (V3 r) (l.take k))/\(EP Gk.pl.m.aA aL o)/\(∀ n,o=some n->0<=n/\n<=65535)/\Hp b S wJ (CU PZ Gk::dY g1 23 [aF r.jV,aF r.lQ,aF r.All,aF r.nE,aF r.jr,aF r.eP]::dP tItem jl jk l::F)) ⟨0,ahp,none,Y,Y,fJ _,by rw [Y9]; rfl,by rw [Y9]; exact aFW r aL,by intro n h; exact absurd h av,K3⟩ rfl ?_
   rintro _ _ w4 ⟨k,Gk,o,rfl,rfl,hk,hG,hS,hob,K4⟩;refine aW<|bQ Y<|mv Y<|ev (eU underlying24 Y)<|ev (fC Y Y)<|dn<|bK Y (λaiP=>?_) (λaiP=>?_)
   ·replace aiP:=gW aiP;refine jm ?_;refine aW<|cB ?_
    have hI:Inv Gk.pl k:=by rw [hG]; exact aed hr aj
    refine bQ Y<|mv Y<|mv Y ?_
    obtain⟨x1,bP⟩:=bC (xs:=l) (i:=k) aj;refine ev (cu (i:=k) underlying24 OL Y Y Y (aJ bP) ((K4.s s2).some_ bP))<|ev (gI Ar Y Y ((K4.s s2).fE bP))<|gX Y (J2 K4 x1 (hI.ok aj) (hwf _ (bT bP))) ?_
    rintro _ w5 ⟨Nc,rfl,Un,K5⟩;have hI2:Inv Nc.pl (k+1):=by rw [Un]; exact GJ hI _
    have hr9:Nc.pl.r=r:=by rw [Un,awD,hG,alq]; rfl
    skip
    refine bU Y<|aW<|bQ Y<|mv Y<|ev (cu (i:=k) underlying24 OL Y Y Y (aJ bP) ((K5.s s2).some_ bP))<|ev (dW oD Y (fH _ _ _))<|ev (iL jD Y ((K5.s s2).fF (j:=0) bP Y))<|ev (iA Y Y)<|mv Y<|iP 8 71 ((decide (x1.Kind=11))&&(decide (x1.A=aL))) ?_ ?_
    ·cases aFY:decide (x1.Kind=11) with
     | true=>
      have aLh:=gW aFY;refine bn Y (bf Y) Y<|bn Y (bf Y) Y<|bn Y (cu (i:=k) underlying24 OL Y Y Y (aJ bP) ((K5.s s2).some_ bP)) Y<|bn Y (dW nV Y (fH _ _ _)) Y<|bn Y (iL jD Y ((K5.s s2).fF (j:=1) bP Y)) Y<|bn Y (bf Y) Y<|bn Y (iA Y Y) Y<|ev (dH Y Y)<|dM Y
     | false=>
      refine dN<|dN<|dN<|dN<|dN<|dN<|dN<|ev (dL Y Y)<|dM Y
    refine mv Y<|iP 3 75 (((decide (x1.Kind=11))&&(decide (x1.A=aL)))&&(decide ((AU Gk.pl x1).2=0))) ?_ ?_
    ·cases aIT:((decide (x1.Kind=11))&&(decide (x1.A=aL))) with
     | true=>
      have aFZ:=aIT
      try simp only [bN,eH,bO,bV] at aFZ
      refine bn Y (bf Y) Y<|bn Y (iA Y Y) Y<|ev (dH Y Y)<|dM Y
     | false=>
      refine dN<|dN<|ev (dL Y Y)<|dM Y
    refine dn<|bK Y (λata=>?_) (λata=>?_)
    ·try simp only [bN,eH,bO,bV] at ata
     refine bQ Y<|mv Y<|ev (cu (i:=k) underlying24 OL Y Y Y (aJ bP) ((K5.s s2).some_ bP))<|ev (dW RU Y (fH _ _ _))<|ev (iL jD Y ((K5.s s2).fF (j:=2) bP Y))<|bU Y<|bQ Y<|ev (fC Y Y)<|mv Y<|iP 3 86 ((decide (x1.B<0))||(decide (65535<x1.B))) ?_ ?_
     ·cases aIU:decide (x1.B<0) with
      | true=>
       refine dN<|dN<|ev (dH Y Y)<|dM Y
      | false=>
       have aLi:=iJ aIU;refine bn Y (bf Y) Y<|bn Y (pV Y Y) Y<|ev (dL Y Y)<|dM Y
     refine dn<|bK Y (λawJ=>?_) (λawJ=>?_)
     ·try simp only [fq,dX,bO,bV] at awJ
      refine iZ Y<|jf (fT (jg (fT (fT (jg (fT (zA Y ?_)))))))
      exact⟨Y,(K5.cU 0 3)⟩
     try simp only [fq,dX,bO,bV] at awJ
     refine jm ?_
     have hS2:EP Nc.pl.m.aA aL (some x1.B):=by
      have h9:=as9 hI x1 aL o hS;rw [<- Un] at h9; unfold ahv at h9;rw [aO (by revert ata; simp [and_assoc])] at h9; exact h9
     have hrg:0<=x1.B/\x1.B<=65535:=by simp at awJ; omega
     have aei:∀ n,(some x1.B)=some n->0<=n/\n<=65535:=by intro n h; injection h with h; subst h; exact hrg
     refine bQ Y<|mv Y<|gX Y (Y6 K5 aL (hI2.ok aj)) ?_
     rintro _ w6 ⟨Dm,Dp,rfl,K6⟩;have aLj:=(K6.o s0).bH;refine mv Y<|xt Y Y<|xt Y Y<|iI Y<|bU Y<|aW<|bQ Y<|ev (fC Y Y)<|dn<|bK Y (λGI=>?_) (λGI=>?_)
     ·replace GI:=gW GI;refine aW ?_;have hrd:=Za hI2 hS2 aei GI;refine bQ Y<|ev (nQ Y Y) ?_
      have fQ:((!decide ((vw Nc.pl aL).2=5)):Bool)=false:=by rw [hrd]; rfl
      refine fU (t:=96) Y (aR Value.bool fQ)<|mv Y<|bn Y (bf Y) Y<|bn Y (eU EC Y) Y<|bn Y (nQ Y Y) Y ?_
      have jW:((!decide (((((vw Nc.pl aL).1).length:Nat):Int)=0)):Bool)=false:=by rw [hrd]; rfl
      refine fU (t:=100) Y (aR Value.bool jW)<|ev (dL Y Y)<|dn<|OQ [(1,.slice jl l.length jk),(2,aF aL),(8,gD PZ),(10,aF x1.B),(11,aF ((k:Nat):Int)),(101,.bool false)] Y<|bK Y nofun (λ_h=>?_)
      refine jm ?_;refine qJ (lu (rE (gG ?_)));refine jy<|mv Y<|ev (dO Y Y)<|iI Y<|jA ?_
      have mH:(x1.B:Int)=((some x1.B).getD (-1)):=by rfl
      refine jq (t:=10) Y (aR (Value.int .i64) mH)<|dI ⟨(k+1),Nc,(some x1.B),Y,Y,aj,by rw [fD bP,vG,<- hG]; exact Un,by exact hS2,by exact aei,(K6.rm s0)⟩ rfl aj
     replace GI:=iJ GI;refine jm ?_
     rcases Zb hI2 hS2 GI with hrd | ⟨hrd,aA3⟩
     ·have H1:=K6.fz s0;rw [hrd];refine He H1 (λ_ K=>K) (λl0 rk lJ wJ=>lJ=(120,.bool false)::l0/\Hp b S wJ rk) (λhns H2=>?_) ?_
      ·refine kX 0 Y Y H2<|lD 1 Y (λ_ _=>nQ Y Y) H2<|kX 2 Y Y H2<|tgz 3 Y Y (λ_ _=>bf Y) H2<|tgz 4 Y Y (λ_ _=>nQ Y Y) H2<|lD 5 Y (λ_ _=>dH Y Y) H2<|kX 6 Y Y H2<|tgz 7 Y Y (λ_ _=>bf Y) H2<|tgz 8 Y Y (λ_ _=>iA Y Y) H2<|tgz 9 Y Y (λ_ _=>bf Y) H2<|J6 10 Y Y Y H2<|J6 11 Y Y Y H2<|J6 12 Y Y Y H2<|J6 13 Y Y Y H2<|O1 14 Y<|dN<|aQ H2<|J6 15 Y Y Y H2<|J6 16 Y Y Y H2<|tgz 17 Y Y (λ_ _=>dL Y Y) H2 ?_
       refine lD 18 Y (λ_ _=>dL Y Y) H2<|Dn ⟨Y,H2⟩ Y
      rintro _ w7 ⟨rfl,K7⟩;refine bK Y nofun (λ_h=>?_);refine xQ ?_;refine jy<|mv Y<|ev (dO Y Y)<|iI Y<|jA ?_
      have rR:(x1.B:Int)=((some x1.B).getD (-1)):=by rfl
      refine jq (t:=10) Y (aR (Value.int .i64) rR)<|dI ⟨(k+1),Nc,(some x1.B),Y,Y,aj,by rw [fD bP,vG,<- hG]; exact Un,by exact hS2,by exact aei,(K7.rm s0)⟩ rfl aj
     ·have H3:=K6.fz s0;rw [hrd];have H4:=H3;rw [aA3] at H4 ⊢;refine He H4 (λ_ K=>K) (λl0 rk lJ wJ=>lJ=(120,.bool false)::l0/\Hp b S wJ rk) (λhns H5=>?_) ?_
      ·refine kX 0 Y Y H5<|lD 1 Y (λ_ _=>nQ Y Y) H5<|kX 2 Y Y H5<|J6 3 Y Y Y H5<|J6 4 Y Y Y H5<|lD 5 Y (λ_ _=>dL Y Y) H5<|kX 6 Y Y H5<|tgz 7 Y Y (λ_ _=>bf Y) H5<|tgz 8 Y Y (λ_ _=>iA Y Y) H5<|tgz 9 Y Y (λ_ _=>bf Y) H5<|tgz 10 Y Y (λ_ _=>bf Y) H5<|tgz 11 Y Y (λ_ hK=>Ev.b2s (e:=5) (hK.s s0) ak ak ak Y) H5<|tgz 12 Y Y (λ_ _=>bf Y) H5<|tgz 13 Y Y (λ_ _=>bf Y) H5<|O1 14 Y<|oh Y Y Y Y ax1 (YW (S0:=Any) _ aL x1.B) Y ?_
       rintro _ w8 ⟨EZ,E5,rfl,h8⟩;have K8:=H5.f1 h8;have axl:=(K8.o s0).bH;have k1:=(K8.rm s0);refine aQ k1<|O1 15 Y ?_
       have H6:=K8.fz s0;refine bn Y (Ev.b2s (e:=5) (H6.s s0) ak ak ak Y) Y ?_;have k2:=(H6.rm s0);refine aQ k2<|tgz 16 Y Y (λ_ _=>Ev.ahw Y Y) k2<|tgz 17 Y Y (λ_ _=>dH Y Y) k2<|lD 18 Y (λ_ _=>dL Y Y) k2<|Dn ⟨Y,(H6.rm s0)⟩ Y
      rintro _ w9 ⟨rfl,K9⟩;refine bK Y nofun (λ_h=>?_);refine xQ ?_;refine jy<|mv Y<|ev (dO Y Y)<|iI Y<|jA ?_
      have wM:(x1.B:Int)=((some x1.B).getD (-1)):=by rfl
      refine jq (t:=10) Y (aR (Value.int .i64) wM)<|dI ⟨(k+1),Nc,(some x1.B),Y,Y,aj,by rw [fD bP,vG,<- hG]; exact Un,by exact hS2,by exact aei,(K9.rm s0)⟩ rfl aj
    try simp only [bN,eH,bO,bV] at ata
    refine jm ?_
    have hS2:EP Nc.pl.m.aA aL o:=by
     have h9:=as9 hI x1 aL o hS;rw [<- Un] at h9; unfold ahv at h9;rw [aK (by revert ata; simp [and_assoc])] at h9; exact h9
    have aei:=hob;refine bQ Y<|mv Y<|gX Y (Y6 K5 aL (hI2.ok aj)) ?_
    rintro _ Oz ⟨LK,LP,rfl,K10⟩;have aA4:=(K10.o s0).bH;refine mv Y<|xt Y Y<|xt Y Y<|iI Y<|bU Y<|aW<|bQ Y<|ev (fC Y Y)<|dn<|bK Y (λGI=>?_) (λGI=>?_)
    ·replace GI:=gW GI;refine aW ?_;have hrd:=Za hI2 hS2 aei GI;refine bQ Y<|ev (nQ Y Y) ?_
     have zk:((!decide ((vw Nc.pl aL).2=5)):Bool)=false:=by rw [hrd]; rfl
     refine fU (t:=96) Y (aR Value.bool zk)<|mv Y<|bn Y (bf Y) Y<|bn Y (eU EC Y) Y<|bn Y (nQ Y Y) Y ?_
     have hq8:((!decide (((((vw Nc.pl aL).1).length:Nat):Int)=0)):Bool)=false:=by rw [hrd]; rfl
     refine fU (t:=100) Y (aR Value.bool hq8)<|ev (dL Y Y)<|dn<|bK Y nofun (λ_h=>?_)
     refine jm ?_;refine qJ (lu (rE (gG ?_)));refine jy<|mv Y<|ev (dO Y Y)<|iI Y<|jA<|dI ⟨(k+1),Nc,o,Y,Y,aj,by rw [fD bP,vG,<- hG]; exact Un,by exact hS2,by exact aei,(K10.rm s0)⟩ rfl aj
    replace GI:=iJ GI;refine jm ?_
    rcases Zb hI2 hS2 GI with hrd | ⟨hrd,aA3⟩
    ·have H7:=K10.fz s0;rw [hrd];refine He H7 (λ_ K=>K) (λl0 rk lJ wJ=>lJ=(120,.bool false)::l0/\Hp b S wJ rk) (λhns H8=>?_) ?_
     ·refine kX 0 Y Y H8<|lD 1 Y (λ_ _=>nQ Y Y) H8<|kX 2 Y Y H8<|tgz 3 Y Y (λ_ _=>bf Y) H8<|tgz 4 Y Y (λ_ _=>nQ Y Y) H8<|lD 5 Y (λ_ _=>dH Y Y) H8<|kX 6 Y Y H8<|tgz 7 Y Y (λ_ _=>bf Y) H8<|tgz 8 Y Y (λ_ _=>iA Y Y) H8<|tgz 9 Y Y (λ_ _=>bf Y) H8<|J6 10 Y Y Y H8<|J6 11 Y Y Y H8<|J6 12 Y Y Y H8<|J6 13 Y Y Y H8<|O1 14 Y<|dN<|aQ H8<|J6 15 Y Y Y H8<|J6 16 Y Y Y H8<|tgz 17 Y Y (λ_ _=>dL Y Y) H8 ?_
      refine lD 18 Y (λ_ _=>dL Y Y) H8<|Dn ⟨Y,H8⟩ Y
     rintro _ Ti ⟨rfl,tZ⟩;refine bK Y nofun (λ_h=>?_);refine xQ ?_;refine jy<|mv Y<|ev (dO Y Y)<|iI Y<|jA<|dI ⟨(k+1),Nc,o,Y,Y,aj,by rw [fD bP,vG,<- hG]; exact Un,by exact hS2,by exact aei,(tZ.rm s0)⟩ rfl aj
    ·have H9:=K10.fz s0;rw [hrd];have H10:=H9;rw [aA3] at H10 ⊢;refine He H10 (λ_ K=>K) (λl0 rk lJ wJ=>lJ=(120,.bool false)::l0/\Hp b S wJ rk) (λhns H11=>?_) ?_
     ·refine kX 0 Y Y H11<|lD 1 Y (λ_ _=>nQ Y Y) H11<|kX 2 Y Y H11<|J6 3 Y Y Y H11<|J6 4 Y Y Y H11<|lD 5 Y (λ_ _=>dL Y Y) H11<|kX 6 Y Y H11<|tgz 7 Y Y (λ_ _=>bf Y) H11<|tgz 8 Y Y (λ_ _=>iA Y Y) H11<|tgz 9 Y Y (λ_ _=>bf Y) H11<|tgz 10 Y Y (λ_ _=>bf Y) H11<|tgz 11 Y Y (λ_ hK=>Ev.b2s (e:=5) (hK.s s0) ak ak ak Y) H11<|tgz 12 Y Y (λ_ _=>bf Y) H11<|tgz 13 Y Y (λ_ _=>bf Y) H11<|O1 14 Y<|oh Y Y Y Y ax1 (YW (S0:=Any) _ aL (o.getD (-1))) Y ?_
      rintro _ Sm ⟨aLk,aLl,rfl,h12⟩;have sJ:=H11.f1 h12;have aqA:=(sJ.o s0).bH;have k3:=(sJ.rm s0);refine aQ k3<|O1 15 Y ?_
      have H12:=sJ.fz s0;refine bn Y (Ev.b2s (e:=5) (H12.s s0) ak ak ak Y) Y ?_;have k4:=(H12.rm s0);refine aQ k4<|tgz 16 Y Y (λ_ _=>Ev.ahw Y Y) k4<|tgz 17 Y Y (λ_ _=>dH Y Y) k4<|lD 18 Y (λ_ _=>dL Y Y) k4<|Dn ⟨Y,(H12.rm s0)⟩ Y
     rintro _ Xu ⟨rfl,wz⟩;refine bK Y nofun (λ_h=>?_);refine xQ ?_;refine jy<|mv Y<|ev (dO Y Y)<|iI Y<|jA<|dI ⟨(k+1),Nc,o,Y,Y,aj,by rw [fD bP,vG,<- hG]; exact Un,by exact hS2,by exact aei,(wz.rm s0)⟩ rfl aj
   replace aiP:=iJ aiP;refine wE ?_;refine iZ Y<|jc Y ?_
   exact⟨Y,(K4.cU 0 3)⟩
theorem creads_true{S0:Nat->Prop}(w:World)(r:ARules){A:ah}{c:Nat}{l:List AItem}(jo:Sl tItem S0 w A c l)(aL:Int)(hwf:∀ x∈l,x.wf) :
    bS prog 3 #[.agg #[aF r.jV,aF r.lQ,aF r.All,aF r.nE,aF r.jr,aF r.eP],.slice A l.length c,aF aL] w λv w'=>v=.bool true/\Hp w S0 w' []:=by
  have H0:=(KM w S0).push ((KM w S0).a jo);have hC:∀ x∈l,qm x.C:=λx hx=>(hwf x hx).2.2.2
  cases hr:lY r with
  | false=>exact aoj (F:=[]) H0 r aL hr hC
  | true=>exact ajL (F:=[]) H0 r aL hr hC
end Go.Proofs.YtlhnnmlenkahlaaGreat
