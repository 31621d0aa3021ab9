/- Lemmas. -/
import Derived.Test.YtlhnnmlenkahlaaGreatrG30
import Derived.Test.YtlhnnmlenkahlaaGreatrG32
import Derived.Test.YtlhnnmlenkahlaaGreatrG34
import Derived.Test.YtlhnnmlenkahlaaGreatrG44
import Derived.Test.YtlhnnmlenkahlaaGreatrG45
set_option maxRecDepth 4000
set_option linter.all false
namespace Go.Proofs.YtlhnnmlenkahlaaGreat
open Go.RowKit Go.Proofs.Tryz
theorem aLv:bF prog 14:=ay
theorem aLw:bF prog 15:=ay
theorem aow{b w:World}{S:Nat->Prop}{F:List lH}{jl:ah}{jk:Nat}{l:List AItem}(H0:Hp b S w (dP tItem jl jk l::F))(r:ARules)(hr:lY r=false)(hwf:∀ x∈l,qm x.C) :
    bS prog 4 #[.agg #[aF r.jV,aF r.lQ,aF r.All,aF r.nE,aF r.jr,aF r.eP],.slice jl l.length jk] w λv w'=>v=.bool true/\Hp b S w' F:=by
 refine sV func4 ntmps4 Y<|rg<|bx Y Y H0 λg1 w1 K1=>bU Y<|rg<|gX Y (Io K1 ) ?_
 rintro _ w2 ⟨rfl,K2⟩;refine bU Y<|rg<|ev (dU Hr Y Y (K2.x s0))<|gX Y (ad6 K2 r hr) ?_
 rintro _ w3 ⟨rfl,K3⟩;refine mv Y<|xt Y Y<|xt Y Y<|iI Y<|bU Y<|bQ Y ?_
 have H1:=K3.push (K3.s s1);refine gX Y (U7 H1 ) ?_;rintro _ w4 ⟨rfl,K4⟩;refine bU Y<|aW<|bQ Y<|ev (iB Y)<|mv Y<|bn Y (bf Y) Y<|bn Y (eU underlying24 Y) Y<|bn Y (pV Y Y) Y<|ev (dL Y Y)<|mv Y ?_
 cases azm:decide (150<((l.length:Nat):Int)) with
 | true=>
  refine dN<|dN<|ev (dH Y Y)<|mv Y<|dN<|dN<|ev (dH Y Y)<|mv Y<|dN<|dN<|ev (dH Y Y)<|dn<|bK Y (λ_h=>?_) nofun
  refine bQ Y<|bU Y<|uX Y ?_
  exact⟨Y,(K4.cU 0 2)⟩
 | false=>
  refine bn Y (bf Y) Y<|bn Y (iB Y) Y<|ev (dL Y Y)<|mv Y ?_
  cases apG:(!(Nj l)) with
  | true=>
   refine dN<|dN<|ev (dH Y Y)<|mv Y<|dN<|dN<|ev (dH Y Y)<|dn<|bK Y (λ_h=>?_) nofun
   refine bQ Y<|bU Y<|uX Y ?_
   exact⟨Y,(K4.cU 0 2)⟩
  | false=>
   refine bn Y (bf Y) Y<|bn Y (nQ Y Y) Y<|ev (dL Y Y)<|mv Y<|dN<|dN<|ev (dH Y Y)<|dn<|bK Y (λ_h=>?_) nofun
   refine bQ Y<|bU Y<|uX Y ?_
   exact⟨Y,(K4.cU 0 2)⟩
theorem ajQ{b w:World}{S:Nat->Prop}{F:List lH}{jl:ah}{jk:Nat}{l:List AItem}(H0:Hp b S w (dP tItem jl jk l::F))(r:ARules)(hr:lY r=true)(hwf:∀ x∈l,qm x.C) :
    bS prog 4 #[.agg #[aF r.jV,aF r.lQ,aF r.All,aF r.nE,aF r.jr,aF r.eP],.slice jl l.length jk] w λv w'=>v=.bool true/\Hp b S w' F:=by
 refine sV func4 ntmps4 Y<|rg<|bx Y Y H0 λg1 w1 K1=>bU Y<|rg<|gX Y (Io K1 ) ?_
 rintro _ w2 ⟨rfl,K2⟩;refine bU Y<|rg<|ev (dU Hr Y Y (K2.x s0))<|gX Y (V4 K2 r hr) ?_
 rintro _ w3 ⟨PZ,ahp,rfl,Y9,K3⟩;refine mv Y<|xt Y Y<|xt Y Y<|iI Y<|bU Y<|bQ Y ?_
 have H1:=K3.push (K3.s s2);refine gX Y (U7 H1 ) ?_;rintro _ w4 ⟨rfl,K4⟩;refine bU Y<|aW<|bQ Y<|ev (iB Y)<|mv Y<|bn Y (bf Y) Y<|bn Y (eU underlying24 Y) Y<|bn Y (pV Y Y) Y<|ev (dL Y Y)<|mv Y ?_
 cases azm:decide (150<((l.length:Nat):Int)) with
 | true=>
  refine dN<|dN<|ev (dH Y Y)<|mv Y<|dN<|dN<|ev (dH Y Y)<|mv Y<|dN<|dN<|ev (dH Y Y)<|dn<|bK Y (λ_h=>?_) nofun
  refine bQ Y<|bU Y<|uX Y ?_
  exact⟨Y,(K4.cU 0 3)⟩
 | false=>
  refine bn Y (bf Y) Y<|bn Y (iB Y) Y<|ev (dL Y Y)<|mv Y ?_
  cases apG:(!(Nj l)) with
  | true=>
   refine dN<|dN<|ev (dH Y Y)<|mv Y<|dN<|dN<|ev (dH Y Y)<|dn<|bK Y (λ_h=>?_) nofun
   refine bQ Y<|bU Y<|uX Y ?_
   exact⟨Y,(K4.cU 0 3)⟩
  | false=>
   refine bn Y (bf Y) Y<|bn Y (nQ Y Y) Y<|ev (dL Y Y)<|mv Y<|bn Y (bf Y) Y<|bn Y (Ev.agA aee Y Y) Y<|ev (dL Y Y)<|dn<|bK Y nofun (λ_h=>?_)
   refine jm ?_;refine aW ?_;have aFX:l.length<=150:=by have h9:¬ (150:Int)<((l.length:Nat):Int):=iJ (by assumption); omega
   have hcalm:∀ x∈l,Calm x:=atG.1 (by simp_all);refine iZ Y<|cB<|pK (λmJ lJ wJ=>∃(k:Nat)(Gk:GC),lJ=[(1,.slice jl l.length jk),(6,gD PZ),(9,aF ((k:Nat):Int))]/\mJ=l.length - k/\k<=l.length/\(Gk.pl=aec (V3 r) (l.take k))/\(Keep Gk.pl)/\Hp b S wJ (CU PZ Gk::dY g1 23 [aF r.jV,aF r.lQ,aF r.All,aF r.nE,aF r.jr,aF r.eP]::dP tItem jl jk l::F)) ⟨0,ahp,Y,Y,fJ _,by rw [Y9]; rfl,by rw [Y9]; exact aBa r,K4⟩ rfl ?_
   rintro _ _ w5 ⟨k,Gk,rfl,rfl,hk,hG,hK,K5⟩;refine aW<|bQ Y<|mv Y<|ev (eU underlying24 Y)<|ev (fC Y Y)<|dn<|bK Y (λCB=>?_) (λCB=>?_)
   ·replace CB:=gW CB;refine jm ?_;refine aW<|cB ?_
    have hI:Inv Gk.pl k:=by rw [hG]; exact aed hr aj
    refine bQ Y<|mv Y<|mv Y ?_
    obtain⟨x1,bP⟩:=bC (xs:=l) (i:=k) aj;refine ev (cu (i:=k) underlying24 OL Y Y Y (aJ bP) ((K5.s s2).some_ bP))<|ev (gI Ar Y Y ((K5.s s2).fE bP))<|gX Y (J2 K5 x1 (hI.ok aj) (hwf _ (bT bP))) ?_
    rintro _ w6 ⟨ig,rfl,J3,K6⟩;have hI2:Inv ig.pl (k+1):=by rw [J3]; exact GJ hI _
    have hr9:ig.pl.r=r:=by rw [J3,awD,hG,alq]; rfl
    skip
    refine dn ?_;have hK2:Keep ig.pl:=by rw [J3]; exact aw4 hI hK (hcalm _ (bT bP))
    refine bQ Y<|gX Y (att K6 (hI2.ok aj)) ?_
    rintro _ w7 ⟨rfl,K7⟩;refine bU Y<|bQ Y ?_
    have eO:(GK ig.pl:Bool)=true:=by exact ajP hI2 hK2
    refine fU (t:=53) Y (aR Value.bool eO)<|ev (iB Y)<|dn<|bK Y nofun (λ_h=>?_)
    refine xQ ?_;refine jy<|mv Y<|ev (dO Y Y)<|iI Y<|jA<|dI ⟨(k+1),ig,Y,Y,aj,by rw [fD bP,vG,<- hG]; exact J3,by exact hK2,K7⟩ rfl aj
   replace CB:=iJ CB;refine wE ?_;refine iZ Y<|jc Y ?_
   exact⟨Y,(K5.cU 0 3)⟩
theorem ckeeps_true{S0:Nat->Prop}(w:World)(r:ARules){A:ah}{c:Nat}{l:List AItem}(jo:Sl tItem S0 w A c l)(hwf:∀ x∈l,x.wf) :
    bS prog 4 #[.agg #[aF r.jV,aF r.lQ,aF r.All,aF r.nE,aF r.jr,aF r.eP],.slice A l.length c] w λv w'=>v=.bool true/\Hp w S0 w' []:=by
  have H0:=(KM w S0).push ((KM w S0).a jo);have hC:∀ x∈l,qm x.C:=λx hx=>(hwf x hx).2.2.2
  cases hr:lY r with
  | false=>exact aow (F:=[]) H0 r hr hC
  | true=>exact ajQ (F:=[]) H0 r hr hC
end Go.Proofs.YtlhnnmlenkahlaaGreat
