/- Lemmas. -/
import Derived.Test.YthcmboepffiliaaGreatvG13
set_option maxRecDepth 4000
set_option linter.all false
namespace Go.Proofs.YthcmboepffiliaaGreat
open Go.RowKit Go.Proofs.Tryz
section
def aKP:bC prog 38:=ay
def ai7(a0:Int):prog.built 32 [(0,O a0)]=some #[O a0,O 0,O 0,O 0]:=ak
def Ed(l:List aT):Nat:=l.countP fun(n:aT)=>decide (n.fT=0)
def qA(m:bY)(r:ARules):Bool:=m.aM.all (fun(n:aT)=>decide (n.lV=16))&&(((decide (r.je<=(Ed m.aM:Int))&&decide (m.J.length<=8))&&decide (r.gV<=8))&&decide (r.eF=16))
def wz(m:bY)(r:ARules)(x:aH):Bool:=decide ((x.aD.length:Int)=r.je)&&decide (((iW x m.aM (m.aM.map aT.ID)).length:Int)=r.je)
def CZ(c:PC)(r:ARules):Bool:=c.m.J.all (wz c.m r)&&((F6 c&&decide ((pF c.m c.s r c.Z).length=0))&&decide ((mM c.m c.s r c.Z).length=0))
def TL{b w:World}{S:Nat->Prop}{F:V kF}{iy:Nat}{G:GC}{a b9:Nat}(H0:Hp b S w (wu iy G::F))(kind:Int)(hk9:kind=3∨kind=4∨kind=9∨kind=10∨kind=12)(hF:Fine G.pl a b9)(ha:a<=1000)(hb:b9<=9000):bM prog 10 #[fK iy,O kind] w λv w'=>∃(G1:GC),v=.tuple #[]/\G1.pl=rA kind (oI G.pl) G.pl/\Hp b S w' (wu iy G1::F):=by
 refine qN func10 ntmps10 Y ?_;have hok:Ok G.pl:=hF.ok ha aj;have hil:G.pl.m.aM.length<=16:=by have h9:=KR hF; unfold oI at h9; rw [jW] at h9; exact h9
 refine gD Y<|gu Y (TF H0 hok) ?_
 rintro _ w1 ⟨KG,KH,aau,aav,aaw,aax,rfl,K1⟩;have La:=(K1.s U).bI;have aBs:=(K1.s s1).bI;have aKM:=(K1.s s2).bI;refine al xK Y K1 λg1 w2 K2=>sty Y K2 U Y λw3 K3=>dn<|kX Y<|dF<|Lp (K3.rm s4) (λl0 rk mJ lJ wJ=>∃(k:Nat)(Gk:GC),lJ=(5,O ((k:Nat):Int))::l0/\mJ=G.pl.m.aM.length - k/\k<=G.pl.m.aM.length/\(Gk.pl=rA kind ((G.pl.m.aM.map aT.ID).take k) G.pl)/\(Fine Gk.pl a (b9+k))/\Hp b S wJ (wu iy Gk::rk)) ⟨0,G,Y,Y,fI _,by rfl,by exact hF,((K3.mV 0 4).sel s4)⟩ rfl ?_
 rintro _ _ w4 ⟨k,Gk,rfl,rfl,hk,hGk,hFk,K4⟩;refine aZ<|gD Y<|jP g1 0 lQ K4 s1 Y<|pA 3 Y<|bS Y (λoD=>?_) (λoD=>?_)
 ·replace oD:=iY oD;refine jQ ?_;refine aZ<|dF<|jN<|pq 2 Y<|jP g1 0 lQ K4 s1 Y<|mv Y ?_
  obtain⟨x1,bT⟩:=bH (xs:=G.pl.m.aM) (i:=k) aj;refine ev (d9 (i:=k) qm xU Y Y Y (aP bT) ((K4.s s2).some_ bT))<|ev (fq mF Y (fD _ _ _))<|ev (kG jF Y ((K4.s s2).eZ (j:=0) bT Y))<|ev (iT (vs:=[(0,O kind),(1,O x1.ID)]) (cs:=[O kind,O x1.ID,O 0,O 0]) Y (by apply NK))<|gu rfl (Vp K4 (⟨kind,x1.ID,0,0⟩:AItem) (hFk.ok ha aj) (by simp [vJ])) ?_
  rintro _ w5 ⟨av4,rfl,azM,K5⟩;have hF2:Fine av4.pl a (b9+(k+1)):=by rw [azM]; exact ani hFk hk9
  have hG2:av4.pl=rA kind ((G.pl.m.aM.map aT.ID).take (k+1)) G.pl:=by rw [eO (show(G.pl.m.aM.map aT.ID)[k]? = some x1.ID from by rw [rM,bT]; rfl),aqh,<- hGk]; exact azM
  skip
  refine jO<|iF (fV ?_)
  refine jN<|mv Y<|ev (eG Y Y)<|oJ Y<|jO<|dX ⟨(k+1),av4,Y,Y,aj,by exact hG2,by exact hF2,K5⟩ rfl aj
 replace oD:=jX oD;refine tu (mG (mG (tZ (o7 (uo Y ?_)))));exact⟨Gk,Y,(by rw [hGk,gY (by rw [jW]; omega)]; rfl),(K4.cU 1 4)⟩
def acM{b w:World}{S:Nat->Prop}{F:V kF}{iy:Nat}{G:GC}{a b9:Nat}(H0:Hp b S w (wu iy G::F))(kind:Int)(hk9:kind=6∨kind=7)(hF:Fine G.pl a b9)(ha:a<=1000)(hb:b9<=10000):bM prog 9 #[fK iy,O kind] w λv w'=>∃(G1:GC),v=.tuple #[]/\G1.pl=LW kind 500 G.pl/\Hp b S w' (wu iy G1::F):=by
 refine qN func9 ntmps9 Y<|kX Y<|dF<|Lp (H0.rm U) (λl0 rk mJ lJ wJ=>∃(k:Nat)(Gk:GC),lJ=(4,O ((k:Nat):Int))::l0/\mJ=500 - k/\k<=500/\(LW kind (500 - k) Gk.pl=LW kind 500 G.pl)/\(Fine Gk.pl a b9)/\Hp b S wJ (wu iy Gk::rk)) ⟨0,G,Y,Y,fI _,by rfl,by exact hF,H0⟩ rfl ?_
 rintro _ _ w1 ⟨k,Gk,rfl,rfl,hk,hGk,hFk,K1⟩;refine aZ<|pC 4 Y ?_
 cases hb7:decide (((k:Nat):Int)<500) with
 | true=>
  refine pq 1 Y<|om Y Y Y Y aKP (aiP K1 ) Y ?_
  rintro _ w2 ⟨rfl,K2⟩;have hk5:((k:Nat):Int)<500:=iY (by assumption)
  skip
  refine pA 3 Y<|bS Y (λzG=>?_) (λzG=>?_)
  ·replace zG:=iY zG;refine jQ ?_;refine aZ<|dF<|jN<|pq 2 Y<|ev (iT (vs:=[(0,O kind)]) (cs:=[O kind,O 0,O 0,O 0]) Y (by apply ai7))<|gu rfl (Vp K2 (⟨kind,0,0,0⟩:AItem) (hFk.ok ha hb) (by simp [vJ])) ?_
   rintro _ w3 ⟨ale,rfl,aqi,K3⟩;have hF2:Fine ale.pl a b9:=by rw [aqi]; exact ai5 hFk hk9
   have hG2:LW kind (500 - (k+1)) ale.pl=LW kind 500 G.pl:=by rw [<- hGk,show 500 - k=(500 - (k+1))+1 by omega,afv aj,aqi]
   skip
   refine jO<|iF (fV ?_)
   refine jN<|mv Y<|ev (eG Y Y)<|oJ Y<|jO<|dX ⟨(k+1),ale,Y,Y,aj,by exact hG2,by exact hF2,K3⟩ rfl aj
  replace zG:=jX zG;refine tu (mG (mG (tZ (o7 (uo Y ?_)))));exact⟨Gk,Y,(by rw [<- hGk]; first | (rw [ai6 aj]) | (have h9:¬ ((k:Nat):Int)<500:=jX (by assumption); rw [show 500 - k=0 by omega]; rfl)),K2⟩
 | false=>
  refine pA 5 Y<|bS Y nofun (λ_h=>?_)
  refine tu (mG (mG (tZ (o7 (uo Y ?_)))));exact⟨Gk,Y,(by rw [<- hGk]; first | (rw [ai6 aj]) | (have h9:¬ ((k:Nat):Int)<500:=jX (by assumption); rw [show 500 - k=0 by omega]; rfl)),K1⟩
def av5{b w:World}{S:Nat->Prop}{F:V kF}{iy:Nat}{G:GC}{a b9:Nat}(H0:Hp b S w (wu iy G::F))(rounds:Nat)(hF:Fine G.pl a b9)(hn:rounds<=120)(ha:a<=200)(hb:b9<=5000):bM prog 12 #[fK iy,O ((rounds:Nat):Int)] w λv w'=>∃(G1:GC),v=.tuple #[]/\G1.pl=anj rounds G.pl/\Hp b S w' (wu iy G1::F):=by
 refine qN func12 ntmps12 Y<|gD Y<|gu Y (TL H0 10 au hF aj aj) ?_
 rintro _ w1 ⟨aPv,rfl,aKQ,K1⟩;have hF0:Fine (rA 10 (oI G.pl) G.pl) a (b9+16):=(F8 (.inr (.inr (.inr (.inl rfl)))) _ hF).mono (j4 _) (by have:=KR hF; omega)
 skip
 refine dn<|kX Y<|dF<|Lp (K1.rm U) (λl0 rk mJ lJ wJ=>∃(k:Nat)(Gk:GC),lJ=(4,O ((k:Nat):Int))::l0/\mJ=rounds - k/\k<=rounds/\(Gk.pl=vH k (rA 10 (oI G.pl) G.pl))/\(Fine Gk.pl (a+2*k) (b9+16+32*k))/\Hp b S wJ (wu iy Gk::rk)) ⟨0,aPv,Y,Y,fI _,by exact aKQ,by rw [aKQ]; exact hF0,K1⟩ rfl ?_
 rintro _ _ w2 ⟨k,Gk,rfl,rfl,hk,hGk,hFk,K2⟩;refine aZ<|gD Y<|mv Y<|ev (iH Y Y)<|dn<|bS Y (λN8=>?_) (λN8=>?_)
 ·replace N8:=iY N8;refine jQ ?_;refine aZ<|dF<|gD Y<|ev (iT (vs:=[(0,O 0),(1,O 1)]) (cs:=[O 0,O 1,O 0,O 0]) Y (by apply NK))<|gu rfl (Vp K2 (⟨0,1,0,0⟩:AItem) (hFk.ok aj aj) (by simp [vJ])) ?_
  rintro _ w3 ⟨ale,rfl,aqi,K3⟩;have aKR:ale.pl=hlA (vH k (rA 10 (oI G.pl) G.pl)):=by rw [aqi]; rw [hGk]; rfl
  have aKS:=alc (QH hF0 k);rw [<- aKR] at aKS
  skip
  refine dn<|gD Y<|gu Y (TL K3 3 au aKS aj aj) ?_
  rintro _ w4 ⟨aPw,rfl,aPx,K4⟩;have aKT:aPw.pl=hlB (vH k (rA 10 (oI G.pl) G.pl)):=by rw [aPx]; rw [aKR]; rfl
  have aKU:=ald (QH hF0 k);rw [<- aKT] at aKU
  skip
  refine dn<|gD Y<|gu Y (TL K4 4 au aKU aj aj) ?_
  rintro _ w5 ⟨av4,rfl,azM,K5⟩;have aKV:av4.pl=F9 (vH k (rA 10 (oI G.pl) G.pl)):=by rw [azM]; rw [aKT]; rfl
  have aKW:=avZ (QH hF0 k);rw [<- aKV] at aKW
  skip
  refine dn<|gD Y<|ev (iT (vs:=[(0,O 5)]) (cs:=[O 5,O 0,O 0,O 0]) Y (by apply ai7))<|gu rfl (Vp K5 (⟨5,0,0,0⟩:AItem) (aKW.ok aj aj) (by simp [vJ])) ?_
  rintro _ w6 ⟨aEV,rfl,aEW,K6⟩;have aKX:aEV.pl=hlD (vH k (rA 10 (oI G.pl) G.pl)):=by rw [aEW]; rw [aKV]; rfl
  have aKY:=av0 (QH hF0 k);rw [<- aKX] at aKY
  skip
  refine dn<|jN<|mv Y<|gu Y (acM K6 6 au aKY aj aj) ?_
  rintro _ w7 ⟨aKZ,rfl,aPy,K7⟩;have aK0:aKZ.pl=DN (vH k (rA 10 (oI G.pl) G.pl)):=by rw [aPy]; rw [aKX]; rfl
  have aK1:=av1 (QH hF0 k);rw [<- aK0] at aK1
  skip
  refine jO<|iF (fV ?_)
  refine jN<|mv Y<|ev (eG Y Y)<|oJ Y<|jO<|dX ⟨(k+1),aKZ,Y,Y,aj,by exact aK0,by exact aK1.mono aj aj,K7⟩ rfl aj
 replace N8:=jX N8;refine tu (mG (mG (tZ (o7 (uo Y ?_)))));exact⟨Gk,Y,(by rw [hGk,show k=rounds by omega]; rfl),K2⟩
def aqj{S0:Nat->Prop}(w:World)(m:bY){xw:ah}{wO:Nat}(CV:Sl bW S0 w xw wO m.aM){wm:ah}{vO:Nat}(IY:Sl bD S0 w wm vO m.J){uS:ah}{uI:Nat}(Ql:Sl cB S0 w uS uI m.aU)(r:ARules):bM prog 8 #[.agg #[.slice xw m.aM.length wO,.slice wm m.J.length vO,.slice uS m.aU.length uI],.agg #[O r.lD,O r.l9,O r.All,O r.je,O r.gV,O r.eF]] w λv w'=>v=.bool (qA m r)/\Hp w S0 w' []:=by
 refine lg S0 func8 ntmps8 Y λH0=>?_;have aSN:=CV.bI;have aSO:=IY.bI;have Aa:=λk=>Ya (p:=fun(n:aT)=>decide (n.fT=0)) (l:=m.aM.take k)
 simp only [iX] at Aa
 refine rg<|bx Y Y H0 λg1 w1 K1=>bx Y Y K1 λg2 w2 K2=>pA 5 Y<|aZ<|kX Y<|dF ?_
 have gy:(0:Int)=(((Ed (m.aM.take 0)):Nat):Int):=by rfl
 refine mP (t:=5) Y (aY (Value.int .i64) gy)<|Lp K2 (λl0 rk mJ lJ wJ=>∃ k,lJ=(5,O (((Ed (m.aM.take k)):Nat):Int))::(6,O ((k:Nat):Int))::l0/\mJ=m.aM.length - k/\k<=m.aM.length/\(Ed (m.aM.take k)<=k)/\(∀ y∈m.aM.take k,decide (y.lV=16)=true)/\Hp w S0 wJ rk) ⟨0,Y,Y,fI _,by simp [Ed],av,K2⟩ rfl ?_
 rintro _ _ w3 ⟨k,rfl,rfl,hk,hsv,hno,K3⟩;refine aZ<|gD Y<|jP g1 0 lQ K3 s1 Y<|pA 3 Y<|bS Y (λzG=>?_) (λzG=>?_)
 ·replace zG:=iY zG;refine jQ ?_;refine aZ<|dF<|aZ<|rg<|jP g1 0 lQ K3 s1 Y<|mv Y ?_
  obtain⟨x1,bT⟩:=bH (xs:=m.aM) (i:=k) aj;refine ev (d9 (i:=k) qm xU Y Y Y (aP bT) ((K3.a CV).some_ bT))<|ev (fq yX Y (fD _ _ _))<|ev (kG jF Y ((K3.a CV).eZ (j:=3) bT Y))<|pA 2 Y<|bS Y (λl8=>?_) (λl8=>?_)
  ·replace l8:=iY l8;refine jN<|mv Y<|ev (eG Y Y)<|oJ Y<|jO<|fV<|rg<|jP g1 0 lQ K3 s1 Y<|mv Y<|ev (d9 (i:=k) qm xU Y Y Y (aP bT) ((K3.a CV).some_ bT))<|ev (fq Oh Y (fD _ _ _))<|ev (kG jF Y ((K3.a CV).eZ (j:=2) bT Y))<|pA 2 Y<|bS Y (λhc29=>?_) (λhc29=>?_)
   ·replace hc29:=oL hc29;refine kX Y<|jE (jM (gG (gG (jM (gG (uo Y ?_))))))
    have gH:(false:Bool)=(qA m r):=by symm; unfold qA; rw [ak6]; left; rw [Ur]; exact⟨x1,dz bT,by simp; assumption⟩
    exact⟨by rw [<- gH] <;> rfl,K3.z⟩
   replace hc29:=oM hc29;refine Gw ?_;refine jN<|mv Y<|ev (eG Y Y)<|oJ Y<|jO ?_
   have kN:((((Ed (m.aM.take k))+1:Nat):Int):Int)=(((Ed (m.aM.take (k+1))):Nat):Int):=by unfold Ed; rw [eO bT,UK]; by_cases h9:x1.fT=0 <;> simp [h9] <;> omega
   refine ji (t:=5) Y (aY (Value.int .i64) kN)<|dX ⟨(k+1),Y,Y,aj,by unfold Ed; have h8:=Aa (k+1); omega,by exact ug (q:=fun(y:aT)=>decide (y.lV=16)=true) hno bT (by simp_all),K3⟩ rfl aj
  replace l8:=jX l8;refine jQ ?_;refine rg<|jP g1 0 lQ K3 s1 Y<|mv Y<|ev (d9 (i:=k) qm xU Y Y Y (aP bT) ((K3.a CV).some_ bT))<|ev (fq Oh Y (fD _ _ _))<|ev (kG jF Y ((K3.a CV).eZ (j:=2) bT Y))<|pA 2 Y<|bS Y (λhc29=>?_) (λhc29=>?_)
  ·replace hc29:=oL hc29;refine kX Y<|jE (jM (gG (gG (jM (gG (uo Y ?_))))))
   have nM:(false:Bool)=(qA m r):=by symm; unfold qA; rw [ak6]; left; rw [Ur]; exact⟨x1,dz bT,by simp; assumption⟩
   exact⟨by rw [<- nM] <;> rfl,K3.z⟩
  replace hc29:=oM hc29;refine Gw ?_;refine jN<|mv Y<|ev (eG Y Y)<|oJ Y<|jO ?_
  have uO:((((Ed (m.aM.take k)):Nat):Int):Int)=(((Ed (m.aM.take (k+1))):Nat):Int):=by unfold Ed; rw [eO bT,UK]; by_cases h9:x1.fT=0 <;> simp [h9] <;> omega
  refine ji (t:=5) Y (aY (Value.int .i64) uO)<|dX ⟨(k+1),Y,Y,aj,by unfold Ed; have h8:=Aa (k+1); omega,by exact ug (q:=fun(y:aT)=>decide (y.lV=16)=true) hno bT (by simp_all),K3⟩ rfl aj
 replace zG:=jX zG;refine BU ?_;refine gD Y<|jP g2 3 GI K3 U Y<|pq 2 Y ?_
 cases aKK:decide (r.je<=(((Ed (m.aM.take k)):Nat):Int)) with
 | true=>
  refine wW g1 1 jC K3 s1 Y<|pq 4 Y ?_
  cases aoJ:decide (((m.J.length:Nat):Int)<=8) with
  | true=>
   refine wW g2 4 RQ K3 U Y<|pq 3 Y ?_
   cases aCR:decide (r.gV<=8) with
   | true=>
    refine wW g2 5 adR K3 U Y<|pA 4 Y<|iU Y ?_
    have zC:(decide (r.eF=16):Bool)=(qA m r):=by have hk9:m.aM.take k=m.aM:=gY aj; simp only [hk9] at *; unfold qA; rw [show m.aM.all (fun(n:aT)=>decide (n.lV=16))=true from by rw [mD]; exact hno]; first | (simp_all; done) | (simp_all; intros; omega)
    exact⟨by rw [zC] <;> rfl,K3.z⟩
   | false=>
    refine pA 6 Y<|iU Y ?_
    have BO:(false:Bool)=(qA m r):=by have hk9:m.aM.take k=m.aM:=gY aj; simp only [hk9] at *; unfold qA; rw [show m.aM.all (fun(n:aT)=>decide (n.lV=16))=true from by rw [mD]; exact hno]; first | (simp_all; done) | (simp_all; intros; omega)
    exact⟨by rw [<- BO] <;> rfl,K3.z⟩
  | false=>
   refine pA 11 Y<|iU Y ?_
   have hq8:(false:Bool)=(qA m r):=by have hk9:m.aM.take k=m.aM:=gY aj; simp only [hk9] at *; unfold qA; rw [show m.aM.all (fun(n:aT)=>decide (n.lV=16))=true from by rw [mD]; exact hno]; first | (simp_all; done) | (simp_all; intros; omega)
   exact⟨by rw [<- hq8] <;> rfl,K3.z⟩
 | false=>
  refine pA 17 Y<|iU Y ?_
  have Aa:(false:Bool)=(qA m r):=by have hk9:m.aM.take k=m.aM:=gY aj; simp only [hk9] at *; unfold qA; rw [show m.aM.all (fun(n:aT)=>decide (n.lV=16))=true from by rw [mD]; exact hno]; first | (simp_all; done) | (simp_all; intros; omega)
  exact⟨by rw [<- Aa] <;> rfl,K3.z⟩
def av6{c:PC}{r:ARules}{x:aH}(hx:x∈c.m.J)(h:wz c.m r x=false):CZ c r=false:=by
 unfold CZ; rw [show c.m.J.all (wz c.m r)=false from by rw [Ur]; exact⟨x,hx,by rw [h]; decide⟩]; rfl
def dz9{n:Nat}:decide (((n:Nat):Int)=0)=decide (n=0):=decide_eq_decide.2 aj
def av7{b w:World}{S:Nat->Prop}{F:V kF}{iy:Nat}{G:GC}(H0:Hp b S w (wu iy G::F))(r:ARules)(hok:Ok G.pl):bM prog 13 #[fK iy,.agg #[O r.lD,O r.l9,O r.All,O r.je,O r.gV,O r.eF]] w λv w'=>v=.bool (CZ G.pl r)/\Hp b S w' (wu iy G::F):=by
 refine qN func13 ntmps13 Y ?_;have hil:G.pl.m.aM.length<=16:=yO (dD.1 hok.hm).1;refine rg<|bx Y Y H0 λg1 w1 K1=>pB 4 Y<|gu Y (TF ((K1.sel U).sel s1) hok) ?_
 rintro _ w2 ⟨Bz,BA,BD,BF,BG,BH,rfl,K2⟩;have VX:=(K2.s U).bI;have aSP:=(K2.s s1).bI;have aSQ:=(K2.s s2).bI;refine al xK Y K2 λg2 w3 K3=>sty Y K3 U Y λw4 K4=>dn<|kX Y<|aZ<|kX Y<|dF ?_
 have H1:=K4.nil dN 3;have gy:(([]:V Int):V Int)=((G.pl.m.aM.take 0).map aT.ID):=by rfl
 refine mP (t:=6) Y (aY (λz=>Value.slice none (List.length z) 0) gy) ?_;have H2:=H1.nil dN 3;have H3:=(gy▸H2:Hp b S w4 (aR dN 3 none 0 ((G.pl.m.aM.take 0).map aT.ID)::(aR dN 3 none 0 []::dJ g2 37 [.slice Bz G.pl.m.aM.length BA,.slice BD G.pl.m.J.length BF,.slice BG G.pl.m.aU.length BH]::dI bW Bz BA G.pl.m.aM::dI bD BD BF G.pl.m.J::dI cB BG BH G.pl.m.aU::wu iy G::dJ g1 23 [O r.lD,O r.l9,O r.All,O r.je,O r.gV,O r.eF]::F)));refine Lp (H3.cU 0 2) (λl0 rk mJ lJ wJ=>∃ ka A6 c6,lJ=(6,.slice A6 (((G.pl.m.aM.take ka).map aT.ID).length) c6)::(7,O ((ka:Nat):Int))::l0/\mJ=G.pl.m.aM.length - ka/\ka<=G.pl.m.aM.length/\Hp b S wJ (aR dN 3 A6 c6 ((G.pl.m.aM.take ka).map aT.ID)::rk)) ⟨0,none,0,Y,Y,fI _,(H3.rm s1)⟩ Y ?_;rintro _ _ w5 ⟨ka,A6,c6,rfl,rfl,hka,K5⟩;refine aZ<|gD Y<|jP g2 0 lQ K5 s1 Y<|pA 3 Y<|bS Y (λhc19=>?_) (λhc19=>?_)
 ·replace hc19:=iY hc19;refine jQ ?_;refine aZ<|dF<|jN<|mv Y<|jP g2 0 lQ K5 s1 Y<|mv Y ?_
  obtain⟨x1,bT⟩:=bH (xs:=G.pl.m.aM) (i:=ka) aj;refine ev (d9 (i:=ka) qm xU Y Y Y (aP bT) ((K5.s s2).some_ bT))<|ev (fq mF Y (fD _ _ _))<|ev (kG jF Y ((K5.s s2).eZ (j:=0) bT Y))<|yV (τ:=dN) (x:=x1.ID) Y (by intro _; apply pI) rfl K5 (λ_ _=>rfl) λg3 w6 K6=>ap (ys:=([x1.ID]:V Int)) K6 s1 rfl rfl (K6.o U) gq LB (by first | omega | (simp; omega) | (simp; done)) av rfl λsQ sS w7 K7=>oJ rfl<|jO<|iF (fV ?_)
  refine jN<|mv Y<|ev (eG Y Y)<|oJ Y<|jO ?_
  have gH:((((G.pl.m.aM.take ka).map aT.ID)++([x1.ID]:V Int)):V Int)=((G.pl.m.aM.take (ka+1)).map aT.ID):=by rw [eO bT,sU]; rfl
  refine ji (t:=6) Y (aY (λz=>Value.slice sQ (List.length z) sS) gH) ?_;rw [gH] at K7;exact dX ⟨(ka+1),sQ,sS,Y,Y,aj,(K7.rm s1)⟩ rfl aj
 replace hc19:=jX hc19;refine BU ?_;refine aZ ?_;have kN:(((G.pl.m.aM.take ka).map aT.ID):V Int)=(G.pl.m.aM.map aT.ID):=(by rw [gY aj]);rw [kN] at K5;refine mP (t:=6) Y (aY (fun(z:V Int)=>Value.slice A6 z.length c6) kN)<|kX Y<|dF<|qh (λmJ lJ wJ=>∃ k,lJ=[(0,fK iy),(3,fK g1),(5,fK g2),(6,.slice A6 ((G.pl.m.aM.map aT.ID).length) c6),(8,O ((k:Nat):Int))]/\mJ=G.pl.m.J.length - k/\k<=G.pl.m.J.length/\(∀ y∈G.pl.m.J.take k,wz G.pl.m r y=true)/\Hp b S wJ (aR dN 3 A6 c6 (G.pl.m.aM.map aT.ID)::dJ g2 37 [.slice Bz G.pl.m.aM.length BA,.slice BD G.pl.m.J.length BF,.slice BG G.pl.m.aU.length BH]::dI bW Bz BA G.pl.m.aM::dI bD BD BF G.pl.m.J::dI cB BG BH G.pl.m.aU::wu iy G::dJ g1 23 [O r.lD,O r.l9,O r.All,O r.je,O r.gV,O r.eF]::F)) ⟨0,Y,Y,fI _,av,K5⟩ rfl ?_
 rintro _ _ w8 ⟨k,rfl,rfl,hk,hno,K8⟩;refine aZ<|gD Y<|jP g2 1 jC K8 s1 Y<|pA 3 Y<|bS Y (λIa=>?_) (λIa=>?_)
 ·replace Ia:=iY Ia;refine jQ ?_;refine aZ<|dF ?_
  obtain⟨x2,nE⟩:=bH (xs:=G.pl.m.J) (i:=k) aj;refine He K8 (λ_ K=>K) (λl0 rk lJ wJ=>lJ=(62,.bool (!(wz G.pl.m r x2)))::l0/\Hp b S wJ rk) (λhns H4=>?_) ?_
  ·refine mK 0 1 g2 1 jC s1 Y H4<|lF 2 Y Y H4<|kI 3 Y (λ_ hK=>d9 (i:=k) lT tH Y Y Y (aP nE) ((hK.s s3).some_ nE)) H4<|kI 4 Y (λ_ _=>fq kr Y (fD _ _ _)) H4<|mK 7 8 g1 3 GI s6 Y H4<|O1 5 Y ?_
   obtain⟨B1,d1,yG,hi1⟩:=CG (H4.is s3 nE);have H5:=H4.push hi1;refine ev (kG EX Y (yG 3 _ Y)) ?_;have k1:=(H5.rm U);refine aO k1<|kI 6 Y (λ_ _=>jf gq Y) k1<|kI 9 Y (λ_ _=>Gq Y Y) k1<|lF 10 Y Y k1 ?_
   cases hb48:(!decide (((x2.aD.length:Nat):Int)=r.je)) with
   | true=>
    have aK2:=oL hb48;refine N9 11 Y Y Y k1<|N9 12 Y Y Y k1<|N9 13 Y Y Y k1<|N9 14 Y Y Y k1<|N9 15 Y Y Y k1<|N9 16 Y Y Y k1<|N9 17 Y Y Y k1<|N9 18 Y Y Y k1<|N9 21 Y Y Y k1<|N9 22 Y Y Y k1<|O1 19 Y<|paz<|aO k1<|N9 20 Y Y Y k1<|N9 23 Y Y Y k1<|kI 24 Y (λ_ _=>oP Y Y) k1 ?_
    have nM:(true:Bool)=(!(wz G.pl.m r x2)):=by unfold wz; first | (rw [Zc (show ¬ (((x2.aD.length:Nat):Int)=r.je) from by assumption)]; rfl) | (rw [tY (show((x2.aD.length:Nat):Int)=r.je from by assumption)]; rfl) | (rw [tY (show((x2.aD.length:Nat):Int)=r.je from by assumption)]; simp; done)
    refine WH.re2 (t:=62) Y (aY Value.bool nM)<|Dn ⟨Y,(H5.rm U)⟩ Y
   | false=>
    have aK2:=oM hb48;refine tgz 11 Y Y (λ_ _=>fq (q:=⟨g2,1,none⟩) jC Y Y) k1<|tgz 12 Y Y (λ_ hK=>dU alX Y (hK.x s1) Y) k1<|tgz 13 Y Y (λ_ _=>dP Y) k1<|tgz 14 Y Y (λ_ hK=>d9 (i:=k) lT tH Y Y Y (aP nE) ((hK.s s3).some_ nE)) k1<|tgz 16 Y Y (λ_ _=>fq (q:=⟨g2,0,none⟩) lQ Y Y) k1<|tgz 17 Y Y (λ_ hK=>dU abT Y (hK.x s1) Y) k1<|tgz 18 Y Y (λ_ _=>dP Y) k1<|tgz 21 Y Y (λ_ _=>fq (q:=⟨g1,3,none⟩) GI Y Y) k1<|tgz 22 Y Y (λ_ hK=>dU jF Y (hK.x s6) Y) k1<|O1 15 Y<|uf Y (iR (cs:=[O x2.ID,O x2.E,gP x2.Sum,.slice B1 x2.aD.length d1]) p8 Y Y (Gu yG)) Y<|aO k1<|O1 19 Y<|om Y Y Y Y aG7 (RB _ x2 (H5.s U).any (H5.s s3).any (H5.o s1) (lG ((vo (dD.1 hok.hm).2.1).2 _ (dz nE)) au) aj) Y ?_
    rintro _ w9 ⟨ayp,ayq,rfl,h9⟩;have K9:=H5.f1 h9;have aIq:=(K9.o U).bI;have k2:=(K9.cU 0 2);refine aO k2<|tgz 20 Y Y (λ_ _=>jf gq Y) k2<|tgz 23 Y Y (λ_ _=>Gq Y Y) k2<|kI 24 Y (λ_ _=>oU Y Y) k2 ?_
    have uO:((!decide ((((iW x2 G.pl.m.aM (G.pl.m.aM.map aT.ID)).length:Nat):Int)=r.je)):Bool)=(!(wz G.pl.m r x2)):=by unfold wz; first | (rw [Zc (show ¬ (((x2.aD.length:Nat):Int)=r.je) from by assumption)]; rfl) | (rw [tY (show((x2.aD.length:Nat):Int)=r.je from by assumption)]; rfl) | (rw [tY (show((x2.aD.length:Nat):Int)=r.je from by assumption)]; simp; done)
    refine WH.re2 (t:=62) Y (aY Value.bool uO)<|Dn ⟨Y,(K9.cU 0 2)⟩ Y
  rintro _ PE ⟨rfl,K10⟩;refine bS Y (λaEX=>?_) (λaEX=>?_)
  ·try simp only [aA] at aEX
   refine kX Y<|jE (jM (gG (gG (jM (gG (uo Y ?_))))))
   have zC:(false:Bool)=(CZ G.pl r):=by symm; exact av6 (dz nE) (by assumption)
   exact⟨by rw [<- zC] <;> rfl,((K10.rm s6).cU 0 5)⟩
  try simp only [aA] at aEX
  refine Gw ?_;refine jN<|mv Y<|ev (eG Y Y)<|oJ Y<|jO<|dX ⟨(k+1),Y,Y,aj,by exact ug (q:=fun(y:aH)=>wz G.pl.m r y=true) hno nE (by assumption),K10⟩ rfl aj
 replace Ia:=jX Ia;refine BU ?_;refine He K8 (λ_ K=>K) (λl0 rk lJ wJ=>∃ qF oV cj2 wH vG BL BM Aj5 cj5 Aj6 cj6,lJ=(10,.slice Aj5 ((pF G.pl.m G.pl.s r G.pl.Z).length) cj5)::(11,.slice Aj6 ((mM G.pl.m G.pl.s r G.pl.Z).length) cj6)::l0/\Hp b S wJ (dJ qF 64 [.slice oV (((iM G.pl.m G.pl.s r G.pl.Z).bZ).length) cj2,.slice wH (((iM G.pl.m G.pl.s r G.pl.Z).bG).length) vG,.slice BL (((iM G.pl.m G.pl.s r G.pl.Z).bn).length) BM]::aR iG 162 oV cj2 ((iM G.pl.m G.pl.s r G.pl.Z).bZ)::aR dB 165 wH vG ((iM G.pl.m G.pl.s r G.pl.Z).bG)::aR bA 121 BL BM ((iM G.pl.m G.pl.s r G.pl.Z).bn)::aR bA 121 Aj5 cj5 (pF G.pl.m G.pl.s r G.pl.Z)::aR BP 118 Aj6 cj6 (mM G.pl.m G.pl.s r G.pl.Z)::rk)) (λhns H6=>?_) ?_
 ·refine kI 0 Y (λ_ hK=>fA xW Y Y (hK.x s1)) H6<|lF 1 Y Y H6<|kI 3 Y (λ_ hK=>fA Ls Y Y (hK.x s6)) H6<|lF 4 Y Y H6<|Jn H6 (λl0 rk lJ wJ=>∃ g4 tV tX y8 za ze zf aae aaf aag aah zn zo zq zu zw zx,lJ=(72,.slice aae ((pF G.pl.m G.pl.s r G.pl.Z).length) aaf)::(73,.slice aag ((mM G.pl.m G.pl.s r G.pl.Z).length) aah)::l0/\Hp b S wJ (dJ g4 64 [.slice tV (((iM G.pl.m G.pl.s r G.pl.Z).bZ).length) tX,.slice y8 (((iM G.pl.m G.pl.s r G.pl.Z).bG).length) za,.slice ze (((iM G.pl.m G.pl.s r G.pl.Z).bn).length) zf]::aR iG 162 tV tX ((iM G.pl.m G.pl.s r G.pl.Z).bZ)::aR dB 165 y8 za ((iM G.pl.m G.pl.s r G.pl.Z).bG)::aR bA 121 ze zf ((iM G.pl.m G.pl.s r G.pl.Z).bn)::aR bA 121 aae aaf (pF G.pl.m G.pl.s r G.pl.Z)::aR BP 118 aag aah (mM G.pl.m G.pl.s r G.pl.Z)::aR iG 162 zn zo G.pl.s.bZ::aR dB 165 zq zu G.pl.s.bG::aR bA 121 zw zx G.pl.s.bn::rk)) 2 8191 ?_ λhS1=>?_
  ·rintro _ w23 ⟨g4,tV,tX,y8,za,ze,zf,aae,aaf,aag,aah,zn,zo,zq,zu,zw,zx,rfl,Le⟩;have k12:=(Le.cU 0 9);refine xC 13 Y Y k12<|xC 14 Y Y k12<|Dn ⟨g4,tV,tX,y8,za,ze,zf,aae,aaf,aag,aah,Y,(Le.cU 6 3)⟩ Y
  refine Jn H6 (λl0 rk lJ wJ=>∃ g5 zn zo zq zu zw zx,lJ=(9,fK g5)::(66,.agg #[.slice zn G.pl.s.bZ.length zo,.slice zq G.pl.s.bG.length zu,.slice zw G.pl.s.bn.length zx])::(69,O G.pl.Z)::l0/\Hp b S wJ (dJ g5 64 [.slice none 0 0,.slice none 0 0,.slice none 0 0]::aR iG 162 zn zo G.pl.s.bZ::aR dB 165 zq zu G.pl.s.bG::aR bA 121 zw zx G.pl.s.bn::rk)) 8 2111 ?_ λhS2=>?_
  ·rintro _ w24 ⟨g5,zn,zo,zq,zu,zw,zx,rfl,pz⟩;refine O1 6 Y<|gu Y (R7 _ G.pl.m (pz.s s6).any (pz.s s7).any (pz.s s8).any G.pl.s (pz.o s1) (pz.o s2) (pz.o s3) r G.pl.Z hok.hb (lG hok.hl au) (lG hok.hd au) (lG hil au) (lG (vo (dD.1 hok.hm).2.1).1 au) (by have:=hok.hu; omega)) ?_
   rintro _ w25 ⟨XR,XT,XU,XV,XW,XY,anl,anm,ano,anp,rfl,h25⟩;have DU:=pz.f5 h25;have aC6:=(DU.o U).bI;have aPz:=(DU.o s1).bI;have aPA:=(DU.o s2).bI;have aPB:=(DU.o s3).bI;have aPC:=(DU.o s4).bI;have k13:=(DU.cU 0 9);refine aO k13<|lF 7 Y Y k13<|yj 8 Y (vs:=[.agg #[.slice XR (((iM G.pl.m G.pl.s r G.pl.Z).bZ).length) XT,.slice XU (((iM G.pl.m G.pl.s r G.pl.Z).bG).length) XV,.slice XW (((iM G.pl.m G.pl.s r G.pl.Z).bn).length) XY],.slice anl ((pF G.pl.m G.pl.s r G.pl.Z).length) anm,.slice ano ((mM G.pl.m G.pl.s r G.pl.Z).length) anp]) Y Y k13<|yj 9 Y (vs:=[.agg #[.slice XR (((iM G.pl.m G.pl.s r G.pl.Z).bZ).length) XT,.slice XU (((iM G.pl.m G.pl.s r G.pl.Z).bG).length) XV,.slice XW (((iM G.pl.m G.pl.s r G.pl.Z).bn).length) XY],.slice anl ((pF G.pl.m G.pl.s r G.pl.Z).length) anm,.slice ano ((mM G.pl.m G.pl.s r G.pl.Z).length) anp]) Y Y k13<|yj 10 Y (vs:=[.agg #[.slice XR (((iM G.pl.m G.pl.s r G.pl.Z).bZ).length) XT,.slice XU (((iM G.pl.m G.pl.s r G.pl.Z).bG).length) XV,.slice XW (((iM G.pl.m G.pl.s r G.pl.Z).bn).length) XY],.slice anl ((pF G.pl.m G.pl.s r G.pl.Z).length) anm,.slice ano ((mM G.pl.m G.pl.s r G.pl.Z).length) anp]) Y Y k13<|O1 12 Y<|sty Y DU s5 Y λw26 JU=>?_
   have k14:=(JU.cU 0 9);exact Kj hS1 k14 ⟨g5,XR,XT,XU,XV,XW,XY,anl,anm,ano,anp,zn,zo,zq,zu,zw,zx,Y,JU⟩ Y
  refine Jn H6 (λl0 rk lJ wJ=>∃ g6 zn zo zq zu zw zx,lJ=(9,fK g6)::(66,.agg #[.slice zn G.pl.s.bZ.length zo,.slice zq G.pl.s.bG.length zu,.slice zw G.pl.s.bn.length zx])::l0/\Hp b S wJ (dJ g6 64 [.slice none 0 0,.slice none 0 0,.slice none 0 0]::aR iG 162 zn zo G.pl.s.bZ::aR dB 165 zq zu G.pl.s.bG::aR bA 121 zw zx G.pl.s.bn::rk)) 9 2079 ?_ λhS3=>?_
  ·rintro _ w27 ⟨g6,zn,zo,zq,zu,zw,zx,rfl,LG⟩;refine O1 5 Y<|gu Y (am6 ((LG.mV 0 9).sel s9) ) ?_
   rintro _ w28 ⟨rfl,Fh⟩;have k15:=(((Fh.cU 1 4).sel U).mV 1 5);exact Kj hS2 k15 ⟨g6,zn,zo,zq,zu,zw,zx,Y,((Fh.sel U).mV 1 9)⟩ Y
  refine O2 2 11 Y Y ?_ ?_
  ·refine gu Y (aiJ ((H6.mV 0 5).sel s5) hok) ?_;rintro _ w29 ⟨OJ,OL,OM,OO,OP,OQ,rfl,Fp⟩;have au8:=(Fp.o U).bI;have aEw:=(Fp.o s1).bI;have aEx:=(Fp.o s2).bI;have k16:=(((Fp.cU 0 3).sel U).mV 1 5);refine aO k16<|O2 5 11 Y Y ?_ ?_
   ·refine gu Y (am6 ((Fp.mV 0 3).sel s3) ) ?_;rintro _ w30 ⟨rfl,Fq⟩;have k17:=(((Fq.cU 1 3).sel U).mV 1 5);refine aO k17<|O2 6 11 Y Y ?_ ?_
    ·refine gu Y (R7 _ G.pl.m (Fq.s s6).any (Fq.s s7).any (Fq.s s8).any G.pl.s (Fq.o s1) (Fq.o s2) (Fq.o s3) r G.pl.Z hok.hb (lG hok.hl au) (lG hok.hd au) (lG hil au) (lG (vo (dD.1 hok.hm).2.1).1 au) (by have:=hok.hu; omega)) ?_;rintro _ w31 ⟨XZ,X0,X3,X4,X5,X6,anq,anr,ant,anu,rfl,h31⟩;have Lh:=Fq.f5 h31;have aEB:=(Lh.o U).bI;have aPD:=(Lh.o s1).bI;have aPE:=(Lh.o s2).bI;have aPF:=(Lh.o s3).bI;have aPG:=(Lh.o s4).bI;have k18:=((((Lh.cU 6 3).cU 0 5).sel U).mV 1 5);refine aO k18<|lF 7 Y Y k18<|yj 8 Y (vs:=[.agg #[.slice XZ (((iM G.pl.m G.pl.s r G.pl.Z).bZ).length) X0,.slice X3 (((iM G.pl.m G.pl.s r G.pl.Z).bG).length) X4,.slice X5 (((iM G.pl.m G.pl.s r G.pl.Z).bn).length) X6],.slice anq ((pF G.pl.m G.pl.s r G.pl.Z).length) anr,.slice ant ((mM G.pl.m G.pl.s r G.pl.Z).length) anu]) Y Y k18<|yj 9 Y (vs:=[.agg #[.slice XZ (((iM G.pl.m G.pl.s r G.pl.Z).bZ).length) X0,.slice X3 (((iM G.pl.m G.pl.s r G.pl.Z).bG).length) X4,.slice X5 (((iM G.pl.m G.pl.s r G.pl.Z).bn).length) X6],.slice anq ((pF G.pl.m G.pl.s r G.pl.Z).length) anr,.slice ant ((mM G.pl.m G.pl.s r G.pl.Z).length) anu]) Y Y k18<|yj 10 Y (vs:=[.agg #[.slice XZ (((iM G.pl.m G.pl.s r G.pl.Z).bZ).length) X0,.slice X3 (((iM G.pl.m G.pl.s r G.pl.Z).bG).length) X4,.slice X5 (((iM G.pl.m G.pl.s r G.pl.Z).bn).length) X6],.slice anq ((pF G.pl.m G.pl.s r G.pl.Z).length) anr,.slice ant ((mM G.pl.m G.pl.s r G.pl.Z).length) anu]) Y Y k18<|O1 11 Y<|al Et Y Lh λg8 w32 M4=>?_
     have k19:=((((M4.cU 7 3).cU 0 6).sel U).mV 1 5);refine aO k19<|O1 12 Y<|sty Y M4 U Y λw33 P7=>?_
     have k20:=((((P7.cU 7 3).cU 0 6).sel U).mV 1 5);exact Kj hS1 k20 ⟨g8,XZ,X0,X3,X4,X5,X6,anq,anr,ant,anu,OJ,OL,OM,OO,OP,OQ,Y,((P7.sel s6).mV 1 14)⟩ Y
    ·refine al Et Y Fq λg9 w34 Xd=>?_;have k21:=((((Xd.cU 2 3).rm U).sel U).mV 1 5);exact Kj hS2 k21 ⟨g9,OJ,OL,OM,OO,OP,OQ,Y,((Xd.sel s1).mV 1 9)⟩ Y
   ·refine al Et Y Fp λg10 w35 K35=>?_;have k22:=(((K35.cU 0 4).sel U).mV 1 5);exact Kj hS3 k22 ⟨g10,OJ,OL,OM,OO,OP,OQ,Y,((K35.sel s4).mV 1 9)⟩ Y
  ·refine al Et Y H6 λg11 w36 K36=>?_;have k23:=(K36.rm U);refine aO k23<|O1 2 Y<|gu Y (aiJ ((K36.mV 0 6).sel s6) hok) ?_
   rintro _ w37 ⟨azN,azO,azP,azQ,azR,azS,rfl,V8⟩;have aPH:=(V8.o U).bI;have aPI:=(V8.o s1).bI;have aPJ:=(V8.o s2).bI;have k24:=((((V8.rm s4).cU 0 3).sel U).mV 1 5);exact Kj hS3 k24 ⟨g11,azN,azO,azP,azQ,azR,azS,Y,((((V8.sel s3).mV 5 5).mV 6 3).sel s9)⟩ Y
 rintro _ w38 ⟨qF,oV,cj2,wH,vG,BL,BM,Aj5,cj5,Aj6,cj6,rfl,K38⟩;refine gD Y<|gu Y (avK ((K38.mV 0 11).sel s11) hok) ?_
 rintro _ w39 ⟨rfl,K39⟩;refine pB 5 Y ?_
 cases aqk:F6 G.pl with
 | true=>
  refine pq 5 Y ?_
  cases aEY:decide ((((pF G.pl.m G.pl.s r G.pl.Z).length:Nat):Int)=0) with
  | true=>
   refine pA 6 Y<|iU Y ?_
   have BO:(decide ((((mM G.pl.m G.pl.s r G.pl.Z).length:Nat):Int)=0):Bool)=(CZ G.pl r):=by have av8:∀ y∈G.pl.m.J,wz G.pl.m r y=true:=λy hy=>hno y (by rw [gY aj]; exact hy); unfold CZ; rw [show G.pl.m.J.all (wz G.pl.m r)=true from mD.2 av8,<- dz9,<- dz9]; first | (rw [aqk,aEY]; rfl) | (rw [aqk]; rfl)
   exact⟨by rw [<- BO] <;> rfl,(K39.cU 1 12)⟩
  | false=>
   refine pA 6 Y<|iU Y ?_
   have hq8:(false:Bool)=(CZ G.pl r):=by have av8:∀ y∈G.pl.m.J,wz G.pl.m r y=true:=λy hy=>hno y (by rw [gY aj]; exact hy); unfold CZ; rw [show G.pl.m.J.all (wz G.pl.m r)=true from mD.2 av8,<- dz9,<- dz9]; first | (rw [aqk,aEY]; rfl) | (rw [aqk]; rfl)
   exact⟨by rw [<- hq8] <;> rfl,(K39.cU 1 12)⟩
 | false=>
  refine pA 11 Y<|iU Y ?_
  have Aa:(false:Bool)=(CZ G.pl r):=by have av8:∀ y∈G.pl.m.J,wz G.pl.m r y=true:=λy hy=>hno y (by rw [gY aj]; exact hy); unfold CZ; rw [show G.pl.m.J.all (wz G.pl.m r)=true from mD.2 av8,<- dz9,<- dz9]; first | (rw [aqk,aEY]; rfl) | (rw [aqk]; rfl)
  exact⟨by rw [<- Aa] <;> rfl,(K39.cU 1 12)⟩
end
end Go.Proofs.YthcmboepffiliaaGreat
