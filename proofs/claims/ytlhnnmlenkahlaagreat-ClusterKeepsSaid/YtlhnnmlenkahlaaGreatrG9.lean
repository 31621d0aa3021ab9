/- Lemmas. -/
import Derived.Test.YtlhnnmlenkahlaaGreatrG8
set_option maxRecDepth 4000
set_option linter.all false
namespace Go.Proofs.YtlhnnmlenkahlaaGreat
open Go.RowKit Go.Proofs.Tryz
def aiw:=@List.findSome?_eq_none_iff
def Gn:=@List.mem_of_find?_eq_some
def aci:=@List.countP_cons
def oI:=@underlying48
def acj:=@underlying202
variable {α β:Type}{cs:List aH}{l:List aV}{aG old:List Int}{aZ:List gq}{k jk ku nA:Nat}{S0:Nat->Prop}{jl kC vY nC:ah}{f:α->Option β}{p:α->Bool}
def acn(cs:List aH)(l:List aV)(x y:aV):Option aM:=(cs.find? fun(c:aH)=>Bg c l x.ID y.ID).map fun(c:aH)=>⟨0,c.ID,c.aB,c.Sum,x.ID,y.ID,0⟩
def CZ(cs:List aH)(l:List aV)(aZ:List gq)(kr:Int)(p:aV × aV):Option aM:=if nL aZ p.1.ID - nL aZ p.2.ID<=(if 1>kr then 1 else kr)∨p.2.l6<=nL aZ p.2.ID then none else acn cs l p.1 p.2
def Xp(cs:List aH)(l:List aV)(aG:List Int):List (aV × aV):=uR (Kz (frC (iw cs l aG)) (wm l aG)) (Kz (toC (iw cs l aG)) (wm l aG))
def iT(cs:List aH)(l:List aV)(aG:List Int)(kr:Int):aM:=if kR cs=true then((Xp cs l aG).findSome? (CZ cs l (iw cs l aG) kr)).getD ⟨0,0,0,0,0,0,0⟩ else⟨0,0,0,0,0,0,0⟩
def moveB(cs:List aH)(l:List aV)(aG:List Int)(kr:Int):Bool:=decide (0<(iT cs l aG kr).aC)
theorem apw{pre ys:List α}{x:α}{o:β}(h:pre++[x] <+: ys)(hno:∀ p∈pre,f p=none)(hx:f x=some o):ys.findSome? f=some o:=by
  obtain⟨t,rfl⟩:=h;rw [List.findSome?_append,List.findSome?_append,aiw.2 hno]
  simp [hx]
theorem apx(id:Int):0<=nL (iw cs l aG) id/\nL (iw cs l aG) id<=cs.length:=by
  unfold nL
  split
  · rename_i x hx; exact aip (Gn hx)
  · omega
theorem auJ(l:List aV)(aG:List Int):Up aV.ID (wm l aG):=by
  unfold wm; split
  · rename_i h; exact List.Pairwise.filter _ (Em _ 0 h)
  · exact List.Pairwise.nil
theorem apy(l:List aV)(aG:List Int):(wm l aG).length<=l.length:=by
  unfold wm; split
  · exact mR _ _
  · simp
theorem Xq{kr:Int}{p:aV × aV}(h:∀ c∈cs.take k,Bg c l p.1.ID p.2.ID=false)(hk:cs.length<=k):CZ cs l aZ kr p=none:=by
  unfold CZ acn;rw [iH hk] at h;rw [Ce.2 (λc hc=>by simp [h c hc])];exact ite_self _
theorem amN{kr:Int}{p:aV × aV}{x:aH}(hc:¬ (nL aZ p.1.ID - nL aZ p.2.ID<=(if 1>kr then 1 else kr)∨p.2.l6<=nL aZ p.2.ID))(h:∀ c∈cs.take k,Bg c l p.1.ID p.2.ID=false)(hx:cs[k]? = some x)(hg:Bg x l p.1.ID p.2.ID=true) :
    CZ cs l aZ kr p=some ⟨0,x.ID,x.aB,x.Sum,p.1.ID,p.2.ID,0⟩:=by
  have hs:cs=cs.take k++x::cs.drop (k+1):=by
    conv=>lhs; rw [<- uF k cs]
    rw [zO (aJ hx),(nP.1 hx).2]
  unfold CZ acn;rw [aK hc,hs,IJ,Ce.2 (λc hc=>by simp [h c hc])]
  simp [hg]
theorem BQ:∀ w,(zeroValue 112).run prog w=.ok (.agg #[aF 0,aF 0,aF 0,gK 0,aF 0,aF 0,aF 0]) w:=ay
theorem Xr:l9 prog 42:=ay
theorem wo:Size prog 112 7:=ay
theorem wu:Agg prog 112 7:=⟨λ_=>by kernel_rfl,wo⟩
theorem apA:∀ w,(zeroValue 154).run prog w=.ok (.slice none 0 0) w:=ay
theorem ayX:bF prog 409:=ay
theorem Gp(a0:Int)(a1:Int)(a2:Int)(a3:Int)(a4:Int)(a5:Int):prog.built 112 [(0,aF a0),(1,aF a1),(2,aF a2),(3,gK a3),(4,aF a4),(5,aF a5)]=some #[aF a0,aF a1,aF a2,gK a3,aF a4,aF a5,aF 0]:=ak
theorem sw:eu prog 112 1 1:=ay
theorem aco{pre:List α}{x:α}(h:∀ p∈pre,f p=none)(hx:f x=none):∀ p∈pre++[x],f p=none:=by
  intro p hp
  rcases jN.1 hp with h1 | h1
  · exact h p h1
  · rw [j4.1 h1]; exact hx
abbrev aix(iD:List aH)(ji:List aV)(uS:List Int):=Kz (frC (iw iD ji uS)) (wm ji uS)
abbrev aiy(iD:List aH)(ji:List aV)(uS:List Int):=Kz (toC (iw iD ji uS)) (wm ji uS)
abbrev aiz(iD:List aH)(ji:List aV)(uS:List Int)(wV:(aV × aV))(ES:Int):=nL (iw iD ji uS) wV.1.ID - nL (iw iD ji uS) wV.2.ID<=(if 1>ES then 1 else ES)
theorem akb(w:World){su:ah}{sj:Nat}{dz:List aH}(uf:Sl bJ S0 w su sj dz)(jo:Sl cZ S0 w jl jk l)(kM:Sl dQ S0 w kC ku aG)(kr:Int)(hn:l.length<=100000)(hc:dz.length<=100000)(hh:∀ x∈dz,x.aD.length<=100000) :
    bS prog 246 #[.slice su dz.length sj,.slice jl l.length jk,.slice kC aG.length ku,aF kr] w λv w'=>v=.tuple #[.agg #[aF ((iT dz l aG kr).Kind),aF ((iT dz l aG kr).aC),aF ((iT dz l aG kr).aB),gK ((iT dz l aG kr).Sum),aF ((iT dz l aG kr).jM),aF ((iT dz l aG kr).To),aF ((iT dz l aG kr).jS)],.bool (moveB dz l aG kr)]/\Hp w S0 w' []:=by
 refine aBS S0 func246 ntmps246 Y λH0=>?_;have amI:=uf.bH;have EY:=jo.bH;have apr:=kM.bH;have hfl:=apy l aG;refine rg<|bx Y Y H0 λg1 w1 K1=>bx Y Y K1 λg2 w2 K2=>bx Y Y K2 λg3 w3 K3=>al BQ Y K3 λg4 w4 K4=>bU Y<|WP.sc<|rg<|al BQ Y K4 λg5 w5 K5=>dn<|aW<|rg<|nO K5 s4 Y<|mU K5 Y (Nq _ (K5.a uf).any aj) λw6 K6=>ev (iB Y)<|dn<|bK Y (λlN=>?_) (λlN=>?_)
 ·try simp only [fq,dX,bN,eH,eG,fP,bO,bV] at lN
  refine rg<|ev (dU wu Y Y (K6.x s0))<|sty Y K6 s1 Y λw7 K7=>bU Y<|jf (fT (l8.ah6 (l8.aGL Y ⟨_,_,Y,⟨_,Y,jL (cs:=[aF 0,aF 0,aF 0,gK 0,aF 0,aF 0,aF 0]) wu Y (K7.x s0)⟩,⟨_,_,Y,Y,Y⟩⟩ ?_)))
  have eO:((⟨0,0,0,0,0,0,0⟩:aM):aM)=(iT dz l aG kr):=by unfold iT; rw [aK (by rw [lN]; decide)]
  have fQ:(0:Int)=(iT dz l aG kr).Kind:=by rw [<- eO]
  have jW:(0:Int)=(iT dz l aG kr).aC:=by rw [<- eO]
  have mH:(0:Int)=(iT dz l aG kr).aB:=by rw [<- eO]
  have rR:(0:Int)=(iT dz l aG kr).Sum:=by rw [<- eO]
  have wM:(0:Int)=(iT dz l aG kr).jM:=by rw [<- eO]
  have zk:(0:Int)=(iT dz l aG kr).To:=by rw [<- eO]
  have hq8:(0:Int)=(iT dz l aG kr).jS:=by rw [<- eO]
  have AJ:(false:Bool)=(moveB dz l aG kr):=by unfold moveB iT; rw [aK (by rw [lN]; decide)]; rfl
  exact⟨by rw [<- fQ,<- jW,<- mH,<- rR,<- wM,<- zk,<- hq8,<- AJ] <;> rfl,K7.z⟩
 try simp only [fq,dX,bN,eH,eG,fP,bO,bV] at lN
 refine jm ?_;refine rg<|nO K6 s4 Y<|nO K6 s3 Y<|mv Y<|gX Y (ayJ _ (K6.a uf).any (K6.a jo).any (K6.a kM).any aj) ?_
 rintro _ w8 ⟨EZ,E5,acp,acr,rfl,h8⟩;have K8:=K6.f2 h8;have axl:=(K8.o s0).bH;have aB9:=(K8.o s1).bH;refine mv Y<|xt Y Y<|xt Y Y<|al apA Y K8 λg6 w9 K9=>iI Y<|xP Y K9 s0 Y λOz K10=>dn<|aW (WP.lab (gG ?_))
 refine aW<|bQ Y<|nO K10 s0 Y<|gX Y (apv _ (K10.o s1) (K10.o s2) aj (auJ l aG)) ?_
 rintro _ Ti ⟨auK,akc,akd,auL,ake,akf,rfl,h11⟩;have tZ:=K10.f4 h11;have aG5:=(tZ.o s2).bH;have aG6:=(tZ.o s3).bH;refine dn<|cB ?_
 refine WP.range (enc:=fun(x:(aV × aV))=>[.agg #[aF x.1.ID,aF x.1.lT,aF x.1.l6,aF x.1.gP],.agg #[aF x.2.ID,aF x.2.lT,aF x.2.l6,aF x.2.gP]]) (ys:=uR (aix dz l aG) (aiy dz l aG)) (F0:=[dY g5 112 [aF 0,aF 0,aF 0,gK 0,aF 0,aF 0,aF 0],dY g6 154 [.slice acp ((iw dz l aG).length) acr],aS cZ 78 EZ E5 (wm l aG),aS mX 219 acp acr (iw dz l aG),dY g4 112 [aF 0,aF 0,aF 0,gK 0,aF 0,aF 0,aF 0],dY g3 3 [aF kr],dY g2 41 [.slice jl l.length jk],dY g1 42 [.slice su dz.length sj]]) (G0:=[dY auK 41 [.slice akc ((aix dz l aG).length) akd],dY auL 41 [.slice ake ((aiy dz l aG).length) akf],aS cZ 78 akc akd (aix dz l aG),aS cZ 78 ake akf (aiy dz l aG)]) Y ayX (afj (by simp only [Kz,KW]; omega) (by simp only [Kz,KW]; omega)) ((((tZ.mV 0 4).mV 8 4).mV 8 3).sel s11) (λ_=>rfl) rfl (λpre Fj=>Fj=[dY g5 112 [aF 0,aF 0,aF 0,gK 0,aF 0,aF 0,aF 0],dY g6 154 [.slice acp ((iw dz l aG).length) acr],aS cZ 78 EZ E5 (wm l aG),aS mX 219 acp acr (iw dz l aG),dY g4 112 [aF 0,aF 0,aF 0,gK 0,aF 0,aF 0,aF 0],dY g3 3 [aF kr],dY g2 41 [.slice jl l.length jk],dY g1 42 [.slice su dz.length sj]]/\(∀ p∈pre,(CZ dz l (iw dz l aG) kr) p=none)) (λc pre Fj=>(c=(.exit 0)/\∃(oc:Int)(ov:Int)(os:Int)(of_:Int)(ot:Int),Fj=[dY g5 112 [aF 0,aF oc,aF ov,gK os,aF of_,aF ot,aF 0],dY g6 154 [.slice acp ((iw dz l aG).length) acr],aS cZ 78 EZ E5 (wm l aG),aS mX 219 acp acr (iw dz l aG),dY g4 112 [aF 0,aF 0,aF 0,gK 0,aF 0,aF 0,aF 0],dY g3 3 [aF kr],dY g2 41 [.slice jl l.length jk],dY g1 42 [.slice su dz.length sj]]/\((Xp dz l aG).findSome? (CZ dz l (iw dz l aG) kr)=some ⟨0,oc,ov,os,of_,ot,0⟩))) (λpre x l1 Fj=>∃(UH:Nat)(Xt:Nat),l1=[(4,gD g1),(5,gD g2),(7,gD g3),(10,gD g5),(12,gD g6),(13,gD Xt),(14,gD UH)]/\Fj=[dY UH 78 [aF x.2.ID,aF x.2.lT,aF x.2.l6,aF x.2.gP],dY Xt 78 [aF x.1.ID,aF x.1.lT,aF x.1.l6,aF x.1.gP],dY g5 112 [aF 0,aF 0,aF 0,gK 0,aF 0,aF 0,aF 0],dY g6 154 [.slice acp ((iw dz l aG).length) acr],aS cZ 78 EZ E5 (wm l aG),aS mX 219 acp acr (iw dz l aG),dY g4 112 [aF 0,aF 0,aF 0,gK 0,aF 0,aF 0,aF 0],dY g3 3 [aF kr],dY g2 41 [.slice jl l.length jk],dY g1 42 [.slice su dz.length sj]]/\(∀ p∈pre,(CZ dz l (iw dz l aG) kr) p=none)) ⟨rfl,by intro p hp; simp at hp⟩ ?_ ?_ ?_ ?_
 ·rintro lr pre x _ G Sm ⟨rfl,hno⟩ hpre sJ;refine rg<|al tJ Y sJ λg7 Xu wz=>sty Y wz s0 Y λZ0 wB=>dn<|jy<|al tJ Y wB λg8 Z4 zB=>sty Y zB s0 Y λw16 BR=>jA<|l8.ap ⟨g8,g7,Y,Y,hno⟩ Y BR
 ·rintro lr pre x _ _ G w17 ⟨UH,Xt,rfl,rfl,hno⟩ hpre yB;refine cB<|rg<|nO yB s3 Y<|jT UH 0 nk yB s0 Y<|mU yB Y (u7 _ (yB.o s5) x.2.ID) λw18 ET=>bU Y<|aW ?_
  have hpb:=apx (cs:=dz) (l:=l) (aG:=aG) x.1.ID;have hpc:=apx (cs:=dz) (l:=l) (aG:=aG) x.2.ID;refine WP.dr ak ?_;have H1:=ET.grow (pI w18).drew;refine wiz H1 [(0,38,.slice acp ((iw dz l aG).length) acr),(1,39,gD Xt),(4,42,aF (nL (iw dz l aG) x.2.ID)),(6,44,aF kr),(2,40,aF x.1.ID),(7,45,aF (if 1>kr then 1 else kr)),(3,41,aF (nL (iw dz l aG) x.1.ID)),(5,43,aF (nL (iw dz l aG) x.1.ID - nL (iw dz l aG) x.2.ID)),(8,46,.bool (decide (aiz dz l aG x kr))),(9,47,.bool (decide (aiz dz l aG x kr)))] 5 (abZ ak) (GL Y (λ_ hK=>(dx O4 Y (hK.x s3) Y))<|GL Y (λ_ hK=>(dW (q:=⟨Xt,0,none⟩) nk Y Y))<|GL Y (λ_ hK=>(bf Y))<|GL Y (λ_ hK=>(dx jD Y (hK.x s7) Y))<|GL Y (λ_ hK=>(dx jD Y (hK.x s1) Y))<|GL Y (λ_ hK=>(Ev.max2 Y Y))<|qcz Y (Qi.call Y Y Y ait (λ_ hK=>(u7 _ (hK.o s5) x.1.ID).mono (by rintro _ _ ⟨rfl,fQ⟩; exact⟨rfl,hK.grow fQ.ext⟩)))<|GL rfl (λ_ hK=>(UD rfl rfl))<|GL rfl (λ_ hK=>(vS rfl rfl))<|GL rfl (λ_ hK=>(bf rfl))<|qnz) λw19 Cc=>?_
  cases aCa:decide (aiz dz l aG x kr) with
  | true=>
   have aCb:=gW aCa;refine wiz Cc [(10,48,undef),(11,49,undef),(12,50,undef),(13,51,undef),(14,52,.bool true)] 0 ak (zM Y<|zM Y<|zM Y<|zM Y<|GL Y (λ_ hK=>(dH Y Y))<|qnz) λw20 C8=>?_;refine WI.dn ak<|bK Y (λ_h=>?_) nofun
   refine qJ (lu (rE ?_));exact l8.rn ⟨Y,by refine aco hno ?_; first | exact Xq apB aj | (unfold CZ; rw [aO aj])⟩ (C8.cU 0 2)
  | false=>
   have aCb:=iJ aCa;refine wiz Cc [(10,48,aF (nL (iw dz l aG) x.2.ID)),(11,49,.pointer (some ⟨UH,2,none⟩)),(12,50,aF x.2.l6),(13,51,.bool (decide (x.2.l6<=nL (iw dz l aG) x.2.ID))),(14,52,.bool (decide (x.2.l6<=nL (iw dz l aG) x.2.ID)))] 0 ak (Oh Y (λ_ hK=>(bf Y))<|Oh Y (λ_ hK=>(dW (q:=⟨UH,2,none⟩) Vu Y Y))<|Oh Y (λ_ hK=>(dx jD Y (hK.x s0) Y))<|Oh Y (λ_ hK=>(qK Y Y))<|GL Y (λ_ hK=>(dL Y Y))<|qnz) λw21 FH=>?_;refine WI.dn ak<|mQ Y (λaG7=>?_) (λaG7=>?_)
   ·refine qJ (lu (rE ?_));exact l8.rn ⟨Y,by refine aco hno ?_; first | exact Xq apB aj | (unfold CZ; rw [aO aj])⟩ (FH.cU 0 2)
   refine jm ?_;refine rg<|nO FH s9 Y<|ev (eU iN Y)<|mv Y<|dn<|cB<|Lp FH (λl0 rk mJ lJ wJ=>∃(k:Nat),lJ=(55,aF ((k:Nat):Int))::l0/\mJ=dz.length - k/\k<=dz.length/\(∀ c∈dz.take k,Bg c l x.1.ID x.2.ID=false)/\Hp w S0 wJ rk) ⟨0,Y,Y,fJ _,av,FH⟩ rfl ?_
   rintro _ _ w22 ⟨k,rfl,rfl,hk,apB,EU⟩;refine rg<|ev (fC Y Y)<|dn<|pQ Y (λaG8=>?_) (λaG8=>?_)
   ·refine jm ?_;refine aW<|cB<|rg ?_
    obtain⟨x1,bP⟩:=bC (xs:=dz) (i:=k) aj;refine ev (cu (i:=k) iN o9 Y Y Y (aJ bP) ((EU.a uf).some_ bP)) ?_;obtain⟨B1,d1,zP,hi1⟩:=uP (uf.row bP);refine ev (gI (cs:=[aF x1.ID,aF x1.aB,gK x1.Sum,.slice B1 x1.aD.length d1]) qw Y Y (GV (λj u hu=>EU.ext.cell (zP j u hu))))<|al lU Y EU λg9 w23 KA=>sty Y KA s0 Y λw24 qB=>dn<|rg<|ev (dU qw Y Y (qB.x s0))<|nO qB s9 Y<|jT Xt 0 nk qB s2 Y<|jT UH 0 nk qB s1 Y<|mU qB Y (auF _ x1 (qB.a hi1).any (qB.a jo).any x.1.ID x.2.ID aj (hh _ (bT bP))) λw25 FI=>dn<|bK Y (λaiB=>?_) (λaiB=>?_)
    ·refine rg<|jT g9 0 pq FI s0 Y<|jT g9 1 tH FI s0 Y<|jT g9 2 IE FI s0 Y<|jT Xt 0 nk FI s2 Y<|jT UH 0 nk FI s1 Y<|ev (iY (vs:=[(0,aF 0),(1,aF x1.ID),(2,aF x1.aB),(3,gK x1.Sum),(4,aF x.1.ID),(5,aF x.2.ID)]) (cs:=[aF 0,aF x1.ID,aF x1.aB,gK x1.Sum,aF x.1.ID,aF x.2.ID,aF 0]) Y (by apply Gp))<|sty rfl FI s3 rfl λw26 Nw=>dn<|qJ (Ou rfl (lu (lu (Ou rfl (Ou rfl ?_)))))
     exact l8.rx ⟨Y,x1.ID,x1.aB,x1.Sum,x.1.ID,x.2.ID,Y,by exact apw hpre hno (amN (by rintro(h | h) <;> omega) apB bP aiB)⟩ (Nw.cU 1 3)
    refine xQ ?_;refine jy<|ev (dO Y Y)<|mv Y<|jA<|dI ⟨(k+1),Y,Y,aj,by exact pJ (q:=λc=>Bg c l x.1.ID x.2.ID=false) apB bP aiB,(FI.rm s0)⟩ rfl aj
   refine qJ (lu (lu (rE (iE ?_))));exact l8.rn ⟨Y,by refine aco hno ?_; first | exact Xq apB aj | (unfold CZ; rw [aO aj])⟩ (EU.cU 0 2)
 ·rintro D _ w27 ⟨rfl,hno⟩ OB;refine iE (gG ?_);refine He OB (λ_ K=>(K.rm s9)) (λl0 rk lJ wJ=>lJ=(9,.bool (decide (0<0)))::l0/\Hp w S0 wJ (dY g4 112 [aF 0,aF 0,aF 0,gK 0,aF 0,aF 0,aF 0]::rk)) (λhns H2=>?_) ?_
  ·have k1:=(H2.rm s9);refine lD 0 Y (λ_ hK=>dU wu Y Y (hK.x s5)) k1<|ng 1 2 g5 1 sw s5 Y k1<|lD 3 Y (λ_ _=>pV Y Y) k1<|O1 4 Y<|sty Y H2 s9 Y λw28 FJ=>?_
   have k2:=(FJ.rm s0);refine aQ k2<|xI 5 Y Y k2<|Dn ⟨Y,FJ⟩ Y
  rintro _ w29 ⟨rfl,Lx⟩;refine jf (l8.ah6 (l8.ame ((Lx.sel s0).sel s1) Y λw30 KC=>⟨_,⟨_,_,Y,⟨_,Y,jL (cs:=[aF 0,aF 0,aF 0,gK 0,aF 0,aF 0,aF 0]) wu Y (KC.x s0)⟩,⟨_,_,Y,Y,Y⟩⟩,?_⟩));have r9:((⟨0,0,0,0,0,0,0⟩:aM):aM)=(iT dz l aG kr):=by unfold iT; rw [aO lN,show(Xp dz l aG).findSome? (CZ dz l (iw dz l aG) kr)=none from aiw.2 hno]; rfl
  have hq11:(0:Int)=(iT dz l aG kr).Kind:=by rw [<- r9]
  have hq12:(0:Int)=(iT dz l aG kr).aC:=by rw [<- r9]
  have TG:(0:Int)=(iT dz l aG kr).aB:=by rw [<- r9]
  have TH:(0:Int)=(iT dz l aG kr).Sum:=by rw [<- r9]
  have Z5:(0:Int)=(iT dz l aG kr).jM:=by rw [<- r9]
  have Xv:(0:Int)=(iT dz l aG kr).To:=by rw [<- r9]
  have Xw:(0:Int)=(iT dz l aG kr).jS:=by rw [<- r9]
  have Xx:(decide (0<0):Bool)=(moveB dz l aG kr):=by unfold moveB iT; rw [aO lN,show(Xp dz l aG).findSome? (CZ dz l (iw dz l aG) kr)=none from aiw.2 hno]; rfl
  exact⟨by rw [Xx,<- hq11,<- hq12,<- TG,<- TH,<- Z5,<- Xv,<- Xw] <;> rfl,KC.z⟩
 ·rintro D c pre F w31 (⟨rfl,oc,ov,os,of_,ot,rfl,hfs⟩) QC;refine qJ (rE (gG ?_));refine He QC (λ_ K=>(K.rm s9)) (λl0 rk lJ wJ=>lJ=(9,.bool (decide (0<oc)))::l0/\Hp w S0 wJ (dY g4 112 [aF 0,aF oc,aF ov,gK os,aF of_,aF ot,aF 0]::rk)) (λhns H3=>?_) ?_
  ·have k3:=(H3.rm s9);refine lD 0 Y (λ_ hK=>dU wu Y Y (hK.x s5)) k3<|ng 1 2 g5 1 sw s5 Y k3<|lD 3 Y (λ_ _=>pV Y Y) k3<|O1 4 Y<|sty Y H3 s9 Y λw32 OC=>?_
   have k4:=(OC.rm s0);refine aQ k4<|xI 5 Y Y k4<|Dn ⟨Y,OC⟩ Y
  rintro _ w33 ⟨rfl,Xy⟩;refine jf (l8.ah6 (l8.ame ((Xy.sel s0).sel s1) Y λw34 K34=>⟨_,⟨_,_,Y,⟨_,Y,jL (cs:=[aF 0,aF oc,aF ov,gK os,aF of_,aF ot,aF 0]) wu Y (K34.x s0)⟩,⟨_,_,Y,Y,Y⟩⟩,?_⟩));have TI:((⟨0,oc,ov,os,of_,ot,0⟩:aM):aM)=(iT dz l aG kr):=by unfold iT; rw [aO lN,hfs]; rfl
  have amO:(0:Int)=(iT dz l aG kr).Kind:=by rw [<- TI]
  have aiC:(oc:Int)=(iT dz l aG kr).aC:=by rw [<- TI]
  have aiD:(ov:Int)=(iT dz l aG kr).aB:=by rw [<- TI]
  have aiE:(os:Int)=(iT dz l aG kr).Sum:=by rw [<- TI]
  have aiF:(of_:Int)=(iT dz l aG kr).jM:=by rw [<- TI]
  have amP:(ot:Int)=(iT dz l aG kr).To:=by rw [<- TI]
  have aiG:(0:Int)=(iT dz l aG kr).jS:=by rw [<- TI]
  have aiH:(decide (0<oc):Bool)=(moveB dz l aG kr):=by unfold moveB iT; rw [aO lN,hfs]; rfl
  exact⟨by rw [aiH,<- amO,<- aiC,<- aiD,<- aiE,<- aiF,<- amP,<- aiG] <;> rfl,K34.z⟩
structure bD where
  aC:Int
  aB:Int
  jM:Int
  To:Int
  jS:Int
  deriving DecidableEq
def bD.enc(x:bD):List Value:=[.int .i64 x.aC,.int .i64 x.aB,.int .i64 x.jM,.int .i64 x.To,.int .i64 x.jS]
theorem bD.lF(x:bD):∀ u∈x.enc,u.oneCell'=true:=by
  intro u hu
  simp only [bD.enc,iX,lM,sN] at hu
  rcases hu with rfl | rfl | rfl | rfl | rfl <;> rfl
def dJ:Ty bD:=Ty.flat 5 bD.enc au (λ_=>rfl) bD.lF
instance:Flat dJ:=⟨λh=>h⟩
def sD(n:Int):Bool:=decide (1<=n)&&decide (n<=16)
def QD(x:bD):Bool:=sD x.jM&&sD x.To&&!decide (x.jM=x.To)&&decide (1<=x.aC)&&decide (1<=x.aB)&&decide (0<=x.jS)&&decide (x.jS<=1099511627776)
def sends(l:List bD)(id:Int):Nat:=l.countP λx=>decide (x.jM=id)
def takes(l:List bD)(id:Int):Nat:=l.countP λx=>decide (x.To=id)
theorem IX{l:List bD}{x:bD}(h:l[k]? = some x)(id:Int):sends (l.take (k+1)) id=sends (l.take k) id+if x.jM=id then 1 else 0:=by
  rw [fD h]; simp [sends,OP,aci]
theorem IY{l:List bD}{x:bD}(h:l[k]? = some x)(id:Int):takes (l.take (k+1)) id=takes (l.take k) id+if x.To=id then 1 else 0:=by
  rw [fD h]; simp [takes,OP,aci]
theorem Es(l:List bD)(id:Int):sends l id<=l.length:=abO
theorem LA(l:List bD)(id:Int):takes l id<=l.length:=abO
theorem Br(l:List bD)(k:Nat)(id:Int):sends (l.take k) id<=k:=lV (Es _ _) (by simp only [fO]; omega)
theorem Bt(l:List bD)(k:Nat)(id:Int):takes (l.take k) id<=k:=lV (LA _ _) (by simp only [fO]; omega)
def zT(l:List bD)(aL to:Int):Int:=idxOf (λx=>decide (x.aC=aL)&&decide (x.To=to)) l
def pO(l:List bD)(x:bD)(dV all:Int):Int:=
  if QD x=false then 1 else if 0<=zT l x.aC x.To then 6 else if all<=l.length∨dV<=sends l x.jM∨dV<=takes l x.To then 7 else 0
def ug(l:List bD)(x:bD)(dV all:Int):List bD:=if pO l x dV all=0 then l++[x] else[]
def inB(aN:Int)(x:bD):Bool:=!decide (x.jS<aN)
def O5(aN:Int)(x:bD):Bool:=decide (x.jS<aN)
theorem QE{xs:List α}{x:α}(h:xs[k]? = some x):(xs.take (k+1)).filter p=(xs.take k).filter p++if p x then[x] else[]:=by
  rw [fD h,vX]
  cases hp:p x <;> simp [hp]
theorem akh(p:α->Bool)(xs:List α)(k:Nat):((xs.take k).filter p).length<=k:=lV (mR _ _) (by simp only [fO]; omega)
def auQ(l:List bD)(dV:Int)(i:Nat)(x:bD):Bool:=QD x&&decide (zT l x.aC x.To=(i:Int))&&decide ((sends l x.jM:Int)<=dV)&&decide ((takes l x.To:Int)<=dV)
def LB(l:List bD)(dV all:Int):Bool:=ahX (auQ l dV) l&&decide ((l.length:Int)<=all)
def IZ(l:List bD)(dV n:Int):Bool:=decide ((sends l n:Int)<dV)
def C9(l:List bD)(wY:List Int)(dV:Int):Int:=match wY.find? (IZ l dV) with | some n=>n | none=>0
def J8(l:List bD)(wY:List Int)(dV:Int):Bool:=(wY.find? (IZ l dV)).isSome
theorem O6{α:Type}{p:α->Bool}:∀ {xs:List α} {k:Nat} {x:α},(∀ y∈xs.take k,p y=false)->xs[k]? = some x->p x=true->xs.find? p=some x
  | [],k,x,_,h,_=>by simp at h
  | y::xs,0,x,_,h,hp=>by simp at h; subst h; simp [List.find?,hp]
  | y::xs,k+1,x,h0,h,hp=>by
    have h1:=h0 y av;have h2:=O6 (p:=p) (xs:=xs) (k:=k) (x:=x) (λz hz=>h0 z (by simp [hz])) (by simpa using h) hp
    simp [List.find?,h1,h2]
theorem Xz{xs:List α}(h:∀ y∈xs,p y=false):xs.find? p=none:=by
  rw [Ce]; intro x hx; simp [h x hx]
theorem QF:eu prog 117 2 2:=ay
theorem ay1:bF prog 159:=ay
theorem xS:eu prog 117 3 3:=ay
theorem QG:eu prog 117 0 0:=ay
theorem apD:eu prog 117 1 1:=ay
theorem XA:eu prog 117 4 4:=ay
theorem Gq:Size prog 117 5:=ay
theorem I4:Agg prog 117 5:=⟨λ_=>by kernel_rfl,Gq⟩
theorem QH:∀ w,(zeroValue 117).run prog w=.ok (.agg #[aF 0,aF 0,aF 0,aF 0,aF 0]) w:=ay
theorem ay2:bF prog 161:=ay
theorem apE  : ∀ w,(Instr.buildSlice 48 0 (List.toArray [])).run prog w=.ok (.slice (some ⟨w.heap.size,0,none⟩) 0 0) (w.alloc (.cells (List.toArray []) 117)):=ay
theorem TJ:lW prog 117 5 40:=by
  obtain⟨i,h1,h2,h3,h4⟩:=tX (show(prog.info? 117).map (λi=>(i.zero,i.size,i.bytes))=some (some (.agg #[aF 0,aF 0,aF 0,aF 0,aF 0]),5,40) by kernel_rfl);exact⟨i,_,h1,h2,h3,h4,Y⟩
theorem BF(a0:Int)(a1:Int)(a2:Int)(a3:Int)(a4:Int):∀ w,(Instr.buildSlice 48 1 (List.toArray [(0,.agg #[aF a0,aF a1,aF a2,aF a3,aF a4])])).run prog w=.ok (.slice (some ⟨w.heap.size,0,none⟩) 1 1) (w.alloc (.cells (List.toArray [aF a0,aF a1,aF a2,aF a3,aF a4]) 117)):=ay
theorem aaO(w:World)(id:Int) :
    bS prog 159 #[aF id] w λv w'=>v=.bool (sD id)/\Hp w S0 w' []:=by
 refine kP S0 func159 ntmps159 Y λH0=>iZ Y<|bQ Y<|ev (qK Y Y)<|mv Y<|iP 3 8 ((decide (1<=id))&&(decide (id<=16))) ?_ ?_
 ·cases hb5:decide (1<=id) with
  | true=>
   refine bn Y (bf Y) Y<|bn Y (vS Y Y) Y<|ev (dH Y Y)<|dM Y
  | false=>
   refine dN<|dN<|ev (dL Y Y)<|dM Y
 refine bU Y<|jc Y ?_
 have eO:(((decide (1<=id))&&(decide (id<=16))):Bool)=(sD id):=by rfl
 exact⟨by rw [eO] <;> rfl,H0⟩
theorem apF(w:World)(x:bD) :
    bS prog 91 #[.agg #[aF x.aC,aF x.aB,aF x.jM,aF x.To,aF x.jS]] w λv w'=>v=.bool (QD x)/\Hp w S0 w' []:=by
 refine kP S0 func91 ntmps91 Y λH0=>rg<|bx Y Y H0 λg1 w1 K1=>bU Y<|rg<|jT g1 2 QF K1 s0 Y<|mU K1 Y (aaO (S0:=Any) _ x.jM) λw2 K2=>mv Y<|oG 4 10 ((sD x.jM)&&(sD x.To)) ?_ ?_
 ·cases hb6:sD x.jM with
  | true=>
   refine wL g1 3 xS K2 s0 Y<|oh Y Y Y Y ay1 (aaO (S0:=Any) _ x.To) Y ?_
   rintro _ w3 ⟨rfl,h3⟩;refine ev (dH Y Y)<|jh Y h3.ext
  | false=>
   refine dN<|dN<|dN<|ev (dL Y Y)<|jh Y (pI _)
 intro w4 e4;have K4:=K2.grow e4;refine mv Y<|iP 6 17 (((sD x.jM)&&(sD x.To))&&(!decide (x.jM=x.To))) ?_ ?_
 ·cases Tv:((sD x.jM)&&(sD x.To)) with
  | true=>
   have Lm:=Tv
   try simp only [bN,eH,bO,bV] at Lm
   refine wL g1 2 QF K4 s0 Y<|wL g1 3 xS K4 s0 Y<|bn Y (nQ Y Y) Y<|ev (dH Y Y)<|dM Y
  | false=>
   refine dN<|dN<|dN<|dN<|dN<|ev (dL Y Y)<|dM Y
 refine mv Y<|iP 4 22 ((((sD x.jM)&&(sD x.To))&&(!decide (x.jM=x.To)))&&(decide (1<=x.aC))) ?_ ?_
 ·cases ayw:(((sD x.jM)&&(sD x.To))&&(!decide (x.jM=x.To))) with
  | true=>
   have axg:=ayw
   try simp only [fq,dX,bN,eH,eG,fP,bO,bV] at axg
   refine wL g1 0 QG K4 s0 Y<|bn Y (qK Y Y) Y<|ev (dH Y Y)<|dM Y
  | false=>
   refine dN<|dN<|dN<|ev (dL Y Y)<|dM Y
 refine mv Y<|iP 4 27 (((((sD x.jM)&&(sD x.To))&&(!decide (x.jM=x.To)))&&(decide (1<=x.aC)))&&(decide (1<=x.aB))) ?_ ?_
 ·cases aG9:((((sD x.jM)&&(sD x.To))&&(!decide (x.jM=x.To)))&&(decide (1<=x.aC))) with
  | true=>
   have aCc:=aG9
   try simp only [fq,dX,bN,eH,eG,fP,bO,bV] at aCc
   refine wL g1 1 apD K4 s0 Y<|bn Y (qK Y Y) Y<|ev (dH Y Y)<|dM Y
  | false=>
   refine dN<|dN<|dN<|ev (dL Y Y)<|dM Y
 refine mv Y<|iP 4 32 ((((((sD x.jM)&&(sD x.To))&&(!decide (x.jM=x.To)))&&(decide (1<=x.aC)))&&(decide (1<=x.aB)))&&(decide (0<=x.jS))) ?_ ?_
 ·cases afk:(((((sD x.jM)&&(sD x.To))&&(!decide (x.jM=x.To)))&&(decide (1<=x.aC)))&&(decide (1<=x.aB))) with
  | true=>
   have aCd:=afk
   try simp only [fq,dX,bN,eH,eG,fP,bO,bV] at aCd
   refine wL g1 4 XA K4 s0 Y<|bn Y (qK Y Y) Y<|ev (dH Y Y)<|dM Y
  | false=>
   refine dN<|dN<|dN<|ev (dL Y Y)<|dM Y
 refine mv Y<|iP 4 37 (((((((sD x.jM)&&(sD x.To))&&(!decide (x.jM=x.To)))&&(decide (1<=x.aC)))&&(decide (1<=x.aB)))&&(decide (0<=x.jS)))&&(decide (x.jS<=1099511627776))) ?_ ?_
 ·cases ay3:((((((sD x.jM)&&(sD x.To))&&(!decide (x.jM=x.To)))&&(decide (1<=x.aC)))&&(decide (1<=x.aB)))&&(decide (0<=x.jS))) with
  | true=>
   have aCe:=ay3
   try simp only [fq,dX,bN,eH,eG,fP,bO,bV] at aCe
   refine wL g1 4 XA K4 s0 Y<|bn Y (vS Y Y) Y<|ev (dH Y Y)<|dM Y
  | false=>
   refine dN<|dN<|dN<|ev (dL Y Y)<|dM Y
 refine bU Y<|jc Y ?_
 have eO:((((((((sD x.jM)&&(sD x.To))&&(!decide (x.jM=x.To)))&&(decide (1<=x.aC)))&&(decide (1<=x.aB)))&&(decide (0<=x.jS)))&&(decide (x.jS<=1099511627776))):Bool)=(QD x):=by rfl
 exact⟨by rw [eO] <;> rfl,(K4.rm s0)⟩
theorem QI(w:World){l:List bD}(jo:Sl dJ S0 w jl jk l)(id:Int)(hn:l.length<=100) :
    bS prog 158 #[.slice jl l.length jk,aF id] w λv w'=>v=.complex .f64 (fb (sends l id)) (fb (takes l id))/\Hp w S0 w' []:=by
 refine kP S0 func158 ntmps158 Y λH0=>iZ Y<|iZ Y<|aW<|bQ Y<|ev (eU oI Y)<|mv Y<|dn<|cB ?_
 have eO:(.complex .f64 0 0:Value)=.complex .f64 (fb (sends (l.take 0) id)) (fb (takes (l.take 0) id)):=by simp [sends,takes,fb,ajV]
 refine lC (t:=5) Y eO ?_;have fQ:(0:Int)=((0:Nat):Int):=by simp
 refine lC (t:=10) Y (aR (Value.int .i64) fQ)<|pK (λmJ lJ wJ=>∃(k:Nat),lJ=[(1,aF id),(5,.complex .f64 (fb (sends (l.take k) id)) (fb (takes (l.take k) id))),(8,.slice jl l.length jk),(9,aF ((l.length:Nat):Int)),(10,aF ((k:Nat):Int))]/\mJ=l.length - k/\k<=l.length/\Hp w S0 wJ []) ⟨0,Y,Y,fJ _,H0⟩ Y ?_
 rintro _ _ w1 ⟨k,rfl,rfl,hk,K1⟩;refine rg<|ev (fC Y Y)<|dn<|pQ Y (λIQ=>?_) (λIQ=>?_)
 ·refine jm ?_;refine aW<|cB<|rg ?_
  obtain⟨x1,bP⟩:=bC (xs:=l) (i:=k) aj;refine ev (cu (i:=k) oI Gq Y Y Y (aJ bP) ((K1.a jo).some_ bP))<|ev (gI I4 Y Y ((K1.a jo).fE bP))<|al QH Y K1 λg1 w2 K2=>sty Y K2 s0 Y λw3 K3=>dn<|aW<|rg<|jT g1 2 QF K3 s0 Y<|mv Y<|ev (iA Y Y)<|dn<|mQ Y (λhc17=>?_) (λhc17=>?_)
  ·refine jy<|mv Y<|ev (Ev.auc Y Y (abQ _ (by have:=Br l k id; have:=Bt l k id; omega)) (Vo _ (by have:=Br l k id; have:=Bt l k id; omega)))<|iI rfl<|jA<|gG<|rg<|jT g1 3 xS K3 s0 rfl<|mv rfl<|ev (iA rfl rfl)<|dn<|bK rfl (λrz=>?_) (λrz=>?_)
   ·replace rz:=gW rz;refine jy<|mv Y<|ev (Ev.auc Y Y (Vo _ (by have:=Br l k id; have:=Bt l k id; omega)) (abQ _ (by have:=Br l k id; have:=Bt l k id; omega)))<|iI rfl<|jA<|iE (gG ?_)
    refine jy<|ev (dO Y Y)<|mv Y<|jA ?_
    have jW:(.complex .f64 (fb (sends (l.take k) id+1)) (fb (takes (l.take k) id+1)):Value)=.complex .f64 (fb (sends (l.take (k+1)) id)) (fb (takes (l.take (k+1)) id)):=by rw [IX bP,IY bP]; simp [hc17,rz]
    refine jq (t:=5) Y jW ?_;have mH:(((k+1:Nat):Int):Int)=(((k+1):Nat):Int):=by simp
    refine jq (t:=10) Y (aR (Value.int .i64) mH)<|dI ⟨(k+1),Y,Y,aj,(K3.rm s0)⟩ rfl aj
   replace rz:=iJ rz;refine xQ ?_;refine jy<|ev (dO Y Y)<|mv Y<|jA ?_
   have rR:(.complex .f64 (fb (sends (l.take k) id+1)) (fb (takes (l.take k) id)):Value)=.complex .f64 (fb (sends (l.take (k+1)) id)) (fb (takes (l.take (k+1)) id)):=by rw [IX bP,IY bP]; simp [hc17,rz]
   refine jq (t:=5) Y rR ?_;have wM:(((k+1:Nat):Int):Int)=(((k+1):Nat):Int):=by simp
   refine jq (t:=10) Y (aR (Value.int .i64) wM)<|dI ⟨(k+1),Y,Y,aj,(K3.rm s0)⟩ rfl aj
  refine jm ?_;refine rg<|jT g1 3 xS K3 s0 Y<|mv Y<|ev (iA Y Y)<|dn<|bK Y (λrz=>?_) (λrz=>?_)
  ·replace rz:=gW rz;refine jy<|mv Y<|ev (Ev.auc Y Y (Vo _ (by have:=Br l k id; have:=Bt l k id; omega)) (abQ _ (by have:=Br l k id; have:=Bt l k id; omega)))<|iI rfl<|jA<|iE (gG ?_)
   refine jy<|ev (dO Y Y)<|mv Y<|jA ?_
   have zk:(.complex .f64 (fb (sends (l.take k) id)) (fb (takes (l.take k) id+1)):Value)=.complex .f64 (fb (sends (l.take (k+1)) id)) (fb (takes (l.take (k+1)) id)):=by rw [IX bP,IY bP]; simp [hc17,rz]
   refine jq (t:=5) Y zk ?_;have hq8:(((k+1:Nat):Int):Int)=(((k+1):Nat):Int):=by simp
   refine jq (t:=10) Y (aR (Value.int .i64) hq8)<|dI ⟨(k+1),Y,Y,aj,(K3.rm s0)⟩ rfl aj
  replace rz:=iJ rz;refine xQ ?_;refine jy<|ev (dO Y Y)<|mv Y<|jA ?_
  have AJ:(.complex .f64 (fb (sends (l.take k) id)) (fb (takes (l.take k) id)):Value)=.complex .f64 (fb (sends (l.take (k+1)) id)) (fb (takes (l.take (k+1)) id)):=by rw [IX bP,IY bP]; simp [hc17,rz]
  refine jq (t:=5) Y AJ ?_;have r9:(((k+1:Nat):Int):Int)=(((k+1):Nat):Int):=by simp
  refine jq (t:=10) Y (aR (Value.int .i64) r9)<|dI ⟨(k+1),Y,Y,aj,(K3.rm s0)⟩ rfl aj
 refine wE ?_;refine bQ Y<|bU Y<|jc Y ?_
 have hq11:(.complex .f64 (fb (sends (l.take k) id)) (fb (takes (l.take k) id)):Value)=(.complex .f64 (fb (sends l id)) (fb (takes l id))):=by rw [iH aj]
 exact⟨by rw [hq11] <;> rfl,K1⟩
theorem XB(w:World){l:List bD}(jo:Sl dJ S0 w jl jk l)(id:Int)(hn:l.length<=100) :
    bS prog 90 #[.slice jl l.length jk,aF id] w λv w'=>v=.tuple #[aF ((sends l id:Nat):Int),aF ((takes l id:Nat):Int)]/\Hp w S0 w' []:=by
 refine kP S0 func90 ntmps90 Y λH0=>rg<|iI Y<|bU Y<|bQ Y<|mv Y<|mU H0 Y (QI _ (H0.a jo).any id aj) λw1 K1=>bU Y<|bQ Y<|ev (Ev.real Y)<|ev (Ev.aBA ⟨_,acj⟩ iQ Y (aoS _ (by have:=Es l id; have:=LA l id; omega)) (by have:=Es l id; have:=LA l id; omega))<|mv rfl<|ev (Ev.imag rfl)<|ev (Ev.aBA ⟨_,acj⟩ iQ rfl (aoS _ (by have:=Es l id; have:=LA l id; omega)) (by have:=Es l id; have:=LA l id; omega))<|iI rfl<|bU rfl<|jc rfl ?_
 exact⟨Y,K1⟩
theorem QJ(w:World){uY:Nat}{s:List bD}(mP:Sl dJ S0 w vY uY s){AA:FuncId}{AX:List Value}(KI:bF prog AA)(f:bD->Bool)(KJ:∀(w':World)(x:bD),Ext w w'->x∈s->bS prog AA (([.agg #[aF x.aC,aF x.aB,aF x.jM,aF x.To,aF x.jS]]:List Value)++AX).toArray w' λv w''=>v=.bool (f x)/\Ext w' w'') :
    bS prog 160 #[.slice vY s.length uY,.func (.func AA) #[] AX.toArray] w λv w'=>v=aF (idxOf f s)/\Hp w S0 w' []:=by
 refine kP S0 func160 ntmps160 Y λH0=>?_;have Qm:=mP.bH;refine iZ Y<|aW<|bQ Y<|ev (eU oI Y)<|mv Y<|dn<|cB<|Lp H0 (λl0 rk mJ lJ wJ=>∃(k:Nat),lJ=(8,aF ((k:Nat):Int))::l0/\mJ=s.length - k/\k<=s.length/\(∀ y∈s.take k,f y=false)/\Hp w S0 wJ rk) ⟨0,Y,Y,fJ _,av,H0⟩ rfl ?_
 rintro _ _ w1 ⟨k,rfl,rfl,hk,hno,K1⟩;refine rg<|ev (fC Y Y)<|dn<|pQ Y (λER=>?_) (λER=>?_)
 ·refine jm ?_;refine aW<|cB<|bQ Y<|bU Y<|bQ Y<|mv Y<|mv Y ?_
  obtain⟨x1,bP⟩:=bC (xs:=s) (i:=k) aj;refine ev (cu (i:=k) oI Gq Y Y Y (aJ bP) ((K1.a mP).some_ bP))<|ev (gI I4 Y Y ((K1.a mP).fE bP))<|xK Y Y Y KI (KJ _ x1 K1.ext (bT bP)) Y ?_
  rintro _ w2 ⟨rfl,e2⟩;have K2:=K1.grow e2;refine dn<|bK Y (λhc16=>?_) (λhc16=>?_)
  ·refine bQ Y<|bU Y<|jf (jg (fT (fT (jg (fT (zA Y ?_))))))
   have eO:(((k:Nat):Int):Int)=(idxOf f s):=by exact(rX hno bP hc16).symm
   exact⟨by rw [eO] <;> rfl,K2⟩
  refine xQ ?_;refine jy<|ev (dO Y Y)<|mv Y<|jA<|dI ⟨(k+1),Y,Y,aj,by exact pJ (q:=λy=>f y=false) hno bP hc16,K2⟩ rfl aj
 refine wE ?_;refine iZ Y<|jc Y ?_
 have fQ:((-1):Int)=(idxOf f s):=by exact(uK (vU hno aj)).symm
 exact⟨by rw [<- fQ] <;> rfl,K1⟩
theorem aiI(w:World)(x:bD){QK:Nat}(aL:Int)(acu:Bx w QK 3 [aF aL]){axn:Nat}(ni:Int)(aCf:Bx w axn 3 [aF ni]) :
    bS prog 161 #[.agg #[aF x.aC,aF x.aB,aF x.jM,aF x.To,aF x.jS],gD QK,gD axn] w λv w'=>v=.bool (decide (x.aC=aL)&&decide (x.To=ni))/\Hp w S0 w' []:=by
 refine kP S0 func161 ntmps161 Y λH0=>rg<|bx Y Y H0 λg1 w1 K1=>bU Y<|rg<|jT g1 0 QG K1 s0 Y<|ev (dx jD Y (acu.ext K1.ext) Y)<|ev (iA Y Y)<|mv Y<|iP 5 14 ((decide (x.aC=aL))&&(decide (x.To=ni))) ?_ ?_
 ·cases hb9:decide (x.aC=aL) with
  | true=>
   refine wL g1 3 xS K1 s0 Y<|bn Y (dx jD Y (aCf.ext K1.ext) Y) Y<|bn Y (iA Y Y) Y<|ev (dH Y Y)<|dM Y
  | false=>
   refine dN<|dN<|dN<|dN<|ev (dL Y Y)<|dM Y
 refine bU Y<|jc Y ?_
 have eO:(((decide (x.aC=aL))&&(decide (x.To=ni))):Bool)=(decide (x.aC=aL)&&decide (x.To=ni)):=by first | with_reducible rfl | (simp; done) | omega
 exact⟨by rw [eO] <;> rfl,(K1.rm s0)⟩
theorem aaP(w:World){l:List bD}(jo:Sl dJ S0 w jl jk l)(aL:Int)(ni:Int) :
    bS prog 92 #[.slice jl l.length jk,aF aL,aF ni] w λv w'=>v=aF (zT l aL ni)/\Hp w S0 w' []:=by
 refine kP S0 func92 ntmps92 Y λH0=>rg<|bx Y Y H0 λg1 w1 K1=>bx Y Y K1 λg2 w2 K2=>bU Y<|bQ Y<|ev (rW Y)<|mU K2 Y (QJ _ (K2.a jo).any (AX:=[gD g1,gD g2]) ay2 (fun(x:bD)=>decide (x.aC=aL)&&decide (x.To=ni)) (λw' x e hm=>(aiI (S0:=Any) w' x aL ((K2.x s1).ext e) ni ((K2.x s0).ext e)).mono (by rintro _ _ ⟨rfl,fQ⟩; exact⟨rfl,fQ.ext⟩))) λw3 K3=>bU rfl<|jc rfl ?_
 have eO:(idxOf (fun(x:bD)=>decide (x.aC=aL)&&decide (x.To=ni)) l:Int)=(zT l aL ni):=by rfl
 exact⟨by rw [eO] <;> rfl,K3.z⟩
theorem BG(w:World){uY:Nat}{s:List bD}(mP:Sl dJ S0 w vY uY s)(hn:s.length<=1000000) :
    bS prog 66 #[.slice vY s.length uY] w λv w'=>∃(A0:ah)(c0:Nat),v=.slice A0 s.length c0/\Hp w S0 w' [aS dJ 117 A0 c0 s]:=by
 refine kP S0 func66 ntmps66 Y λH0=>iZ Y<|aW<|bQ Y<|ev (Ov oI Y Y)<|dn<|bK Y (λhc4=>?_) (λhc4=>?_)
 ·refine iZ Y<|uX Y ?_
  have H1:=H0.nil dJ 117;have eO:(([]:List bD):List bD)=s:=by have h1:=mP.nil (by simpa using hc4); have h2:=mP.cap; exact(uE aj).symm
  have H2:=(eO▸H1:Hp w S0 w (aS dJ 117 none 0 s::[]));exact⟨none,0,by rw [<- eO] <;> rfl,H2⟩
 refine jm ?_;refine rg<|bs0 (τ:=dJ) (vs:=[]) Y (by intro _; apply apE) rfl H0 λg1 w1 K1=>mv rfl<|ap (ys:=s) K1 s0 rfl rfl (K1.a mP).any oI TJ av (by first | omega | (simp; omega) | (simp; done)) rfl λoL oM w2 K2=>bU rfl<|jc rfl ?_
 have fQ:((([]:List bD)++s):List bD)=s:=by simp
 rw [fQ] at K2;exact⟨oL,oM,by rw [fQ] <;> rfl,K2⟩
theorem aiJ(w:World){l:List bD}(jo:Sl dJ S0 w jl jk l)(x:bD)(dV:Int)(all:Int)(hn:l.length<=100) :
    bS prog 331 #[.slice jl l.length jk,.agg #[aF x.aC,aF x.aB,aF x.jM,aF x.To,aF x.jS],aF dV,aF all] w λv w'=>∃(A0:ah)(c0:Nat),v=.tuple #[.slice A0 ((ug l x dV all).length) c0,aF (pO l x dV all)]/\Hp w S0 w' [aS dJ 117 A0 c0 (ug l x dV all)]:=by
 refine kP S0 func331 ntmps331 Y λH0=>rg<|bx Y Y H0 λg1 w1 K1=>iI Y<|bU Y<|bQ Y<|jT g1 2 QF K1 s0 Y<|mU K1 Y (XB _ (K1.a jo).any x.jM aj) λw2 K2=>mv Y<|xt Y Y<|xt Y Y<|iI Y<|bU Y<|bQ Y<|jT g1 3 xS K2 s0 Y<|mU K2 Y (XB _ (K2.a jo).any x.To aj) λw3 K3=>mv Y<|xt Y Y<|xt Y Y<|iI Y<|bU Y<|aW<|cB<|rg<|ev (dU I4 Y Y (K3.x s0)) ?_
 refine mU K3 Y (apF (S0:=Any) _ x) λw4 K4=>ev (iB Y)<|bU Y<|bK Y (λhc28=>?_) (λhc28=>?_)
 ·try simp only [fq,dX,bN,eH,eG,fP,bO,bV] at hc28
  refine rg<|iI Y<|bU Y<|Ox Y ?_
  have H1:=K4.nil dJ 117;have eO:(([]:List bD):List bD)=(ug l x dV all):=by simp [ug,pO,(show QD x=false by simpa using hc28)]
  have H2:=(eO▸H1:Hp w S0 w4 (aS dJ 117 none 0 (ug l x dV all)::[dY g1 117 [aF x.aC,aF x.aB,aF x.jM,aF x.To,aF x.jS]]));have fQ:(1:Int)=(pO l x dV all):=by simp [pO,(show QD x=false by simpa using hc28)]
  exact⟨none,0,by rw [<- eO,<- fQ] <;> rfl,(H2.rm s1)⟩
 try simp only [fq,dX,bN,eH,eG,fP,bO,bV] at hc28
 refine bQ Y<|jT g1 0 QG K4 s0 Y<|jT g1 3 xS K4 s0 Y<|mU K4 Y (aaP _ (K4.a jo).any x.aC x.To) λw5 K5=>ev (qK Y Y)<|bU Y<|mQ Y (λhc32=>?_) (λhc32=>?_)
 ·refine rg<|iI Y<|bU Y<|Ox Y ?_
  have H3:=K5.nil dJ 117;have jW:(([]:List bD):List bD)=(ug l x dV all):=by have hm:QD x=true:=(by simpa using hc28); simp [ug,pO,hm,hc32]
  have H4:=(jW▸H3:Hp w S0 w5 (aS dJ 117 none 0 (ug l x dV all)::[dY g1 117 [aF x.aC,aF x.aB,aF x.jM,aF x.To,aF x.jS]]));have mH:(6:Int)=(pO l x dV all):=by have hm:QD x=true:=(by simpa using hc28); simp [pO,hm,hc32]
  exact⟨none,0,by rw [<- jW,<- mH] <;> rfl,(H4.rm s1)⟩
 refine bQ Y<|ev (eU oI Y)<|mv Y<|ev (qK Y Y)<|mv Y<|iP 4 49 ((decide (all<=((l.length:Nat):Int)))||(decide (dV<=((sends l x.jM:Nat):Int)))) ?_ ?_
 ·cases aCg:decide (all<=((l.length:Nat):Int)) with
  | true=>
   refine dN<|dN<|dN<|ev (dH Y Y)<|dM Y
  | false=>
   refine bn Y (bf Y) Y<|bn Y (bf Y) Y<|bn Y (qK Y Y) Y<|ev (dL Y Y)<|dM Y
 refine mv Y<|iP 4 54 (((decide (all<=((l.length:Nat):Int)))||(decide (dV<=((sends l x.jM:Nat):Int))))||(decide (dV<=((takes l x.To:Nat):Int)))) ?_ ?_
 ·cases aHa:((decide (all<=((l.length:Nat):Int)))||(decide (dV<=((sends l x.jM:Nat):Int)))) with
  | true=>
   refine dN<|dN<|dN<|ev (dH Y Y)<|dM Y
  | false=>
   have aCh:=aHa
   try simp only [fq,dX,bO,bV] at aCh
   refine bn Y (bf Y) Y<|bn Y (bf Y) Y<|bn Y (qK Y Y) Y<|ev (dL Y Y)<|dM Y
 refine bU Y<|OQ [(0,.slice jl l.length jk),(5,gD g1),(40,.bool (((decide (all<=((l.length:Nat):Int)))||(decide (dV<=((sends l x.jM:Nat):Int))))||(decide (dV<=((takes l x.To:Nat):Int)))))] Y<|bK Y (λI5=>?_) (λI5=>?_)
 ·try simp only [fq,dX,bO,bV] at I5
  refine rg<|iI Y<|bU Y<|Ox Y ?_
  have H5:=K5.nil dJ 117;have rR:(([]:List bD):List bD)=(ug l x dV all):=by have hm:QD x=true:=(by simpa using hc28); have hf:¬ 0<=zT l x.aC x.To:=hc32; have hx:all<=l.length∨dV<=sends l x.jM∨dV<=takes l x.To:=(by simpa [or_assoc] using I5); simp [ug,pO,hm,hf,hx]
  have H6:=(rR▸H5:Hp w S0 w5 (aS dJ 117 none 0 (ug l x dV all)::[dY g1 117 [aF x.aC,aF x.aB,aF x.jM,aF x.To,aF x.jS]]));have wM:(7:Int)=(pO l x dV all):=by have hm:QD x=true:=(by simpa using hc28); have hf:¬ 0<=zT l x.aC x.To:=hc32; have hx:all<=l.length∨dV<=sends l x.jM∨dV<=takes l x.To:=(by simpa [or_assoc] using I5); simp [pO,hm,hf,hx]
  exact⟨none,0,by rw [<- rR,<- wM] <;> rfl,(H6.rm s1)⟩
 try simp only [fq,dX,bO,bV] at I5
 refine xQ ?_;refine He K5 (λ_ K=>K) (λl0 rk lJ wJ=>∃(jR:ah)(jO:Nat),lJ=(8,.slice jR ((l++([x]:List bD)).length) jO)::(9,aF 0)::l0/\Hp w S0 wJ (aS dJ 117 jR jO (l++([x]:List bD))::rk)) (λhns H7=>?_) ?_
 ·refine kX 0 Y Y H7<|lD 2 Y (λ_ hK=>dU I4 Y Y (hK.x s0)) H7<|Jn H7 (λl0 rk lJ wJ=>∃(g2:Nat)(Dm:ah)(Dp:Nat),lJ=(56,.slice Dm l.length Dp)::(58,.slice (some ⟨g2,0,none⟩) (([x]:List bD).length) 1)::l0/\Hp w S0 wJ (aS dJ 117 (some ⟨g2,0,none⟩) 1 ([x]:List bD)::aS dJ 117 Dm Dp l::rk)) 3 15 ?_ λhS1=>?_
  ·rintro _ Ti ⟨g2,Dm,Dp,rfl,tZ⟩;refine O1 4 Y<|ap (ys:=([x]:List bD)) tZ s1 Y Y (tZ.o s0) oI TJ (by first | omega | (simp; omega) | (simp; done)) av rfl λVs cp2 Sm sJ=>?_
   have k5:=(sJ.cU 0 2);refine aQ k5<|xI 5 Y Y k5<|xI 6 Y Y k5<|Dn ⟨Vs,cp2,Y,(sJ.rm s1)⟩ Y
  refine O2 1 3 Y Y ?_ ?_
  ·refine gX Y (BG _ (H7.a jo).any aj) ?_;rintro _ Xu ⟨aki,akj,rfl,h13⟩;have wz:=H7.f1 h13;have k6:=(wz.rm s0);refine aQ k6<|O1 3 Y<|Az (τ:=dJ) (x:=x) Y (by intro _; apply BF) rfl wz (λ_ _=>rfl) λg4 Z0 wB=>?_
   have k7:=(wB.cU 0 2);exact Kj hS1 k7 ⟨g4,aki,akj,Y,wB⟩ Y
  ·refine Az (τ:=dJ) (x:=x) Y (by intro _; apply BF) rfl H7 (λ_ _=>rfl) λg5 Z4 zB=>?_;have k8:=(zB.rm s0);refine aQ k8<|O1 1 Y<|gX Y (BG _ (zB.a jo).any aj) ?_
   rintro _ w16 ⟨LC,LD,rfl,h16⟩;have BR:=zB.f1 h16;have k9:=(BR.cU 0 2);exact Kj hS1 k9 ⟨g5,LC,LD,Y,((BR.sel s0).sel s1)⟩ Y
 rintro _ w17 ⟨jR,jO,rfl,yB⟩;refine jc Y ?_;have zk:((l++([x]:List bD)):List bD)=(ug l x dV all):=by have hm:QD x=true:=(by simpa using hc28); have hf:¬ 0<=zT l x.aC x.To:=hc32; have hx:¬ (all<=l.length∨dV<=sends l x.jM∨dV<=takes l x.To):=(by simpa [not_or,and_assoc] using I5); simp [ug,pO,hm,hf,hx]
 rw [zk] at yB;have hq8:(0:Int)=(pO l x dV all):=by have hm:QD x=true:=(by simpa using hc28); have hf:¬ 0<=zT l x.aC x.To:=hc32; have hx:¬ (all<=l.length∨dV<=sends l x.jM∨dV<=takes l x.To):=(by simpa [not_or,and_assoc] using I5); simp [pO,hm,hf,hx]
 exact⟨jR,jO,by rw [zk,<- hq8] <;> rfl,(yB.rm s1)⟩
theorem afm(w:World){l:List bD}(jo:Sl dJ S0 w jl jk l)(aN:Int)(hn:l.length<=1000000) :
    bS prog 62 #[.slice jl l.length jk,aF aN] w λv w'=>∃(A0:ah)(c0:Nat)(A1:ah)(c1:Nat),v=.tuple #[.slice A0 ((l.filter (inB aN)).length) c0,.slice A1 ((l.filter (O5 aN)).length) c1]/\Hp w S0 w' [aS dJ 117 A0 c0 (l.filter (inB aN)),aS dJ 117 A1 c1 (l.filter (O5 aN))]:=by
 refine kP S0 func62 ntmps62 Y λH0=>rg<|iI Y<|bU Y<|aW<|bQ Y<|ev (eU oI Y)<|mv Y<|dn<|cB ?_
 have H1:=H0.nil dJ 117;have H2:=H1.nil dJ 117;have eO:(([]:List bD):List bD)=((l.take 0).filter (inB aN)):=by simp
 refine lC (t:=4) Y (aR (λz=>Value.slice none (List.length z) 0) eO) ?_;have fQ:(([]:List bD):List bD)=((l.take 0).filter (O5 aN)):=by simp
 refine lC (t:=5) Y (aR (λz=>Value.slice none (List.length z) 0) fQ) ?_;have H3:=H2.nil dJ 117;have H4:=(eO▸H3:Hp w S0 w (aS dJ 117 none 0 ((l.take 0).filter (inB aN))::[aS dJ 117 none 0 [],aS dJ 117 none 0 []]));have H5:=H4.nil dJ 117;have H6:=(fQ▸H5:Hp w S0 w (aS dJ 117 none 0 ((l.take 0).filter (O5 aN))::[aS dJ 117 none 0 ((l.take 0).filter (inB aN)),aS dJ 117 none 0 [],aS dJ 117 none 0 []]));refine Lp (H6.cU 0 4) (λl0 rk mJ lJ wJ=>∃(k:Nat)(A4:ah)(c4:Nat)(A5:ah)(c5:Nat),lJ=(4,.slice A4 (((l.take k).filter (inB aN)).length) c4)::(5,.slice A5 (((l.take k).filter (O5 aN)).length) c5)::(10,aF ((k:Nat):Int))::l0/\mJ=l.length - k/\k<=l.length/\Hp w S0 wJ (aS dJ 117 A4 c4 ((l.take k).filter (inB aN))::aS dJ 117 A5 c5 ((l.take k).filter (O5 aN))::rk)) ⟨0,none,0,none,0,Y,Y,fJ _,(((H6.cU 2 2).sel s0).sel s1)⟩ Y ?_;rintro _ _ w1 ⟨k,A4,c4,A5,c5,rfl,rfl,hk,K1⟩;refine rg<|ev (fC Y Y)<|dn<|pQ Y (λIQ=>?_) (λIQ=>?_)
 ·refine jm ?_;refine aW<|cB<|rg ?_
  obtain⟨x1,bP⟩:=bC (xs:=l) (i:=k) aj;refine ev (cu (i:=k) oI Gq Y Y Y (aJ bP) ((K1.a jo).some_ bP))<|ev (gI I4 Y Y ((K1.a jo).fE bP))<|al QH Y K1 λg1 w2 K2=>sty Y K2 s0 Y λw3 K3=>dn<|aW<|rg<|jT g1 4 XA K3 s0 Y<|mv Y<|ev (fC Y Y)<|dn<|mQ Y (λhc17=>?_) (λhc17=>?_)
  ·refine bQ Y<|ev (dU I4 Y Y (K3.x s0))<|Az (τ:=dJ) (x:=x1) Y (by intro _; apply BF) rfl K3 (λ_ _=>rfl) λg2 w4 K4=>ap (ys:=([x1]:List bD)) K4 s3 rfl rfl (K4.o s0) oI TJ (by have:=akh (O5 aN) l k; omega) av rfl λoL oM w5 K5=>bU rfl<|qJ (lu (rE (gG ?_)))
   refine jy<|ev (dO Y Y)<|mv Y<|jA ?_
   have jW:(((l.take k).filter (inB aN)):List bD)=((l.take (k+1)).filter (inB aN)):=by rw [QE bP]; simp [inB,hc17]
   refine jq (t:=4) Y (aR (λz=>Value.slice A4 (List.length z) c4) jW) ?_;have mH:((((l.take k).filter (O5 aN))++([x1]:List bD)):List bD)=((l.take (k+1)).filter (O5 aN)):=by rw [QE bP]; simp [O5,hc17]
   refine jq (t:=5) Y (aR (λz=>Value.slice oL (List.length z) oM) mH) ?_;rw [jW] at K5;rw [mH] at K5;exact dI ⟨(k+1),A4,c4,oL,oM,Y,Y,aj,(((K5.cU 1 2).sel s0).sel s1)⟩ rfl aj
  refine jm ?_;refine jy<|mv Y<|ev (dU I4 Y Y (K3.x s0))<|Az (τ:=dJ) (x:=x1) Y (by intro _; apply BF) rfl K3 (λ_ _=>rfl) λg3 w6 K6=>ap (ys:=([x1]:List bD)) K6 s2 rfl rfl (K6.o s0) oI TJ (by have:=akh (inB aN) l k; omega) av rfl λVs cp2 w7 K7=>iI rfl<|jA<|iE (gG ?_)
  refine jy<|ev (dO Y Y)<|mv Y<|jA ?_
  have rR:((((l.take k).filter (inB aN))++([x1]:List bD)):List bD)=((l.take (k+1)).filter (inB aN)):=by rw [QE bP]; simp [inB,hc17]
  refine jq (t:=4) Y (aR (λz=>Value.slice Vs (List.length z) cp2) rR) ?_;have wM:(((l.take k).filter (O5 aN)):List bD)=((l.take (k+1)).filter (O5 aN)):=by rw [QE bP]; simp [O5,hc17]
  refine jq (t:=5) Y (aR (λz=>Value.slice A5 (List.length z) c5) wM) ?_;rw [rR] at K7;rw [wM] at K7;exact dI ⟨(k+1),Vs,cp2,A5,c5,Y,Y,aj,(K7.cU 1 2)⟩ rfl aj
 refine wE ?_;refine bQ Y<|mv Y<|iI Y<|bU Y<|jc Y ?_
 have zk:(((l.take k).filter (inB aN)):List bD)=(l.filter (inB aN)):=by rw [iH aj]
 rw [zk] at K1;have hq8:(((l.take k).filter (O5 aN)):List bD)=(l.filter (O5 aN)):=by rw [iH aj]
 rw [hq8] at K1;exact⟨A4,c4,A5,c5,by rw [zk,hq8] <;> rfl,K1⟩
theorem amQ(w:World){l:List bD}(jo:Sl dJ S0 w jl jk l){acv:ah}{acw:Nat}{wY:List Int}(QL:Sl dQ S0 w acv acw wY)(dV:Int)(hn:l.length<=65)(h0:0<=dV)(h1:dV<=64) :
    bS prog 243 #[.slice jl l.length jk,.slice acv wY.length acw,aF dV] w λv w'=>v=.tuple #[aF (C9 l wY dV),.bool (J8 l wY dV)]/\Hp w S0 w' []:=by
 refine kP S0 func243 ntmps243 Y λH0=>?_;have EY:=jo.bH;have aCi:=QL.bH;refine rg<|iI Y<|bU Y<|WP.jumps (lb:=0) (λmJ lJ wJ=>∃(k:Nat),lJ=[(0,.slice jl l.length jk),(1,.slice acv wY.length acw),(2,aF dV),(8,aF ((k:Nat):Int))]/\mJ=wY.length - k/\(k<=wY.length)/\(∀ y∈wY.take k,IZ l dV y=false)/\Hp w S0 wJ []) Y ?_ ?_
 ·rintro _ _ w1 ⟨k,rfl,rfl,hkl,hno,K1⟩;refine aW<|bQ Y<|mv Y<|ev (eU fB Y)<|ev (iA Y Y)<|dn<|mQ Y (λoN=>?_) (λoN=>?_)
  ·refine rg<|iI Y<|bU Y<|jf (fT (l8.Wu (zA Y ?_)))
   have eO:(0:Int)=(C9 l wY dV):=by have hf:=Xz (vU hno aj); simp [C9,hf]
   have fQ:(false:Bool)=(J8 l wY dV):=by have hf:=Xz (vU hno aj); simp [J8,hf]
   exact⟨by rw [<- eO,<- fQ] <;> rfl,K1⟩
  refine jm ?_;refine aW<|bQ Y<|mv Y<|mv Y ?_
  obtain⟨x1,bP⟩:=bC (xs:=wY) (i:=k) aj;refine ev (cu (i:=k) fB rZ Y Y Y (aJ bP) ((K1.a QL).some_ bP))<|ev (iL jD Y ((K1.a QL).fF (j:=0) bP Y))<|mU K1 Y (QI _ (K1.a jo).any x1 aj) λw2 K2=>ev (Ev.real Y)<|mv Y<|ev (Ev.aGz (m:=dV.toNat) ⟨_,iQ⟩ acj Y aj)<|ev (Ev.aGA (by have:=Es l x1; omega) (by have:=Es l x1; omega) rfl rfl)<|dn<|mQ rfl (λhc22=>?_) (λhc22=>?_)
  ·refine bQ Y<|ev (dO Y Y)<|bU Y<|WP.goto (l8.aaw ?_)
   have jW:(((k+1:Nat):Int):Int)=(((k+1):Nat):Int):=by simp
   refine jq (t:=8) Y (aR (Value.int .i64) jW)<|l8.jag ⟨(k+1),Y,Y,aj,by exact pJ hno bP (by simp only [IZ,bV]; omega),K2⟩ rfl aj
  refine jm ?_;refine bQ Y<|mv Y<|ev (cu (i:=k) fB rZ Y Y Y (aJ bP) ((K2.a QL).some_ bP))<|ev (iL jD Y ((K2.a QL).fF (j:=0) bP Y))<|iI Y<|bU Y<|jf (l8.Wu (zA Y ?_))
  have mH:(x1:Int)=(C9 l wY dV):=by have hf:=O6 (p:=IZ l dV) hno bP (by simp only [IZ,bO]; omega); simp [C9,hf]
  have rR:(true:Bool)=(J8 l wY dV):=by have hf:=O6 (p:=IZ l dV) hno bP (by simp only [IZ,bO]; omega); simp [J8,hf]
  exact⟨by rw [<- mH,<- rR] <;> rfl,K2⟩
 ·intro hp0;refine iZ Y<|WP.kp hp0 ⟨0,Y,Y,aj,av,H0⟩ rfl
def Da(l:List aV)(aG:List Int)(aZ:List gq)(dw:List Int)(bE:Int):Bool:=(((jU l bE&&decide ((gU l bE).gP=0))&&aG.contains bE)&&!dw.contains bE)&&decide (nL aZ bE<(gU l bE).l6)
abbrev wZ(aZ:List gq)(n:aV):Int:=if n.l6<nL aZ n.ID then n.l6 else nL aZ n.ID
abbrev wR(old:List Int)(n:aV):Nat:=if old.contains n.lT=true then 1 else 0
theorem akk{n:aV}{z:Int}(h:old.contains n.lT=true):Value.complex .f64 (fb 1) (wIm true z)=Value.complex .f64 (fb (wR old n)) (wIm (old.contains n.lT) z):=by
  unfold wR; rw [h,aO rfl]
theorem akl{n:aV}{z:Int}(h:old.contains n.lT=false):Value.complex .f64 0 (fz z)=Value.complex .f64 (fb (wR old n)) (wIm (old.contains n.lT) z):=by
  unfold wR; rw [h,aK au,show fb 0=0 from ajV]; unfold wIm; rw [aK au]
theorem ay4:∀ w,(zeroValue 4).run prog w=.ok (.bool false) w:=ay
theorem amR(w:World)(jo:Sl cZ S0 w jl jk l){afc:ah}{afd:Nat}{ids:List Int}(Xo:Sl dQ S0 w afc afd ids)(hn:l.length<=100000) :
    bS prog 264 #[.slice jl l.length jk,.slice afc ids.length afd] w λv w'=>∃(g0:Nat),v=.map (some g0)/\Hp w S0 w' [ao1 g0 (kU l ids)]:=by
 refine kP S0 func264 ntmps264 Y λH0=>?_;have EY:=jo.bH;have ayM:=Xo.bH;refine iZ Y<|rg<|mks H0 Y λg1 w1 K1=>bU Y<|aW<|bQ Y<|ev (eU fB Y)<|mv Y<|dn<|cB ?_
 have eO:[]=(kU l (ids.take 0)):=by rfl
 rw [eO] at K1;refine Lp (K1.rm s0) (λl0 rk mJ lJ wJ=>∃(k:Nat),lJ=(13,aF ((k:Nat):Int))::l0/\mJ=ids.length - k/\k<=ids.length/\Hp w S0 wJ (ao1 g1 (kU l (ids.take k))::rk)) ⟨0,Y,Y,fJ _,K1⟩ Y ?_;rintro _ _ w2 ⟨k,rfl,rfl,hk,K2⟩;refine rg<|ev (fC Y Y)<|dn<|pQ Y (λrM=>?_) (λrM=>?_)
 ·refine jm ?_;refine aW<|cB<|rg ?_
  obtain⟨x1,bP⟩:=bC (xs:=ids) (i:=k) aj;refine ev (cu (i:=k) fB rZ Y Y Y (aJ bP) ((K2.a Xo).some_ bP))<|ev (iL jD Y ((K2.a Xo).fF (j:=0) bP Y))<|bU Y<|bQ Y<|mv Y<|mU K2 Y (Eo _ (K2.a jo).any x1 aj) λw3 K3=>mv Y<|xt Y Y<|xt Y Y<|al tJ Y K3 λg2 w4 K4=>sty Y K4 s0 Y λw5 K5=>bU Y<|bQ Y<|dn<|bK Y (λrz=>?_) (λrz=>?_)
  ·refine jy<|mv Y<|jT g2 1 Qv K5 s0 Y<|aBL K5 s1 Y Y Y acg iQ λw6 K6=>jA<|iE (gG ?_)
   refine jy<|ev (dO Y Y)<|mv Y<|jA ?_
   have fQ:(SV (kU l (ids.take k)) ((gU l x1).lT))=(kU l (ids.take (k+1))):=by rw [FE bP]; unfold aaM; first | rw [aO rz] | rw [aK (by rw [rz]; decide)]
   rw [fQ] at K6;exact dI ⟨(k+1),Y,Y,aj,(K6.rm s1)⟩ rfl aj
  refine xQ ?_;refine jy<|ev (dO Y Y)<|mv Y<|jA ?_
  have jW:(kU l (ids.take k))=(kU l (ids.take (k+1))):=by rw [FE bP]; unfold aaM; first | rw [aO rz] | rw [aK (by rw [rz]; decide)]
  rw [jW] at K5;exact dI ⟨(k+1),Y,Y,aj,(K5.rm s0)⟩ rfl aj
 refine wE ?_;refine bQ Y<|bU Y<|jc Y ?_
 have mH:((kU l (ids.take k)):List Int)=(kU l ids):=by rw [iH aj]
 rw [mH] at K2;exact⟨g1,Y,K2⟩
theorem amS(w:World)(n:aV)(oJ:Sl mX S0 w nC nA aZ){axo:Nat}(aCj:w.heap[axo]? = some (.map (xO old) old.length)) :
    bS prog 265 #[.agg #[aF n.ID,aF n.lT,aF n.l6,aF n.gP],.slice nC aZ.length nA,.map (some axo)] w λv w'=>v=.complex .f64 (fb (wR old n)) (wIm (old.contains n.lT) (wZ aZ n))/\Hp w S0 w' []:=by
 refine kP S0 func265 ntmps265 Y λH0=>rg<|bx Y Y H0 λg1 w1 K1=>bU Y<|qo ak ak<|bA (bf Y) Y<|bA (dW (q:=⟨g1,0,none⟩) nk Y Y) Y<|bA (dx jD Y (K1.x s0) Y) Y<|Fv (v:=aF (nL aZ n.ID)) Y Y Y ait (λwq eq=>(u7 wq ((K1.a oJ).any.ext eq) n.ID).mono (by rintro _ _ ⟨rfl,fQ⟩; exact⟨rfl,fQ.ext⟩)) rfl<|bA (dW (q:=⟨g1,2,none⟩) Vu rfl rfl) rfl<|bA (dx jD rfl (K1.x s0) rfl) rfl<|bA (Ev.min2 rfl rfl) rfl<|bA (Ev.aBP ⟨_,iQ⟩ acj rfl) rfl<|bA (Ev.aGV rfl rfl) rfl<|bA (om rfl) rfl<|qp λw2 e2=>?_
 have K2:=K1.grow e2;refine aW<|bQ Y<|jT g1 1 Qv K2 s0 Y<|ev (Ev.iR (K2.was aCj) acg iQ ay4 Y Y)<|dn<|bK Y (λlN=>?_) (λlN=>?_)
 ·refine jy<|mv Y<|ev (Ev.auc Y Y c01 (auq _))<|iI Y<|jA<|gG<|bQ Y<|bU Y<|jc Y ?_
  have eO:(.complex .f64 (fb 1) (wIm true (if n.l6<nL aZ n.ID then n.l6 else nL aZ n.ID)):Value)=(.complex .f64 (fb (wR old n)) (wIm (old.contains n.lT) (wZ aZ n))):=by first | exact akk lN | exact akl lN
  exact⟨by rw [eO] <;> rfl,(K2.rm s0)⟩
 refine jm ?_;refine bQ Y<|bU Y<|jc Y ?_
 have fQ:(.complex .f64 0 (fz (if n.l6<nL aZ n.ID then n.l6 else nL aZ n.ID)):Value)=(.complex .f64 (fb (wR old n)) (wIm (old.contains n.lT) (wZ aZ n))):=by first | exact akk lN | exact akl lN
 exact⟨by rw [fQ] <;> rfl,(K2.rm s0)⟩
theorem auR(w:World)(jo:Sl cZ S0 w jl jk l)(kM:Sl dQ S0 w kC ku aG)(oJ:Sl mX S0 w nC nA aZ){vC:ah}{vD:Nat}{dw:List Int}(DN:Sl dQ S0 w vC vD dw)(bE:Int)(hn:l.length<=100000) :
    bS prog 266 #[.slice jl l.length jk,.slice kC aG.length ku,.slice nC aZ.length nA,.slice vC dw.length vD,aF bE] w λv w'=>v=.bool (Da l aG aZ dw bE)/\Hp w S0 w' []:=by
 refine kP S0 func266 ntmps266 Y λH0=>iZ Y<|bQ Y<|mv Y<|mU H0 Y (Eo _ (H0.a jo).any bE aj) λw1 K1=>mv Y<|xt Y Y<|xt Y Y<|al tJ Y K1 λg1 w2 K2=>sty Y K2 s0 Y λw3 K3=>bU Y<|qo ak ak<|bA (bf Y) Y<|bA (bf Y) Y<|rJ 4 24 ((jU l bE)&&(decide ((gU l bE).gP=0))) ?_ ?_
 ·cases ab6:jU l bE with
  | true=>
   refine eT Y (dW (q:=⟨g1,3,none⟩) zS Y Y) Y<|eT Y (dx jD Y (K3.x s0) Y) Y<|eT Y (iA Y Y) Y<|bA (dH Y Y) Y<|j3 Y
  | false=>
   refine dZ Y Y Y<|dZ Y Y Y<|dZ Y Y Y<|bA (dL Y Y) Y<|j3 Y
 refine bA (bf Y) Y<|rJ 4 29 (((jU l bE)&&(decide ((gU l bE).gP=0)))&&(aG.contains bE)) ?_ ?_
 ·cases aHb:((jU l bE)&&(decide ((gU l bE).gP=0))) with
  | true=>
   have aCk:=aHb
   try simp only [bN,eH,bO,bV] at aCk
   refine eT Y (bf Y) Y<|eT Y (bf Y) Y<|Qg Y (v:=.bool (aG.contains bE)) Y Y Y WV (λwq eq=>(kJ wq ((K3.a kM).any.ext eq) bE).mono (by rintro _ _ ⟨rfl,fQ⟩; exact⟨rfl,fQ.ext⟩)) rfl<|bA (dH rfl rfl) rfl<|j3 rfl
  | false=>
   refine dZ Y Y Y<|dZ Y Y Y<|dZ Y Y Y<|bA (dL Y Y) Y<|j3 Y
 refine bA (bf Y) Y<|rJ 5 35 ((((jU l bE)&&(decide ((gU l bE).gP=0)))&&(aG.contains bE))&&(!(dw.contains bE))) ?_ ?_
 ·cases apG:(((jU l bE)&&(decide ((gU l bE).gP=0)))&&(aG.contains bE)) with
  | true=>
   have aCl:=apG
   try simp only [bN,eH,bO,bV] at aCl
   refine eT Y (bf Y) Y<|eT Y (bf Y) Y<|Qg Y (v:=.bool (dw.contains bE)) Y Y Y WV (λwq eq=>(kJ wq ((K3.a DN).any.ext eq) bE).mono (by rintro _ _ ⟨rfl,fQ⟩; exact⟨rfl,fQ.ext⟩)) rfl<|eT rfl (iB rfl) rfl<|bA (dH rfl rfl) rfl<|j3 rfl
  | false=>
   refine dZ Y Y Y<|dZ Y Y Y<|dZ Y Y Y<|dZ Y Y Y<|bA (dL Y Y) Y<|j3 Y
 refine bA (bf Y) Y<|rJ 7 43 (((((jU l bE)&&(decide ((gU l bE).gP=0)))&&(aG.contains bE))&&(!(dw.contains bE)))&&(decide (nL aZ bE<(gU l bE).l6))) ?_ ?_
 ·cases aHc:((((jU l bE)&&(decide ((gU l bE).gP=0)))&&(aG.contains bE))&&(!(dw.contains bE))) with
  | true=>
   have aCm:=aHc
   try simp only [fq,dX,bN,eH,eG,fP,bO,bV] at aCm
   refine eT Y (bf Y) Y<|eT Y (bf Y) Y<|Qg Y (v:=aF (nL aZ bE)) Y Y Y ait (λwq eq=>(u7 wq ((K3.a oJ).any.ext eq) bE).mono (by rintro _ _ ⟨rfl,fQ⟩; exact⟨rfl,fQ.ext⟩)) rfl<|eT rfl (dW (q:=⟨g1,2,none⟩) Vu rfl rfl) rfl<|eT rfl (dx jD rfl (K3.x s0) rfl) rfl<|eT rfl (fC rfl rfl) rfl<|bA (dH rfl rfl) rfl<|j3 rfl
  | false=>
   refine dZ Y Y Y<|dZ Y Y Y<|dZ Y Y Y<|dZ Y Y Y<|dZ Y Y Y<|dZ Y Y Y<|bA (dL Y Y) Y<|j3 Y
 refine bA (om Y) Y<|qp λw4 e4=>?_
 have K4:=K3.grow e4;refine jc Y ?_;have eO:((((((jU l bE)&&(decide ((gU l bE).gP=0)))&&(aG.contains bE))&&(!(dw.contains bE)))&&(decide (nL aZ bE<(gU l bE).l6))):Bool)=(Da l aG aZ dw bE):=by rfl
 exact⟨by rw [eO] <;> rfl,(K4.rm s0)⟩
end Go.Proofs.YtlhnnmlenkahlaaGreat
