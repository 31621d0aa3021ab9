/- Lemmas. -/
import Derived.Test.YtlhnnmlenkahlaaGreatvG8
set_option maxRecDepth 4000
set_option linter.all false
namespace Go.Proofs.YtlhnnmlenkahlaaGreat
open Go.RowKit Go.Proofs.Tryz
def afw:=@List.findSome?_eq_none_iff
def QA:=@List.mem_of_find?_eq_some
def Zy:=@List.countP_cons
def mG:=@underlying48
def Zz:=@underlying202
variable {α β:Type}{cs:List aI}{l:List aW}{aG old:List Int}{aX:List gq}{k jg jO l8:Nat}{S0:Nat->Prop}{jl jP u7 l9:ah}{f:α->Option β}{p:α->Bool}
def afx(cs:List aI)(l:List aW)(x y:aW):Option aM:=(cs.find? fun(c:aI)=>DZ c l x.ID y.ID).map fun(c:aI)=>⟨0,c.ID,c.aC,c.Sum,x.ID,y.ID,0⟩
def E5(cs:List aI)(l:List aW)(aX:List gq)(j5:Int)(p:aW × aW):Option aM:=if nK aX p.1.ID - nK aX p.2.ID<=(if 1>j5 then 1 else j5)∨p.2.lW<=nK aX p.2.ID then none else afx cs l p.1 p.2
def ZA(cs:List aI)(l:List aW)(aG:List Int):List (aW × aW):=vg (Lc (frC (iJ cs l aG)) (Am l aG)) (Lc (toC (iJ cs l aG)) (Am l aG))
def iF(cs:List aI)(l:List aW)(aG:List Int)(j5:Int):aM:=if lY cs=true then((ZA cs l aG).findSome? (E5 cs l (iJ cs l aG) j5)).getD ⟨0,0,0,0,0,0,0⟩ else⟨0,0,0,0,0,0,0⟩
def moveB(cs:List aI)(l:List aW)(aG:List Int)(j5:Int):Bool:=decide (0<(iF cs l aG j5).aB)
theorem alZ{pre ys:List α}{x:α}{o:β}(h:pre++[x] <+: ys)(hno:∀ p∈pre,f p=none)(hx:f x=some o):ys.findSome? f=some o:=by
  obtain⟨t,rfl⟩:=h;rw [List.findSome?_append,List.findSome?_append,afw.2 hno]
  simp [hx]
theorem al0(id:Int):0<=nK (iJ cs l aG) id/\nK (iJ cs l aG) id<=cs.length:=by
  unfold nK
  split
  · rename_i x hx; exact afo (QA hx)
  · omega
theorem aqj(l:List aW)(aG:List Int):Up aW.ID (Am l aG):=by
  unfold Am; split
  · rename_i h; exact List.Pairwise.filter _ (Je _ 0 h)
  · exact List.Pairwise.nil
theorem al1(l:List aW)(aG:List Int):(Am l aG).length<=l.length:=by
  unfold Am; split
  · exact lX _ _
  · simp
theorem UY{j5:Int}{p:aW × aW}(h:∀ c∈cs.take k,DZ c l p.1.ID p.2.ID=false)(hk:cs.length<=k):E5 cs l aX j5 p=none:=by
  unfold E5 afx;rw [iD hk] at h;rw [Af.2 (λc hc=>by simp [h c hc])];exact ite_self _
theorem ajl{j5:Int}{p:aW × aW}{x:aI}(hc:¬ (nK aX p.1.ID - nK aX p.2.ID<=(if 1>j5 then 1 else j5)∨p.2.lW<=nK aX p.2.ID))(h:∀ c∈cs.take k,DZ c l p.1.ID p.2.ID=false)(hx:cs[k]? = some x)(hg:DZ x l p.1.ID p.2.ID=true) :
    E5 cs l aX j5 p=some ⟨0,x.ID,x.aC,x.Sum,p.1.ID,p.2.ID,0⟩:=by
  have hs:cs=cs.take k++x::cs.drop (k+1):=by
    conv=>lhs; rw [<- sJ k cs]
    rw [yu (aJ hx),(mM.1 hx).2]
  unfold E5 afx;rw [aK hc,hs,Gg,Af.2 (λc hc=>by simp [h c hc])]
  simp [hg]
theorem zQ:∀ w,(zeroValue 112).run prog w=.ok (.agg #[aD 0,aD 0,aD 0,fT 0,aD 0,aD 0,aD 0]) w:=ay
theorem al2:kW prog 42:=ay
theorem xC:Size prog 112 7:=ay
theorem vk:XY prog 112 7:=⟨λ_=>by kernel_rfl,xC⟩
theorem al3:∀ w,(zeroValue 154).run prog w=.ok (.slice none 0 0) w:=ay
theorem auC:bI prog 409:=ay
theorem EH(a0:Int)(a1:Int)(a2:Int)(a3:Int)(a4:Int)(a5:Int):prog.built 112 [(0,aD a0),(1,aD a1),(2,aD a2),(3,fT a3),(4,aD a4),(5,aD a5)]=some #[aD a0,aD a1,aD a2,fT a3,aD a4,aD a5,aD 0]:=ak
theorem rY:dH prog 112 1 1:=ay
theorem ZB{pre:List α}{x:α}(h:∀ p∈pre,f p=none)(hx:f x=none):∀ p∈pre++[x],f p=none:=by
  intro p hp
  rcases kU.1 hp with h1 | h1
  · exact h p h1
  · rw [nL.1 h1]; exact hx
abbrev afy(gJ:List aI)(iK:List aW)(tF:List Int):=Lc (frC (iJ gJ iK tF)) (Am iK tF)
abbrev afz(gJ:List aI)(iK:List aW)(tF:List Int):=Lc (toC (iJ gJ iK tF)) (Am iK tF)
abbrev aC0:=List.toArray [true,true,true,true,true,true,true,true,true,true,true,true,true,true,true]
abbrev afA(gJ:List aI)(iK:List aW)(tF:List Int)(vP:(aW × aW))(DI:Int):=nK (iJ gJ iK tF) vP.1.ID - nK (iJ gJ iK tF) vP.2.ID<=(if 1>DI then 1 else DI)
theorem ahc(w:World){qK:ah}{qJ:Nat}{cB:List aI}(rX:Sl bH S0 w qK qJ cB)(iR:Sl bX S0 w jl jg l)(jX:Sl dL S0 w jP jO aG)(j5:Int)(hn:l.length<=100000)(hc:cB.length<=100000)(hh:∀ x∈cB,x.aF.length<=100000) :
    bO prog 246 #[.slice qK cB.length qJ,.slice jl l.length jg,.slice jP aG.length jO,aD j5] w λv w'=>v=.tuple #[.agg #[aD ((iF cB l aG j5).Kind),aD ((iF cB l aG j5).aB),aD ((iF cB l aG j5).aC),fT ((iF cB l aG j5).Sum),aD ((iF cB l aG j5).jw),aD ((iF cB l aG j5).To),aD ((iF cB l aG j5).kG)],.bool (moveB cB l aG j5)]/\Hp w S0 w' []:=by
 refine axx S0 func246 ntmps246 Y λH0=>?_;have ajg:=rX.bN;have EG:=iR.bN;have alU:=jX.bN;have hfl:=al1 l aG;refine rg<|bx Y Y H0 λg1 w1 K1=>bx Y Y K1 λg2 w2 K2=>bx Y Y K2 λg3 w3 K3=>al zQ Y K3 λg4 w4 K4=>bS Y<|WP.sc<|rg<|al zQ Y K4 λg5 w5 K5=>dn<|aZ<|rg<|mK K5 s4 Y<|lF K5 Y (Kr _ (K5.a rX).any aj) λw6 K6=>ev (gZ Y)<|dn<|bR Y (λkJ=>?_) (λkJ=>?_)
 ·try simp only [eO,dN,bK,dZ,eu,fC,bL,bU] at kJ
  refine rg<|ev (dK vk Y Y (K6.x s0))<|sty Y K6 s1 Y λw7 K7=>bS Y<|je (gL (kV.ae8 (kV.aCH Y ⟨_,_,Y,⟨_,Y,jm (cs:=[aD 0,aD 0,aD 0,fT 0,aD 0,aD 0,aD 0]) vk Y (K7.x s0)⟩,⟨_,_,Y,Y,Y⟩⟩ ?_)))
  have d9:((⟨0,0,0,0,0,0,0⟩:aM):aM)=(iF cB l aG j5):=by unfold iF; rw [aK (by rw [kJ]; decide)]
  have fG:(0:Int)=(iF cB l aG j5).Kind:=by rw [<- d9]
  have jQ:(0:Int)=(iF cB l aG j5).aB:=by rw [<- d9]
  have lV:(0:Int)=(iF cB l aG j5).aC:=by rw [<- d9]
  have qU:(0:Int)=(iF cB l aG j5).Sum:=by rw [<- d9]
  have vY:(0:Int)=(iF cB l aG j5).jw:=by rw [<- d9]
  have xZ:(0:Int)=(iF cB l aG j5).To:=by rw [<- d9]
  have hq8:(0:Int)=(iF cB l aG j5).kG:=by rw [<- d9]
  have yT:(false:Bool)=(moveB cB l aG j5):=by unfold moveB iF; rw [aK (by rw [kJ]; decide)]; rfl
  exact⟨by rw [<- fG,<- jQ,<- lV,<- qU,<- vY,<- xZ,<- hq8,<- yT] <;> rfl,K7.z⟩
 try simp only [eO,dN,bK,dZ,eu,fC,bL,bU] at kJ
 refine jh ?_;refine rg<|mK K6 s4 Y<|mK K6 s3 Y<|mv Y<|gW Y (aun _ (K6.a rX).any (K6.a iR).any (K6.a jX).any aj) ?_
 rintro _ w8 ⟨E8,E9,ZC,ZE,rfl,h8⟩;have K8:=K6.f2 h8;have aFl:=(K8.o s0).bN;have axO:=(K8.o s1).bN;refine mv Y<|xt Y Y<|xt Y Y<|al al3 Y K8 λg6 w9 K9=>iA Y<|wD Y K9 s0 Y λNn K10=>dn<|aZ (WP.lab (gB ?_))
 refine aZ<|bQ Y<|mK K10 s0 Y<|gW Y (alY _ (K10.o s1) (K10.o s2) aj (aqj l aG)) ?_
 rintro _ RG ⟨aqk,ahd,ahe,aql,ahf,ahg,rfl,h11⟩;have tO:=K10.f4 h11;have aC1:=(tO.o s2).bN;have aC2:=(tO.o s3).bN;refine dn<|cZ ?_
 refine WP.range (enc:=fun(x:(aW × aW))=>[.agg #[aD x.1.ID,aD x.1.kM,aD x.1.lW,aD x.1.gG],.agg #[aD x.2.ID,aD x.2.kM,aD x.2.lW,aD x.2.gG]]) (ys:=vg (afy cB l aG) (afz cB l aG)) (F0:=[dJ g5 112 [aD 0,aD 0,aD 0,fT 0,aD 0,aD 0,aD 0],dJ g6 154 [.slice ZC ((iJ cB l aG).length) ZE],aR bX 78 E8 E9 (Am l aG),aR lU 219 ZC ZE (iJ cB l aG),dJ g4 112 [aD 0,aD 0,aD 0,fT 0,aD 0,aD 0,aD 0],dJ g3 3 [aD j5],dJ g2 41 [.slice jl l.length jg],dJ g1 42 [.slice qK cB.length qJ]]) (G0:=[dJ aqk 41 [.slice ahd ((afy cB l aG).length) ahe],dJ aql 41 [.slice ahf ((afz cB l aG).length) ahg],aR bX 78 ahd ahe (afy cB l aG),aR bX 78 ahf ahg (afz cB l aG)]) Y auC (acy (by simp only [Lc,I4]; omega) (by simp only [Lc,I4]; omega)) ((((tO.mV 0 4).mV 8 4).mV 8 3).sel s11) (λ_=>rfl) rfl (λpre Fj=>Fj=[dJ g5 112 [aD 0,aD 0,aD 0,fT 0,aD 0,aD 0,aD 0],dJ g6 154 [.slice ZC ((iJ cB l aG).length) ZE],aR bX 78 E8 E9 (Am l aG),aR lU 219 ZC ZE (iJ cB l aG),dJ g4 112 [aD 0,aD 0,aD 0,fT 0,aD 0,aD 0,aD 0],dJ g3 3 [aD j5],dJ g2 41 [.slice jl l.length jg],dJ g1 42 [.slice qK cB.length qJ]]/\(∀ p∈pre,(E5 cB l (iJ cB l aG) j5) p=none)) (λc pre Fj=>(c=(.exit 0)/\∃(oc:Int)(ov:Int)(os:Int)(of_:Int)(ot:Int),Fj=[dJ g5 112 [aD 0,aD oc,aD ov,fT os,aD of_,aD ot,aD 0],dJ g6 154 [.slice ZC ((iJ cB l aG).length) ZE],aR bX 78 E8 E9 (Am l aG),aR lU 219 ZC ZE (iJ cB l aG),dJ g4 112 [aD 0,aD 0,aD 0,fT 0,aD 0,aD 0,aD 0],dJ g3 3 [aD j5],dJ g2 41 [.slice jl l.length jg],dJ g1 42 [.slice qK cB.length qJ]]/\((ZA cB l aG).findSome? (E5 cB l (iJ cB l aG) j5)=some ⟨0,oc,ov,os,of_,ot,0⟩))) (λpre x l1 Fj=>∃(RH:Nat)(SF:Nat),l1=[(4,fP g1),(5,fP g2),(7,fP g3),(10,fP g5),(12,fP g6),(13,fP SF),(14,fP RH)]/\Fj=[dJ RH 78 [aD x.2.ID,aD x.2.kM,aD x.2.lW,aD x.2.gG],dJ SF 78 [aD x.1.ID,aD x.1.kM,aD x.1.lW,aD x.1.gG],dJ g5 112 [aD 0,aD 0,aD 0,fT 0,aD 0,aD 0,aD 0],dJ g6 154 [.slice ZC ((iJ cB l aG).length) ZE],aR bX 78 E8 E9 (Am l aG),aR lU 219 ZC ZE (iJ cB l aG),dJ g4 112 [aD 0,aD 0,aD 0,fT 0,aD 0,aD 0,aD 0],dJ g3 3 [aD j5],dJ g2 41 [.slice jl l.length jg],dJ g1 42 [.slice qK cB.length qJ]]/\(∀ p∈pre,(E5 cB l (iJ cB l aG) j5) p=none)) ⟨rfl,by intro p hp; simp at hp⟩ ?_ ?_ ?_ ?_
 ·rintro lr pre x _ G Qp ⟨rfl,hno⟩ hpre rW;refine rg<|al rG Y rW λg7 WO vC=>sty Y vC s0 Y λXv vo=>dn<|jr<|al rG Y vo λg8 Yg yX=>sty Y yX s0 Y λw16 Bv=>jv<|kV.ap ⟨g8,g7,Y,Y,hno⟩ Y Bv
 ·rintro lr pre x _ _ G w17 ⟨RH,SF,rfl,rfl,hno⟩ hpre xS;refine cZ<|rg<|mK xS s3 Y<|jD RH 0 lT xS s0 Y<|lF xS Y (tV _ (xS.o s5) x.2.ID) λw18 FR=>bS Y<|aZ ?_
  have hpb:=al0 (cs:=cB) (l:=l) (aG:=aG) x.1.ID;have hpc:=al0 (cs:=cB) (l:=l) (aG:=aG) x.2.ID;refine WP.dr ak ?_;have H1:=FR.grow (om w18).drew;refine X7 H1 [(0,38,.slice ZC ((iJ cB l aG).length) ZE),(1,39,fP SF),(4,42,aD (nK (iJ cB l aG) x.2.ID)),(6,44,aD j5),(2,40,aD x.1.ID),(7,45,aD (if 1>j5 then 1 else j5)),(3,41,aD (nK (iJ cB l aG) x.1.ID)),(5,43,aD (nK (iJ cB l aG) x.1.ID - nK (iJ cB l aG) x.2.ID)),(8,46,.bool (decide (afA cB l aG x j5))),(9,47,.bool (decide (afA cB l aG x j5)))] 5 (Zi ak) (ER Y (λ_ hK=>(cu MG Y (hK.x s3) Y))<|ER Y (λ_ hK=>(eF (q:=⟨SF,0,none⟩) lT Y Y))<|ER Y (λ_ hK=>(bA Y))<|ER Y (λ_ hK=>(cu jG Y (hK.x s7) Y))<|ER Y (λ_ hK=>(cu jG Y (hK.x s1) Y))<|ER Y (λ_ hK=>(Ev.max2 Y Y))<|qcz Y (Qi.call Y Y Y afs (λ_ hK=>(tV _ (hK.o s5) x.1.ID).mono (by rintro _ _ ⟨rfl,fG⟩; exact⟨rfl,hK.grow fG.ext⟩)))<|ER rfl (λ_ hK=>(RA rfl rfl))<|ER rfl (λ_ hK=>(uK rfl rfl))<|ER rfl (λ_ hK=>(bA rfl))<|X8) λw19 Bf=>?_
  cases aqm:decide (afA cB l aG x j5) with
  | true=>
   have al4:=jC aqm;refine X7 Bf [(10,48,undef),(11,49,undef),(12,50,undef),(13,51,undef),(14,52,.bool true)] 0 ak (yt Y<|yt Y<|yt Y<|yt Y<|ER Y (λ_ hK=>(dY Y Y))<|X8) λw20 DL=>?_;refine WI.dn ak<|bR Y (λ_h=>?_) nofun
   refine uU (oz (vK ?_));exact kV.rn ⟨Y,by refine ZB hno ?_; first | exact UY al5 aj | (unfold E5; rw [aO aj])⟩ (DL.cU 0 2)
  | false=>
   have al4:=kg aqm;refine X7 Bf [(10,48,aD (nK (iJ cB l aG) x.2.ID)),(11,49,.pointer (some ⟨RH,2,none⟩)),(12,50,aD x.2.lW),(13,51,.bool (decide (x.2.lW<=nK (iJ cB l aG) x.2.ID))),(14,52,.bool (decide (x.2.lW<=nK (iJ cB l aG) x.2.ID)))] 0 ak (KX Y (λ_ hK=>(bA Y))<|KX Y (λ_ hK=>(eF (q:=⟨RH,2,none⟩) NV Y Y))<|KX Y (λ_ hK=>(cu jG Y (hK.x s0) Y))<|KX Y (λ_ hK=>(pK Y Y))<|ER Y (λ_ hK=>(eG Y Y))<|X8) λw21 Gp=>?_;refine WI.dn ak<|kX Y (λaC3=>?_) (λaC3=>?_)
   ·refine uU (oz (vK ?_));exact kV.rn ⟨Y,by refine ZB hno ?_; first | exact UY al5 aj | (unfold E5; rw [aO aj])⟩ (Gp.cU 0 2)
   refine jh ?_;refine rg<|mK Gp s9 Y<|ev (eY jf Y)<|mv Y<|dn<|cZ<|Lp Gp (λl0 rk mJ lJ wJ=>∃(k:Nat),lJ=(55,aD ((k:Nat):Int))::l0/\mJ=cB.length - k/\k<=cB.length/\(∀ c∈cB.take k,DZ c l x.1.ID x.2.ID=false)/\Hp w S0 wJ rk) ⟨0,Y,Y,fK _,av,Gp⟩ rfl ?_
   rintro _ _ w22 ⟨k,rfl,rfl,hk,al5,Fa⟩;refine rg<|ev (fB Y Y)<|dn<|oC Y (λafD=>?_) (λafD=>?_)
   ·refine jh ?_;refine aZ<|cZ<|rg ?_
    obtain⟨x1,bP⟩:=bC (xs:=cB) (i:=k) aj;refine ev (eU (i:=k) jf qG Y Y Y (aJ bP) ((Fa.a rX).some_ bP)) ?_;obtain⟨B1,d1,Ak,hi1⟩:=Aj (rX.row bP);refine ev (fV (cs:=[aD x1.ID,aD x1.aC,fT x1.Sum,.slice B1 x1.aF.length d1]) pU Y Y (Ib (λj u hu=>Fa.ext.cell (Ak j u hu))))<|al kZ Y Fa λg9 w23 Jk=>sty Y Jk s0 Y λw24 pG=>dn<|rg<|ev (dK pU Y Y (pG.x s0))<|mK pG s9 Y<|jD SF 0 lT pG s2 Y<|jD RH 0 lT pG s1 Y<|lF pG Y (aqf _ x1 (pG.a hi1).any (pG.a iR).any x.1.ID x.2.ID aj (hh _ (dA bP))) λw25 FT=>dn<|bR Y (λafE=>?_) (λafE=>?_)
    ·refine rg<|jD g9 0 qH FT s0 Y<|jD g9 1 tu FT s0 Y<|jD g9 2 Kt FT s0 Y<|jD SF 0 lT FT s2 Y<|jD RH 0 lT FT s1 Y<|ev (iE (vs:=[(0,aD 0),(1,aD x1.ID),(2,aD x1.aC),(3,fT x1.Sum),(4,aD x.1.ID),(5,aD x.2.ID)]) (cs:=[aD 0,aD x1.ID,aD x1.aC,fT x1.Sum,aD x.1.ID,aD x.2.ID,aD 0]) Y (by apply EH))<|sty rfl FT s3 rfl λw26 Np=>dn<|uU (Lu rfl (oz (oz (Lu rfl (Lu rfl ?_)))))
     exact kV.rx ⟨Y,x1.ID,x1.aC,x1.Sum,x.1.ID,x.2.ID,Y,by exact alZ hpre hno (ajl (by rintro(h | h) <;> omega) al5 bP afE)⟩ (Np.cU 1 3)
    refine zF ?_;refine jr<|ev (dW Y Y)<|mv Y<|jv<|dQ ⟨(k+1),Y,Y,aj,by exact tQ (q:=λc=>DZ c l x.1.ID x.2.ID=false) al5 bP afE,(FT.rm s0)⟩ rfl aj
   refine uU (oz (oz (vK (ig ?_))));exact kV.rn ⟨Y,by refine ZB hno ?_; first | exact UY al5 aj | (unfold E5; rw [aO aj])⟩ (Fa.cU 0 2)
 ·rintro D _ w27 ⟨rfl,hno⟩ N9;refine ig (gB ?_);refine He N9 (λ_ K=>(K.rm s9)) (λl0 rk lJ wJ=>lJ=(9,.bool (decide (0<0)))::l0/\Hp w S0 wJ (dJ g4 112 [aD 0,aD 0,aD 0,fT 0,aD 0,aD 0,aD 0]::rk)) (λhns H2=>?_) ?_
  ·have k1:=(H2.rm s9);refine lH 0 Y (λ_ hK=>dK vk Y Y (hK.x s5)) k1<|mD 1 2 g5 1 rY s5 Y k1<|lH 3 Y (λ_ _=>pJ Y Y) k1<|O1 4 Y<|sty Y H2 s9 Y λw28 Ig=>?_
   have k2:=(Ig.rm s0);refine aP k2<|xJ 5 Y Y k2<|Dn ⟨Y,Ig⟩ Y
  rintro _ w29 ⟨rfl,Ld⟩;refine je (kV.ae8 (kV.aiQ ((Ld.sel s0).sel s1) Y λw30 LG=>⟨_,⟨_,_,Y,⟨_,Y,jm (cs:=[aD 0,aD 0,aD 0,fT 0,aD 0,aD 0,aD 0]) vk Y (LG.x s0)⟩,⟨_,_,Y,Y,Y⟩⟩,?_⟩));have qI:((⟨0,0,0,0,0,0,0⟩:aM):aM)=(iF cB l aG j5):=by unfold iF; rw [aO kJ,show(ZA cB l aG).findSome? (E5 cB l (iJ cB l aG) j5)=none from afw.2 hno]; rfl
  have hq11:(0:Int)=(iF cB l aG j5).Kind:=by rw [<- qI]
  have hq12:(0:Int)=(iF cB l aG j5).aB:=by rw [<- qI]
  have QB:(0:Int)=(iF cB l aG j5).aC:=by rw [<- qI]
  have QC:(0:Int)=(iF cB l aG j5).Sum:=by rw [<- qI]
  have Xw:(0:Int)=(iF cB l aG j5).jw:=by rw [<- qI]
  have UZ:(0:Int)=(iF cB l aG j5).To:=by rw [<- qI]
  have U0:(0:Int)=(iF cB l aG j5).kG:=by rw [<- qI]
  have U1:(decide (0<0):Bool)=(moveB cB l aG j5):=by unfold moveB iF; rw [aO kJ,show(ZA cB l aG).findSome? (E5 cB l (iJ cB l aG) j5)=none from afw.2 hno]; rfl
  exact⟨by rw [U1,<- hq11,<- hq12,<- QB,<- QC,<- Xw,<- UZ,<- U0] <;> rfl,LG.z⟩
 ·rintro D c pre F w31 (⟨rfl,oc,ov,os,of_,ot,rfl,hfs⟩) SG;refine uU (vK (gB ?_));refine He SG (λ_ K=>(K.rm s9)) (λl0 rk lJ wJ=>lJ=(9,.bool (decide (0<oc)))::l0/\Hp w S0 wJ (dJ g4 112 [aD 0,aD oc,aD ov,fT os,aD of_,aD ot,aD 0]::rk)) (λhns H3=>?_) ?_
  ·have k3:=(H3.rm s9);refine lH 0 Y (λ_ hK=>dK vk Y Y (hK.x s5)) k3<|mD 1 2 g5 1 rY s5 Y k3<|lH 3 Y (λ_ _=>pJ Y Y) k3<|O1 4 Y<|sty Y H3 s9 Y λw32 QD=>?_
   have k4:=(QD.rm s0);refine aP k4<|xJ 5 Y Y k4<|Dn ⟨Y,QD⟩ Y
  rintro _ w33 ⟨rfl,Xx⟩;refine je (kV.ae8 (kV.aiQ ((Xx.sel s0).sel s1) Y λw34 K34=>⟨_,⟨_,_,Y,⟨_,Y,jm (cs:=[aD 0,aD oc,aD ov,fT os,aD of_,aD ot,aD 0]) vk Y (K34.x s0)⟩,⟨_,_,Y,Y,Y⟩⟩,?_⟩));have QE:((⟨0,oc,ov,os,of_,ot,0⟩:aM):aM)=(iF cB l aG j5):=by unfold iF; rw [aO kJ,hfs]; rfl
  have ajn:(0:Int)=(iF cB l aG j5).Kind:=by rw [<- QE]
  have afF:(oc:Int)=(iF cB l aG j5).aB:=by rw [<- QE]
  have afG:(ov:Int)=(iF cB l aG j5).aC:=by rw [<- QE]
  have afH:(os:Int)=(iF cB l aG j5).Sum:=by rw [<- QE]
  have afI:(of_:Int)=(iF cB l aG j5).jw:=by rw [<- QE]
  have ajo:(ot:Int)=(iF cB l aG j5).To:=by rw [<- QE]
  have afJ:(0:Int)=(iF cB l aG j5).kG:=by rw [<- QE]
  have afK:(decide (0<oc):Bool)=(moveB cB l aG j5):=by unfold moveB iF; rw [aO kJ,hfs]; rfl
  exact⟨by rw [afK,<- ajn,<- afF,<- afG,<- afH,<- afI,<- ajo,<- afJ] <;> rfl,K34.z⟩
structure bB where
  aB:Int
  aC:Int
  jw:Int
  To:Int
  kG:Int
  deriving DecidableEq
def bB.enc(x:bB):List Value:=[.int .i64 x.aB,.int .i64 x.aC,.int .i64 x.jw,.int .i64 x.To,.int .i64 x.kG]
theorem bB.kC(x:bB):∀ u∈x.enc,u.oneCell'=true:=by
  intro u hu
  simp only [bB.enc,iN,kY,qW] at hu
  rcases hu with rfl | rfl | rfl | rfl | rfl <;> rfl
def dB:Ty bB:=Ty.flat 5 bB.enc au (λ_=>rfl) bB.kC
instance:Flat dB:=⟨λh=>h⟩
def qL(n:Int):Bool:=decide (1<=n)&&decide (n<=16)
def Fb(x:bB):Bool:=qL x.jw&&qL x.To&&!decide (x.jw=x.To)&&decide (1<=x.aB)&&decide (1<=x.aC)&&decide (0<=x.kG)&&decide (x.kG<=1099511627776)
def sends(l:List bB)(id:Int):Nat:=l.countP λx=>decide (x.jw=id)
def takes(l:List bB)(id:Int):Nat:=l.countP λx=>decide (x.To=id)
theorem Gq{l:List bB}{x:bB}(h:l[k]? = some x)(id:Int):sends (l.take (k+1)) id=sends (l.take k) id+if x.jw=id then 1 else 0:=by
  rw [fI h]; simp [sends,LZ,Zy]
theorem Gs{l:List bB}{x:bB}(h:l[k]? = some x)(id:Int):takes (l.take (k+1)) id=takes (l.take k) id+if x.To=id then 1 else 0:=by
  rw [fI h]; simp [takes,LZ,Zy]
theorem C9(l:List bB)(id:Int):sends l id<=l.length:=Y9
theorem Jl(l:List bB)(id:Int):takes l id<=l.length:=Y9
theorem zx(l:List bB)(k:Nat)(id:Int):sends (l.take k) id<=k:=lG (C9 _ _) (by simp only [fE]; omega)
theorem zy(l:List bB)(k:Nat)(id:Int):takes (l.take k) id<=k:=lG (Jl _ _) (by simp only [fE]; omega)
def uM(l:List bB)(aL to:Int):Int:=idxOf (λx=>decide (x.aB=aL)&&decide (x.To=to)) l
def oD(l:List bB)(x:bB)(dD all:Int):Int:=
  if Fb x=false then 1 else if 0<=uM l x.aB x.To then 6 else if all<=l.length∨dD<=sends l x.jw∨dD<=takes l x.To then 7 else 0
def rZ(l:List bB)(x:bB)(dD all:Int):List bB:=if oD l x dD all=0 then l++[x] else[]
def Yh(aN:Int)(x:bB):Bool:=!decide (x.kG<aN)
def MH(aN:Int)(x:bB):Bool:=decide (x.kG<aN)
theorem Oa{xs:List α}{x:α}(h:xs[k]? = some x):(xs.take (k+1)).filter p=(xs.take k).filter p++if p x then[x] else[]:=by
  rw [fI h,yg]
  cases hp:p x <;> simp [hp]
theorem ahi(p:α->Bool)(xs:List α)(k:Nat):((xs.take k).filter p).length<=k:=lG (lX _ _) (by simp only [fE]; omega)
def Xy(l:List bB)(dD:Int)(i:Nat)(x:bB):Bool:=Fb x&&decide (uM l x.aB x.To=(i:Int))&&decide ((sends l x.jw:Int)<=dD)&&decide ((takes l x.To:Int)<=dD)
def Da(l:List bB)(dD all:Int):Bool:=PZ (Xy l dD) l&&decide ((l.length:Int)<=all)
def Jm(l:List bB)(dD n:Int):Bool:=decide ((sends l n:Int)<dD)
def D5(l:List bB)(Ab:List Int)(dD:Int):Int:=match Ab.find? (Jm l dD) with | some n=>n | none=>0
def LH(l:List bB)(Ab:List Int)(dD:Int):Bool:=(Ab.find? (Jm l dD)).isSome
theorem MI{α:Type}{p:α->Bool}:∀ {xs:List α} {k:Nat} {x:α},(∀ y∈xs.take k,p y=false)->xs[k]? = some x->p x=true->xs.find? p=some x
  | [],k,x,_,h,_=>by simp at h
  | y::xs,0,x,_,h,hp=>by simp at h; subst h; simp [List.find?,hp]
  | y::xs,k+1,x,h0,h,hp=>by
    have h1:=h0 y av;have h2:=MI (p:=p) (xs:=xs) (k:=k) (x:=x) (λz hz=>h0 z (by simp [hz])) (by simpa using h) hp
    simp [List.find?,h1,h2]
theorem U2{xs:List α}(h:∀ y∈xs,p y=false):xs.find? p=none:=by
  rw [Af]; intro x hx; simp [h x hx]
theorem Jo:dH prog 117 2 2:=ay
theorem auE:bI prog 159:=ay
theorem tX:dH prog 117 3 3:=ay
theorem Jp:dH prog 117 0 0:=ay
theorem al7:dH prog 117 1 1:=ay
theorem U3:dH prog 117 4 4:=ay
theorem Db:Size prog 117 5:=ay
theorem Dc:XY prog 117 5:=⟨λ_=>by kernel_rfl,Db⟩
theorem Jq:∀ w,(zeroValue 117).run prog w=.ok (.agg #[aD 0,aD 0,aD 0,aD 0,aD 0]) w:=ay
theorem auF:bI prog 161:=ay
theorem al8  : ∀ w,(Instr.buildSlice 48 0 (List.toArray [])).run prog w=.ok (.slice (some ⟨w.heap.size,0,none⟩) 0 0) (w.alloc (.cells (List.toArray []) 117)):=ay
theorem QF:kQ prog 117 5 40:=by
  obtain⟨i,h1,h2,h3,h4⟩:=rT (show(prog.info? 117).map (λi=>(i.zero,i.size,i.bytes))=some (some (.agg #[aD 0,aD 0,aD 0,aD 0,aD 0]),5,40) by kernel_rfl);exact⟨i,_,h1,h2,h3,h4,Y⟩
theorem axP:bI prog 92:=ay
theorem zG(a0:Int)(a1:Int)(a2:Int)(a3:Int)(a4:Int):∀ w,(Instr.buildSlice 48 1 (List.toArray [(0,.agg #[aD a0,aD a1,aD a2,aD a3,aD a4])])).run prog w=.ok (.slice (some ⟨w.heap.size,0,none⟩) 1 1) (w.alloc (.cells (List.toArray [aD a0,aD a1,aD a2,aD a3,aD a4]) 117)):=ay
theorem Yi(w:World)(id:Int) :
    bO prog 159 #[aD id] w λv w'=>v=.bool (qL id)/\Hp w S0 w' []:=by
 refine j4 S0 func159 ntmps159 Y λH0=>iY Y<|bQ Y<|ev (pK Y Y)<|mv Y<|iG 3 8 ((decide (1<=id))&&(decide (id<=16))) ?_ ?_
 ·cases hb5:decide (1<=id) with
  | true=>
   refine bG Y (bA Y) Y<|bG Y (uK Y Y) Y<|ev (dY Y Y)<|dI Y
  | false=>
   refine eB<|eB<|ev (eG Y Y)<|dI Y
 refine bS Y<|iI Y ?_
 have d9:(((decide (1<=id))&&(decide (id<=16))):Bool)=(qL id):=by rfl
 exact⟨by rw [d9] <;> rfl,H0⟩
theorem acA(w:World)(x:bB) :
    bO prog 91 #[.agg #[aD x.aB,aD x.aC,aD x.jw,aD x.To,aD x.kG]] w λv w'=>v=.bool (Fb x)/\Hp w S0 w' []:=by
 refine j4 S0 func91 ntmps91 Y λH0=>rg<|bx Y Y H0 λg1 w1 K1=>bS Y<|rg<|jD g1 2 Jo K1 s0 Y<|lF K1 Y (Yi (S0:=Any) _ x.jw) λw2 K2=>mv Y<|nA 4 10 ((qL x.jw)&&(qL x.To)) ?_ ?_
 ·cases hb6:qL x.jw with
  | true=>
   refine wP g1 3 tX K2 s0 Y<|nu Y Y Y Y auE (Yi (S0:=Any) _ x.To) Y ?_
   rintro _ w3 ⟨rfl,h3⟩;refine ev (dY Y Y)<|iH Y h3.ext
  | false=>
   refine eB<|eB<|eB<|ev (eG Y Y)<|iH Y (om _)
 intro w4 e4;have K4:=K2.grow e4;refine mv Y<|iG 6 17 (((qL x.jw)&&(qL x.To))&&(!decide (x.jw=x.To))) ?_ ?_
 ·cases Qu:((qL x.jw)&&(qL x.To)) with
  | true=>
   have Jg:=Qu
   try simp only [bK,dZ,bL,bU] at Jg
   refine wP g1 2 Jo K4 s0 Y<|wP g1 3 tX K4 s0 Y<|bG Y (rz Y Y) Y<|ev (dY Y Y)<|dI Y
  | false=>
   refine eB<|eB<|eB<|eB<|eB<|ev (eG Y Y)<|dI Y
 refine mv Y<|iG 4 22 ((((qL x.jw)&&(qL x.To))&&(!decide (x.jw=x.To)))&&(decide (1<=x.aB))) ?_ ?_
 ·cases aua:(((qL x.jw)&&(qL x.To))&&(!decide (x.jw=x.To))) with
  | true=>
   have asH:=aua
   try simp only [eO,dN,bK,dZ,eu,fC,bL,bU] at asH
   refine wP g1 0 Jp K4 s0 Y<|bG Y (pK Y Y) Y<|ev (dY Y Y)<|dI Y
  | false=>
   refine eB<|eB<|eB<|ev (eG Y Y)<|dI Y
 refine mv Y<|iG 4 27 (((((qL x.jw)&&(qL x.To))&&(!decide (x.jw=x.To)))&&(decide (1<=x.aB)))&&(decide (1<=x.aC))) ?_ ?_
 ·cases aC4:((((qL x.jw)&&(qL x.To))&&(!decide (x.jw=x.To)))&&(decide (1<=x.aB))) with
  | true=>
   have axQ:=aC4
   try simp only [eO,dN,bK,dZ,eu,fC,bL,bU] at axQ
   refine wP g1 1 al7 K4 s0 Y<|bG Y (pK Y Y) Y<|ev (dY Y Y)<|dI Y
  | false=>
   refine eB<|eB<|eB<|ev (eG Y Y)<|dI Y
 refine mv Y<|iG 4 32 ((((((qL x.jw)&&(qL x.To))&&(!decide (x.jw=x.To)))&&(decide (1<=x.aB)))&&(decide (1<=x.aC)))&&(decide (0<=x.kG))) ?_ ?_
 ·cases ajp:(((((qL x.jw)&&(qL x.To))&&(!decide (x.jw=x.To)))&&(decide (1<=x.aB)))&&(decide (1<=x.aC))) with
  | true=>
   have axR:=ajp
   try simp only [eO,dN,bK,dZ,eu,fC,bL,bU] at axR
   refine wP g1 4 U3 K4 s0 Y<|bG Y (pK Y Y) Y<|ev (dY Y Y)<|dI Y
  | false=>
   refine eB<|eB<|eB<|ev (eG Y Y)<|dI Y
 refine mv Y<|iG 4 37 (((((((qL x.jw)&&(qL x.To))&&(!decide (x.jw=x.To)))&&(decide (1<=x.aB)))&&(decide (1<=x.aC)))&&(decide (0<=x.kG)))&&(decide (x.kG<=1099511627776))) ?_ ?_
 ·cases auG:((((((qL x.jw)&&(qL x.To))&&(!decide (x.jw=x.To)))&&(decide (1<=x.aB)))&&(decide (1<=x.aC)))&&(decide (0<=x.kG))) with
  | true=>
   have axS:=auG
   try simp only [eO,dN,bK,dZ,eu,fC,bL,bU] at axS
   refine wP g1 4 U3 K4 s0 Y<|bG Y (uK Y Y) Y<|ev (dY Y Y)<|dI Y
  | false=>
   refine eB<|eB<|eB<|ev (eG Y Y)<|dI Y
 refine bS Y<|iI Y ?_
 have d9:((((((((qL x.jw)&&(qL x.To))&&(!decide (x.jw=x.To)))&&(decide (1<=x.aB)))&&(decide (1<=x.aC)))&&(decide (0<=x.kG)))&&(decide (x.kG<=1099511627776))):Bool)=(Fb x):=by rfl
 exact⟨by rw [d9] <;> rfl,(K4.rm s0)⟩
theorem Ob(w:World){l:List bB}(iR:Sl dB S0 w jl jg l)(id:Int)(hn:l.length<=100) :
    bO prog 158 #[.slice jl l.length jg,aD id] w λv w'=>v=.complex .f64 (fb (sends l id)) (fb (takes l id))/\Hp w S0 w' []:=by
 refine j4 S0 func158 ntmps158 Y λH0=>iY Y<|iY Y<|aZ<|bQ Y<|ev (eY mG Y)<|mv Y<|dn<|cZ ?_
 have d9:(.complex .f64 0 0:Value)=.complex .f64 (fb (sends (l.take 0) id)) (fb (takes (l.take 0) id)):=by simp [sends,takes,fb,agX]
 refine kP (t:=5) Y d9 ?_;have fG:(0:Int)=((0:Nat):Int):=by simp
 refine kP (t:=10) Y (aS (Value.int .i64) fG)<|rR (λmJ lJ wJ=>∃(k:Nat),lJ=[(1,aD id),(5,.complex .f64 (fb (sends (l.take k) id)) (fb (takes (l.take k) id))),(8,.slice jl l.length jg),(9,aD ((l.length:Nat):Int)),(10,aD ((k:Nat):Int))]/\mJ=l.length - k/\k<=l.length/\Hp w S0 wJ []) ⟨0,Y,Y,fK _,H0⟩ Y ?_
 rintro _ _ w1 ⟨k,rfl,rfl,hk,K1⟩;refine rg<|ev (fB Y Y)<|dn<|oC Y (λGj=>?_) (λGj=>?_)
 ·refine jh ?_;refine aZ<|cZ<|rg ?_
  obtain⟨x1,bP⟩:=bC (xs:=l) (i:=k) aj;refine ev (eU (i:=k) mG Db Y Y Y (aJ bP) ((K1.a iR).some_ bP))<|ev (fV Dc Y Y ((K1.a iR).eX bP))<|al Jq Y K1 λg1 w2 K2=>sty Y K2 s0 Y λw3 K3=>dn<|aZ<|rg<|jD g1 2 Jo K3 s0 Y<|mv Y<|ev (iP Y Y)<|dn<|kX Y (λhc17=>?_) (λhc17=>?_)
  ·refine jr<|mv Y<|ev (Ev.apN Y Y (Zb _ (by have:=zx l k id; have:=zy l k id; omega)) (Sv _ (by have:=zx l k id; have:=zy l k id; omega)))<|iA rfl<|jv<|gB<|rg<|jD g1 3 tX K3 s0 rfl<|mv rfl<|ev (iP rfl rfl)<|dn<|bR rfl (λsG=>?_) (λsG=>?_)
   ·replace sG:=jC sG;refine jr<|mv Y<|ev (Ev.apN Y Y (Sv _ (by have:=zx l k id; have:=zy l k id; omega)) (Zb _ (by have:=zx l k id; have:=zy l k id; omega)))<|iA rfl<|jv<|ig (gB ?_)
    refine jr<|ev (dW Y Y)<|mv Y<|jv ?_
    have jQ:(.complex .f64 (fb (sends (l.take k) id+1)) (fb (takes (l.take k) id+1)):Value)=.complex .f64 (fb (sends (l.take (k+1)) id)) (fb (takes (l.take (k+1)) id)):=by rw [Gq bP,Gs bP]; simp [hc17,sG]
    refine ji (t:=5) Y jQ ?_;have lV:(((k+1:Nat):Int):Int)=(((k+1):Nat):Int):=by simp
    refine ji (t:=10) Y (aS (Value.int .i64) lV)<|dQ ⟨(k+1),Y,Y,aj,(K3.rm s0)⟩ rfl aj
   replace sG:=kg sG;refine zF ?_;refine jr<|ev (dW Y Y)<|mv Y<|jv ?_
   have qU:(.complex .f64 (fb (sends (l.take k) id+1)) (fb (takes (l.take k) id)):Value)=.complex .f64 (fb (sends (l.take (k+1)) id)) (fb (takes (l.take (k+1)) id)):=by rw [Gq bP,Gs bP]; simp [hc17,sG]
   refine ji (t:=5) Y qU ?_;have vY:(((k+1:Nat):Int):Int)=(((k+1):Nat):Int):=by simp
   refine ji (t:=10) Y (aS (Value.int .i64) vY)<|dQ ⟨(k+1),Y,Y,aj,(K3.rm s0)⟩ rfl aj
  refine jh ?_;refine rg<|jD g1 3 tX K3 s0 Y<|mv Y<|ev (iP Y Y)<|dn<|bR Y (λsG=>?_) (λsG=>?_)
  ·replace sG:=jC sG;refine jr<|mv Y<|ev (Ev.apN Y Y (Sv _ (by have:=zx l k id; have:=zy l k id; omega)) (Zb _ (by have:=zx l k id; have:=zy l k id; omega)))<|iA rfl<|jv<|ig (gB ?_)
   refine jr<|ev (dW Y Y)<|mv Y<|jv ?_
   have xZ:(.complex .f64 (fb (sends (l.take k) id)) (fb (takes (l.take k) id+1)):Value)=.complex .f64 (fb (sends (l.take (k+1)) id)) (fb (takes (l.take (k+1)) id)):=by rw [Gq bP,Gs bP]; simp [hc17,sG]
   refine ji (t:=5) Y xZ ?_;have hq8:(((k+1:Nat):Int):Int)=(((k+1):Nat):Int):=by simp
   refine ji (t:=10) Y (aS (Value.int .i64) hq8)<|dQ ⟨(k+1),Y,Y,aj,(K3.rm s0)⟩ rfl aj
  replace sG:=kg sG;refine zF ?_;refine jr<|ev (dW Y Y)<|mv Y<|jv ?_
  have yT:(.complex .f64 (fb (sends (l.take k) id)) (fb (takes (l.take k) id)):Value)=.complex .f64 (fb (sends (l.take (k+1)) id)) (fb (takes (l.take (k+1)) id)):=by rw [Gq bP,Gs bP]; simp [hc17,sG]
  refine ji (t:=5) Y yT ?_;have qI:(((k+1:Nat):Int):Int)=(((k+1):Nat):Int):=by simp
  refine ji (t:=10) Y (aS (Value.int .i64) qI)<|dQ ⟨(k+1),Y,Y,aj,(K3.rm s0)⟩ rfl aj
 refine wQ ?_;refine bQ Y<|bS Y<|iI Y ?_
 have hq11:(.complex .f64 (fb (sends (l.take k) id)) (fb (takes (l.take k) id)):Value)=(.complex .f64 (fb (sends l id)) (fb (takes l id))):=by rw [iD aj]
 exact⟨by rw [hq11] <;> rfl,K1⟩
theorem Gt(w:World){l:List bB}(iR:Sl dB S0 w jl jg l)(id:Int)(hn:l.length<=100) :
    bO prog 90 #[.slice jl l.length jg,aD id] w λv w'=>v=.tuple #[aD ((sends l id:Nat):Int),aD ((takes l id:Nat):Int)]/\Hp w S0 w' []:=by
 refine j4 S0 func90 ntmps90 Y λH0=>rg<|iA Y<|bS Y<|bQ Y<|mv Y<|lF H0 Y (Ob _ (H0.a iR).any id aj) λw1 K1=>bS Y<|bQ Y<|ev (Ev.real Y)<|ev (Ev.axd ⟨_,Zz⟩ iw Y (alg _ (by have:=C9 l id; have:=Jl l id; omega)) (by have:=C9 l id; have:=Jl l id; omega))<|mv rfl<|ev (Ev.imag rfl)<|ev (Ev.axd ⟨_,Zz⟩ iw rfl (alg _ (by have:=C9 l id; have:=Jl l id; omega)) (by have:=C9 l id; have:=Jl l id; omega))<|iA rfl<|bS rfl<|iI rfl ?_
 exact⟨Y,K1⟩
theorem Oc(w:World){tN:Nat}{s:List bB}(lK:Sl dB S0 w u7 tN s){yS:FuncId}{yV:List Value}(IG:bI prog yS)(f:bB->Bool)(II:∀(w':World)(x:bB),Ext w w'->x∈s->bO prog yS (([.agg #[aD x.aB,aD x.aC,aD x.jw,aD x.To,aD x.kG]]:List Value)++yV).toArray w' λv w''=>v=.bool (f x)/\Ext w' w'') :
    bO prog 160 #[.slice u7 s.length tN,.func (.func yS) #[] yV.toArray] w λv w'=>v=aD (idxOf f s)/\Hp w S0 w' []:=by
 refine j4 S0 func160 ntmps160 Y λH0=>?_;have NI:=lK.bN;refine iY Y<|aZ<|bQ Y<|ev (eY mG Y)<|mv Y<|dn<|cZ<|Lp H0 (λl0 rk mJ lJ wJ=>∃(k:Nat),lJ=(8,aD ((k:Nat):Int))::l0/\mJ=s.length - k/\k<=s.length/\(∀ y∈s.take k,f y=false)/\Hp w S0 wJ rk) ⟨0,Y,Y,fK _,av,H0⟩ rfl ?_
 rintro _ _ w1 ⟨k,rfl,rfl,hk,hno,K1⟩;refine rg<|ev (fB Y Y)<|dn<|oC Y (λFQ=>?_) (λFQ=>?_)
 ·refine jh ?_;refine aZ<|cZ<|bQ Y<|bS Y<|bQ Y<|mv Y<|mv Y ?_
  obtain⟨x1,bP⟩:=bC (xs:=s) (i:=k) aj;refine ev (eU (i:=k) mG Db Y Y Y (aJ bP) ((K1.a lK).some_ bP))<|ev (fV Dc Y Y ((K1.a lK).eX bP))<|wo Y Y Y IG (II _ x1 K1.ext (dA bP)) Y ?_
  rintro _ w2 ⟨rfl,e2⟩;have K2:=K1.grow e2;refine dn<|bR Y (λhc16=>?_) (λhc16=>?_)
  ·refine bQ Y<|bS Y<|je (jH (gL (gL (jH (gL (zD Y ?_))))))
   have d9:(((k:Nat):Int):Int)=(idxOf f s):=by exact(qD hno bP hc16).symm
   exact⟨by rw [d9] <;> rfl,K2⟩
  refine zF ?_;refine jr<|ev (dW Y Y)<|mv Y<|jv<|dQ ⟨(k+1),Y,Y,aj,by exact tQ (q:=λy=>f y=false) hno bP hc16,K2⟩ rfl aj
 refine wQ ?_;refine iY Y<|iI Y ?_
 have fG:((-1):Int)=(idxOf f s):=by exact(sQ (uW hno aj)).symm
 exact⟨by rw [<- fG] <;> rfl,K1⟩
theorem afL(w:World)(x:bB){Oe:Nat}(aL:Int)(ZF:Bx w Oe 3 [aD aL]){asQ:Nat}(l6:Int)(axT:Bx w asQ 3 [aD l6]) :
    bO prog 161 #[.agg #[aD x.aB,aD x.aC,aD x.jw,aD x.To,aD x.kG],fP Oe,fP asQ] w λv w'=>v=.bool (decide (x.aB=aL)&&decide (x.To=l6))/\Hp w S0 w' []:=by
 refine j4 S0 func161 ntmps161 Y λH0=>rg<|bx Y Y H0 λg1 w1 K1=>bS Y<|rg<|jD g1 0 Jp K1 s0 Y<|ev (cu jG Y (ZF.ext K1.ext) Y)<|ev (iP Y Y)<|mv Y<|iG 5 14 ((decide (x.aB=aL))&&(decide (x.To=l6))) ?_ ?_
 ·cases hb9:decide (x.aB=aL) with
  | true=>
   refine wP g1 3 tX K1 s0 Y<|bG Y (cu jG Y (axT.ext K1.ext) Y) Y<|bG Y (iP Y Y) Y<|ev (dY Y Y)<|dI Y
  | false=>
   refine eB<|eB<|eB<|eB<|ev (eG Y Y)<|dI Y
 refine bS Y<|iI Y ?_
 have d9:(((decide (x.aB=aL))&&(decide (x.To=l6))):Bool)=(decide (x.aB=aL)&&decide (x.To=l6)):=by first | with_reducible rfl | (simp; done) | omega
 exact⟨by rw [d9] <;> rfl,(K1.rm s0)⟩
theorem QG(w:World){l:List bB}(iR:Sl dB S0 w jl jg l)(aL:Int)(l6:Int) :
    bO prog 92 #[.slice jl l.length jg,aD aL,aD l6] w λv w'=>v=aD (uM l aL l6)/\Hp w S0 w' []:=by
 refine j4 S0 func92 ntmps92 Y λH0=>rg<|bx Y Y H0 λg1 w1 K1=>bx Y Y K1 λg2 w2 K2=>bS Y<|bQ Y<|ev (qC Y)<|lF K2 Y (Oc _ (K2.a iR).any (yV:=[fP g1,fP g2]) auF (fun(x:bB)=>decide (x.aB=aL)&&decide (x.To=l6)) (λw' x e hm=>(afL (S0:=Any) w' x aL ((K2.x s1).ext e) l6 ((K2.x s0).ext e)).mono (by rintro _ _ ⟨rfl,fG⟩; exact⟨rfl,fG.ext⟩))) λw3 K3=>bS rfl<|iI rfl ?_
 have d9:(idxOf (fun(x:bB)=>decide (x.aB=aL)&&decide (x.To=l6)) l:Int)=(uM l aL l6):=by rfl
 exact⟨by rw [d9] <;> rfl,K3.z⟩
theorem zH(w:World){tN:Nat}{s:List bB}(lK:Sl dB S0 w u7 tN s)(hn:s.length<=1000000) :
    bO prog 66 #[.slice u7 s.length tN] w λv w'=>∃(A0:ah)(c0:Nat),v=.slice A0 s.length c0/\Hp w S0 w' [aR dB 117 A0 c0 s]:=by
 refine j4 S0 func66 ntmps66 Y λH0=>iY Y<|aZ<|bQ Y<|ev (Lx mG Y Y)<|dn<|bR Y (λhc4=>?_) (λhc4=>?_)
 ·refine iY Y<|vG Y ?_
  have H1:=H0.nil dB 117;have d9:(([]:List bB):List bB)=s:=by have h1:=lK.nil (by simpa using hc4); have h2:=lK.cap; exact(uI aj).symm
  have H2:=(d9▸H1:Hp w S0 w (aR dB 117 none 0 s::[]));exact⟨none,0,by rw [<- d9] <;> rfl,H2⟩
 refine jh ?_;refine rg<|bs0 (τ:=dB) (vs:=[]) Y (by intro _; apply al8) rfl H0 λg1 w1 K1=>mv rfl<|ap (ys:=s) K1 s0 rfl rfl (K1.a lK).any mG QF av (by first | omega | (simp; omega) | (simp; done)) rfl λnY nZ w2 K2=>bS rfl<|iI rfl ?_
 have fG:((([]:List bB)++s):List bB)=s:=by simp
 rw [fG] at K2;exact⟨nY,nZ,by rw [fG] <;> rfl,K2⟩
theorem afM(w:World){l:List bB}(iR:Sl dB S0 w jl jg l)(x:bB)(dD:Int)(all:Int)(hn:l.length<=100) :
    bO prog 331 #[.slice jl l.length jg,.agg #[aD x.aB,aD x.aC,aD x.jw,aD x.To,aD x.kG],aD dD,aD all] w λv w'=>∃(A0:ah)(c0:Nat),v=.tuple #[.slice A0 ((rZ l x dD all).length) c0,aD (oD l x dD all)]/\Hp w S0 w' [aR dB 117 A0 c0 (rZ l x dD all)]:=by
 refine j4 S0 func331 ntmps331 Y λH0=>rg<|bx Y Y H0 λg1 w1 K1=>iA Y<|bS Y<|bQ Y<|jD g1 2 Jo K1 s0 Y<|lF K1 Y (Gt _ (K1.a iR).any x.jw aj) λw2 K2=>mv Y<|xt Y Y<|xt Y Y<|iA Y<|bS Y<|bQ Y<|jD g1 3 tX K2 s0 Y<|lF K2 Y (Gt _ (K2.a iR).any x.To aj) λw3 K3=>mv Y<|xt Y Y<|xt Y Y<|iA Y<|bS Y<|aZ<|cZ<|rg<|ev (dK Dc Y Y (K3.x s0)) ?_
 refine lF K3 Y (acA (S0:=Any) _ x) λw4 K4=>ev (gZ Y)<|bS Y<|bR Y (λhc28=>?_) (λhc28=>?_)
 ·try simp only [eO,dN,bK,dZ,eu,fC,bL,bU] at hc28
  refine rg<|iA Y<|bS Y<|LA Y ?_
  have H1:=K4.nil dB 117;have d9:(([]:List bB):List bB)=(rZ l x dD all):=by simp [rZ,oD,(show Fb x=false by simpa using hc28)]
  have H2:=(d9▸H1:Hp w S0 w4 (aR dB 117 none 0 (rZ l x dD all)::[dJ g1 117 [aD x.aB,aD x.aC,aD x.jw,aD x.To,aD x.kG]]));have fG:(1:Int)=(oD l x dD all):=by simp [oD,(show Fb x=false by simpa using hc28)]
  exact⟨none,0,by rw [<- d9,<- fG] <;> rfl,(H2.rm s1)⟩
 try simp only [eO,dN,bK,dZ,eu,fC,bL,bU] at hc28
 refine bQ Y<|jD g1 0 Jp K4 s0 Y<|jD g1 3 tX K4 s0 Y<|lF K4 Y (QG _ (K4.a iR).any x.aB x.To) λw5 K5=>ev (pK Y Y)<|bS Y<|kX Y (λhc32=>?_) (λhc32=>?_)
 ·refine rg<|iA Y<|bS Y<|LA Y ?_
  have H3:=K5.nil dB 117;have jQ:(([]:List bB):List bB)=(rZ l x dD all):=by have hm:Fb x=true:=(by simpa using hc28); simp [rZ,oD,hm,hc32]
  have H4:=(jQ▸H3:Hp w S0 w5 (aR dB 117 none 0 (rZ l x dD all)::[dJ g1 117 [aD x.aB,aD x.aC,aD x.jw,aD x.To,aD x.kG]]));have lV:(6:Int)=(oD l x dD all):=by have hm:Fb x=true:=(by simpa using hc28); simp [oD,hm,hc32]
  exact⟨none,0,by rw [<- jQ,<- lV] <;> rfl,(H4.rm s1)⟩
 refine bQ Y<|ev (eY mG Y)<|mv Y<|ev (pK Y Y)<|mv Y<|iG 4 49 ((decide (all<=((l.length:Nat):Int)))||(decide (dD<=((sends l x.jw:Nat):Int)))) ?_ ?_
 ·cases axU:decide (all<=((l.length:Nat):Int)) with
  | true=>
   refine eB<|eB<|eB<|ev (dY Y Y)<|dI Y
  | false=>
   refine bG Y (bA Y) Y<|bG Y (bA Y) Y<|bG Y (pK Y Y) Y<|ev (eG Y Y)<|dI Y
 refine mv Y<|iG 4 54 (((decide (all<=((l.length:Nat):Int)))||(decide (dD<=((sends l x.jw:Nat):Int))))||(decide (dD<=((takes l x.To:Nat):Int)))) ?_ ?_
 ·cases aC5:((decide (all<=((l.length:Nat):Int)))||(decide (dD<=((sends l x.jw:Nat):Int)))) with
  | true=>
   refine eB<|eB<|eB<|ev (dY Y Y)<|dI Y
  | false=>
   have axV:=aC5
   try simp only [eO,dN,bL,bU] at axV
   refine bG Y (bA Y) Y<|bG Y (bA Y) Y<|bG Y (pK Y Y) Y<|ev (eG Y Y)<|dI Y
 refine bS Y<|WP.keep' [(0,.slice jl l.length jg),(5,fP g1),(40,.bool (((decide (all<=((l.length:Nat):Int)))||(decide (dD<=((sends l x.jw:Nat):Int))))||(decide (dD<=((takes l x.To:Nat):Int)))))] Y<|bR Y (λMJ=>?_) (λMJ=>?_)
 ·try simp only [eO,dN,bL,bU] at MJ
  refine rg<|iA Y<|bS Y<|LA Y ?_
  have H5:=K5.nil dB 117;have qU:(([]:List bB):List bB)=(rZ l x dD all):=by have hm:Fb x=true:=(by simpa using hc28); have hf:¬ 0<=uM l x.aB x.To:=hc32; have hx:all<=l.length∨dD<=sends l x.jw∨dD<=takes l x.To:=(by simpa [or_assoc] using MJ); simp [rZ,oD,hm,hf,hx]
  have H6:=(qU▸H5:Hp w S0 w5 (aR dB 117 none 0 (rZ l x dD all)::[dJ g1 117 [aD x.aB,aD x.aC,aD x.jw,aD x.To,aD x.kG]]));have vY:(7:Int)=(oD l x dD all):=by have hm:Fb x=true:=(by simpa using hc28); have hf:¬ 0<=uM l x.aB x.To:=hc32; have hx:all<=l.length∨dD<=sends l x.jw∨dD<=takes l x.To:=(by simpa [or_assoc] using MJ); simp [oD,hm,hf,hx]
  exact⟨none,0,by rw [<- qU,<- vY] <;> rfl,(H6.rm s1)⟩
 try simp only [eO,dN,bL,bU] at MJ
 refine zF ?_;refine He K5 (λ_ K=>K) (λl0 rk lJ wJ=>∃(jE:ah)(jB:Nat),lJ=(8,.slice jE ((l++([x]:List bB)).length) jB)::(9,aD 0)::l0/\Hp w S0 wJ (aR dB 117 jE jB (l++([x]:List bB))::rk)) (λhns H7=>?_) ?_
 ·refine kT 0 Y Y H7<|lH 2 Y (λ_ hK=>dK Dc Y Y (hK.x s0)) H7<|Jn H7 (λl0 rk lJ wJ=>∃(g2:Nat)(CU:ah)(CV:Nat),lJ=(56,.slice CU l.length CV)::(58,.slice (some ⟨g2,0,none⟩) (([x]:List bB).length) 1)::l0/\Hp w S0 wJ (aR dB 117 (some ⟨g2,0,none⟩) 1 ([x]:List bB)::aR dB 117 CU CV l::rk)) 3 15 ?_ λhS1=>?_
  ·rintro _ RG ⟨g2,CU,CV,rfl,tO⟩;refine O1 4 Y<|ap (ys:=([x]:List bB)) tO s1 Y Y (tO.o s0) mG QF (by first | omega | (simp; omega) | (simp; done)) av rfl λSC cp2 Qp rW=>?_
   have k5:=(rW.cU 0 2);refine aP k5<|xJ 5 Y Y k5<|xJ 6 Y Y k5<|Dn ⟨SC,cp2,Y,(rW.rm s1)⟩ Y
  refine O2 1 3 Y Y ?_ ?_
  ·refine gW Y (zH _ (H7.a iR).any aj) ?_;rintro _ WO ⟨ahj,ahk,rfl,h13⟩;have vC:=H7.f1 h13;have k6:=(vC.rm s0);refine aP k6<|O1 3 Y<|yU (τ:=dB) (x:=x) Y (by intro _; apply zG) rfl vC (λ_ _=>rfl) λg4 Xv vo=>?_
   have k7:=(vo.cU 0 2);exact Kj hS1 k7 ⟨g4,ahj,ahk,Y,vo⟩ Y
  ·refine yU (τ:=dB) (x:=x) Y (by intro _; apply zG) rfl H7 (λ_ _=>rfl) λg5 Yg yX=>?_;have k8:=(yX.rm s0);refine aP k8<|O1 1 Y<|gW Y (zH _ (yX.a iR).any aj) ?_
   rintro _ w16 ⟨Og,Oh,rfl,h16⟩;have Bv:=yX.f1 h16;have k9:=(Bv.cU 0 2);exact Kj hS1 k9 ⟨g5,Og,Oh,Y,((Bv.sel s0).sel s1)⟩ Y
 rintro _ w17 ⟨jE,jB,rfl,xS⟩;refine iI Y ?_;have xZ:((l++([x]:List bB)):List bB)=(rZ l x dD all):=by have hm:Fb x=true:=(by simpa using hc28); have hf:¬ 0<=uM l x.aB x.To:=hc32; have hx:¬ (all<=l.length∨dD<=sends l x.jw∨dD<=takes l x.To):=(by simpa [not_or,and_assoc] using MJ); simp [rZ,oD,hm,hf,hx]
 rw [xZ] at xS;have hq8:(0:Int)=(oD l x dD all):=by have hm:Fb x=true:=(by simpa using hc28); have hf:¬ 0<=uM l x.aB x.To:=hc32; have hx:¬ (all<=l.length∨dD<=sends l x.jw∨dD<=takes l x.To):=(by simpa [not_or,and_assoc] using MJ); simp [oD,hm,hf,hx]
 exact⟨jE,jB,by rw [xZ,<- hq8] <;> rfl,(xS.rm s1)⟩
theorem acC(w:World){l:List bB}(iR:Sl dB S0 w jl jg l)(aN:Int)(hn:l.length<=1000000) :
    bO prog 62 #[.slice jl l.length jg,aD aN] w λv w'=>∃(A0:ah)(c0:Nat)(A1:ah)(c1:Nat),v=.tuple #[.slice A0 ((l.filter (Yh aN)).length) c0,.slice A1 ((l.filter (MH aN)).length) c1]/\Hp w S0 w' [aR dB 117 A0 c0 (l.filter (Yh aN)),aR dB 117 A1 c1 (l.filter (MH aN))]:=by
 refine j4 S0 func62 ntmps62 Y λH0=>rg<|iA Y<|bS Y<|aZ<|bQ Y<|ev (eY mG Y)<|mv Y<|dn<|cZ ?_
 have H1:=H0.nil dB 117;have H2:=H1.nil dB 117;have d9:(([]:List bB):List bB)=((l.take 0).filter (Yh aN)):=by simp
 refine kP (t:=4) Y (aS (λz=>Value.slice none (List.length z) 0) d9) ?_;have fG:(([]:List bB):List bB)=((l.take 0).filter (MH aN)):=by simp
 refine kP (t:=5) Y (aS (λz=>Value.slice none (List.length z) 0) fG) ?_;have H3:=H2.nil dB 117;have H4:=(d9▸H3:Hp w S0 w (aR dB 117 none 0 ((l.take 0).filter (Yh aN))::[aR dB 117 none 0 [],aR dB 117 none 0 []]));have H5:=H4.nil dB 117;have H6:=(fG▸H5:Hp w S0 w (aR dB 117 none 0 ((l.take 0).filter (MH aN))::[aR dB 117 none 0 ((l.take 0).filter (Yh aN)),aR dB 117 none 0 [],aR dB 117 none 0 []]));refine Lp (H6.cU 0 4) (λl0 rk mJ lJ wJ=>∃(k:Nat)(A4:ah)(c4:Nat)(A5:ah)(c5:Nat),lJ=(4,.slice A4 (((l.take k).filter (Yh aN)).length) c4)::(5,.slice A5 (((l.take k).filter (MH aN)).length) c5)::(10,aD ((k:Nat):Int))::l0/\mJ=l.length - k/\k<=l.length/\Hp w S0 wJ (aR dB 117 A4 c4 ((l.take k).filter (Yh aN))::aR dB 117 A5 c5 ((l.take k).filter (MH aN))::rk)) ⟨0,none,0,none,0,Y,Y,fK _,(((H6.cU 2 2).sel s0).sel s1)⟩ Y ?_;rintro _ _ w1 ⟨k,A4,c4,A5,c5,rfl,rfl,hk,K1⟩;refine rg<|ev (fB Y Y)<|dn<|oC Y (λGj=>?_) (λGj=>?_)
 ·refine jh ?_;refine aZ<|cZ<|rg ?_
  obtain⟨x1,bP⟩:=bC (xs:=l) (i:=k) aj;refine ev (eU (i:=k) mG Db Y Y Y (aJ bP) ((K1.a iR).some_ bP))<|ev (fV Dc Y Y ((K1.a iR).eX bP))<|al Jq Y K1 λg1 w2 K2=>sty Y K2 s0 Y λw3 K3=>dn<|aZ<|rg<|jD g1 4 U3 K3 s0 Y<|mv Y<|ev (fB Y Y)<|dn<|kX Y (λhc17=>?_) (λhc17=>?_)
  ·refine bQ Y<|ev (dK Dc Y Y (K3.x s0))<|yU (τ:=dB) (x:=x1) Y (by intro _; apply zG) rfl K3 (λ_ _=>rfl) λg2 w4 K4=>ap (ys:=([x1]:List bB)) K4 s3 rfl rfl (K4.o s0) mG QF (by have:=ahi (MH aN) l k; omega) av rfl λnY nZ w5 K5=>bS rfl<|uU (oz (vK (gB ?_)))
   refine jr<|ev (dW Y Y)<|mv Y<|jv ?_
   have jQ:(((l.take k).filter (Yh aN)):List bB)=((l.take (k+1)).filter (Yh aN)):=by rw [Oa bP]; simp [Yh,hc17]
   refine ji (t:=4) Y (aS (λz=>Value.slice A4 (List.length z) c4) jQ) ?_;have lV:((((l.take k).filter (MH aN))++([x1]:List bB)):List bB)=((l.take (k+1)).filter (MH aN)):=by rw [Oa bP]; simp [MH,hc17]
   refine ji (t:=5) Y (aS (λz=>Value.slice nY (List.length z) nZ) lV) ?_;rw [jQ] at K5;rw [lV] at K5;exact dQ ⟨(k+1),A4,c4,nY,nZ,Y,Y,aj,(((K5.cU 1 2).sel s0).sel s1)⟩ rfl aj
  refine jh ?_;refine jr<|mv Y<|ev (dK Dc Y Y (K3.x s0))<|yU (τ:=dB) (x:=x1) Y (by intro _; apply zG) rfl K3 (λ_ _=>rfl) λg3 w6 K6=>ap (ys:=([x1]:List bB)) K6 s2 rfl rfl (K6.o s0) mG QF (by have:=ahi (Yh aN) l k; omega) av rfl λSC cp2 w7 K7=>iA rfl<|jv<|ig (gB ?_)
  refine jr<|ev (dW Y Y)<|mv Y<|jv ?_
  have qU:((((l.take k).filter (Yh aN))++([x1]:List bB)):List bB)=((l.take (k+1)).filter (Yh aN)):=by rw [Oa bP]; simp [Yh,hc17]
  refine ji (t:=4) Y (aS (λz=>Value.slice SC (List.length z) cp2) qU) ?_;have vY:(((l.take k).filter (MH aN)):List bB)=((l.take (k+1)).filter (MH aN)):=by rw [Oa bP]; simp [MH,hc17]
  refine ji (t:=5) Y (aS (λz=>Value.slice A5 (List.length z) c5) vY) ?_;rw [qU] at K7;rw [vY] at K7;exact dQ ⟨(k+1),SC,cp2,A5,c5,Y,Y,aj,(K7.cU 1 2)⟩ rfl aj
 refine wQ ?_;refine bQ Y<|mv Y<|iA Y<|bS Y<|iI Y ?_
 have xZ:(((l.take k).filter (Yh aN)):List bB)=(l.filter (Yh aN)):=by rw [iD aj]
 rw [xZ] at K1;have hq8:(((l.take k).filter (MH aN)):List bB)=(l.filter (MH aN)):=by rw [iD aj]
 rw [hq8] at K1;exact⟨A4,c4,A5,c5,by rw [xZ,hq8] <;> rfl,K1⟩
theorem ajq(w:World){l:List bB}(iR:Sl dB S0 w jl jg l){ZG:ah}{ZH:Nat}{Ab:List Int}(Oi:Sl dL S0 w ZG ZH Ab)(dD:Int)(hn:l.length<=65)(h0:0<=dD)(h1:dD<=64) :
    bO prog 243 #[.slice jl l.length jg,.slice ZG Ab.length ZH,aD dD] w λv w'=>v=.tuple #[aD (D5 l Ab dD),.bool (LH l Ab dD)]/\Hp w S0 w' []:=by
 refine j4 S0 func243 ntmps243 Y λH0=>?_;have EG:=iR.bN;have axW:=Oi.bN;refine rg<|iA Y<|bS Y<|WP.jumps (lb:=0) (λmJ lJ wJ=>∃(k:Nat),lJ=[(0,.slice jl l.length jg),(1,.slice ZG Ab.length ZH),(2,aD dD),(8,aD ((k:Nat):Int))]/\mJ=Ab.length - k/\(k<=Ab.length)/\(∀ y∈Ab.take k,Jm l dD y=false)/\Hp w S0 wJ []) Y ?_ ?_
 ·rintro _ _ w1 ⟨k,rfl,rfl,hkl,hno,K1⟩;refine aZ<|bQ Y<|mv Y<|ev (eY fq Y)<|ev (iP Y Y)<|dn<|kX Y (λnQ=>?_) (λnQ=>?_)
  ·refine rg<|iA Y<|bS Y<|je (gL (kV.Ua (zD Y ?_)))
   have d9:(0:Int)=(D5 l Ab dD):=by have hf:=U2 (uW hno aj); simp [D5,hf]
   have fG:(false:Bool)=(LH l Ab dD):=by have hf:=U2 (uW hno aj); simp [LH,hf]
   exact⟨by rw [<- d9,<- fG] <;> rfl,K1⟩
  refine jh ?_;refine aZ<|bQ Y<|mv Y<|mv Y ?_
  obtain⟨x1,bP⟩:=bC (xs:=Ab) (i:=k) aj;refine ev (eU (i:=k) fq sZ Y Y Y (aJ bP) ((K1.a Oi).some_ bP))<|ev (jq jG Y ((K1.a Oi).fZ (j:=0) bP Y))<|lF K1 Y (Ob _ (K1.a iR).any x1 aj) λw2 K2=>ev (Ev.real Y)<|mv Y<|ev (Ev.aCv (m:=dD.toNat) ⟨_,iw⟩ Zz Y aj)<|ev (Ev.aCw (by have:=C9 l x1; omega) (by have:=C9 l x1; omega) rfl rfl)<|dn<|kX rfl (λhc22=>?_) (λhc22=>?_)
  ·refine bQ Y<|ev (dW Y Y)<|bS Y<|WP.goto (kV.XV ?_)
   have jQ:(((k+1:Nat):Int):Int)=(((k+1):Nat):Int):=by simp
   refine ji (t:=8) Y (aS (Value.int .i64) jQ)<|kV.jag ⟨(k+1),Y,Y,aj,by exact tQ hno bP (by simp only [Jm,bU]; omega),K2⟩ rfl aj
  refine jh ?_;refine bQ Y<|mv Y<|ev (eU (i:=k) fq sZ Y Y Y (aJ bP) ((K2.a Oi).some_ bP))<|ev (jq jG Y ((K2.a Oi).fZ (j:=0) bP Y))<|iA Y<|bS Y<|je (kV.Ua (zD Y ?_))
  have lV:(x1:Int)=(D5 l Ab dD):=by have hf:=MI (p:=Jm l dD) hno bP (by simp only [Jm,bL]; omega); simp [D5,hf]
  have qU:(true:Bool)=(LH l Ab dD):=by have hf:=MI (p:=Jm l dD) hno bP (by simp only [Jm,bL]; omega); simp [LH,hf]
  exact⟨by rw [<- lV,<- qU] <;> rfl,K2⟩
 ·intro hp0;refine iY Y<|WP.kp hp0 ⟨0,Y,Y,aj,av,H0⟩ rfl
theorem ama(w:World){l:List bB}(iR:Sl dB S0 w jl jg l)(dD:Int)(all:Int)(hn:l.length<=100) :
    bO prog 34 #[.slice jl l.length jg,aD dD,aD all] w λv w'=>v=.bool (Da l dD all)/\Hp w S0 w' []:=by
 refine j4 S0 func34 ntmps34 Y λH0=>iY Y<|aZ<|bQ Y<|ev (eY mG Y)<|mv Y<|dn<|cZ<|Lp H0 (λl0 rk mJ lJ wJ=>∃(k:Nat),lJ=(15,aD ((k:Nat):Int))::l0/\mJ=l.length - k/\k<=l.length/\(∀(i:Nat)(x:bB),i<k->l[i]? = some x->Xy l dD i x=true)/\Hp w S0 wJ rk) ⟨0,Y,Y,fK _,by intro i x hi; omega,H0⟩ rfl ?_
 rintro _ _ w1 ⟨k,rfl,rfl,hk,hok,K1⟩;refine rg<|ev (fB Y Y)<|dn<|oC Y (λhc16=>?_) (λhc16=>?_)
 ·refine jh ?_;refine aZ<|cZ<|bQ Y ?_
  obtain⟨x1,bP⟩:=bC (xs:=l) (i:=k) aj;refine ev (eU (i:=k) mG Db Y Y Y (aJ bP) ((K1.a iR).some_ bP))<|ev (fV Dc Y Y ((K1.a iR).eX bP))<|al Jq Y K1 λg1 w2 K2=>iA Y<|sty Y K2 s0 Y λw3 K3=>dn<|bQ Y<|jD g1 2 Jo K3 s0 Y<|lF K3 Y (Gt _ (K3.a iR).any x1.jw aj) λw4 K4=>mv Y<|xt Y Y<|xt Y Y<|iA Y<|bS Y<|bQ Y<|jD g1 3 tX K4 s0 Y<|lF K4 Y (Gt _ (K4.a iR).any x1.To aj) λw5 K5=>mv Y<|xt Y Y<|xt Y Y<|iA Y<|bS Y<|rg<|ev (dK Dc Y Y (K5.x s0)) ?_
  refine lF K5 Y (acA (S0:=Any) _ x1) λw6 K6=>ev (gZ Y)<|mv Y<|nA 9 46 ((!(Fb x1))||(!decide (uM l x1.aB x1.To=((k:Nat):Int)))) ?_ ?_
  ·cases axX:(!(Fb x1)) with
   | true=>
    refine eB<|eB<|eB<|eB<|eB<|eB<|eB<|eB<|ev (dY Y Y)<|iH Y (om _)
   | false=>
    refine bG Y (bA Y) Y<|wP g1 0 Jp K6 s0 Y<|wP g1 3 tX K6 s0 Y<|nu Y Y Y Y axP (QG _ (K6.a iR).any x1.aB x1.To) Y ?_
    rintro _ w7 ⟨rfl,h7⟩;refine bG Y (bA Y) Y<|bG Y (rz Y Y) Y<|ev (eG Y Y)<|iH Y h7.ext
  intro w8 e8;have K8:=K6.grow e8;refine mv Y<|iG 4 51 (((!(Fb x1))||(!decide (uM l x1.aB x1.To=((k:Nat):Int))))||(decide (dD<((sends l x1.jw:Nat):Int)))) ?_ ?_
  ·cases aqm:((!(Fb x1))||(!decide (uM l x1.aB x1.To=((k:Nat):Int)))) with
   | true=>
    refine eB<|eB<|eB<|ev (dY Y Y)<|dI Y
   | false=>
    have al4:=aqm
    try simp only [eO,dN,bK,dZ,eu,fC,bL,bU] at al4
    refine bG Y (bA Y) Y<|bG Y (bA Y) Y<|bG Y (pJ Y Y) Y<|ev (eG Y Y)<|dI Y
  refine mv Y<|iG 4 56 ((((!(Fb x1))||(!decide (uM l x1.aB x1.To=((k:Nat):Int))))||(decide (dD<((sends l x1.jw:Nat):Int))))||(decide (dD<((takes l x1.To:Nat):Int)))) ?_ ?_
  ·cases aC6:(((!(Fb x1))||(!decide (uM l x1.aB x1.To=((k:Nat):Int))))||(decide (dD<((sends l x1.jw:Nat):Int)))) with
   | true=>
    refine eB<|eB<|eB<|ev (dY Y Y)<|dI Y
   | false=>
    have axY:=aC6
    try simp only [eO,dN,bK,dZ,eu,fC,bL,bU] at axY
    refine bG Y (bA Y) Y<|bG Y (bA Y) Y<|bG Y (pJ Y Y) Y<|ev (eG Y Y)<|dI Y
  refine dn<|bR Y (λafD=>?_) (λafD=>?_)
  ·try simp only [eO,dN,bK,dZ,eu,fC,bL,bU] at afD
   refine iY Y<|je (jH (gL (gL (jH (gL (zD Y ?_))))))
   have d9:(false:Bool)=(Da l dD all):=by have hb:Xy l dD k x1=false:=(by rw [ED]; intro h; simp only [Xy,bK,bL] at h; obtain⟨⟨⟨h1,h2⟩,h3⟩,h4⟩:=h; rcases afD with ((h5 | h5) | h5) | h5 <;> first | omega | (rw [h1] at h5; cases h5) | exact h5 h2); simp [Da,ae0 bP hb]
   exact⟨by rw [<- d9] <;> rfl,(K8.rm s0)⟩
  try simp only [eO,dN,bK,dZ,eu,fC,bL,bU] at afD
  refine zF ?_;refine jr<|ev (dW Y Y)<|mv Y<|jv<|dQ ⟨(k+1),Y,Y,aj,by exact alh (q:=λi x=>Xy l dD i x=true) hok bP (by simp only [Xy,bK,bL]; obtain⟨⟨⟨h1,h2⟩,h3⟩,h4⟩:=afD; exact⟨⟨⟨h1,h2⟩,aj⟩,aj⟩),(K8.rm s0)⟩ rfl aj
 refine wQ ?_;refine bQ Y<|ev (eY mG Y)<|mv Y<|ev (uK Y Y)<|bS Y<|iI Y ?_
 have fG:(decide (((l.length:Nat):Int)<=all):Bool)=(Da l dD all):=by have ha:PZ (Xy l dD) l=true:=L8.2 (λi x hx=>hok i x (by have:=aJ hx; omega) hx); simp [Da,ha]
 exact⟨by rw [fG] <;> rfl,K1⟩
def Ih(l:List aW)(aG:List Int)(aX:List gq)(dw:List Int)(bq:Int):Bool:=(((jU l bq&&decide ((gP l bq).gG=0))&&aG.contains bq)&&!dw.contains bq)&&decide (nK aX bq<(gP l bq).lW)
abbrev wZ(aX:List gq)(n:aW):Int:=if n.lW<nK aX n.ID then n.lW else nK aX n.ID
abbrev wR(old:List Int)(n:aW):Nat:=if old.contains n.kM=true then 1 else 0
theorem ahl{n:aW}{z:Int}(h:old.contains n.kM=true):Value.complex .f64 (fb 1) (wIm true z)=Value.complex .f64 (fb (wR old n)) (wIm (old.contains n.kM) z):=by
  unfold wR; rw [h,aO rfl]
theorem ahm{n:aW}{z:Int}(h:old.contains n.kM=false):Value.complex .f64 0 (fz z)=Value.complex .f64 (fb (wR old n)) (wIm (old.contains n.kM) z):=by
  unfold wR; rw [h,aK au,show fb 0=0 from agX]; unfold wIm; rw [aK au]
theorem auH:∀ w,(zeroValue 4).run prog w=.ok (.bool false) w:=ay
theorem ajr(w:World)(iR:Sl bX S0 w jl jg l){aco:ah}{acp:Nat}{ids:List Int}(UU:Sl dL S0 w aco acp ids)(hn:l.length<=100000) :
    bO prog 264 #[.slice jl l.length jg,.slice aco ids.length acp] w λv w'=>∃(g0:Nat),v=.map (some g0)/\Hp w S0 w' [alr g0 (kr l ids)]:=by
 refine j4 S0 func264 ntmps264 Y λH0=>?_;have EG:=iR.bN;have auq:=UU.bN;refine iY Y<|rg<|mks H0 Y λg1 w1 K1=>bS Y<|aZ<|bQ Y<|ev (eY fq Y)<|mv Y<|dn<|cZ ?_
 have d9:[]=(kr l (ids.take 0)):=by rfl
 rw [d9] at K1;refine Lp (K1.rm s0) (λl0 rk mJ lJ wJ=>∃(k:Nat),lJ=(13,aD ((k:Nat):Int))::l0/\mJ=ids.length - k/\k<=ids.length/\Hp w S0 wJ (alr g1 (kr l (ids.take k))::rk)) ⟨0,Y,Y,fK _,K1⟩ Y ?_;rintro _ _ w2 ⟨k,rfl,rfl,hk,K2⟩;refine rg<|ev (fB Y Y)<|dn<|oC Y (λtC=>?_) (λtC=>?_)
 ·refine jh ?_;refine aZ<|cZ<|rg ?_
  obtain⟨x1,bP⟩:=bC (xs:=ids) (i:=k) aj;refine ev (eU (i:=k) fq sZ Y Y Y (aJ bP) ((K2.a UU).some_ bP))<|ev (jq jG Y ((K2.a UU).fZ (j:=0) bP Y))<|bS Y<|bQ Y<|mv Y<|lF K2 Y (C8 _ (K2.a iR).any x1 aj) λw3 K3=>mv Y<|xt Y Y<|xt Y Y<|al rG Y K3 λg2 w4 K4=>sty Y K4 s0 Y λw5 K5=>bS Y<|bQ Y<|dn<|bR Y (λsG=>?_) (λsG=>?_)
  ·refine jr<|mv Y<|jD g2 1 NU K5 s0 Y<|axp K5 s1 Y Y Y Zv iw λw6 K6=>jv<|ig (gB ?_)
   refine jr<|ev (dW Y Y)<|mv Y<|jv ?_
   have fG:(Qj (kr l (ids.take k)) ((gP l x1).kM))=(kr l (ids.take (k+1))):=by rw [DY bP]; unfold Yf; first | rw [aO sG] | rw [aK (by rw [sG]; decide)]
   rw [fG] at K6;exact dQ ⟨(k+1),Y,Y,aj,(K6.rm s1)⟩ rfl aj
  refine zF ?_;refine jr<|ev (dW Y Y)<|mv Y<|jv ?_
  have jQ:(kr l (ids.take k))=(kr l (ids.take (k+1))):=by rw [DY bP]; unfold Yf; first | rw [aO sG] | rw [aK (by rw [sG]; decide)]
  rw [jQ] at K5;exact dQ ⟨(k+1),Y,Y,aj,(K5.rm s0)⟩ rfl aj
 refine wQ ?_;refine bQ Y<|bS Y<|iI Y ?_
 have lV:((kr l (ids.take k)):List Int)=(kr l ids):=by rw [iD aj]
 rw [lV] at K2;exact⟨g1,Y,K2⟩
theorem ajs(w:World)(n:aW)(nN:Sl lU S0 w l9 l8 aX){asR:Nat}(axZ:w.heap[asR]? = some (.map (wB old) old.length)) :
    bO prog 265 #[.agg #[aD n.ID,aD n.kM,aD n.lW,aD n.gG],.slice l9 aX.length l8,.map (some asR)] w λv w'=>v=.complex .f64 (fb (wR old n)) (wIm (old.contains n.kM) (wZ aX n))/\Hp w S0 w' []:=by
 refine j4 S0 func265 ntmps265 Y λH0=>rg<|bx Y Y H0 λg1 w1 K1=>bS Y<|qo ak ak<|bD (bA Y) Y<|bD (eF (q:=⟨g1,0,none⟩) lT Y Y) Y<|bD (cu jG Y (K1.x s0) Y) Y<|IU (v:=aD (nK aX n.ID)) Y Y Y afs (λwq eq=>(tV wq ((K1.a nN).any.ext eq) n.ID).mono (by rintro _ _ ⟨rfl,fG⟩; exact⟨rfl,fG.ext⟩)) rfl<|bD (eF (q:=⟨g1,2,none⟩) NV rfl rfl) rfl<|bD (cu jG rfl (K1.x s0) rfl) rfl<|bD (Ev.min2 rfl rfl) rfl<|bD (Ev.axu ⟨_,iw⟩ Zz rfl) rfl<|bD (Ev.aCQ rfl rfl) rfl<|bD (nP rfl) rfl<|qp λw2 e2=>?_
 have K2:=K1.grow e2;refine aZ<|bQ Y<|jD g1 1 NU K2 s0 Y<|ev (Ev.iy (K2.was axZ) Zv iw auH Y Y)<|dn<|bR Y (λkJ=>?_) (λkJ=>?_)
 ·refine jr<|mv Y<|ev (Ev.apN Y Y c01 (ap1 _))<|iA Y<|jv<|gB<|bQ Y<|bS Y<|iI Y ?_
  have d9:(.complex .f64 (fb 1) (wIm true (if n.lW<nK aX n.ID then n.lW else nK aX n.ID)):Value)=(.complex .f64 (fb (wR old n)) (wIm (old.contains n.kM) (wZ aX n))):=by first | exact ahl kJ | exact ahm kJ
  exact⟨by rw [d9] <;> rfl,(K2.rm s0)⟩
 refine jh ?_;refine bQ Y<|bS Y<|iI Y ?_
 have fG:(.complex .f64 0 (fz (if n.lW<nK aX n.ID then n.lW else nK aX n.ID)):Value)=(.complex .f64 (fb (wR old n)) (wIm (old.contains n.kM) (wZ aX n))):=by first | exact ahl kJ | exact ahm kJ
 exact⟨by rw [fG] <;> rfl,(K2.rm s0)⟩
theorem aqt(w:World)(iR:Sl bX S0 w jl jg l)(jX:Sl dL S0 w jP jO aG)(nN:Sl lU S0 w l9 l8 aX){uy:ah}{uz:Nat}{dw:List Int}(BR:Sl dL S0 w uy uz dw)(bq:Int)(hn:l.length<=100000) :
    bO prog 266 #[.slice jl l.length jg,.slice jP aG.length jO,.slice l9 aX.length l8,.slice uy dw.length uz,aD bq] w λv w'=>v=.bool (Ih l aG aX dw bq)/\Hp w S0 w' []:=by
 refine j4 S0 func266 ntmps266 Y λH0=>iY Y<|bQ Y<|mv Y<|lF H0 Y (C8 _ (H0.a iR).any bq aj) λw1 K1=>mv Y<|xt Y Y<|xt Y Y<|al rG Y K1 λg1 w2 K2=>sty Y K2 s0 Y λw3 K3=>bS Y<|qo ak ak<|bD (bA Y) Y<|bD (bA Y) Y<|qy 4 24 ((jU l bq)&&(decide ((gP l bq).gG=0))) ?_ ?_
 ·cases ab4:jU l bq with
  | true=>
   refine dV Y (eF (q:=⟨g1,3,none⟩) yx Y Y) Y<|dV Y (cu jG Y (K3.x s0) Y) Y<|dV Y (iP Y Y) Y<|bD (dY Y Y) Y<|jJ Y
  | false=>
   refine dF Y Y Y<|dF Y Y Y<|dF Y Y Y<|bD (eG Y Y) Y<|jJ Y
 refine bD (bA Y) Y<|qy 4 29 (((jU l bq)&&(decide ((gP l bq).gG=0)))&&(aG.contains bq)) ?_ ?_
 ·cases aC7:((jU l bq)&&(decide ((gP l bq).gG=0))) with
  | true=>
   have ax0:=aC7
   try simp only [bK,dZ,bL,bU] at ax0
   refine dV Y (bA Y) Y<|dV Y (bA Y) Y<|NA Y (v:=.bool (aG.contains bq)) Y Y Y Uu (λwq eq=>(jT wq ((K3.a jX).any.ext eq) bq).mono (by rintro _ _ ⟨rfl,fG⟩; exact⟨rfl,fG.ext⟩)) rfl<|bD (dY rfl rfl) rfl<|jJ rfl
  | false=>
   refine dF Y Y Y<|dF Y Y Y<|dF Y Y Y<|bD (eG Y Y) Y<|jJ Y
 refine bD (bA Y) Y<|qy 5 35 ((((jU l bq)&&(decide ((gP l bq).gG=0)))&&(aG.contains bq))&&(!(dw.contains bq))) ?_ ?_
 ·cases aC8:(((jU l bq)&&(decide ((gP l bq).gG=0)))&&(aG.contains bq)) with
  | true=>
   have ax1:=aC8
   try simp only [bK,dZ,bL,bU] at ax1
   refine dV Y (bA Y) Y<|dV Y (bA Y) Y<|NA Y (v:=.bool (dw.contains bq)) Y Y Y Uu (λwq eq=>(jT wq ((K3.a BR).any.ext eq) bq).mono (by rintro _ _ ⟨rfl,fG⟩; exact⟨rfl,fG.ext⟩)) rfl<|dV rfl (gZ rfl) rfl<|bD (dY rfl rfl) rfl<|jJ rfl
  | false=>
   refine dF Y Y Y<|dF Y Y Y<|dF Y Y Y<|dF Y Y Y<|bD (eG Y Y) Y<|jJ Y
 refine bD (bA Y) Y<|qy 7 43 (((((jU l bq)&&(decide ((gP l bq).gG=0)))&&(aG.contains bq))&&(!(dw.contains bq)))&&(decide (nK aX bq<(gP l bq).lW))) ?_ ?_
 ·cases aC9:((((jU l bq)&&(decide ((gP l bq).gG=0)))&&(aG.contains bq))&&(!(dw.contains bq))) with
  | true=>
   have ax2:=aC9
   try simp only [eO,dN,bK,dZ,eu,fC,bL,bU] at ax2
   refine dV Y (bA Y) Y<|dV Y (bA Y) Y<|NA Y (v:=aD (nK aX bq)) Y Y Y afs (λwq eq=>(tV wq ((K3.a nN).any.ext eq) bq).mono (by rintro _ _ ⟨rfl,fG⟩; exact⟨rfl,fG.ext⟩)) rfl<|dV rfl (eF (q:=⟨g1,2,none⟩) NV rfl rfl) rfl<|dV rfl (cu jG rfl (K3.x s0) rfl) rfl<|dV rfl (fB rfl rfl) rfl<|bD (dY rfl rfl) rfl<|jJ rfl
  | false=>
   refine dF Y Y Y<|dF Y Y Y<|dF Y Y Y<|dF Y Y Y<|dF Y Y Y<|dF Y Y Y<|bD (eG Y Y) Y<|jJ Y
 refine bD (nP Y) Y<|qp λw4 e4=>?_
 have K4:=K3.grow e4;refine iI Y ?_;have d9:((((((jU l bq)&&(decide ((gP l bq).gG=0)))&&(aG.contains bq))&&(!(dw.contains bq)))&&(decide (nK aX bq<(gP l bq).lW))):Bool)=(Ih l aG aX dw bq):=by rfl
 exact⟨by rw [d9] <;> rfl,(K4.rm s0)⟩
end Go.Proofs.YtlhnnmlenkahlaaGreat
