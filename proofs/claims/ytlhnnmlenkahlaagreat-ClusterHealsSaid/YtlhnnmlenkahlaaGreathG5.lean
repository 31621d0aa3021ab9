/- Lemmas. -/
import Derived.Test.YtlhnnmlenkahlaaGreathG4
set_option maxRecDepth 4000
set_option linter.all false
namespace Go.Proofs.YtlhnnmlenkahlaaGreat
open Go.RowKit Go.Proofs.Tryz
def ah7:=@List.findSome?_eq_none_iff
def Xw:=@List.mem_of_find?_eq_some
def SS:=@List.countP_append
def oI:=@underlying48
def abP:=@underlying202
def zY:=@List.foldl_append
def SV:=@List.find?_cons_of_pos
def Dc:=@underlying47
section
variable {α β:Type}{cs:List aF}{l:List aR}{aH old:List Int}{aX:List fP}{k jR kr nG:Nat}{S0:Nat->Prop}{jU ku wT nH:ah}{f:α->Option β}{p:α->Bool}
def abQ(cs:List aF)(l:List aR)(x y:aR):Option aK:=(cs.find? fun(c:aF)=>Bn c l x.ID y.ID).map fun(c:aF)=>⟨0,c.ID,c.aB,c.Sum,x.ID,y.ID,0⟩
def Dq(cs:List aF)(l:List aR)(aX:List fP)(kZ:Int)(p:aR × aR):Option aK:=if nU aX p.1.ID - nU aX p.2.ID<=(if 1>kZ then 1 else kZ)∨p.2.lD<=nU aX p.2.ID then none else abQ cs l p.1 p.2
def Xx(cs:List aF)(l:List aR)(aH:List Int):List (aR × aR):=vN (Ko (frC (ig cs l aH)) (wU l aH)) (Ko (toC (ig cs l aH)) (wU l aH))
def jm(cs:List aF)(l:List aR)(aH:List Int)(kZ:Int):aK:=if kI cs=true then((Xx cs l aH).findSome? (Dq cs l (ig cs l aH) kZ)).getD ⟨0,0,0,0,0,0,0⟩ else⟨0,0,0,0,0,0,0⟩
def moveB(cs:List aF)(l:List aR)(aH:List Int)(kZ:Int):Bool:=decide (0<(jm cs l aH kZ).aD)
theorem apb{pre ys:List α}{x:α}{o:β}(h:pre++[x] <+: ys)(hno:∀ p∈pre,f p=none)(hx:f x=some o):ys.findSome? f=some o:=by
  obtain⟨t,rfl⟩:=h;rw [List.findSome?_append,List.findSome?_append,ah7.2 hno]
  simp [hx]
theorem apc(id:Int):0<=nU (ig cs l aH) id/\nU (ig cs l aH) id<=cs.length:=by
  unfold nU
  split
  · rename_i x hx; exact ah1 (Xw hx)
  · omega
theorem auH(l:List aR)(aH:List Int):Up aR.ID (wU l aH):=by
  unfold wU; split
  · rename_i h; exact List.Pairwise.filter _ (Ey _ 0 h)
  · exact List.Pairwise.nil
theorem ape(l:List aR)(aH:List Int):(wU l aH).length<=l.length:=by
  unfold wU; split
  · exact ni _ _
  · simp
theorem Xy{kZ:Int}{p:aR × aR}(h:∀ c∈cs.take k,Bn c l p.1.ID p.2.ID=false)(hk:cs.length<=k):Dq cs l aX kZ p=none:=by
  unfold Dq abQ;rw [gV hk] at h;rw [Gl.2 (λc hc=>by simp [h c hc])];exact ite_self _
theorem ame{kZ:Int}{p:aR × aR}{x:aF}(hc:¬ (nU aX p.1.ID - nU aX p.2.ID<=(if 1>kZ then 1 else kZ)∨p.2.lD<=nU aX p.2.ID))(h:∀ c∈cs.take k,Bn c l p.1.ID p.2.ID=false)(hx:cs[k]? = some x)(hg:Bn x l p.1.ID p.2.ID=true) :
    Dq cs l aX kZ p=some ⟨0,x.ID,x.aB,x.Sum,p.1.ID,p.2.ID,0⟩:=by
  have hs:cs=cs.take k++x::cs.drop (k+1):=by
    conv=>lhs; rw [<- FC k cs]
    rw [BA (aM hx),(sN.1 hx).2]
  unfold Dq abQ;rw [aP hc,hs,KX,Gl.2 (λc hc=>by simp [h c hc])]
  simp [hg]
theorem CK:∀ w,(zeroValue 112).run prog w=.ok (.agg #[aI 0,aI 0,aI 0,gP 0,aI 0,aI 0,aI 0]) w:=ay
theorem ajK:mg prog 42:=ay
theorem y8:Size prog 112 7:=ay
theorem wF:Z9 prog 112 7:=⟨λ_=>by kernel_rfl,y8⟩
theorem apf:∀ w,(zeroValue 154).run prog w=.ok (.slice none 0 0) w:=ay
theorem ayW:bJ prog 409:=ay
theorem Gn(a0:Int)(a1:Int)(a2:Int)(a3:Int)(a4:Int)(a5:Int):prog.built 112 [(0,aI a0),(1,aI a1),(2,aI a2),(3,gP a3),(4,aI a4),(5,aI a5)]=some #[aI a0,aI a1,aI a2,gP a3,aI a4,aI a5,aI 0]:=ak
theorem tL:dL prog 112 1 1:=ay
theorem abR{pre:List α}{x:α}(h:∀ p∈pre,f p=none)(hx:f x=none):∀ p∈pre++[x],f p=none:=by
  intro p hp
  rcases kX.1 hp with h1 | h1
  · exact h p h1
  · rw [oG.1 h1]; exact hx
abbrev apg(iE:List aF)(je:List aR)(wP:List Int):=Ko (frC (ig iE je wP)) (wU je wP)
abbrev aph(iE:List aF)(je:List aR)(wP:List Int):=Ko (toC (ig iE je wP)) (wU je wP)
abbrev ah8(iE:List aF)(je:List aR)(wP:List Int)(zZ:(aR × aR))(Fh:Int):=nU (ig iE je wP) zZ.1.ID - nU (ig iE je wP) zZ.2.ID<=(if 1>Fh then 1 else Fh)
theorem ajL(w:World){tH:ah}{tF:Nat}{dx:List aF}(tJ:Sl bD S0 w tH tF dx)(jE:Sl bW S0 w jU jR l)(kQ:Sl dQ S0 w ku kr aH)(kZ:Int)(hn:l.length<=100000)(hc:dx.length<=100000)(hh:∀ x∈dx,x.aC.length<=100000) :
    bO prog 246 #[.slice tH dx.length tF,.slice jU l.length jR,.slice ku aH.length kr,aI kZ] w λv w'=>v=.tuple #[.agg #[aI ((jm dx l aH kZ).Kind),aI ((jm dx l aH kZ).aD),aI ((jm dx l aH kZ).aB),gP ((jm dx l aH kZ).Sum),aI ((jm dx l aH kZ).jM),aI ((jm dx l aH kZ).To),aI ((jm dx l aH kZ).ji)],.bool (moveB dx l aH kZ)]/\Hp w S0 w' []:=by
 refine aCc S0 func246 ntmps246 Y λH0=>?_;have al8:=tJ.bC;have GJ:=jE.bC;have ao5:=kQ.bC;have hfl:=ape l aH;refine rg<|bx Y Y H0 λg1 w1 K1=>bx Y Y K1 λg2 w2 K2=>bx Y Y K2 λg3 w3 K3=>al CK Y K3 λg4 w4 K4=>bX Y<|WP.sc<|rg<|al CK Y K4 λg5 w5 K5=>dn<|aY<|rg<|nL K5 s4 Y<|nD K5 Y (MP _ (K5.a tJ).any aj) λw6 K6=>ev (iG Y)<|dn<|bP Y (λlW=>?_) (λlW=>?_)
 ·try simp only [eT,dO,bK,eu,dZ,fI,bM,bV] at lW
  refine rg<|ev (fK wF Y Y (K6.x s0))<|sty Y K6 s1 Y λw7 K7=>bX Y<|jf (fO (l8.ahN (l8.aHM Y ⟨_,_,Y,⟨_,Y,kK wF Y (K7.x s0)⟩,⟨_,_,Y,Y,Y⟩⟩ ?_)))
  have fT:((⟨0,0,0,0,0,0,0⟩:aK):aK)=(jm dx l aH kZ):=by unfold jm; rw [aP (by rw [lW]; decide)]
  have gu:(0:Int)=(jm dx l aH kZ).Kind:=by rw [<- fT]
  have kC:(0:Int)=(jm dx l aH kZ).aD:=by rw [<- fT]
  have nC:(0:Int)=(jm dx l aH kZ).aB:=by rw [<- fT]
  have rV:(0:Int)=(jm dx l aH kZ).Sum:=by rw [<- fT]
  have xW:(0:Int)=(jm dx l aH kZ).jM:=by rw [<- fT]
  have zX:(0:Int)=(jm dx l aH kZ).To:=by rw [<- fT]
  have hq8:(0:Int)=(jm dx l aH kZ).ji:=by rw [<- fT]
  have zG:(false:Bool)=(moveB dx l aH kZ):=by unfold moveB jm; rw [aP (by rw [lW]; decide)]; rfl
  exact⟨by rw [<- gu,<- kC,<- nC,<- rV,<- xW,<- zX,<- hq8,<- zG] <;> rfl,K7.z⟩
 try simp only [eT,dO,bK,eu,dZ,fI,bM,bV] at lW
 refine jy ?_;refine rg<|nL K6 s4 Y<|nL K6 s3 Y<|mv Y<|gU Y (ayI _ (K6.a tJ).any (K6.a jE).any (K6.a kQ).any aj) ?_
 rintro _ w8 ⟨IQ,IU,ah9,aia,rfl,h8⟩;have K8:=K6.f2 h8;have aCu:=(K8.o s0).bC;have aCv:=(K8.o s1).bC;refine mv Y<|xt Y Y<|xt Y Y<|al apf Y K8 λg6 w9 K9=>jk Y<|yD Y K9 s0 Y λOm K10=>dn<|aY (WP.lab (gy ?_))
 refine aY<|bQ Y<|nL K10 s0 Y<|gU Y (ao9 _ (K10.o s1) (K10.o s2) aj (auH l aH)) ?_
 rintro _ Va ⟨auI,ajM,ajN,auJ,ajO,ajP,rfl,h11⟩;have vM:=K10.f4 h11;have aH5:=(vM.o s2).bC;have aH6:=(vM.o s3).bC;refine dn<|cB ?_
 refine WP.range (G0:=[dW auI 41 [.slice ajM ((apg dx l aH).length) ajN],dW auJ 41 [.slice ajO ((aph dx l aH).length) ajP],aQ bW 78 ajM ajN (apg dx l aH),aQ bW 78 ajO ajP (aph dx l aH)]) Y ayW (aeV (by simp only [Ko,KH]; omega) (by simp only [Ko,KH]; omega)) ((((vM.mV 0 4).mV 8 4).mV 8 3).sel s11) (λ_=>rfl) rfl (λpre Fj=>Fj=[dW g5 112 [aI 0,aI 0,aI 0,gP 0,aI 0,aI 0,aI 0],dW g6 154 [.slice ah9 ((ig dx l aH).length) aia],aQ bW 78 IQ IU (wU l aH),aQ nO 219 ah9 aia (ig dx l aH),dW g4 112 [aI 0,aI 0,aI 0,gP 0,aI 0,aI 0,aI 0],dW g3 3 [aI kZ],dW g2 41 [.slice jU l.length jR],dW g1 42 [.slice tH dx.length tF]]/\(∀ p∈pre,(Dq dx l (ig dx l aH) kZ) p=none)) (λc pre Fj=>(c=(.exit 0)/\∃(oc:Int)(ov:Int)(os:Int)(of_:Int)(ot:Int),Fj=[dW g5 112 [aI 0,aI oc,aI ov,gP os,aI of_,aI ot,aI 0],dW g6 154 [.slice ah9 ((ig dx l aH).length) aia],aQ bW 78 IQ IU (wU l aH),aQ nO 219 ah9 aia (ig dx l aH),dW g4 112 [aI 0,aI 0,aI 0,gP 0,aI 0,aI 0,aI 0],dW g3 3 [aI kZ],dW g2 41 [.slice jU l.length jR],dW g1 42 [.slice tH dx.length tF]]/\((Xx dx l aH).findSome? (Dq dx l (ig dx l aH) kZ)=some ⟨0,oc,ov,os,of_,ot,0⟩))) (λpre x l1 Fj=>∃(UC:Nat)(Zl:Nat),l1=[(4,gI g1),(5,gI g2),(7,gI g3),(10,gI g5),(12,gI g6),(13,gI Zl),(14,gI UC)]/\Fj=[dW UC 78 [aI x.2.ID,aI x.2.mI,aI x.2.lD,aI x.2.gq],dW Zl 78 [aI x.1.ID,aI x.1.mI,aI x.1.lD,aI x.1.gq],dW g5 112 [aI 0,aI 0,aI 0,gP 0,aI 0,aI 0,aI 0],dW g6 154 [.slice ah9 ((ig dx l aH).length) aia],aQ bW 78 IQ IU (wU l aH),aQ nO 219 ah9 aia (ig dx l aH),dW g4 112 [aI 0,aI 0,aI 0,gP 0,aI 0,aI 0,aI 0],dW g3 3 [aI kZ],dW g2 41 [.slice jU l.length jR],dW g1 42 [.slice tH dx.length tF]]/\(∀ p∈pre,(Dq dx l (ig dx l aH) kZ) p=none)) ⟨rfl,by intro p hp; simp at hp⟩ ?_ ?_ ?_ ?_
 ·rintro lr pre x _ G Vb ⟨rfl,hno⟩ hpre vH;refine rg<|al sM Y vH λg7 w13 Bf=>sty Y Bf s0 Y λw14 xM=>dn<|jC<|al sM Y xM λg8 w15 BI=>sty Y BI s0 Y λw16 EB=>jD<|l8.ap ⟨g8,g7,Y,Y,hno⟩ Y EB
 ·rintro lr pre x _ _ G w17 ⟨UC,Zl,rfl,rfl,hno⟩ hpre BJ;refine cB<|rg<|nL BJ s3 Y<|j6 UC 0 mF BJ s0 Y<|nD BJ Y (vk _ (BJ.o s5) x.2.ID) λw18 JR=>bX Y<|aY ?_
  have hpb:=apc (cs:=dx) (l:=l) (aH:=aH) x.1.ID;have hpc:=apc (cs:=dx) (l:=l) (aH:=aH) x.2.ID;refine WP.dr ak ?_;have H1:=JR.grow (pW w18).drew;refine wiz H1 [(0,38,.slice ah9 ((ig dx l aH).length) aia),(1,39,gI Zl),(4,42,aI (nU (ig dx l aH) x.2.ID)),(6,44,aI kZ),(2,40,aI x.1.ID),(7,45,aI (if 1>kZ then 1 else kZ)),(3,41,aI (nU (ig dx l aH) x.1.ID)),(5,43,aI (nU (ig dx l aH) x.1.ID - nU (ig dx l aH) x.2.ID)),(8,46,.bool (decide (ah8 dx l aH x kZ))),(9,47,.bool (decide (ah8 dx l aH x kZ)))] 5 (aby ak) (Gx Y (λ_ hK=>(eF Ot Y (hK.x s3) Y))<|Gx Y (λ_ hK=>(fQ (q:=⟨Zl,0,none⟩) mF Y Y))<|Gx Y (λ_ hK=>(bq Y))<|Gx Y (λ_ hK=>(eF jN Y (hK.x s7) Y))<|Gx Y (λ_ hK=>(eF jN Y (hK.x s1) Y))<|Gx Y (λ_ hK=>(Ev.max2 Y Y))<|qcz Y (Qi.call Y Y Y ah4 (λ_ hK=>(vk _ (hK.o s5) x.1.ID).mono (by rintro _ _ ⟨rfl,gu⟩; exact⟨rfl,hK.grow gu.ext⟩)))<|Gx rfl (λ_ hK=>(Uw rfl rfl))<|Gx rfl (λ_ hK=>(u7 rfl rfl))<|Gx rfl (λ_ hK=>(bq rfl))<|qnz) λw19 EC=>?_
  cases aCw:decide (ah8 dx l aH x kZ) with
  | true=>
   have aCx:=iY aCw;refine wiz EC [(10,48,undef),(11,49,undef),(12,50,undef),(13,51,undef),(14,52,.bool true)] 0 ak (zV Y<|zV Y<|zV Y<|zV Y<|Gx Y (λ_ hK=>(dM Y Y))<|qnz) λw20 Gy=>?_;refine WI.dn ak<|bP Y (λ_h=>?_) nofun
   refine sP (mY (um ?_));exact l8.rn ⟨Y,by refine abR hno ?_; first | exact Xy apj aj | (unfold Dq; rw [aS aj])⟩ (Gy.cU 0 2)
  | false=>
   have aCx:=jS aCw;refine wiz EC [(10,48,aI (nU (ig dx l aH) x.2.ID)),(11,49,.pointer (some ⟨UC,2,none⟩)),(12,50,aI x.2.lD),(13,51,.bool (decide (x.2.lD<=nU (ig dx l aH) x.2.ID))),(14,52,.bool (decide (x.2.lD<=nU (ig dx l aH) x.2.ID)))] 0 ak (NG Y (λ_ hK=>(bq Y))<|NG Y (λ_ hK=>(fQ (q:=⟨UC,2,none⟩) MW Y Y))<|NG Y (λ_ hK=>(eF jN Y (hK.x s0) Y))<|NG Y (λ_ hK=>(qD Y Y))<|Gx Y (λ_ hK=>(dS Y Y))<|qnz) λw21 IV=>?_;refine WI.dn ak<|mZ Y (λaH7=>?_) (λaH7=>?_)
   ·refine sP (mY (um ?_));exact l8.rn ⟨Y,by refine abR hno ?_; first | exact Xy apj aj | (unfold Dq; rw [aS aj])⟩ (IV.cU 0 2)
   refine jy ?_;refine rg<|nL IV s9 Y<|ev (eX iV Y)<|mv Y<|dn<|cB<|Lp IV (λl0 rk mJ lJ wJ=>∃(k:Nat),lJ=(55,aI ((k:Nat):Int))::l0/\mJ=dx.length - k/\k<=dx.length/\(∀ c∈dx.take k,Bn c l x.1.ID x.2.ID=false)/\Hp w S0 wJ rk) ⟨0,Y,Y,fE _,av,IV⟩ rfl ?_
   rintro _ _ w22 ⟨k,rfl,rfl,hk,apj,GR⟩;refine rg<|ev (fD Y Y)<|dn<|pG Y (λaH8=>?_) (λaH8=>?_)
   ·refine jy ?_;refine aY<|cB<|rg ?_
    obtain⟨x1,bN⟩:=bn (xs:=dx) (i:=k) aj;refine ev (eP (i:=k) iV qy Y Y Y (aM bN) ((GR.a tJ).some_ bN)) ?_;obtain⟨B1,d1,zF,hi1⟩:=zW (tJ.row bN);refine ev (iU (cs:=[aI x1.ID,aI x1.aB,gP x1.Sum,.slice B1 x1.aC.length d1]) pQ Y Y (FE (λj u hu=>GR.ext.cell (zF j u hu))))<|al lX Y GR λg9 w23 JU=>sty Y JU s0 Y λw24 pK=>dn<|rg<|ev (fK pQ Y Y (pK.x s0))<|nL pK s9 Y<|j6 Zl 0 mF pK s2 Y<|j6 UC 0 mF pK s1 Y<|nD pK Y (auE _ x1 (pK.a hi1).any (pK.a jE).any x.1.ID x.2.ID aj (hh _ (bZ bN))) λw25 Ea=>dn<|bP Y (λaib=>?_) (λaib=>?_)
    ·refine rg<|j6 g9 0 qN Ea s0 Y<|j6 g9 1 sJ Ea s0 Y<|j6 g9 2 Iz Ea s0 Y<|j6 Zl 0 mF Ea s2 Y<|j6 UC 0 mF Ea s1 Y<|ev (jX (vs:=[(0,aI 0),(1,aI x1.ID),(2,aI x1.aB),(3,gP x1.Sum),(4,aI x.1.ID),(5,aI x.2.ID)]) (cs:=[aI 0,aI x1.ID,aI x1.aB,gP x1.Sum,aI x.1.ID,aI x.2.ID,aI 0]) Y (by apply Gn))<|sty rfl Ea s3 rfl λw26 NK=>dn<|sP (NV rfl (mY (mY (NV rfl (NV rfl ?_)))))
     exact l8.rx ⟨Y,x1.ID,x1.aB,x1.Sum,x.1.ID,x.2.ID,Y,by exact apb hpre hno (ame (by rintro(h | h) <;> omega) apj bN aib)⟩ (NK.cU 1 3)
    refine Ci ?_;refine jC<|ev (dP Y Y)<|mv Y<|jD<|dG ⟨(k+1),Y,Y,aj,by exact nY (q:=λc=>Bn c l x.1.ID x.2.ID=false) apj bN aib,(Ea.rm s0)⟩ rfl aj
   refine sP (mY (mY (um (iw ?_))));exact l8.rn ⟨Y,by refine abR hno ?_; first | exact Xy apj aj | (unfold Dq; rw [aS aj])⟩ (GR.cU 0 2)
 ·rintro D _ w27 ⟨rfl,hno⟩ Ou;refine iw (gy ?_);refine He Ou (λ_ K=>(K.rm s9)) (λl0 rk lJ wJ=>lJ=(9,.bool (decide (0<0)))::l0/\Hp w S0 wJ (dW g4 112 [aI 0,aI 0,aI 0,gP 0,aI 0,aI 0,aI 0]::rk)) (λhns H2=>?_) ?_
  ·have k1:=(H2.rm s9);refine l9 0 Y (λ_ hK=>fK wF Y Y (hK.x s5)) k1<|nJ 1 2 g5 1 tL s5 Y k1<|l9 3 Y (λ_ _=>sQ Y Y) k1<|O1 4 Y<|sty Y H2 s9 Y λw28 GU=>?_
   have k2:=(GU.rm s0);refine aO k2<|xL 5 Y Y k2<|Dn ⟨Y,GU⟩ Y
  rintro _ w29 ⟨rfl,Ii⟩;refine jf (l8.ahN (l8.alJ ((Ii.sel s0).sel s1) Y λw30 Gz=>⟨_,⟨_,_,Y,⟨_,Y,kK (cs:=[aI 0,aI 0,aI 0,gP 0,aI 0,aI 0,aI 0]) wF Y (Gz.x s0)⟩,⟨_,_,Y,Y,Y⟩⟩,?_⟩));have vg:((⟨0,0,0,0,0,0,0⟩:aK):aK)=(jm dx l aH kZ):=by unfold jm; rw [aS lW,show(Xx dx l aH).findSome? (Dq dx l (ig dx l aH) kZ)=none from ah7.2 hno]; rfl
  have hq11:(0:Int)=(jm dx l aH kZ).Kind:=by rw [<- vg]
  have hq12:(0:Int)=(jm dx l aH kZ).aD:=by rw [<- vg]
  have aic:(0:Int)=(jm dx l aH kZ).aB:=by rw [<- vg]
  have aie:(0:Int)=(jm dx l aH kZ).Sum:=by rw [<- vg]
  have apl:(0:Int)=(jm dx l aH kZ).jM:=by rw [<- vg]
  have apm:(0:Int)=(jm dx l aH kZ).To:=by rw [<- vg]
  have apn:(0:Int)=(jm dx l aH kZ).ji:=by rw [<- vg]
  have apo:(decide (0<0):Bool)=(moveB dx l aH kZ):=by unfold moveB jm; rw [aS lW,show(Xx dx l aH).findSome? (Dq dx l (ig dx l aH) kZ)=none from ah7.2 hno]; rfl
  exact⟨by rw [apo,<- hq11,<- hq12,<- aic,<- aie,<- apl,<- apm,<- apn] <;> rfl,Gz.z⟩
 ·rintro D c pre F w31 (⟨rfl,oc,ov,os,of_,ot,rfl,hfs⟩) NZ;refine sP (um (gy ?_));refine He NZ (λ_ K=>(K.rm s9)) (λl0 rk lJ wJ=>lJ=(9,.bool (decide (0<oc)))::l0/\Hp w S0 wJ (dW g4 112 [aI 0,aI oc,aI ov,gP os,aI of_,aI ot,aI 0]::rk)) (λhns H3=>?_) ?_
  ·have k3:=(H3.rm s9);refine l9 0 Y (λ_ hK=>fK wF Y Y (hK.x s5)) k3<|nJ 1 2 g5 1 tL s5 Y k3<|l9 3 Y (λ_ _=>sQ Y Y) k3<|O1 4 Y<|sty Y H3 s9 Y λw32 Ph=>?_
   have k4:=(Ph.rm s0);refine aO k4<|xL 5 Y Y k4<|Dn ⟨Y,Ph⟩ Y
  rintro _ w33 ⟨rfl,Vo⟩;refine jf (l8.ahN (l8.alJ ((Vo.sel s0).sel s1) Y λw34 K34=>⟨_,⟨_,_,Y,⟨_,Y,kK (cs:=[aI 0,aI oc,aI ov,gP os,aI of_,aI ot,aI 0]) wF Y (K34.x s0)⟩,⟨_,_,Y,Y,Y⟩⟩,?_⟩));have aif:((⟨0,oc,ov,os,of_,ot,0⟩:aK):aK)=(jm dx l aH kZ):=by unfold jm; rw [aS lW,hfs]; rfl
  have aH9:(0:Int)=(jm dx l aH kZ).Kind:=by rw [<- aif]
  have aIa:(oc:Int)=(jm dx l aH kZ).aD:=by rw [<- aif]
  have aIb:(ov:Int)=(jm dx l aH kZ).aB:=by rw [<- aif]
  have aIc:(os:Int)=(jm dx l aH kZ).Sum:=by rw [<- aif]
  have aId:(of_:Int)=(jm dx l aH kZ).jM:=by rw [<- aif]
  have aIe:(ot:Int)=(jm dx l aH kZ).To:=by rw [<- aif]
  have aIf:(0:Int)=(jm dx l aH kZ).ji:=by rw [<- aif]
  have aIg:(decide (0<oc):Bool)=(moveB dx l aH kZ):=by unfold moveB jm; rw [aS lW,hfs]; rfl
  exact⟨by rw [aIg,<- aH9,<- aIa,<- aIb,<- aIc,<- aId,<- aIe,<- aIf] <;> rfl,K34.z⟩
structure bf where
  aD:Int
  aB:Int
  jM:Int
  To:Int
  ji:Int
  deriving DecidableEq
def bf.enc(x:bf):List Value:=[.int .i64 x.aD,.int .i64 x.aB,.int .i64 x.jM,.int .i64 x.To,.int .i64 x.ji]
theorem bf.mD(x:bf):∀ u∈x.enc,u.oneCell'=true:=by
  intro u hu
  simp only [bf.enc,iR,mP,tq] at hu
  rcases hu with rfl | rfl | rfl | rfl | rfl <;> rfl
def dz:Ty bf:=Ty.flat 5 bf.enc au (λ_=>rfl) bf.mD
instance:Flat dz:=⟨λh=>h⟩
def tN(n:Int):Bool:=decide (1<=n)&&decide (n<=16)
def Ov(x:bf):Bool:=tN x.jM&&tN x.To&&!decide (x.jM=x.To)&&decide (1<=x.aD)&&decide (1<=x.aB)&&decide (0<=x.ji)&&decide (x.ji<=1099511627776)
def sends(l:List bf)(id:Int):Nat:=l.countP λx=>decide (x.jM=id)
def takes(l:List bf)(id:Int):Nat:=l.countP λx=>decide (x.To=id)
theorem IW{l:List bf}{x:bf}(h:l[k]? = some x)(id:Int):sends (l.take (k+1)) id=sends (l.take k) id+if x.jM=id then 1 else 0:=by
  rw [fC h]; simp [sends,SS,List.countP_cons]
theorem IX{l:List bf}{x:bf}(h:l[k]? = some x)(id:Int):takes (l.take (k+1)) id=takes (l.take k) id+if x.To=id then 1 else 0:=by
  rw [fC h]; simp [takes,SS,List.countP_cons]
theorem ED(l:List bf)(id:Int):sends l id<=l.length:=Wx
theorem Le(l:List bf)(id:Int):takes l id<=l.length:=Wx
theorem BK(l:List bf)(k:Nat)(id:Int):sends (l.take k) id<=k:=lI (ED _ _) (by simp only [iF]; omega)
theorem BL(l:List bf)(k:Nat)(id:Int):takes (l.take k) id<=k:=lI (Le _ _) (by simp only [iF]; omega)
def Bo(l:List bf)(aN to:Int):Int:=idxOf (λx=>decide (x.aD=aN)&&decide (x.To=to)) l
def p8(l:List bf)(x:bf)(dD all:Int):Int:=
  if Ov x=false then 1 else if 0<=Bo l x.aD x.To then 6 else if all<=l.length∨dD<=sends l x.jM∨dD<=takes l x.To then 7 else 0
def vO(l:List bf)(x:bf)(dD all:Int):List bf:=if p8 l x dD all=0 then l++[x] else[]
def inB(aJ:Int)(x:bf):Bool:=!decide (x.ji<aJ)
def Ox(aJ:Int)(x:bf):Bool:=decide (x.ji<aJ)
theorem P9{xs:List α}{x:α}(h:xs[k]? = some x):(xs.take (k+1)).filter p=(xs.take k).filter p++if p x then[x] else[]:=by
  rw [fC h,Bz]
  cases hp:p x <;> simp [hp]
theorem ajS(p:α->Bool)(xs:List α)(k:Nat):((xs.take k).filter p).length<=k:=lI (ni _ _) (by simp only [iF]; omega)
def auO(l:List bf)(dD:Int)(i:Nat)(x:bf):Bool:=Ov x&&decide (Bo l x.aD x.To=(i:Int))&&decide ((sends l x.jM:Int)<=dD)&&decide ((takes l x.To:Int)<=dD)
def IY(l:List bf)(dD all:Int):Bool:=ahF (auO l dD) l&&decide ((l.length:Int)<=all)
def Lh(l:List bf)(dD n:Int):Bool:=decide ((sends l n:Int)<dD)
def Bq(l:List bf)(yC:List Int)(dD:Int):Int:=match yC.find? (Lh l dD) with | some n=>n | none=>0
def EF(l:List bf)(yC:List Int)(dD:Int):Bool:=(yC.find? (Lh l dD)).isSome
theorem Oy{α:Type}{p:α->Bool}:∀ {xs:List α} {k:Nat} {x:α},(∀ y∈xs.take k,p y=false)->xs[k]? = some x->p x=true->xs.find? p=some x
  | [],k,x,_,h,_=>by simp at h
  | y::xs,0,x,_,h,hp=>by simp at h; subst h; simp [List.find?,hp]
  | y::xs,k+1,x,h0,h,hp=>by
    have h1:=h0 y av;have h2:=Oy (xs:=xs) (k:=k) (x:=x) (λz hz=>h0 z (by simp [hz])) (by simpa using h) hp
    simp [List.find?,h1,h2]
theorem Xz{xs:List α}(h:∀ y∈xs,p y=false):xs.find? p=none:=by
  rw [Gl]; intro x hx; simp [h x hx]
theorem Qb:dL prog 117 2 2:=ay
theorem ay0:bJ prog 159:=ay
theorem xZ:dL prog 117 3 3:=ay
theorem Qc:dL prog 117 0 0:=ay
theorem apq:dL prog 117 1 1:=ay
theorem XA:dL prog 117 4 4:=ay
theorem Gp:Size prog 117 5:=ay
theorem IZ:Z9 prog 117 5:=⟨λ_=>by kernel_rfl,Gp⟩
theorem Qd:∀ w,(zeroValue 117).run prog w=.ok (.agg #[aI 0,aI 0,aI 0,aI 0,aI 0]) w:=ay
theorem ay1:bJ prog 161:=ay
theorem apr  : ∀ w,(Instr.buildSlice 48 0 (List.toArray [])).run prog w=.ok (.slice (some ⟨w.heap.size,0,none⟩) 0 0) (w.alloc (.cells (List.toArray []) 117)):=ay
theorem SX:lY prog 117 5 40:=by
  obtain⟨i,h1,h2,h3,h4⟩:=uJ (show(prog.info? 117).map (λi=>(i.zero,i.size,i.bytes))=some (some (.agg #[aI 0,aI 0,aI 0,aI 0,aI 0]),5,40) by kernel_rfl);exact⟨i,_,h1,h2,h3,h4,Y⟩
theorem BQ(a0:Int)(a1:Int)(a2:Int)(a3:Int)(a4:Int):∀ w,(Instr.buildSlice 48 1 (List.toArray [(0,.agg #[aI a0,aI a1,aI a2,aI a3,aI a4])])).run prog w=.ok (.slice (some ⟨w.heap.size,0,none⟩) 1 1) (w.alloc (.cells (List.toArray [aI a0,aI a1,aI a2,aI a3,aI a4]) 117)):=ay
theorem aau(w:World)(id:Int) :
    bO prog 159 #[aI id] w λv w'=>v=.bool (tN id)/\Hp w S0 w' []:=by
 refine lg S0 func159 ntmps159 Y λH0=>iT Y<|bQ Y<|ev (qD Y Y)<|mv Y<|iO 3 8 ((decide (1<=id))&&(decide (id<=16))) ?_ ?_
 ·cases hb5:decide (1<=id) with
  | true=>
   refine bE Y (bq Y) Y<|bE Y (u7 Y Y) Y<|ev (dM Y Y)<|dJ Y
  | false=>
   refine dN<|dN<|ev (dS Y Y)<|dJ Y
 refine bX Y<|iP Y ?_
 exact⟨by skip <;> rfl,H0⟩
theorem aps(w:World)(x:bf) :
    bO prog 91 #[.agg #[aI x.aD,aI x.aB,aI x.jM,aI x.To,aI x.ji]] w λv w'=>v=.bool (Ov x)/\Hp w S0 w' []:=by
 refine lg S0 func91 ntmps91 Y λH0=>rg<|bx Y Y H0 λg1 w1 K1=>bX Y<|rg<|j6 g1 2 Qb K1 s0 Y<|nD K1 Y (aau (S0:=Any) _ x.jM) λw2 K2=>mv Y<|pF 4 10 ((tN x.jM)&&(tN x.To)) ?_ ?_
 ·cases hb6:tN x.jM with
  | true=>
   refine wB g1 3 xZ K2 s0 Y<|oD Y Y Y Y ay0 (aau (S0:=Any) _ x.To) Y ?_
   rintro _ w3 ⟨rfl,h3⟩;refine ev (dM Y Y)<|jo Y h3.ext
  | false=>
   refine dN<|dN<|dN<|ev (dS Y Y)<|jo Y (pW _)
 intro w4 e4;have K4:=K2.grow e4;refine mv Y<|iO 6 17 (((tN x.jM)&&(tN x.To))&&(!decide (x.jM=x.To))) ?_ ?_
 ·cases SH:((tN x.jM)&&(tN x.To)) with
  | true=>
   have KY:=SH
   try simp only [bK,eu,bM,bV] at KY
   refine wB g1 2 Qb K4 s0 Y<|wB g1 3 xZ K4 s0 Y<|bE Y (rY Y Y) Y<|ev (dM Y Y)<|dJ Y
  | false=>
   refine dN<|dN<|dN<|dN<|dN<|ev (dS Y Y)<|dJ Y
 refine mv Y<|iO 4 22 ((((tN x.jM)&&(tN x.To))&&(!decide (x.jM=x.To)))&&(decide (1<=x.aD))) ?_ ?_
 ·cases ayv:(((tN x.jM)&&(tN x.To))&&(!decide (x.jM=x.To))) with
  | true=>
   have aw5:=ayv
   try simp only [eT,dO,bK,eu,dZ,fI,bM,bV] at aw5
   refine wB g1 0 Qc K4 s0 Y<|bE Y (qD Y Y) Y<|ev (dM Y Y)<|dJ Y
  | false=>
   refine dN<|dN<|dN<|ev (dS Y Y)<|dJ Y
 refine mv Y<|iO 4 27 (((((tN x.jM)&&(tN x.To))&&(!decide (x.jM=x.To)))&&(decide (1<=x.aD)))&&(decide (1<=x.aB))) ?_ ?_
 ·cases aIh:((((tN x.jM)&&(tN x.To))&&(!decide (x.jM=x.To)))&&(decide (1<=x.aD))) with
  | true=>
   have aCy:=aIh
   try simp only [eT,dO,bK,eu,dZ,fI,bM,bV] at aCy
   refine wB g1 1 apq K4 s0 Y<|bE Y (qD Y Y) Y<|ev (dM Y Y)<|dJ Y
  | false=>
   refine dN<|dN<|dN<|ev (dS Y Y)<|dJ Y
 refine mv Y<|iO 4 32 ((((((tN x.jM)&&(tN x.To))&&(!decide (x.jM=x.To)))&&(decide (1<=x.aD)))&&(decide (1<=x.aB)))&&(decide (0<=x.ji))) ?_ ?_
 ·cases amg:(((((tN x.jM)&&(tN x.To))&&(!decide (x.jM=x.To)))&&(decide (1<=x.aD)))&&(decide (1<=x.aB))) with
  | true=>
   have aCz:=amg
   try simp only [eT,dO,bK,eu,dZ,fI,bM,bV] at aCz
   refine wB g1 4 XA K4 s0 Y<|bE Y (qD Y Y) Y<|ev (dM Y Y)<|dJ Y
  | false=>
   refine dN<|dN<|dN<|ev (dS Y Y)<|dJ Y
 refine mv Y<|iO 4 37 (((((((tN x.jM)&&(tN x.To))&&(!decide (x.jM=x.To)))&&(decide (1<=x.aD)))&&(decide (1<=x.aB)))&&(decide (0<=x.ji)))&&(decide (x.ji<=1099511627776))) ?_ ?_
 ·cases ay2:((((((tN x.jM)&&(tN x.To))&&(!decide (x.jM=x.To)))&&(decide (1<=x.aD)))&&(decide (1<=x.aB)))&&(decide (0<=x.ji))) with
  | true=>
   have aCA:=ay2
   try simp only [eT,dO,bK,eu,dZ,fI,bM,bV] at aCA
   refine wB g1 4 XA K4 s0 Y<|bE Y (u7 Y Y) Y<|ev (dM Y Y)<|dJ Y
  | false=>
   refine dN<|dN<|dN<|ev (dS Y Y)<|dJ Y
 refine bX Y<|iP Y ?_
 exact⟨by skip <;> rfl,(K4.rm s0)⟩
theorem Qe(w:World){l:List bf}(jE:Sl dz S0 w jU jR l)(id:Int)(hn:l.length<=100) :
    bO prog 158 #[.slice jU l.length jR,aI id] w λv w'=>v=.complex .f64 (fb (sends l id)) (fb (takes l id))/\Hp w S0 w' []:=by
 refine lg S0 func158 ntmps158 Y λH0=>iT Y<|iT Y<|aY<|bQ Y<|ev (eX oI Y)<|mv Y<|dn<|cB ?_
 have fT:(.complex .f64 0 0:Value)=.complex .f64 (fb (sends (l.take 0) id)) (fb (takes (l.take 0) id)):=by simp [sends,takes,fb,ajw]
 refine lF (t:=5) Y fT ?_;have gu:(0:Int)=((0:Nat):Int):=by simp
 refine lF (t:=10) Y (aV (Value.int .i64) gu)<|qZ (λmJ lJ wJ=>∃(k:Nat),lJ=[(1,aI id),(5,.complex .f64 (fb (sends (l.take k) id)) (fb (takes (l.take k) id))),(8,.slice jU l.length jR),(9,aI ((l.length:Nat):Int)),(10,aI ((k:Nat):Int))]/\mJ=l.length - k/\k<=l.length/\Hp w S0 wJ []) ⟨0,Y,Y,fE _,H0⟩ Y ?_
 rintro _ _ w1 ⟨k,rfl,rfl,hk,K1⟩;refine rg<|ev (fD Y Y)<|dn<|pG Y (λy7=>?_) (λy7=>?_)
 ·refine jy ?_;refine aY<|cB<|rg ?_
  obtain⟨x1,bN⟩:=bn (xs:=l) (i:=k) aj;refine ev (eP (i:=k) oI Gp Y Y Y (aM bN) ((K1.a jE).some_ bN))<|ev (iU IZ Y Y ((K1.a jE).fF bN))<|al Qd Y K1 λg1 w2 K2=>sty Y K2 s0 Y λw3 K3=>dn<|aY<|rg<|j6 g1 2 Qb K3 s0 Y<|mv Y<|ev (iM Y Y)<|dn<|mZ Y (λhc17=>?_) (λhc17=>?_)
  ·refine jC<|mv Y<|ev (Ev.aub Y Y (abq _ (by have:=BK l k id; have:=BL l k id; omega)) (Vj _ (by have:=BK l k id; have:=BL l k id; omega)))<|jk rfl<|jD<|gy<|rg<|j6 g1 3 xZ K3 s0 rfl<|mv rfl<|ev (iM rfl rfl)<|dn<|bP rfl (λqP=>?_) (λqP=>?_)
   ·replace qP:=iY qP;refine jC<|mv Y<|ev (Ev.aub Y Y (Vj _ (by have:=BK l k id; have:=BL l k id; omega)) (abq _ (by have:=BK l k id; have:=BL l k id; omega)))<|jk rfl<|jD<|iw (gy ?_)
    refine jC<|ev (dP Y Y)<|mv Y<|jD ?_
    have kC:(.complex .f64 (fb (sends (l.take k) id+1)) (fb (takes (l.take k) id+1)):Value)=.complex .f64 (fb (sends (l.take (k+1)) id)) (fb (takes (l.take (k+1)) id)):=by rw [IW bN,IX bN]; simp [hc17,qP]
    refine jq (t:=5) Y kC ?_;have nC:(((k+1:Nat):Int):Int)=(((k+1):Nat):Int):=by simp
    refine jq (t:=10) Y (aV (Value.int .i64) nC)<|dG ⟨(k+1),Y,Y,aj,(K3.rm s0)⟩ rfl aj
   replace qP:=jS qP;refine Ci ?_;refine jC<|ev (dP Y Y)<|mv Y<|jD ?_
   have rV:(.complex .f64 (fb (sends (l.take k) id+1)) (fb (takes (l.take k) id)):Value)=.complex .f64 (fb (sends (l.take (k+1)) id)) (fb (takes (l.take (k+1)) id)):=by rw [IW bN,IX bN]; simp [hc17,qP]
   refine jq (t:=5) Y rV ?_;have xW:(((k+1:Nat):Int):Int)=(((k+1):Nat):Int):=by simp
   refine jq (t:=10) Y (aV (Value.int .i64) xW)<|dG ⟨(k+1),Y,Y,aj,(K3.rm s0)⟩ rfl aj
  refine jy ?_;refine rg<|j6 g1 3 xZ K3 s0 Y<|mv Y<|ev (iM Y Y)<|dn<|bP Y (λqP=>?_) (λqP=>?_)
  ·replace qP:=iY qP;refine jC<|mv Y<|ev (Ev.aub Y Y (Vj _ (by have:=BK l k id; have:=BL l k id; omega)) (abq _ (by have:=BK l k id; have:=BL l k id; omega)))<|jk rfl<|jD<|iw (gy ?_)
   refine jC<|ev (dP Y Y)<|mv Y<|jD ?_
   have zX:(.complex .f64 (fb (sends (l.take k) id)) (fb (takes (l.take k) id+1)):Value)=.complex .f64 (fb (sends (l.take (k+1)) id)) (fb (takes (l.take (k+1)) id)):=by rw [IW bN,IX bN]; simp [hc17,qP]
   refine jq (t:=5) Y zX ?_;have hq8:(((k+1:Nat):Int):Int)=(((k+1):Nat):Int):=by simp
   refine jq (t:=10) Y (aV (Value.int .i64) hq8)<|dG ⟨(k+1),Y,Y,aj,(K3.rm s0)⟩ rfl aj
  replace qP:=jS qP;refine Ci ?_;refine jC<|ev (dP Y Y)<|mv Y<|jD ?_
  have zG:(.complex .f64 (fb (sends (l.take k) id)) (fb (takes (l.take k) id)):Value)=.complex .f64 (fb (sends (l.take (k+1)) id)) (fb (takes (l.take (k+1)) id)):=by rw [IW bN,IX bN]; simp [hc17,qP]
  refine jq (t:=5) Y zG ?_;have vg:(((k+1:Nat):Int):Int)=(((k+1):Nat):Int):=by simp
  refine jq (t:=10) Y (aV (Value.int .i64) vg)<|dG ⟨(k+1),Y,Y,aj,(K3.rm s0)⟩ rfl aj
 refine xq ?_;refine bQ Y<|bX Y<|iP Y ?_
 have hq11:(.complex .f64 (fb (sends (l.take k) id)) (fb (takes (l.take k) id)):Value)=(.complex .f64 (fb (sends l id)) (fb (takes l id))):=by rw [gV aj]
 exact⟨by rw [hq11] <;> rfl,K1⟩
theorem XB(w:World){l:List bf}(jE:Sl dz S0 w jU jR l)(id:Int)(hn:l.length<=100) :
    bO prog 90 #[.slice jU l.length jR,aI id] w λv w'=>v=.tuple #[aI ((sends l id:Nat):Int),aI ((takes l id:Nat):Int)]/\Hp w S0 w' []:=by
 refine lg S0 func90 ntmps90 Y λH0=>rg<|jk Y<|bX Y<|bQ Y<|mv Y<|nD H0 Y (Qe _ (H0.a jE).any id aj) λw1 K1=>bX Y<|bQ Y<|ev (Ev.real Y)<|ev (Ev.aBT ⟨_,abP⟩ iJ Y (aou _ (by have:=ED l id; have:=Le l id; omega)) (by have:=ED l id; have:=Le l id; omega))<|mv rfl<|ev (Ev.imag rfl)<|ev (Ev.aBT ⟨_,abP⟩ iJ rfl (aou _ (by have:=ED l id; have:=Le l id; omega)) (by have:=ED l id; have:=Le l id; omega))<|jk rfl<|bX rfl<|iP rfl ?_
 exact⟨Y,K1⟩
theorem Qf(w:World){vF:Nat}{s:List bf}(nA:Sl dz S0 w wT vF s){BF:FuncId}{Fz:List Value}(NH:bJ prog BF)(f:bf->Bool)(NI:∀(w':World)(x:bf),Ext w w'->x∈s->bO prog BF (([.agg #[aI x.aD,aI x.aB,aI x.jM,aI x.To,aI x.ji]]:List Value)++Fz).toArray w' λv w''=>v=.bool (f x)/\Ext w' w'') :
    bO prog 160 #[.slice wT s.length vF,.func (.func BF) #[] Fz.toArray] w λv w'=>v=aI (idxOf f s)/\Hp w S0 w' []:=by
 refine lg S0 func160 ntmps160 Y λH0=>?_;have Sv:=nA.bC;refine iT Y<|aY<|bQ Y<|ev (eX oI Y)<|mv Y<|dn<|cB<|Lp H0 (λl0 rk mJ lJ wJ=>∃(k:Nat),lJ=(8,aI ((k:Nat):Int))::l0/\mJ=s.length - k/\k<=s.length/\(∀ y∈s.take k,f y=false)/\Hp w S0 wJ rk) ⟨0,Y,Y,fE _,av,H0⟩ rfl ?_
 rintro _ _ w1 ⟨k,rfl,rfl,hk,hno,K1⟩;refine rg<|ev (fD Y Y)<|dn<|pG Y (λFg=>?_) (λFg=>?_)
 ·refine jy ?_;refine aY<|cB<|bQ Y<|bX Y<|bQ Y<|mv Y<|mv Y ?_
  obtain⟨x1,bN⟩:=bn (xs:=s) (i:=k) aj;refine ev (eP (i:=k) oI Gp Y Y Y (aM bN) ((K1.a nA).some_ bN))<|ev (iU IZ Y Y ((K1.a nA).fF bN))<|zq Y Y Y NH (NI _ x1 K1.ext (bZ bN)) Y ?_
  rintro _ w2 ⟨rfl,e2⟩;have K2:=K1.grow e2;refine dn<|bP Y (λhc16=>?_) (λhc16=>?_)
  ·refine bQ Y<|bX Y<|jf (iX (fO (fO (iX (fO (xV Y ?_))))))
   exact⟨by rw [<- rF hno bN hc16] <;> rfl,K2⟩
  refine Ci ?_;refine jC<|ev (dP Y Y)<|mv Y<|jD<|dG ⟨(k+1),Y,Y,aj,by exact nY hno bN hc16,K2⟩ rfl aj
 refine xq ?_;refine iT Y<|iP Y ?_
 exact⟨by rw [uG (wo hno aj)] <;> rfl,K1⟩
theorem aii(w:World)(x:bf){Qg:Nat}(aN:Int)(abU:Bx w Qg 3 [aI aN]){aw9:Nat}(nV:Int)(aCB:Bx w aw9 3 [aI nV]) :
    bO prog 161 #[.agg #[aI x.aD,aI x.aB,aI x.jM,aI x.To,aI x.ji],gI Qg,gI aw9] w λv w'=>v=.bool (decide (x.aD=aN)&&decide (x.To=nV))/\Hp w S0 w' []:=by
 refine lg S0 func161 ntmps161 Y λH0=>rg<|bx Y Y H0 λg1 w1 K1=>bX Y<|rg<|j6 g1 0 Qc K1 s0 Y<|ev (eF jN Y (abU.ext K1.ext) Y)<|ev (iM Y Y)<|mv Y<|iO 5 14 ((decide (x.aD=aN))&&(decide (x.To=nV))) ?_ ?_
 ·cases hb9:decide (x.aD=aN) with
  | true=>
   refine wB g1 3 xZ K1 s0 Y<|bE Y (eF jN Y (aCB.ext K1.ext) Y) Y<|bE Y (iM Y Y) Y<|ev (dM Y Y)<|dJ Y
  | false=>
   refine dN<|dN<|dN<|dN<|ev (dS Y Y)<|dJ Y
 refine bX Y<|iP Y ?_
 have fT:(((decide (x.aD=aN))&&(decide (x.To=nV))):Bool)=(decide (x.aD=aN)&&decide (x.To=nV)):=by first | with_reducible rfl | (simp; done) | omega
 exact⟨by rw [fT] <;> rfl,(K1.rm s0)⟩
theorem aav(w:World){l:List bf}(jE:Sl dz S0 w jU jR l)(aN:Int)(nV:Int) :
    bO prog 92 #[.slice jU l.length jR,aI aN,aI nV] w λv w'=>v=aI (Bo l aN nV)/\Hp w S0 w' []:=by
 refine lg S0 func92 ntmps92 Y λH0=>rg<|bx Y Y H0 λg1 w1 K1=>bx Y Y K1 λg2 w2 K2=>bX Y<|bQ Y<|ev (rE Y)<|nD K2 Y (Qf _ (K2.a jE).any ay1 (fun(x:bf)=>decide (x.aD=aN)&&decide (x.To=nV)) (λw' x e hm=>(aii (S0:=Any) w' x aN ((K2.x s1).ext e) nV ((K2.x s0).ext e)).mono (by rintro _ _ ⟨rfl,gu⟩; exact⟨rfl,gu.ext⟩))) λw3 K3=>bX rfl<|iP rfl ?_
 exact⟨by skip <;> rfl,K3.z⟩
theorem BR(w:World){vF:Nat}{s:List bf}(nA:Sl dz S0 w wT vF s)(hn:s.length<=1000000) :
    bO prog 66 #[.slice wT s.length vF] w λv w'=>∃(A0:ah)(c0:Nat),v=.slice A0 s.length c0/\Hp w S0 w' [aQ dz 117 A0 c0 s]:=by
 refine lg S0 func66 ntmps66 Y λH0=>iT Y<|aY<|bQ Y<|ev (NW oI Y Y)<|dn<|bP Y (λhc4=>?_) (λhc4=>?_)
 ·refine iT Y<|wO Y ?_
  have H1:=H0.nil dz 117;have fT:(([]:List bf):List bf)=s:=by have h1:=nA.nil (by simpa using hc4); have h2:=nA.cap; exact(qF aj).symm
  have H2:=(fT▸H1:Hp w S0 w (aQ dz 117 none 0 s::[]));exact⟨none,0,by rw [<- fT] <;> rfl,H2⟩
 refine jy ?_;refine rg<|bs0 Y (by intro _; apply apr) rfl H0 λg1 w1 K1=>mv rfl<|ap K1 s0 rfl rfl (K1.a nA).any oI SX av (by first | omega | (simp; omega) | (simp; done)) rfl λpU pV w2 K2=>bX rfl<|iP rfl ?_
 have gu:((([]:List bf)++s):List bf)=s:=by simp
 rw [gu] at K2;exact⟨pU,pV,by rw [gu] <;> rfl,K2⟩
theorem aij(w:World){l:List bf}(jE:Sl dz S0 w jU jR l)(x:bf)(dD:Int)(all:Int)(hn:l.length<=100) :
    bO prog 331 #[.slice jU l.length jR,.agg #[aI x.aD,aI x.aB,aI x.jM,aI x.To,aI x.ji],aI dD,aI all] w λv w'=>∃(A0:ah)(c0:Nat),v=.tuple #[.slice A0 ((vO l x dD all).length) c0,aI (p8 l x dD all)]/\Hp w S0 w' [aQ dz 117 A0 c0 (vO l x dD all)]:=by
 refine lg S0 func331 ntmps331 Y λH0=>rg<|bx Y Y H0 λg1 w1 K1=>jk Y<|bX Y<|bQ Y<|j6 g1 2 Qb K1 s0 Y<|nD K1 Y (XB _ (K1.a jE).any x.jM aj) λw2 K2=>mv Y<|xt Y Y<|xt Y Y<|jk Y<|bX Y<|bQ Y<|j6 g1 3 xZ K2 s0 Y<|nD K2 Y (XB _ (K2.a jE).any x.To aj) λw3 K3=>mv Y<|xt Y Y<|xt Y Y<|jk Y<|bX Y<|aY<|cB<|rg<|ev (fK IZ Y Y (K3.x s0)) ?_
 refine nD K3 Y (aps (S0:=Any) _ x) λw4 K4=>ev (iG Y)<|bX Y<|bP Y (λhc28=>?_) (λhc28=>?_)
 ·try simp only [eT,dO,bK,eu,dZ,fI,bM,bV] at hc28
  refine rg<|jk Y<|bX Y<|Xb Y ?_
  have H1:=K4.nil dz 117;have fT:(([]:List bf):List bf)=(vO l x dD all):=by simp [vO,p8,(show Ov x=false by simpa using hc28)]
  have H2:=(fT▸H1:Hp w S0 w4 (aQ dz 117 none 0 (vO l x dD all)::[dW g1 117 [aI x.aD,aI x.aB,aI x.jM,aI x.To,aI x.ji]]));have gu:(1:Int)=(p8 l x dD all):=by simp [p8,(show Ov x=false by simpa using hc28)]
  exact⟨none,0,by rw [<- fT,<- gu] <;> rfl,(H2.rm s1)⟩
 try simp only [eT,dO,bK,eu,dZ,fI,bM,bV] at hc28
 refine bQ Y<|j6 g1 0 Qc K4 s0 Y<|j6 g1 3 xZ K4 s0 Y<|nD K4 Y (aav _ (K4.a jE).any x.aD x.To) λw5 K5=>ev (qD Y Y)<|bX Y<|mZ Y (λhc32=>?_) (λhc32=>?_)
 ·refine rg<|jk Y<|bX Y<|Xb Y ?_
  have H3:=K5.nil dz 117;have kC:(([]:List bf):List bf)=(vO l x dD all):=by have hm:Ov x=true:=(by simpa using hc28); simp [vO,p8,hm,hc32]
  have H4:=(kC▸H3:Hp w S0 w5 (aQ dz 117 none 0 (vO l x dD all)::[dW g1 117 [aI x.aD,aI x.aB,aI x.jM,aI x.To,aI x.ji]]));have nC:(6:Int)=(p8 l x dD all):=by have hm:Ov x=true:=(by simpa using hc28); simp [p8,hm,hc32]
  exact⟨none,0,by rw [<- kC,<- nC] <;> rfl,(H4.rm s1)⟩
 refine bQ Y<|ev (eX oI Y)<|mv Y<|ev (qD Y Y)<|mv Y<|iO 4 49 ((decide (all<=((l.length:Nat):Int)))||(decide (dD<=((sends l x.jM:Nat):Int)))) ?_ ?_
 ·cases ay3:decide (all<=((l.length:Nat):Int)) with
  | true=>
   refine dN<|dN<|dN<|ev (dM Y Y)<|dJ Y
  | false=>
   refine bE Y (bq Y) Y<|bE Y (bq Y) Y<|bE Y (qD Y Y) Y<|ev (dS Y Y)<|dJ Y
 refine mv Y<|iO 4 54 (((decide (all<=((l.length:Nat):Int)))||(decide (dD<=((sends l x.jM:Nat):Int))))||(decide (dD<=((takes l x.To:Nat):Int)))) ?_ ?_
 ·cases aIi:((decide (all<=((l.length:Nat):Int)))||(decide (dD<=((sends l x.jM:Nat):Int)))) with
  | true=>
   refine dN<|dN<|dN<|ev (dM Y Y)<|dJ Y
  | false=>
   have aCC:=aIi
   try simp only [eT,dO,bM,bV] at aCC
   refine bE Y (bq Y) Y<|bE Y (bq Y) Y<|bE Y (qD Y Y) Y<|ev (dS Y Y)<|dJ Y
 refine bX Y<|WP.keep' [(0,.slice jU l.length jR),(5,gI g1),(40,.bool (((decide (all<=((l.length:Nat):Int)))||(decide (dD<=((sends l x.jM:Nat):Int))))||(decide (dD<=((takes l x.To:Nat):Int)))))] Y<|bP Y (λXC=>?_) (λXC=>?_)
 ·try simp only [eT,dO,bM,bV] at XC
  refine rg<|jk Y<|bX Y<|Xb Y ?_
  have H5:=K5.nil dz 117;have rV:(([]:List bf):List bf)=(vO l x dD all):=by have hm:Ov x=true:=(by simpa using hc28); have hf:¬ 0<=Bo l x.aD x.To:=hc32; have hx:all<=l.length∨dD<=sends l x.jM∨dD<=takes l x.To:=(by simpa [or_assoc] using XC); simp [vO,p8,hm,hf,hx]
  have H6:=(rV▸H5:Hp w S0 w5 (aQ dz 117 none 0 (vO l x dD all)::[dW g1 117 [aI x.aD,aI x.aB,aI x.jM,aI x.To,aI x.ji]]));have xW:(7:Int)=(p8 l x dD all):=by have hm:Ov x=true:=(by simpa using hc28); have hf:¬ 0<=Bo l x.aD x.To:=hc32; have hx:all<=l.length∨dD<=sends l x.jM∨dD<=takes l x.To:=(by simpa [or_assoc] using XC); simp [p8,hm,hf,hx]
  exact⟨none,0,by rw [<- rV,<- xW] <;> rfl,(H6.rm s1)⟩
 try simp only [eT,dO,bM,bV] at XC
 refine Ci ?_;refine He K5 (λ_ K=>K) (λl0 rk lJ wJ=>∃(jW:ah)(jT:Nat),lJ=(8,.slice jW ((l++([x]:List bf)).length) jT)::(9,aI 0)::l0/\Hp w S0 wJ (aQ dz 117 jW jT (l++([x]:List bf))::rk)) (λhns H7=>?_) ?_
 ·refine lQ 0 Y Y H7<|l9 2 Y (λ_ hK=>fK IZ Y Y (hK.x s0)) H7<|Jn H7 (λl0 rk lJ wJ=>∃(g2:Nat)(Fq:ah)(Fv:Nat),lJ=(56,.slice Fq l.length Fv)::(58,.slice (some ⟨g2,0,none⟩) (([x]:List bf).length) 1)::l0/\Hp w S0 wJ (aQ dz 117 (some ⟨g2,0,none⟩) 1 ([x]:List bf)::aQ dz 117 Fq Fv l::rk)) 3 15 ?_ λhS1=>?_
  ·rintro _ Va ⟨g2,Fq,Fv,rfl,vM⟩;refine O1 4 Y<|ap (ys:=([x]:List bf)) vM s1 Y Y (vM.o s0) oI SX (by first | omega | (simp; omega) | (simp; done)) av rfl λXp cp2 Vb vH=>?_
   have k5:=(vH.cU 0 2);refine aO k5<|xL 5 Y Y k5<|xL 6 Y Y k5<|Dn ⟨Xp,cp2,Y,(vH.rm s1)⟩ Y
  refine O2 1 3 Y Y ?_ ?_
  ·refine gU Y (BR _ (H7.a jE).any aj) ?_;rintro _ w13 ⟨apt,apu,rfl,h13⟩;have Bf:=H7.f1 h13;have k6:=(Bf.rm s0);refine aO k6<|O1 3 Y<|Bh (τ:=dz) Y (by intro _; apply BQ) rfl Bf (λ_ _=>rfl) λg4 w14 xM=>?_
   have k7:=(xM.cU 0 2);exact Kj hS1 k7 ⟨g4,apt,apu,Y,xM⟩ Y
  ·refine Bh (τ:=dz) (x:=x) Y (by intro _; apply BQ) rfl H7 (λ_ _=>rfl) λg5 w15 BI=>?_;have k8:=(BI.rm s0);refine aO k8<|O1 1 Y<|gU Y (BR _ (BI.a jE).any aj) ?_
   rintro _ w16 ⟨XD,XE,rfl,h16⟩;have EB:=BI.f1 h16;have k9:=(EB.cU 0 2);exact Kj hS1 k9 ⟨g5,XD,XE,Y,((EB.sel s0).sel s1)⟩ Y
 rintro _ w17 ⟨jW,jT,rfl,BJ⟩;refine iP Y ?_;have zX:((l++([x]:List bf)):List bf)=(vO l x dD all):=by have hm:Ov x=true:=(by simpa using hc28); have hf:¬ 0<=Bo l x.aD x.To:=hc32; have hx:¬ (all<=l.length∨dD<=sends l x.jM∨dD<=takes l x.To):=(by simpa [not_or,and_assoc] using XC); simp [vO,p8,hm,hf,hx]
 rw [zX] at BJ;have hq8:(0:Int)=(p8 l x dD all):=by have hm:Ov x=true:=(by simpa using hc28); have hf:¬ 0<=Bo l x.aD x.To:=hc32; have hx:¬ (all<=l.length∨dD<=sends l x.jM∨dD<=takes l x.To):=(by simpa [not_or,and_assoc] using XC); simp [p8,hm,hf,hx]
 exact⟨jW,jT,by rw [zX,<- hq8] <;> rfl,(BJ.rm s1)⟩
theorem aeW(w:World){l:List bf}(jE:Sl dz S0 w jU jR l)(aJ:Int)(hn:l.length<=1000000) :
    bO prog 62 #[.slice jU l.length jR,aI aJ] w λv w'=>∃(A0:ah)(c0:Nat)(A1:ah)(c1:Nat),v=.tuple #[.slice A0 ((l.filter (inB aJ)).length) c0,.slice A1 ((l.filter (Ox aJ)).length) c1]/\Hp w S0 w' [aQ dz 117 A0 c0 (l.filter (inB aJ)),aQ dz 117 A1 c1 (l.filter (Ox aJ))]:=by
 refine lg S0 func62 ntmps62 Y λH0=>rg<|jk Y<|bX Y<|aY<|bQ Y<|ev (eX oI Y)<|mv Y<|dn<|cB ?_
 have H1:=H0.nil dz 117;have H2:=H1.nil dz 117;have fT:(([]:List bf):List bf)=((l.take 0).filter (inB aJ)):=by simp
 refine lF (t:=4) Y (aV (λz=>Value.slice none (List.length z) 0) fT) ?_;have gu:(([]:List bf):List bf)=((l.take 0).filter (Ox aJ)):=by simp
 refine lF (t:=5) Y (aV (λz=>Value.slice none (List.length z) 0) gu) ?_;have H3:=H2.nil dz 117;have H4:=(fT▸H3:Hp w S0 w (aQ dz 117 none 0 ((l.take 0).filter (inB aJ))::[aQ dz 117 none 0 [],aQ dz 117 none 0 []]));have H5:=H4.nil dz 117;have H6:=(gu▸H5:Hp w S0 w (aQ dz 117 none 0 ((l.take 0).filter (Ox aJ))::[aQ dz 117 none 0 ((l.take 0).filter (inB aJ)),aQ dz 117 none 0 [],aQ dz 117 none 0 []]));refine Lp (H6.cU 0 4) (λl0 rk mJ lJ wJ=>∃(k:Nat)(A4:ah)(c4:Nat)(A5:ah)(c5:Nat),lJ=(4,.slice A4 (((l.take k).filter (inB aJ)).length) c4)::(5,.slice A5 (((l.take k).filter (Ox aJ)).length) c5)::(10,aI ((k:Nat):Int))::l0/\mJ=l.length - k/\k<=l.length/\Hp w S0 wJ (aQ dz 117 A4 c4 ((l.take k).filter (inB aJ))::aQ dz 117 A5 c5 ((l.take k).filter (Ox aJ))::rk)) ⟨0,none,0,none,0,Y,Y,fE _,(((H6.cU 2 2).sel s0).sel s1)⟩ Y ?_;rintro _ _ w1 ⟨k,A4,c4,A5,c5,rfl,rfl,hk,K1⟩;refine rg<|ev (fD Y Y)<|dn<|pG Y (λy7=>?_) (λy7=>?_)
 ·refine jy ?_;refine aY<|cB<|rg ?_
  obtain⟨x1,bN⟩:=bn (xs:=l) (i:=k) aj;refine ev (eP oI Gp Y Y Y (aM bN) ((K1.a jE).some_ bN))<|ev (iU IZ Y Y ((K1.a jE).fF bN))<|al Qd Y K1 λg1 w2 K2=>sty Y K2 s0 Y λw3 K3=>dn<|aY<|rg<|j6 g1 4 XA K3 s0 Y<|mv Y<|ev (fD Y Y)<|dn<|mZ Y (λhc17=>?_) (λhc17=>?_)
  ·refine bQ Y<|ev (fK IZ Y Y (K3.x s0))<|Bh Y (by intro _; apply BQ) rfl K3 (λ_ _=>rfl) λg2 w4 K4=>ap K4 s3 rfl rfl (K4.o s0) oI SX (by have:=ajS (Ox aJ) l k; omega) av rfl λpU pV w5 K5=>bX rfl<|sP (mY (um (gy ?_)))
   refine jC<|ev (dP Y Y)<|mv Y<|jD ?_
   have kC:(((l.take k).filter (inB aJ)):List bf)=((l.take (k+1)).filter (inB aJ)):=by rw [P9 bN]; simp [inB,hc17]
   refine jq (t:=4) Y (aV (λz=>Value.slice A4 (List.length z) c4) kC) ?_;have nC:((((l.take k).filter (Ox aJ))++([x1]:List bf)):List bf)=((l.take (k+1)).filter (Ox aJ)):=by rw [P9 bN]; simp [Ox,hc17]
   refine jq (t:=5) Y (aV (λz=>Value.slice pU (List.length z) pV) nC) ?_;rw [kC] at K5;rw [nC] at K5;exact dG ⟨(k+1),A4,c4,pU,pV,Y,Y,aj,(((K5.cU 1 2).sel s0).sel s1)⟩ rfl aj
  refine jy ?_;refine jC<|mv Y<|ev (fK IZ Y Y (K3.x s0))<|Bh (τ:=dz) (x:=x1) Y (by intro _; apply BQ) rfl K3 (λ_ _=>rfl) λg3 w6 K6=>ap (ys:=([x1]:List bf)) K6 s2 rfl rfl (K6.o s0) oI SX (by have:=ajS (inB aJ) l k; omega) av rfl λXp cp2 w7 K7=>jk rfl<|jD<|iw (gy ?_)
  refine jC<|ev (dP Y Y)<|mv Y<|jD ?_
  have rV:((((l.take k).filter (inB aJ))++([x1]:List bf)):List bf)=((l.take (k+1)).filter (inB aJ)):=by rw [P9 bN]; simp [inB,hc17]
  refine jq (t:=4) Y (aV (λz=>Value.slice Xp (List.length z) cp2) rV) ?_;have xW:(((l.take k).filter (Ox aJ)):List bf)=((l.take (k+1)).filter (Ox aJ)):=by rw [P9 bN]; simp [Ox,hc17]
  refine jq (t:=5) Y (aV (λz=>Value.slice A5 (List.length z) c5) xW) ?_;rw [rV] at K7;rw [xW] at K7;exact dG ⟨(k+1),Xp,cp2,A5,c5,Y,Y,aj,(K7.cU 1 2)⟩ rfl aj
 refine xq ?_;refine bQ Y<|mv Y<|jk Y<|bX Y<|iP Y ?_
 have zX:(((l.take k).filter (inB aJ)):List bf)=(l.filter (inB aJ)):=by rw [gV aj]
 rw [zX] at K1;have hq8:(((l.take k).filter (Ox aJ)):List bf)=(l.filter (Ox aJ)):=by rw [gV aj]
 rw [hq8] at K1;exact⟨A4,c4,A5,c5,by rw [zX,hq8] <;> rfl,K1⟩
theorem amh(w:World){l:List bf}(jE:Sl dz S0 w jU jR l){abV:ah}{abW:Nat}{yC:List Int}(Qj:Sl dQ S0 w abV abW yC)(dD:Int)(hn:l.length<=65)(h0:0<=dD)(h1:dD<=64) :
    bO prog 243 #[.slice jU l.length jR,.slice abV yC.length abW,aI dD] w λv w'=>v=.tuple #[aI (Bq l yC dD),.bool (EF l yC dD)]/\Hp w S0 w' []:=by
 refine lg S0 func243 ntmps243 Y λH0=>?_;have GJ:=jE.bC;have aCD:=Qj.bC;refine rg<|jk Y<|bX Y<|WP.jumps (lb:=0) (λmJ lJ wJ=>∃(k:Nat),lJ=[(0,.slice jU l.length jR),(1,.slice abV yC.length abW),(2,aI dD),(8,aI ((k:Nat):Int))]/\mJ=yC.length - k/\(k<=yC.length)/\(∀ y∈yC.take k,Lh l dD y=false)/\Hp w S0 wJ []) Y ?_ ?_
 ·rintro _ _ w1 ⟨k,rfl,rfl,hkl,hno,K1⟩;refine aY<|bQ Y<|mv Y<|ev (eX fA Y)<|ev (iM Y Y)<|dn<|mZ Y (λnN=>?_) (λnN=>?_)
  ·refine rg<|jk Y<|bX Y<|jf (fO (l8.WJ (xV Y ?_)))
   have fT:(0:Int)=(Bq l yC dD):=by have hf:=Xz (wo hno aj); simp [Bq,hf]
   have gu:(false:Bool)=(EF l yC dD):=by have hf:=Xz (wo hno aj); simp [EF,hf]
   exact⟨by rw [<- fT,<- gu] <;> rfl,K1⟩
  refine jy ?_;refine aY<|bQ Y<|mv Y<|mv Y ?_
  obtain⟨x1,bN⟩:=bn (xs:=yC) (i:=k) aj;refine ev (eP (i:=k) fA uf Y Y Y (aM bN) ((K1.a Qj).some_ bN))<|ev (kP jN Y ((K1.a Qj).fJ (j:=0) bN Y))<|nD K1 Y (Qe _ (K1.a jE).any x1 aj) λw2 K2=>ev (Ev.real Y)<|mv Y<|ev (Ev.aHz (m:=dD.toNat) ⟨_,iJ⟩ abP Y aj)<|ev (Ev.aHA (by have:=ED l x1; omega) (by have:=ED l x1; omega) rfl rfl)<|dn<|mZ rfl (λhc22=>?_) (λhc22=>?_)
  ·refine bQ Y<|ev (dP Y Y)<|bX Y<|WP.goto (l8.Z8 ?_)
   have kC:(((k+1:Nat):Int):Int)=(((k+1):Nat):Int):=by simp
   refine jq (t:=8) Y (aV (Value.int .i64) kC)<|l8.jag ⟨(k+1),Y,Y,aj,by exact nY hno bN (by simp only [Lh,bV]; omega),K2⟩ rfl aj
  refine jy ?_;refine bQ Y<|mv Y<|ev (eP (i:=k) fA uf Y Y Y (aM bN) ((K2.a Qj).some_ bN))<|ev (kP jN Y ((K2.a Qj).fJ (j:=0) bN Y))<|jk Y<|bX Y<|jf (l8.WJ (xV Y ?_))
  have nC:(x1:Int)=(Bq l yC dD):=by have hf:=Oy hno bN (by simp only [Lh,bM]; omega); simp [Bq,hf]
  have rV:(true:Bool)=(EF l yC dD):=by have hf:=Oy hno bN (by simp only [Lh,bM]; omega); simp [EF,hf]
  exact⟨by rw [<- nC,<- rV] <;> rfl,K2⟩
 ·intro hp0;refine iT Y<|WP.kp hp0 ⟨0,Y,Y,aj,av,H0⟩ rfl
def Br(l:List aR)(aH:List Int)(aX:List fP)(cu:List Int)(bH:Int):Bool:=(((kg l bH&&decide ((gX l bH).gq=0))&&aH.contains bH)&&!cu.contains bH)&&decide (nU aX bH<(gX l bH).lD)
abbrev wZ(aX:List fP)(n:aR):Int:=if n.lD<nU aX n.ID then n.lD else nU aX n.ID
abbrev wR(old:List Int)(n:aR):Nat:=if old.contains n.mI=true then 1 else 0
theorem ajU{n:aR}{z:Int}(h:old.contains n.mI=true):Value.complex .f64 (fb 1) (wIm true z)=Value.complex .f64 (fb (wR old n)) (wIm (old.contains n.mI) z):=by
  unfold wR; rw [h,aS rfl]
theorem ajV{n:aR}{z:Int}(h:old.contains n.mI=false):Value.complex .f64 0 (fz z)=Value.complex .f64 (fb (wR old n)) (wIm (old.contains n.mI) z):=by
  unfold wR; rw [h,aP au,show fb 0=0 from ajw]; unfold wIm; rw [aP au]
theorem ay4:∀ w,(zeroValue 4).run prog w=.ok (.bool false) w:=ay
theorem ami(w:World)(jE:Sl bW S0 w jU jR l){aeP:ah}{aeQ:Nat}{ids:List Int}(Xv:Sl dQ S0 w aeP aeQ ids)(hn:l.length<=100000) :
    bO prog 264 #[.slice jU l.length jR,.slice aeP ids.length aeQ] w λv w'=>∃(g0:Nat),v=.map (some g0)/\Hp w S0 w' [aoE g0 (kW l ids)]:=by
 refine lg S0 func264 ntmps264 Y λH0=>?_;have GJ:=jE.bC;have ayL:=Xv.bC;refine iT Y<|rg<|mks H0 Y λg1 w1 K1=>bX Y<|aY<|bQ Y<|ev (eX fA Y)<|mv Y<|dn<|cB ?_
 have fT:[]=(kW l (ids.take 0)):=by rfl
 rw [fT] at K1;refine Lp (K1.rm s0) (λl0 rk mJ lJ wJ=>∃(k:Nat),lJ=(13,aI ((k:Nat):Int))::l0/\mJ=ids.length - k/\k<=ids.length/\Hp w S0 wJ (aoE g1 (kW l (ids.take k))::rk)) ⟨0,Y,Y,fE _,K1⟩ Y ?_;rintro _ _ w2 ⟨k,rfl,rfl,hk,K2⟩;refine rg<|ev (fD Y Y)<|dn<|pG Y (λrz=>?_) (λrz=>?_)
 ·refine jy ?_;refine aY<|cB<|rg ?_
  obtain⟨x1,bN⟩:=bn (xs:=ids) (i:=k) aj;refine ev (eP (i:=k) fA uf Y Y Y (aM bN) ((K2.a Xv).some_ bN))<|ev (kP jN Y ((K2.a Xv).fJ (j:=0) bN Y))<|bX Y<|bQ Y<|mv Y<|nD K2 Y (EA _ (K2.a jE).any x1 aj) λw3 K3=>mv Y<|xt Y Y<|xt Y Y<|al sM Y K3 λg2 w4 K4=>sty Y K4 s0 Y λw5 K5=>bX Y<|bQ Y<|dn<|bP Y (λqP=>?_) (λqP=>?_)
  ·refine jC<|mv Y<|j6 g2 1 PV K5 s0 Y<|aB5 K5 s1 Y Y Y abM iJ λw6 K6=>jD<|iw (gy ?_)
   refine jC<|ev (dP Y Y)<|mv Y<|jD ?_
   have gu:(Sn (kW l (ids.take k)) ((gX l x1).mI))=(kW l (ids.take (k+1))):=by rw [FL bN]; unfold aap; first | rw [aS qP] | rw [aP (by rw [qP]; decide)]
   rw [gu] at K6;exact dG ⟨(k+1),Y,Y,aj,(K6.rm s1)⟩ rfl aj
  refine Ci ?_;refine jC<|ev (dP Y Y)<|mv Y<|jD ?_
  have kC:(kW l (ids.take k))=(kW l (ids.take (k+1))):=by rw [FL bN]; unfold aap; first | rw [aS qP] | rw [aP (by rw [qP]; decide)]
  rw [kC] at K5;exact dG ⟨(k+1),Y,Y,aj,(K5.rm s0)⟩ rfl aj
 refine xq ?_;refine bQ Y<|bX Y<|iP Y ?_
 have nC:((kW l (ids.take k)):List Int)=(kW l ids):=by rw [gV aj]
 rw [nC] at K2;exact⟨g1,Y,K2⟩
theorem amj(w:World)(n:aR)(oK:Sl nO S0 w nH nG aX){axa:Nat}(aCE:w.heap[axa]? = some (.map (xS old) old.length)) :
    bO prog 265 #[.agg #[aI n.ID,aI n.mI,aI n.lD,aI n.gq],.slice nH aX.length nG,.map (some axa)] w λv w'=>v=.complex .f64 (fb (wR old n)) (wIm (old.contains n.mI) (wZ aX n))/\Hp w S0 w' []:=by
 refine lg S0 func265 ntmps265 Y λH0=>rg<|bx Y Y H0 λg1 w1 K1=>bX Y<|qU ak ak<|bB (bq Y) Y<|bB (fQ mF Y Y) Y<|bB (eF jN Y (K1.x s0) Y) Y<|KE Y Y Y ah4 (λwq eq=>(vk wq ((K1.a oK).any.ext eq) n.ID).mono (by rintro _ _ ⟨rfl,gu⟩; exact⟨rfl,gu.ext⟩)) rfl<|bB (fQ MW rfl rfl) rfl<|bB (eF jN rfl (K1.x s0) rfl) rfl<|bB (Ev.min2 rfl rfl) rfl<|bB (Ev.aB9 ⟨_,iJ⟩ abP rfl) rfl<|bB (Ev.aHV rfl rfl) rfl<|bB (pz rfl) rfl<|qV λw2 e2=>?_
 have K2:=K1.grow e2;refine aY<|bQ Y<|j6 g1 1 PV K2 s0 Y<|ev (Ev.FJ (K2.was aCE) abM iJ ay4 Y Y)<|dn<|bP Y (λlW=>?_) (λlW=>?_)
 ·refine jC<|mv Y<|ev (Ev.aub Y Y c01 (aup _))<|jk Y<|jD<|gy<|bQ Y<|bX Y<|iP Y ?_
  have fT:(.complex .f64 (fb 1) (wIm true (if n.lD<nU aX n.ID then n.lD else nU aX n.ID)):Value)=(.complex .f64 (fb (wR old n)) (wIm (old.contains n.mI) (wZ aX n))):=by first | exact ajU lW | exact ajV lW
  exact⟨by rw [fT] <;> rfl,(K2.rm s0)⟩
 refine jy ?_;refine bQ Y<|bX Y<|iP Y ?_
 have gu:(.complex .f64 0 (fz (if n.lD<nU aX n.ID then n.lD else nU aX n.ID)):Value)=(.complex .f64 (fb (wR old n)) (wIm (old.contains n.mI) (wZ aX n))):=by first | exact ajU lW | exact ajV lW
 exact⟨by rw [gu] <;> rfl,(K2.rm s0)⟩
theorem auP(w:World)(jE:Sl bW S0 w jU jR l)(kQ:Sl dQ S0 w ku kr aH)(oK:Sl nO S0 w nH nG aX){vI:ah}{vJ:Nat}{cu:List Int}(Eb:Sl dQ S0 w vI vJ cu)(bH:Int)(hn:l.length<=100000) :
    bO prog 266 #[.slice jU l.length jR,.slice ku aH.length kr,.slice nH aX.length nG,.slice vI cu.length vJ,aI bH] w λv w'=>v=.bool (Br l aH aX cu bH)/\Hp w S0 w' []:=by
 refine lg S0 func266 ntmps266 Y λH0=>iT Y<|bQ Y<|mv Y<|nD H0 Y (EA _ (H0.a jE).any bH aj) λw1 K1=>mv Y<|xt Y Y<|xt Y Y<|al sM Y K1 λg1 w2 K2=>sty Y K2 s0 Y λw3 K3=>bX Y<|qU ak ak<|bB (bq Y) Y<|bB (bq Y) Y<|qY 4 24 ((kg l bH)&&(decide ((gX l bH).gq=0))) ?_ ?_
 ·cases abG:kg l bH with
  | true=>
   refine dX Y (fQ yE Y Y) Y<|dX Y (eF jN Y (K3.x s0) Y) Y<|dX Y (iM Y Y) Y<|bB (dM Y Y) Y<|jY Y
  | false=>
   refine dI Y Y Y<|dI Y Y Y<|dI Y Y Y<|bB (dS Y Y) Y<|jY Y
 refine bB (bq Y) Y<|qY 4 29 (((kg l bH)&&(decide ((gX l bH).gq=0)))&&(aH.contains bH)) ?_ ?_
 ·cases aIj:((kg l bH)&&(decide ((gX l bH).gq=0))) with
  | true=>
   have aCF:=aIj
   try simp only [bK,eu,bM,bV] at aCF
   refine dX Y (bq Y) Y<|dX Y (bq Y) Y<|Px Y Y Y Y Xf (λwq eq=>(kL wq ((K3.a kQ).any.ext eq) bH).mono (by rintro _ _ ⟨rfl,gu⟩; exact⟨rfl,gu.ext⟩)) rfl<|bB (dM rfl rfl) rfl<|jY rfl
  | false=>
   refine dI Y Y Y<|dI Y Y Y<|dI Y Y Y<|bB (dS Y Y) Y<|jY Y
 refine bB (bq Y) Y<|qY 5 35 ((((kg l bH)&&(decide ((gX l bH).gq=0)))&&(aH.contains bH))&&(!(cu.contains bH))) ?_ ?_
 ·cases aIk:(((kg l bH)&&(decide ((gX l bH).gq=0)))&&(aH.contains bH)) with
  | true=>
   have aCG:=aIk
   try simp only [bK,eu,bM,bV] at aCG
   refine dX Y (bq Y) Y<|dX Y (bq Y) Y<|Px Y Y Y Y Xf (λwq eq=>(kL wq ((K3.a Eb).any.ext eq) bH).mono (by rintro _ _ ⟨rfl,gu⟩; exact⟨rfl,gu.ext⟩)) rfl<|dX rfl (iG rfl) rfl<|bB (dM rfl rfl) rfl<|jY rfl
  | false=>
   refine dI Y Y Y<|dI Y Y Y<|dI Y Y Y<|dI Y Y Y<|bB (dS Y Y) Y<|jY Y
 refine bB (bq Y) Y<|qY 7 43 (((((kg l bH)&&(decide ((gX l bH).gq=0)))&&(aH.contains bH))&&(!(cu.contains bH)))&&(decide (nU aX bH<(gX l bH).lD))) ?_ ?_
 ·cases aIl:((((kg l bH)&&(decide ((gX l bH).gq=0)))&&(aH.contains bH))&&(!(cu.contains bH))) with
  | true=>
   have aCH:=aIl
   try simp only [eT,dO,bK,eu,dZ,fI,bM,bV] at aCH
   refine dX Y (bq Y) Y<|dX Y (bq Y) Y<|Px Y Y Y Y ah4 (λwq eq=>(vk wq ((K3.a oK).any.ext eq) bH).mono (by rintro _ _ ⟨rfl,gu⟩; exact⟨rfl,gu.ext⟩)) rfl<|dX rfl (fQ MW rfl rfl) rfl<|dX rfl (eF jN rfl (K3.x s0) rfl) rfl<|dX rfl (fD rfl rfl) rfl<|bB (dM rfl rfl) rfl<|jY rfl
  | false=>
   refine dI Y Y Y<|dI Y Y Y<|dI Y Y Y<|dI Y Y Y<|dI Y Y Y<|dI Y Y Y<|bB (dS Y Y) Y<|jY Y
 refine bB (pz Y) Y<|qV λw4 e4=>?_
 have K4:=K3.grow e4;refine iP Y ?_;exact⟨by skip <;> rfl,(K4.rm s0)⟩
end
section
variable {l:List aR}{aH cu:List Int}{aX:List fP}{k jR kr nG IK BG g_l:Nat}{n:aR}{S0:Nat->Prop}{jU ku nH Cm wT:ah}{s:List (Int × Int)}{cf:Int->Int->Int}{c:aF}{bS:Int}
def bt(x y u z:Nat):Bool:=if x≠u then decide (x<u) else decide (y<z)
abbrev zN(aX:List fP)(n:aR):Nat:=(nU aX n.ID).toNat
def tgF(l:List aR)(aH:List Int)(aX:List fP)(cu:List Int)(b:Option aR)(n:aR):Option aR:=if Br l aH aX cu n.ID=true then(match b with | none=>some n | some m=>if bt (wR (kW l cu) n) (zN aX n) (wR (kW l cu) m) (zN aX m)=true then some n else some m) else b
def uR(l:List aR)(aH:List Int)(aX:List fP)(cu:List Int)(M:List aR):Option aR:=M.foldl (tgF l aH aX cu) none
def yF(b:Option aR):Int:=match b with | none=>0 | some m=>m.ID
theorem getD_some{b:Option aR}(h:(!b.isSome)=false):b=some (b.getD ⟨0,0,0,0⟩):=by
  cases b with
  | none=>cases h
  | some m=>rfl
theorem SY(l:List aR)(aH:List Int)(aX:List fP)(cu:List Int)(b:Option aR)(n:aR):tgF l aH aX cu b n=if(Br l aH aX cu n.ID&&(!b.isSome||bt (wR (kW l cu) n) (zN aX n) (wR (kW l cu) (b.getD ⟨0,0,0,0⟩)) (zN aX (b.getD ⟨0,0,0,0⟩))))=true then some n else b:=by
  unfold tgF
  cases hp:Br l aH aX cu n.ID with
  | false=>rfl
  | true=>
    cases b with
    | none=>rfl
    | some m=>
      show(if bt _ _ _ _=true then some n else some m)=if(true&&(false||bt _ _ _ _))=true then some n else some m;rw [Bool.true_and,Bool.false_or]; rfl
def S9(old:List Int)(aX:List fP)(b:Option aR):Value:=match b with | none=>.complex .f64 0 0 | some m=>.complex .f64 (fb (wR old m)) (wIm (old.contains m.mI) (wZ aX m))
theorem GV{M:List aR}(hn:M[k]? = some n):uR l aH aX cu (M.take (k+1))=tgF l aH aX cu (uR l aH aX cu (M.take k)) n:=by
  unfold uR; rw [fC hn,zY]; rfl
theorem Qk(hn:n∈l)(h:Br l aH aX cu n.ID=true):sj l=true/\gX l n.ID=n/\n.gq=0/\aH.contains n.ID=true/\cu.contains n.ID=false/\nU aX n.ID<n.lD/\n.lD<=16:=by
  simp only [Br,bK,bM,dZ] at h
  obtain⟨⟨⟨⟨h1,h2⟩,h3⟩,h4⟩,h5⟩:=h
  have hm:sj l=true:=by
    cases hb:sj l with
    | true=>rfl
    | false=>unfold kg at h1; rw [aao hb] at h1; cases h1
  have h6:gX l n.ID=n:=by
    unfold kg at h1;obtain⟨x,hx,hk⟩:=qh h1;rw [qG h1 hx];have h3:=bZ hx;rw [wE hm] at h3;exact P8 (Ey _ 0 hm) h3 hn hk
  rw [h6] at h2 h5;have h7:=(PS _ _ hm n hn).2
  simp only [J9,bK,bM] at h7
  exact⟨hm,h6,h2,h3,h4,h5,h7.1.2.2⟩
theorem Vp(h:∀ x∈aX,0<=x.N)(id:Int):0<=nU aX id:=by
  unfold nU; split
  · rename_i x hx; exact h x (Xw hx)
  · omega
theorem aCI(h0:∀ x∈aX,0<=x.N)(h:nU aX n.ID<n.lD):wZ aX n=(zN aX n:Int):=by
  have:=Vp h0 n.ID;unfold wZ zN; rw [aP aj]; omega
theorem apv{old:List Int}(h0:∀ x∈aX,0<=x.N)(h:nU aX n.ID<n.lD)(h1:n.lD<=16):Value.complex .f64 (fb (wR old n)) (wIm (old.contains n.mI) (wZ aX n))=.complex .f64 (fb (wR old n)) (fb (zN aX n)):=by
  have:=Vp h0 n.ID;rw [aCI h0 h,ayq _ (by unfold zN; omega)]
theorem axc(old:List Int)(n:aR):wR old n<70:=by unfold wR; split <;> omega
theorem ajW:∀(M:List aR)(b:Option aR),(∀ n∈M,n∈l)->(∀ m,b=some m->m∈l/\Br l aH aX cu m.ID=true)->∀ m,M.foldl (tgF l aH aX cu) b=some m->m∈l/\Br l aH aX cu m.ID=true
  | [],b,_,hb,m,h=>hb m h
  | n::M,b,hM,hb,m,h=>by
    refine ajW M _ (λx hx=>hM x (by simp [hx])) (λx hx=>?_) m h;unfold tgF at hx
    by_cases hp:Br l aH aX cu n.ID=true
    · rw [aS hp] at hx
      cases b with
      | none=>cases hx; exact⟨hM _ av,hp⟩
      | some q=>
        simp only at hx
        split at hx
        · cases hx; exact⟨hM _ av,hp⟩
        · cases hx; exact hb _ rfl
    · rw [aP hp] at hx; exact hb x hx
theorem amk{old:List Int}(h0:∀ x∈aX,0<=x.N){m:aR}(h:uR l aH aX cu (l.take k)=some m) :
    S9 old aX (uR l aH aX cu (l.take k))=.complex .f64 (fb (wR old m)) (fb (zN aX m))/\zN aX m<70:=by
  have hm:=ajW (l.take k) none (λn hn=>List.mem_of_mem_take hn) (λm e=>by cases e) m h;have h1:=Qk hm.1 hm.2;have:=Vp h0 m.ID;rw [h];exact⟨apv h0 h1.2.2.2.2.2.1 h1.2.2.2.2.2.2,by unfold zN; omega⟩
theorem ay5:bJ prog 267:=ay
theorem aeX(w:World){x y:Nat}{u z:Nat}(hb:(x<70/\y<70)/\u<70/\z<70) :
    bO prog 267 #[.complex .f64 (fb x) (fb y),.complex .f64 (fb u) (fb z)] w λv w'=>v=.bool (bt x y u z)/\Hp w S0 w' []:=by
 refine lg S0 func267 ntmps267 Y λH0=>iT Y<|aY<|bQ Y<|ev (Ev.real Y)<|mv Y<|ev (Ev.real Y)<|ev (Ev.aHU aj aj Y Y)<|dn<|bP Y (λFg=>?_) (λFg=>?_)
 ·replace Fg:=oO Fg;refine bQ Y<|ev (Ev.real Y)<|mv Y<|ev (Ev.real Y)<|ev (Ev.aB8 aj aj Y Y)<|bX Y<|wO Y ?_
  exact⟨by unfold bt; rw [aS (by simpa using Fg)] <;> rfl,H0⟩
 replace Fg:=oP Fg;refine jy ?_;refine bQ Y<|ev (Ev.imag Y)<|mv Y<|ev (Ev.imag Y)<|ev (Ev.aB8 aj aj Y Y)<|bX Y<|iP Y ?_
 exact⟨by unfold bt; rw [aP (by simpa using Fg)] <;> rfl,H0⟩
theorem ail(w:World){a b:Value}(x y u z:Nat)(e1:a=.complex .f64 (fb x) (fb y))(e2:b=.complex .f64 (fb u) (fb z))(hb:(x<70/\y<70)/\u<70/\z<70) :
    bO prog 267 #[a,b] w λv w'=>v=.bool (bt x y u z)/\Hp w S0 w' []:=by subst e1 e2; exact aeX w hb
abbrev zB10x1z(iE:List aR)(je:List Int)(wP:List fP)(zZ:List Int)(Fh:Nat):=(uR iE je wP zZ (iE.take Fh)).getD ⟨0,0,0,0⟩
theorem aaw(w:World)(jE:Sl bW S0 w jU jR l)(kQ:Sl dQ S0 w ku kr aH)(oK:Sl nO S0 w nH nG aX){vI:ah}{vJ:Nat}(Eb:Sl dQ S0 w vI vJ cu)(hn:l.length<=100000)(h0:∀ x∈aX,0<=x.N) :
    bO prog 173 #[.slice jU l.length jR,.slice ku aH.length kr,.slice nH aX.length nG,.slice vI cu.length vJ] w λv w'=>v=.tuple #[aI (yF (uR l aH aX cu l)),.bool ((uR l aH aX cu l).isSome)]/\Hp w S0 w' []:=by
 refine lg S0 func173 ntmps173 Y λH0=>rg<|jk Y<|bX Y<|bQ Y<|mv Y<|gU Y (ami _ (H0.a jE).any (H0.a Eb).any aj) ?_
 rintro _ w1 ⟨aeU,rfl,h1⟩;have K1:=H0.f1 h1;refine bX Y<|rg<|jk Y<|jk Y<|bX Y<|aY<|bQ Y<|ev (eX lq Y)<|mv Y<|dn<|cB ?_
 have fT:(0:Int)=yF (uR l aH aX cu (l.take 0)):=by rfl
 refine lF (t:=11) Y (aV (Value.int .i64) fT) ?_;have gu:(.complex .f64 0 0:Value)=S9 (kW l cu) aX (uR l aH aX cu (l.take 0)):=by rfl
 refine lF (t:=12) Y gu ?_;have kC:(false:Bool)=(uR l aH aX cu (l.take 0)).isSome:=by rfl
 refine lF (t:=13) Y (aV Value.bool kC) ?_;have nC:(0:Int)=((0:Nat):Int):=by simp
 refine lF (t:=22) Y (aV (Value.int .i64) nC)<|qZ (λmJ lJ wJ=>∃(k:Nat),lJ=[(0,.slice jU l.length jR),(1,.slice ku aH.length kr),(2,.slice nH aX.length nG),(3,.slice vI cu.length vJ),(10,.map (some aeU)),(11,aI (yF (uR l aH aX cu (l.take k)))),(12,S9 (kW l cu) aX (uR l aH aX cu (l.take k))),(13,.bool ((uR l aH aX cu (l.take k)).isSome)),(20,.slice jU l.length jR),(21,aI ((l.length:Nat):Int)),(22,aI ((k:Nat):Int))]/\mJ=l.length - k/\k<=l.length/\Hp w S0 wJ [aoE aeU (kW l cu)]) ⟨0,Y,Y,fE _,K1⟩ Y ?_
 rintro _ _ w2 ⟨k,rfl,rfl,hk,K2⟩;refine rg<|ev (fD Y Y)<|dn<|pG Y (λqP=>?_) (λqP=>?_)
 ·refine jy ?_;refine aY<|cB<|rg ?_
  obtain⟨x1,bN⟩:=bn (xs:=l) (i:=k) aj;refine ev (eP (i:=k) lq tC Y Y Y (aM bN) ((K2.a jE).some_ bN))<|ev (iU xu Y Y ((K2.a jE).fF bN))<|al sM Y K2 λg1 w3 K3=>sty Y K3 s0 Y λw4 K4=>dn<|rg<|ev (fK xu Y Y (K4.x s0))<|mv Y<|mv Y<|nD K4 Y (amj _ x1 (K4.a oK).any (K4.obj s1)) λw5 K5=>bX Y<|bQ Y<|mv Y<|mv Y<|mv Y<|j6 g1 0 mF K5 s0 Y<|nD K5 Y (auP _ (K5.a jE).any (K5.a kQ).any (K5.a oK).any (K5.a Eb).any x1.ID aj) λw6 K6=>mv Y<|pF 8 45 ((Br l aH aX cu x1.ID)&&((!((uR l aH aX cu (l.take k)).isSome))||(bt (wR (kW l cu) x1) (zN aX x1) (wR (kW l cu) (zB10x1z l aH aX cu k)) (zN aX (zB10x1z l aH aX cu k))))) ?_ ?_
  ·cases aIm:Br l aH aX cu x1.ID with
   | true=>
    have hp1:=Qk (bZ bN) aIm;have hzn:zN aX x1<70:=by have h1:=Vp h0 x1.ID; have h2:=hp1.2.2.2.2.2; unfold zN; omega
    refine bE Y (bq Y) Y<|bE Y (iG Y) Y<|bE Y (bq Y) Y<|pF 4 44 ((!((uR l aH aX cu (l.take k)).isSome))||(bt (wR (kW l cu) x1) (zN aX x1) (wR (kW l cu) (zB10x1z l aH aX cu k)) (zN aX (zB10x1z l aH aX cu k)))) ?_ ?_
    ·cases aml:(!((uR l aH aX cu (l.take k)).isSome)) with
     | true=>
      refine dN<|dN<|dN<|bE Y (dM Y Y) Y<|jo Y (pW _)
     | false=>
      have hlv:=amk (old:=kW l cu) h0 (k:=k) (getD_some aml);refine bE Y (bq Y) Y<|bE Y (bq Y) Y<|oD Y Y Y Y ay5 (ail (S0:=Any) _ (wR (kW l cu) x1) (zN aX x1) (wR (kW l cu) (zB10x1z l aH aX cu k)) (zN aX (zB10x1z l aH aX cu k)) (apv h0 hp1.2.2.2.2.2.1 hp1.2.2.2.2.2.2) hlv.1 ⟨⟨axc _ _,hzn⟩,axc _ _,hlv.2⟩) Y ?_
      rintro _ w7 ⟨rfl,h7⟩;refine bE Y (dS Y Y) Y<|jo Y h7.ext
    intro w8 e8;refine ev (dM Y Y)<|jo Y e8
   | false=>
    refine dN<|dN<|dN<|dN<|dN<|dN<|dN<|ev (dS Y Y)<|jo Y (pW _)
  intro w9 e9;have K9:=K6.grow e9;refine dn<|bP Y (λTa=>?_) (λTa=>?_)
  ·refine jC<|j6 g1 0 mF K9 s0 Y<|mv Y<|jk Y<|jk Y<|jk Y<|jD<|iw (gy ?_)
   refine jC<|ev (dP Y Y)<|mv Y<|jD ?_
   have rV:(x1.ID:Int)=yF (uR l aH aX cu (l.take (k+1))):=by rw [GV bN,SY]; first | (rw [aS Ta]; rfl) | rw [aP (by rw [Ta]; decide)]
   refine jq (t:=11) Y (aV (Value.int .i64) rV) ?_;have xW:(.complex .f64 (fb (wR (kW l cu) x1)) (wIm ((kW l cu).contains x1.mI) (wZ aX x1)):Value)=S9 (kW l cu) aX (uR l aH aX cu (l.take (k+1))):=by rw [GV bN,SY]; first | (rw [aS Ta]; rfl) | rw [aP (by rw [Ta]; decide)]
   refine jq (t:=12) Y xW ?_;have zX:(true:Bool)=(uR l aH aX cu (l.take (k+1))).isSome:=by rw [GV bN,SY]; first | (rw [aS Ta]; rfl) | rw [aP (by rw [Ta]; decide)]
   refine jq (t:=13) Y (aV Value.bool zX) ?_;have hq8:(((k+1:Nat):Int):Int)=(((k+1):Nat):Int):=by simp
   refine jq (t:=22) Y (aV (Value.int .i64) hq8)<|dG ⟨(k+1),Y,Y,aj,(K9.rm s0)⟩ rfl aj
  refine Ci ?_;refine jC<|ev (dP Y Y)<|mv Y<|jD ?_
  have zG:(yF (uR l aH aX cu (l.take k)):Int)=yF (uR l aH aX cu (l.take (k+1))):=by rw [GV bN,SY]; first | (rw [aS Ta]; rfl) | rw [aP (by rw [Ta]; decide)]
  refine jq (t:=11) Y (aV (Value.int .i64) zG) ?_;have vg:(S9 (kW l cu) aX (uR l aH aX cu (l.take k)):Value)=S9 (kW l cu) aX (uR l aH aX cu (l.take (k+1))):=by rw [GV bN,SY]; first | (rw [aS Ta]; rfl) | rw [aP (by rw [Ta]; decide)]
  refine jq (t:=12) Y vg ?_;have hq11:((uR l aH aX cu (l.take k)).isSome:Bool)=(uR l aH aX cu (l.take (k+1))).isSome:=by rw [GV bN,SY]; first | (rw [aS Ta]; rfl) | rw [aP (by rw [Ta]; decide)]
  refine jq (t:=13) Y (aV Value.bool hq11) ?_;have hq12:(((k+1:Nat):Int):Int)=(((k+1):Nat):Int):=by simp
  refine jq (t:=22) Y (aV (Value.int .i64) hq12)<|dG ⟨(k+1),Y,Y,aj,(K9.rm s0)⟩ rfl aj
 refine xq ?_;refine bQ Y<|mv Y<|jk Y<|bX Y<|iP Y ?_
 have aic:(yF (uR l aH aX cu (l.take k)):Int)=(yF (uR l aH aX cu l)):=by rw [gV aj]
 have aie:((uR l aH aX cu (l.take k)).isSome:Bool)=((uR l aH aX cu l).isSome):=by rw [gV aj]
 exact⟨by rw [aic,aie] <;> rfl,(K2.rm s0)⟩
def EG(c:aF)(aH:List Int):List Int:=c.aC.filter fun(id:Int)=>aH.contains id
def Bt(l:List aR)(id:Int):Bool:=kg l id&&decide ((gX l id).gq=0)
def jg(c:aF)(l:List aR)(aH:List Int):List Int:=(EG c aH).filter fun(id:Int)=>Bt l id
def abX(l:List aR)(aH:List Int)(id:Int):Bool:=(kg l id&&!decide ((gX l id).gq=0))&&aH.contains id
def Kq(c:aF)(l:List aR)(aH:List Int):List Int:=c.aC.filter fun(id:Int)=>abX l aH id
theorem apw(c:aF)(aH:List Int):(EG c aH).length<=c.aC.length:=ni _ _
theorem amm(c:aF)(l:List aR)(aH:List Int):(jg c l aH).length<=(EG c aH).length:=ni _ _
theorem ay6:bJ prog 230:=ay
theorem ay7:bJ prog 150:=ay
theorem ay8:bJ prog 403:=ay
theorem apx(w:World)(id:Int)(kQ:Bx w IK 55 [.slice ku aH.length kr])(PZ:Sl dQ S0 w ku kr aH) :
    bO prog 230 #[aI id,gI IK] w λv w'=>v=.bool (!(aH.contains id))/\Hp w S0 w' []:=by
 refine lg S0 func230 ntmps230 Y λH0=>iT Y<|rg<|ev (eF Dp Y (kQ.ext H0.ext) Y)<|mv Y<|nD H0 Y (kL _ (H0.a PZ).any id) λw1 K1=>ev (iG Y)<|bX Y<|iP Y ?_
 exact⟨Y,K1⟩
theorem Vq(w:World)(c:aF)(GK:Sl dQ S0 w Cm BG c.aC)(kQ:Sl dQ S0 w ku kr aH)(hh:c.aC.length<=100000) :
    bO prog 149 #[.agg #[aI c.ID,aI c.aB,gP c.Sum,.slice Cm c.aC.length BG],.slice ku aH.length kr] w λv w'=>∃(A0:ah)(c0:Nat),v=.slice A0 ((EG c aH).length) c0/\Hp w S0 w' [aQ dQ 3 A0 c0 (EG c aH)]:=by
 refine lg S0 func149 ntmps149 Y λH0=>rg<|bx Y Y H0 λg1 w1 K1=>bx Y Y K1 λg2 w2 K2=>bX Y<|rg<|j6 g1 3 kH K2 s1 Y<|gU Y (uq _ (K2.a GK).any aj) ?_
 rintro _ w3 ⟨qQ,qR,rfl,h3⟩;have K3:=K2.f1 h3;refine ev (rE Y)<|gU Y (oQ (K3.sel s0) ay6 (λx9=>!(aH.contains x9)) (λw9 ys x9 hl9 K9=>(apx w9 x9 (K9.x s1) (K9.a kQ).any).mono (by rintro _ w8 ⟨rfl,K8⟩; exact⟨rfl,K8.ext⟩)) aj) ?_
 rintro _ w4 ⟨rfl,K4⟩;refine bX Y<|iP Y ?_
 have fT:((c.aC.filter λx9=>!(!(aH.contains x9))):List Int)=(EG c aH):=by unfold EG; simp only [Bool.not_not]
 rw [fT] at K4;exact⟨qQ,qR,by rw [fT] <;> rfl,(K4.cU 1 2)⟩
theorem amn(w:World)(id:Int)(jE:Bx w g_l 41 [.slice jU l.length jR])(k_l:Sl bW S0 w jU jR l)(hn:l.length<=100000) :
    bO prog 150 #[aI id,gI g_l] w λv w'=>v=.bool (!(Bt l id))/\Hp w S0 w' []:=by
 refine lg S0 func150 ntmps150 Y λH0=>iT Y<|rg<|ev (eF aaq Y (jE.ext H0.ext) Y)<|mv Y<|nD H0 Y (EA _ (H0.a k_l).any id aj) λw1 K1=>mv Y<|xt Y Y<|xt Y Y<|al sM Y K1 λg1 w2 K2=>sty Y K2 s0 Y λw3 K3=>bX Y<|bQ Y<|ev (iG Y)<|mv Y<|iO 4 18 ((!(kg l id))||(!decide ((gX l id).gq=0))) ?_ ?_
 ·cases aIn:(!(kg l id)) with
  | true=>
   refine dN<|dN<|dN<|ev (dM Y Y)<|dJ Y
  | false=>
   refine wB g1 3 yE K3 s0 Y<|bE Y (rY Y Y) Y<|ev (dS Y Y)<|dJ Y
 refine bX Y<|iP Y ?_
 have fT:(((!(kg l id))||(!decide ((gX l id).gq=0))):Bool)=(!(Bt l id)):=by unfold Bt; cases kg l id <;> simp
 exact⟨by rw [fT] <;> rfl,(K3.rm s0)⟩
theorem Ql(w:World)(c:aF)(GK:Sl dQ S0 w Cm BG c.aC)(jE:Sl bW S0 w jU jR l)(kQ:Sl dQ S0 w ku kr aH)(hh:c.aC.length<=100000)(hn:l.length<=100000) :
    bO prog 88 #[.agg #[aI c.ID,aI c.aB,gP c.Sum,.slice Cm c.aC.length BG],.slice jU l.length jR,.slice ku aH.length kr] w λv w'=>∃(A0:ah)(c0:Nat),v=.slice A0 ((jg c l aH).length) c0/\Hp w S0 w' [aQ dQ 3 A0 c0 (jg c l aH)]:=by
 refine lg S0 func88 ntmps88 Y λH0=>?_;have hll:=apw c aH;refine rg<|bx Y Y H0 λg1 w1 K1=>bx Y Y K1 λg2 w2 K2=>bX Y<|rg<|ev (fK pQ Y Y (K2.x s1))<|mv Y<|gU Y (Vq _ c (K2.a GK).any (K2.a kQ).any aj) ?_
 rintro _ w3 ⟨qQ,qR,rfl,h3⟩;have K3:=K2.f1 h3;have aoY:=(K3.o s0).bC;refine ev (rE Y)<|gU Y (oQ (K3.sel s0) ay7 (λx9=>!(Bt l x9)) (λw9 ys x9 hl9 K9=>(amn w9 x9 (K9.x s1) (K9.a jE).any aj).mono (by rintro _ w8 ⟨rfl,K8⟩; exact⟨rfl,K8.ext⟩)) aj) ?_
 rintro _ w4 ⟨rfl,K4⟩;refine bX Y<|iP Y ?_
 have fT:(((EG c aH).filter λx9=>!(!(Bt l x9))):List Int)=(jg c l aH):=by unfold jg; simp only [Bool.not_not]
 rw [fT] at K4;exact⟨qQ,qR,by rw [fT] <;> rfl,(K4.cU 1 2)⟩
theorem amo(w:World)(id:Int)(jE:Bx w g_l 41 [.slice jU l.length jR])(k_l:Sl bW S0 w jU jR l)(kQ:Bx w IK 55 [.slice ku aH.length kr])(PZ:Sl dQ S0 w ku kr aH)(hn:l.length<=100000) :
    bO prog 403 #[aI id,gI g_l,gI IK] w λv w'=>v=.bool (!(abX l aH id))/\Hp w S0 w' []:=by
 refine lg S0 func403 ntmps403 Y λH0=>iT Y<|rg<|ev (eF aaq Y (jE.ext H0.ext) Y)<|mv Y<|nD H0 Y (EA _ (H0.a k_l).any id aj) λw1 K1=>mv Y<|xt Y Y<|xt Y Y<|al sM Y K1 λg1 w2 K2=>sty Y K2 s0 Y λw3 K3=>bX Y<|bQ Y<|ev (iG Y)<|mv Y<|iO 4 19 ((!(kg l id))||(decide ((gX l id).gq=0))) ?_ ?_
 ·cases U7:(!(kg l id)) with
  | true=>
   refine dN<|dN<|dN<|ev (dM Y Y)<|dJ Y
  | false=>
   refine wB g1 3 yE K3 s0 Y<|bE Y (iM Y Y) Y<|ev (dS Y Y)<|dJ Y
 refine mv Y<|pF 5 25 (((!(kg l id))||(decide ((gX l id).gq=0)))||(!(aH.contains id))) ?_ ?_
 ·cases abG:((!(kg l id))||(decide ((gX l id).gq=0))) with
  | true=>
   refine dN<|dN<|dN<|dN<|ev (dM Y Y)<|jo Y (pW _)
  | false=>
   have aeD:=abG
   try simp only [eT,dO,bK,eu,dZ,fI,bM,bV] at aeD
   refine bE Y (eF Dp Y (kQ.ext K3.ext) Y) Y<|bE Y (bq Y) Y<|oD Y Y Y Y Xf (kL _ (K3.a PZ).any id) Y ?_
   rintro _ w4 ⟨rfl,h4⟩;refine bE Y (iG Y) Y<|ev (dS Y Y)<|jo Y h4.ext
 intro w5 e5;have K5:=K3.grow e5;refine bX Y<|iP Y ?_
 have fT:((((!(kg l id))||(decide ((gX l id).gq=0)))||(!(aH.contains id))):Bool)=(!(abX l aH id)):=by unfold abX; cases kg l id <;> simp
 exact⟨by rw [fT] <;> rfl,(K5.rm s0)⟩
theorem apA(w:World)(c:aF)(GK:Sl dQ S0 w Cm BG c.aC)(jE:Sl bW S0 w jU jR l)(kQ:Sl dQ S0 w ku kr aH)(hh:c.aC.length<=100000)(hn:l.length<=100000) :
    bO prog 332 #[.agg #[aI c.ID,aI c.aB,gP c.Sum,.slice Cm c.aC.length BG],.slice jU l.length jR,.slice ku aH.length kr] w λv w'=>∃(A0:ah)(c0:Nat),v=.slice A0 ((Kq c l aH).length) c0/\Hp w S0 w' [aQ dQ 3 A0 c0 (Kq c l aH)]:=by
 refine lg S0 func332 ntmps332 Y λH0=>rg<|bx Y Y H0 λg1 w1 K1=>bx Y Y K1 λg2 w2 K2=>bx Y Y K2 λg3 w3 K3=>bX Y<|rg<|j6 g1 3 kH K3 s2 Y<|gU Y (uq _ (K3.a GK).any aj) ?_
 rintro _ w4 ⟨uP,uQ,rfl,h4⟩;have K4:=K3.f1 h4;refine ev (rE Y)<|gU Y (oQ (K4.sel s0) ay8 (λx9=>!(abX l aH x9)) (λw9 ys x9 hl9 K9=>(amo w9 x9 (K9.x s2) (K9.a jE).any (K9.x s1) (K9.a kQ).any aj).mono (by rintro _ w8 ⟨rfl,K8⟩; exact⟨rfl,K8.ext⟩)) aj) ?_
 rintro _ w5 ⟨rfl,K5⟩;refine bX Y<|iP Y ?_
 have fT:((c.aC.filter λx9=>!(!(abX l aH x9))):List Int)=(Kq c l aH):=by unfold Kq; simp only [Bool.not_not]
 rw [fT] at K5;exact⟨uP,uQ,by rw [fT] <;> rfl,(K5.cU 1 3)⟩
theorem aeY(w:World)(jE:Sl bW S0 w jU jR l)(id:Int)(hn:l.length<=100000) :
    bO prog 333 #[.slice jU l.length jR,aI id] w λv w'=>v=aI ((gX l id).mI)/\Hp w S0 w' []:=by
 refine lg S0 func333 ntmps333 Y λH0=>iT Y<|bQ Y<|mv Y<|nD H0 Y (EA _ (H0.a jE).any id aj) λw1 K1=>mv Y<|xt Y Y<|xt Y Y<|al sM Y K1 λg1 w2 K2=>sty Y K2 s0 Y λw3 K3=>bX Y<|rg<|j6 g1 1 PV K3 s0 Y<|bX Y<|iP Y ?_
 exact⟨Y,(K3.rm s0)⟩
theorem amq{z v y:Int}:(Iw s z v).find? (λp=>decide (p.1=y))=if y=z then some (z,v) else s.find? (λp=>decide (p.1=y)):=by
  have hA:y≠z->∀ s:List (Int × Int),(s.map (λp=>if p.1=z then(z,v) else p)).find? (λp=>decide (p.1=y))=s.find? (λp=>decide (p.1=y)):=by
    intro hy s
    induction s with
    | nil=>rfl
    | cons p s ih=>
      rw [mR]
      by_cases e:p.1=z
      · rw [aS e,zU (by simp; omega),zU (by simp; omega),ih]
      · rw [aP e]
        by_cases e2:p.1=y
        · rw [SV (by simpa using e2),SV (by simpa using e2)]
        · rw [zU (by simpa using e2),zU (by simpa using e2),ih]
  have hB:∀ s:List (Int × Int),s.any (λp=>decide (p.1=z))=true->(s.map (λp=>if p.1=z then(z,v) else p)).find? (λp=>decide (p.1=z))=some (z,v):=by
    intro s
    induction s with
    | nil=>intro h; cases h
    | cons p s ih=>
      intro h;rw [mR]
      by_cases e:p.1=z
      · rw [aS e,SV av]
      · rw [aP e,zU (by simpa using e)]
        exact ih (by simpa [e] using h)
  unfold Iw
  split
  · rename_i h
    by_cases hy:y=z
    · subst hy; rw [aS rfl,hB s h]
    · rw [aP hy,hA hy s]
  · rename_i h
    have hn:∀ p∈s,¬ p.1=z:=λp hp e=>h (KP.2 ⟨p,hp,by simpa using e⟩);rw [KX]
    by_cases hy:y=z
    · subst hy; rw [aS rfl,Gl.2 (λp hp=>by simpa using hn p hp)]; simp
    · rw [aP hy]
      cases hf:s.find? (λp=>decide (p.1=y)) with
      | some p=>rfl
      | none=>simp; omega
theorem apB(s:List (Int × Int))(z v y:Int):Gj (Iw s z v) y=if y=z then v else Gj s y:=by
  unfold Gj; rw [amq]
  by_cases hy:y=z
  · rw [aS hy,aS hy]
  · rw [aP hy,aP hy]
abbrev rkN(l:List aR)(id:Int):Int:=(gX l id).mI
def cntF(l:List aR)(s:List (Int × Int))(id:Int):List (Int × Int):=Iw s (rkN l id) (Gj s (rkN l id)+1)
def Gq(l:List aR)(ids:List Int):List (Int × Int):=ids.foldl (cntF l) []
theorem amr{ids:List Int}{x:Int}(hx:ids[k]? = some x):Gq l (ids.take (k+1))=cntF l (Gq l (ids.take k)) x:=by
  unfold Gq; rw [fC hx,zY]; rfl
theorem Tc(l:List aR):∀(ids:List Int)(s:List (Int × Int)),wS s->wS (ids.foldl (cntF l) s)/\∀ r,Gj (ids.foldl (cntF l) s) r=Gj s r+((ids.filter fun(id:Int)=>decide (rkN l id=r)).length:Int)
  | [],s,h=>⟨h,λr=>by simp⟩
  | id::ids,s,h=>by
    have ih:=Tc l ids (cntF l s id) (alS h _ _);refine⟨ih.1,λr=>?_⟩;rw [Gh,ih.2 r];unfold cntF;rw [apB,KQ]
    by_cases e:r=rkN l id
    · rw [aS e,aS (by simpa using e.symm),oV,e]; omega
    · rw [aP e,aP (by simpa using λh=>e h.symm)]
theorem Td(l:List aR)(ids:List Int):wS (Gq l ids):=(Tc l ids [] List.Pairwise.nil).1
theorem apC(l:List aR)(ids:List Int)(r:Int):Gj (Gq l ids) r=((ids.filter fun(id:Int)=>decide (rkN l id=r)).length:Int):=by
  have:=(Tc l ids [] List.Pairwise.nil).2 r;show Gj (ids.foldl (cntF l) []) r=_;rw [this]; show(0:Int)+_=_; omega
theorem auQ(l:List aR)(ids:List Int)(r:Int):0<=Gj (Gq l ids) r/\Gj (Gq l ids) r<=ids.length:=by
  rw [apC]; have:=ni (fun(id:Int)=>decide (rkN l id=r)) ids; omega
def Mp(w:World)(g:Nat)(s:List (Int × Int)):Prop:=w.heap[g]? = some (.map (DF s) s.length)
theorem Mp.ext{w w':World}{g:Nat}(h:Mp w g s)(e:Ext w w'):Mp w' g s:=(e.block g (yU.1 h).1).trans h
def shB(on:List (Int × Int))(l:List aR)(id:Int):Bool:=decide (1<Gj on (rkN l id))
def exC(on:List (Int × Int))(l:List aR)(aX:List fP)(a b:Int):Int:=if(shB on l a != shB on l b)&&shB on l a then 1 else if shB on l a != shB on l b then -1 else P7 [bL (nU aX a) (nU aX b),bL a b]
def I4(cf:Int->Int->Int):List Int->Int
  | []=>0
  | x::l=>l.foldl (λm y=>if 0<cf y m then y else m) x
theorem apD{l:List Int}{x:Int}(hx:l[0]? = some x):I4 cf (l.take 1)=x:=by
  cases l with
  | nil=>simp at hx
  | cons y l=>simp at hx; subst hx; simp [I4]
theorem aax{l:List Int}{x:Int}(hk:1<=k)(hx:l[k]? = some x):I4 cf (l.take (k+1))=if 0<cf x (I4 cf (l.take k)) then x else I4 cf (l.take k):=by
  rw [fC hx]
  cases hl:l.take k with
  | nil=>have h1:=aV List.length hl; have h2:=aM hx; simp only [iF,uE] at h1; omega
  | cons y m=>simp [I4]; rfl
def UD(c:aF)(l:List aR)(aH:List Int)(aX:List fP)(bS:Int):Int × Bool:=
  if bS<1∨((jg c l aH).length:Int)<bS then(0,false) else
  match Kq c l aH with
  | i::_=>(i,true)
  | []=>if((jg c l aH).length:Int)=bS then(0,false) else(I4 (exC (Gq l (jg c l aH)) l aX) (jg c l aH),true)
theorem aza:mg prog 338:=ay
theorem azb:bJ prog 333:=ay
theorem ain:∀ w,(zeroValue 3).run prog w=.ok (aI 0) w:=ay
theorem aay:mg prog 80:=ay
theorem XF:bJ prog 334:=ay
theorem XG(w:World)(id:Int){apE g_m:Nat}(on:List (Int × Int))(ko:wS on)(aio:Bx w apE 338 [.map (some g_m)])(h_m:Mp w g_m on)(jE:Bx w g_l 41 [.slice jU l.length jR])(k_l:Sl bW S0 w jU jR l)(hn:l.length<=100000) :
    bO prog 334 #[aI id,gI apE,gI g_l] w λv w'=>v=.bool (shB on l id)/\Hp w S0 w' []:=by
 refine lg S0 func334 ntmps334 Y λH0=>iT Y<|qU ak ak<|bB (eF aza Y (aio.ext H0.ext) Y) Y<|bB (eF aaq Y (jE.ext H0.ext) Y) Y<|bB (bq Y) Y<|KE Y Y Y azb (λwq eq=>(aeY wq ((H0.a k_l).any.ext eq) id aj).mono (by rintro _ _ ⟨rfl,gu⟩; exact⟨rfl,gu.ext⟩)) rfl<|bB (Ev.aw2 (H0.was h_m) ko underlying338 iJ ain rfl rfl) rfl<|bB (sQ rfl rfl) rfl<|bB (pz rfl) rfl<|qV λw1 e1=>?_
 have K1:=H0.grow e1;refine iP Y ?_;exact⟨by skip <;> rfl,K1⟩
theorem auR(w:World)(a:Int)(b:Int){apE g_m:Nat}(on:List (Int × Int))(ko:wS on)(aio:Bx w apE 338 [.map (some g_m)])(h_m:Mp w g_m on)(jE:Bx w g_l 41 [.slice jU l.length jR])(k_l:Sl bW S0 w jU jR l){aCJ:Nat}(apG:Bx w aCJ 80 [.func (.func 334) #[] #[gI apE,gI g_l]]){IG:Nat}(oK:Bx w IG 154 [.slice nH aX.length nG])(DJ:Sl nO S0 w nH nG aX)(hn:l.length<=100000) :
    bO prog 336 #[aI a,aI b,gI aCJ,gI IG] w λv w'=>v=aI (exC on l aX a b)/\Hp w S0 w' []:=by
 refine lg S0 func336 ntmps336 Y λH0=>iT Y<|aY<|cB<|qU ak ak<|bB (eF aay Y (apG.ext H0.ext) Y) Y<|bB (bq Y) Y<|KE Y Y Y XF (λwq eq=>(XG wq a on ko ((aio.ext H0.ext).ext eq) ((h_m.ext H0.ext).ext eq) ((jE.ext H0.ext).ext eq) ((H0.a k_l).any.ext eq) aj).mono (by rintro _ _ ⟨rfl,gu⟩; exact⟨rfl,gu.ext⟩)) rfl<|bB (eF aay rfl (apG.ext H0.ext) rfl) rfl<|bB (bq rfl) rfl<|KE rfl rfl rfl XF (λwq eq=>(XG wq b on ko ((aio.ext H0.ext).ext eq) ((h_m.ext H0.ext).ext eq) ((jE.ext H0.ext).ext eq) ((H0.a k_l).any.ext eq) aj).mono (by rintro _ _ ⟨rfl,gu⟩; exact⟨rfl,gu.ext⟩)) rfl<|bB (Ev.neb Sm rfl rfl) rfl<|bB (bq rfl) rfl<|qY 4 19 ((!((shB on l a) == (shB on l b)))&&(shB on l a)) ?_ ?_
 ·cases U7:(!((shB on l a) == (shB on l b))) with
  | true=>
   refine dX Y (eF aay Y (apG.ext H0.ext) Y) Y<|dX Y (bq Y) Y<|Px Y Y Y Y XF (λwq eq=>(XG wq a on ko ((aio.ext H0.ext).ext eq) ((h_m.ext H0.ext).ext eq) ((jE.ext H0.ext).ext eq) ((H0.a k_l).any.ext eq) aj).mono (by rintro _ _ ⟨rfl,gu⟩; exact⟨rfl,gu.ext⟩)) rfl<|bB (dM rfl rfl) rfl<|jY rfl
  | false=>
   refine dI Y Y Y<|dI Y Y Y<|dI Y Y Y<|bB (dS Y Y) Y<|jY Y
 refine bB (pz Y) Y<|qV λw1 e1=>?_
 have K1:=H0.grow e1;refine bP Y (λhc7=>?_) (λhc7=>?_)
 ·refine iT Y<|Xb Y ?_
  exact⟨by unfold exC; rw [aS (by simpa using hc7)] <;> rfl,K1⟩
 refine qU ak ak<|bB (eF aay Y (apG.ext K1.ext) Y) Y<|bB (bq Y) Y<|KE Y Y Y XF (λwq eq=>(XG wq a on ko ((aio.ext K1.ext).ext eq) ((h_m.ext K1.ext).ext eq) ((jE.ext K1.ext).ext eq) ((K1.a k_l).any.ext eq) aj).mono (by rintro _ _ ⟨rfl,gu⟩; exact⟨rfl,gu.ext⟩)) rfl<|bB (eF aay rfl (apG.ext K1.ext) rfl) rfl<|bB (bq rfl) rfl<|KE (v:=.bool (shB on l b)) rfl rfl rfl XF (λwq eq=>(XG wq b on ko ((aio.ext K1.ext).ext eq) ((h_m.ext K1.ext).ext eq) ((jE.ext K1.ext).ext eq) ((K1.a k_l).any.ext eq) aj).mono (by rintro _ _ ⟨rfl,gu⟩; exact⟨rfl,gu.ext⟩)) rfl<|bB (Ev.neb Sm rfl rfl) rfl<|bB (pz rfl) rfl<|qV λw2 e2=>?_
 have K2:=K1.grow e2;refine bP Y (λlW=>?_) (λlW=>?_)
 ·refine iT Y<|Xb Y ?_
  exact⟨by unfold exC; rw [aP (by simpa using hc7),aS (by simpa using lW)] <;> rfl,K2⟩
 refine Ci ?_;refine He K2 (λ_ K=>K) (λl0 rk lJ wJ=>lJ=(6,aI (P7 ([bL (nU aX a) (nU aX b),bL a b]:List Int)))::l0/\Hp w S0 wJ rk) (λhns H1=>?_) ?_
 ·refine l9 0 Y (λ_ hK=>eF Ot Y (oK.ext hK.ext) Y) H1<|lQ 1 Y Y H1<|l9 3 Y (λ_ hK=>eF Ot Y (oK.ext hK.ext) Y) H1<|lQ 4 Y Y H1<|lQ 7 Y Y H1<|lQ 8 Y Y H1<|O1 2 Y<|nD H1 Y (vk _ (H1.a DJ).any a) λw3 K3=>aO K3<|O1 5 Y<|nD K3 Y (vk _ (K3.a DJ).any b) λw4 K4=>aO K4<|O1 6 Y<|nD K4 Y (nZ (S0:=Any) _ (nU aX a) (nU aX b)) λw5 K5=>aO K5<|O1 9 Y<|nD K5 Y (nZ (S0:=Any) _ a b) λw6 K6=>aO K6<|O1 10 Y<|bsn (τ:=dQ) (xs:=([bL (nU aX a) (nU aX b),bL a b]:List Int)) (vs:=[(0,aI (bL (nU aX a) (nU aX b))),(1,aI (bL a b))]) (css:=[[aI (bL (nU aX a) (nU aX b))],[aI (bL a b)]]) Y (by intro _; apply IL) rfl rfl K6 (λ_ e=>⟨rfl,rfl,trivial⟩) λg1 w7 K7=>?_
  have k1:=(K7.rm s0);refine aO k1<|O1 11 Y<|nD K7 Y (aeS _ (K7.o s0)) λw8 K8=>?_
  have k2:=(K8.rm s0);refine aO k2<|xL 12 Y Y k2<|Dn ⟨Y,(K8.rm s0)⟩ Y
 rintro _ w9 ⟨rfl,K9⟩;refine iP Y ?_;exact⟨by unfold exC; rw [aP (by simp_all),aP (by simpa using lW)] <;> rfl,K9⟩
theorem ZB(w:World){vF:Nat}{s:List Int}(nA:Sl dQ S0 w wT vF s){apH:FuncId}{apI:List Value}(aCK:bJ prog apH)(cmp:Int->Int->Int)(h_cmp:∀(w':World)(x:Int)(t:Int),Ext w w'->True->bO prog apH (([aI x,aI t]:List Value)++apI).toArray w' λv w''=>v=aI (cmp x t)/\Ext w' w'')(hne:1<=s.length) :
    bO prog 335 #[.slice wT s.length vF,.func (.func apH) #[] apI.toArray] w λv w'=>v=aI (I4 cmp s)/\Hp w S0 w' []:=by
 refine lg S0 func335 ntmps335 Y λH0=>?_;have Sv:=nA.bC;refine iT Y<|aY<|bQ Y<|ev (eX fA Y)<|ev (fD Y Y)<|dn<|mZ Y (λFg=>?_) (λFg=>?_)
 ·omega
 refine jy ?_;refine bQ Y ?_;obtain⟨x1,bN⟩:=bn (xs:=s) (i:=0) aj;refine ev (eP fA uf Y Y Y (aM bN) ((H0.a nA).some_ bN))<|ev (kP jN Y ((H0.a nA).fJ bN Y))<|bX Y<|aY<|iT Y<|cB ?_
 have fT:(x1:Int)=(I4 cmp (s.take 1)):=by exact(apD bN).symm
 refine lF (t:=5) Y (aV (Value.int .i64) fT)<|Lp H0 (λl0 rk mJ lJ wJ=>∃(j:Nat),lJ=(5,aI (I4 cmp (s.take j)))::(6,aI ((j:Nat):Int))::l0/\mJ=s.length - j/\(1<=j/\j<=s.length)/\Hp w S0 wJ rk) ⟨1,Y,Y,aj,H0⟩ rfl ?_
 rintro _ _ w1 ⟨j,rfl,rfl,hj,K1⟩;refine aY<|bQ Y<|mv Y<|ev (eX fA Y)<|ev (fD Y Y)<|dn<|mZ Y (λhc17=>?_) (λhc17=>?_)
 ·refine jy ?_;refine aY<|cB<|bQ Y<|mv Y<|mv Y ?_
  obtain⟨x2,lN⟩:=bn (xs:=s) (i:=j) aj;refine ev (eP (i:=j) fA uf Y Y Y (aM lN) ((K1.a nA).some_ lN))<|ev (kP jN Y ((K1.a nA).fJ (j:=0) lN Y))<|mv Y<|zq Y Y Y aCK (h_cmp _ x2 (I4 cmp (s.take j)) K1.ext trivial) Y ?_
  rintro _ w2 ⟨rfl,e2⟩;have K2:=K1.grow e2;refine ev (sQ Y Y)<|dn<|mZ Y (λhc27=>?_) (λhc27=>?_)
  ·refine jC<|mv Y<|mv Y<|ev (eP (i:=j) fA uf Y Y Y (aM lN) ((K2.a nA).some_ lN))<|ev (kP jN Y ((K2.a nA).fJ (j:=0) lN Y))<|jk Y<|jD<|iw (gy ?_)
   refine jC<|mv Y<|ev (dP Y Y)<|jk Y<|jD ?_
   have gu:(x2:Int)=(I4 cmp (s.take (j+1))):=by rw [aax hj.1 lN]; first | rw [aS hc27] | rw [aP hc27]
   refine jq (t:=5) Y (aV (Value.int .i64) gu)<|dG ⟨(j+1),Y,Y,aj,K2⟩ rfl aj
  refine Ci ?_;refine jC<|mv Y<|ev (dP Y Y)<|jk Y<|jD ?_
  have kC:((I4 cmp (s.take j)):Int)=(I4 cmp (s.take (j+1))):=by rw [aax hj.1 lN]; first | rw [aS hc27] | rw [aP hc27]
  refine jq (t:=5) Y (aV (Value.int .i64) kC)<|dG ⟨(j+1),Y,Y,aj,K2⟩ rfl aj
 refine xq ?_;refine bQ Y<|bX Y<|iP Y ?_
 have nC:((I4 cmp (s.take j)):Int)=(I4 cmp s):=by rw [gV aj]
 exact⟨by rw [nC] <;> rfl,K1⟩
theorem ajX(h:bS<1∨((jg c l aH).length:Int)<bS):UD c l aH aX bS=(0,false):=aS h
theorem XH{i:Int}(h:¬ (bS<1∨((jg c l aH).length:Int)<bS))(hx:(Kq c l aH)[0]? = some i):UD c l aH aX bS=(i,true):=by
  unfold UD; rw [aP h]
  cases hi:Kq c l aH with
  | nil=>rw [hi] at hx; simp at hx
  | cons j t=>rw [hi] at hx; simp at hx; subst hx; rfl
theorem XI(h:¬ (bS<1∨((jg c l aH).length:Int)<bS))(hi:¬ 0<(Kq c l aH).length)(he:((jg c l aH).length:Int)=bS):UD c l aH aX bS=(0,false):=by
  have e:Kq c l aH=[]:=qF aj;unfold UD; rw [aP h,e]; exact aS he
theorem abY(h:¬ (bS<1∨((jg c l aH).length:Int)<bS))(hi:¬ 0<(Kq c l aH).length)(he:¬ ((jg c l aH).length:Int)=bS):UD c l aH aX bS=(I4 (exC (Gq l (jg c l aH)) l aX) (jg c l aH),true):=by
  have e:Kq c l aH=[]:=qF aj;unfold UD; rw [aP h,e]; exact aP he
theorem aCL:bJ prog 88:=ay
theorem apJ:∀ w,(zeroValue 338).run prog w=.ok (.map none) w:=ay
theorem ajY:∀ w,(zeroValue 80).run prog w=.ok (.nilFunc) w:=ay
theorem azc:bJ prog 336:=ay
theorem aip(w:World)(c:aF)(GK:Sl dQ S0 w Cm BG c.aC)(jE:Sl bW S0 w jU jR l)(kQ:Sl dQ S0 w ku kr aH)(oK:Sl nO S0 w nH nG aX)(bS:Int)(hh:c.aC.length<=100000)(hn:l.length<=100000) :
    bO prog 245 #[.agg #[aI c.ID,aI c.aB,gP c.Sum,.slice Cm c.aC.length BG],.slice jU l.length jR,.slice ku aH.length kr,.slice nH aX.length nG,aI bS] w λv w'=>v=.tuple #[aI ((UD c l aH aX bS).1),.bool ((UD c l aH aX bS).2)]/\Hp w S0 w' []:=by
 refine lg S0 func245 ntmps245 Y λH0=>?_;have hgl:=amm c l aH;refine rg<|bx Y Y H0 λg1 w1 K1=>bx Y Y K1 λg2 w2 K2=>bx Y Y K2 λg3 w3 K3=>jk Y<|bX Y<|rg<|ev (fK pQ Y Y (K3.x s2))<|nL K3 s1 Y<|mv Y<|gU Y (Ql _ c (K3.a GK).any (K3.a jE).any (K3.a kQ).any aj aj) ?_
 rintro _ w4 ⟨uP,uQ,rfl,h4⟩;have K4:=K3.f1 h4;have aK9:=(K4.o s0).bC;refine bX Y<|aY<|bQ Y<|ev (fD Y Y)<|mv Y<|iO 5 29 ((decide (bS<1))||(decide ((((jg c l aH).length:Nat):Int)<bS))) ?_ ?_
 ·cases auT:decide (bS<1) with
  | true=>
   refine dN<|dN<|dN<|dN<|ev (dM Y Y)<|dJ Y
  | false=>
   have aCM:=jS auT;refine bE Y (bq Y) Y<|bE Y (eX fA Y) Y<|bE Y (bq Y) Y<|bE Y (fD Y Y) Y<|ev (dS Y Y)<|dJ Y
 refine dn<|bP Y (λhc29=>?_) (λhc29=>?_)
 ·try simp only [eT,dO,bM,bV] at hc29
  refine rg<|jk Y<|bX Y<|wO Y ?_
  have fT:(0:Int)=((UD c l aH aX bS).1):=by rw [ajX aj]
  have gu:(false:Bool)=((UD c l aH aX bS).2):=by rw [ajX aj]
  exact⟨by rw [<- fT,<- gu] <;> rfl,K4.z⟩
 try simp only [eT,dO,bM,bV] at hc29
 refine jy ?_;refine aY<|rg<|ev (fK pQ Y Y (K4.x s3))<|nL K4 s2 Y<|mv Y<|gU Y (apA _ c (K4.a GK).any (K4.a jE).any (K4.a kQ).any aj aj) ?_
 rintro _ w5 ⟨CG,CJ,rfl,h5⟩;have K5:=K4.f1 h5;have aCN:=(K5.o s0).bC;refine bX Y<|bQ Y<|ev (eX fA Y)<|ev (sQ Y Y)<|dn<|mZ Y (λabZ=>?_) (λabZ=>?_)
 ·refine bQ Y ?_;obtain⟨x1,bN⟩:=bn (xs:=Kq c l aH) (i:=0) aj;refine ev (eP fA uf Y Y Y (aM bN) ((K5.o s0).some_ bN))<|ev (kP jN Y ((K5.o s0).fJ bN Y))<|jk Y<|bX Y<|wO Y ?_
  have kC:(x1:Int)=((UD c l aH aX bS).1):=by rw [XH aj bN]
  have nC:(true:Bool)=((UD c l aH aX bS).2):=by rw [XH aj bN]
  exact⟨by rw [<- kC,<- nC] <;> rfl,K5.z⟩
 refine jy ?_;refine aY<|bQ Y<|ev (eX fA Y)<|mv Y<|ev (iM Y Y)<|dn<|mZ Y (λxH=>?_) (λxH=>?_)
 ·refine rg<|jk Y<|bX Y<|wO Y ?_
  have rV:(0:Int)=((UD c l aH aX bS).1):=by rw [XI aj aj aj]
  have xW:(false:Bool)=((UD c l aH aX bS).2):=by rw [XI aj aj aj]
  exact⟨by rw [<- rV,<- xW] <;> rfl,K5.z⟩
 refine jy ?_;refine rg<|mkc K5 Y λg4 w6 K6=>al apJ Y K6 λg5 w7 K7=>yD Y K7 s0 Y λw8 K8=>dn<|aY<|bQ Y<|ev (eX fA Y)<|mv Y<|dn<|cB ?_
 have zX:[]=(Gq l ((jg c l aH).take 0)):=by rfl
 rw [zX] at K8;refine qZ (λmJ lJ wJ=>∃(k:Nat),lJ=[(6,gI g2),(8,gI g3),(12,.slice uP ((jg c l aH).length) uQ),(14,gI g5),(45,.slice uP ((jg c l aH).length) uQ),(46,aI (((jg c l aH).length:Nat):Int)),(47,aI ((k:Nat):Int))]/\mJ=(jg c l aH).length - k/\k<=(jg c l aH).length/\Hp w S0 wJ [aoF g4 (Gq l ((jg c l aH).take k)),dW g5 338 [.map (some g4)],aQ dQ 3 CG CJ (Kq c l aH),aQ dQ 3 uP uQ (jg c l aH),dW g3 154 [.slice nH aX.length nG],dW g2 41 [.slice jU l.length jR],dW g1 59 [aI c.ID,aI c.aB,gP c.Sum,.slice Cm c.aC.length BG]]) ⟨0,Y,Y,fE _,((K8.sel s0).sel s1)⟩ Y ?_;rintro _ _ w9 ⟨k,rfl,rfl,hk,K9⟩;refine rg<|ev (fD Y Y)<|dn<|pG Y (λaIo=>?_) (λaIo=>?_)
 ·refine jy ?_;refine aY<|cB<|rg ?_
  obtain⟨x2,lN⟩:=bn (xs:=jg c l aH) (i:=k) aj;refine ev (eP (i:=k) fA uf Y Y Y (aM lN) ((K9.o s3).some_ lN))<|ev (kP jN Y ((K9.o s3).fJ (j:=0) lN Y))<|bX Y ?_
  have hcb:0<=Gj (Gq l ((jg c l aH).take k)) ((gX l x2).mI)/\Gj (Gq l ((jg c l aH).take k)) ((gX l x2).mI)<=((jg c l aH).take k).length:=auQ l _ _
  simp only [iF] at hcb
  refine Hf K9 (λ_ K=>(K.rm s0)) (λl0 rk lJ wJ=>lJ=l0/\Hp w S0 wJ (aoF g4 (Iw (Gq l ((jg c l aH).take k)) ((gX l x2).mI) ((Gj (Gq l ((jg c l aH).take k)) ((gX l x2).mI))+1))::rk)) (λhns H1=>?_) ?_
  ·have k1:=(H1.rm s0);refine Db 0 s0 Y k1<|Db 1 s4 Y k1<|lQ 2 Y Y k1<|O1 3 Y<|nD H1 Y (aeY _ (H1.a jE).any x2 aj) λOm K10=>?_
   have k2:=(K10.rm s0);refine aO k2<|O1 4 Y<|ev (Ev.aw2 (K10.obj s0) (Td _ _) underlying338 iJ ain Y Y)<|aO k2<|l9 5 Y (λ_ _=>dP Y Y) k2<|O1 6 Y<|aHT (Td _ _) K10 s0 Y Y Y underlying338 iJ λVa vM=>?_
   have k3:=(vM.rm s0);refine aO k3<|Dn ⟨Y,vM⟩ Y
  rintro _ Vb ⟨rfl,vH⟩;refine iw (gy ?_);refine jC<|ev (dP Y Y)<|mv Y<|jD ?_
  have hq8:(Iw (Gq l ((jg c l aH).take k)) ((gX l x2).mI) ((Gj (Gq l ((jg c l aH).take k)) ((gX l x2).mI))+1))=(Gq l ((jg c l aH).take (k+1))):=by rw [amr lN]; rfl
  rw [hq8] at vH;exact dG ⟨(k+1),Y,Y,aj,vH⟩ rfl aj
 refine xq ?_;refine rg<|ev (rE Y)<|al ajY Y K9 λg6 w13 Bf=>yD Y Bf s0 Y λw14 xM=>dn<|bQ Y<|ev (rE Y)<|nD xM Y (ZB _ (xM.o s4) (apI:=[gI g6,gI g3]) azc (fun(x:Int) (t:Int)=>exC (Gq l ((jg c l aH).take k)) l aX x t) (λw' x t e hm=>(auR w' x t (Gq l ((jg c l aH).take k)) (Td _ _) ((xM.x s2).ext e) ((show Mp _ _ _ from xM.obj s1).ext e) ((xM.x s6).ext e) ((xM.a jE).any.ext e) ((xM.x s0).ext e) ((xM.x s5).ext e) ((xM.a oK).any.ext e) aj).mono (by rintro _ _ ⟨rfl,gu⟩; exact⟨rfl,gu.ext⟩)) aj) λw15 BI=>jk rfl<|bX rfl<|iP rfl ?_
 have zG:((I4 (fun(x:Int) (t:Int)=>exC (Gq l ((jg c l aH).take k)) l aX x t) (jg c l aH)):Int)=((UD c l aH aX bS).1):=by rw [abY aj aj aj,gV (show(jg c l aH).length<=k by omega)]
 exact⟨by rw [zG,abY aj aj aj] <;> rfl,BI.z⟩
structure eY where
  Node:Int
  At:Int
  deriving DecidableEq
def eY.enc(x:eY):List Value:=[.int .i64 x.Node,.int .i64 x.At]
theorem eY.mD(x:eY):∀ u∈x.enc,u.oneCell'=true:=by
  intro u hu
  simp only [eY.enc,iR,mP,tq] at hu
  rcases hu with rfl | rfl <;> rfl
def iK:Ty eY:=Ty.flat 2 eY.enc au (λ_=>rfl) eY.mD
instance:Flat iK:=⟨λh=>h⟩
def Lj(b:eY):Bool:=decide (1<=b.Node)&&decide (b.Node<=16)&&decide (0<=b.At)&&decide (b.At<=1099511627776)
def lZ:Int->List eY->Bool
  | _,[]=>true
  | last,b::l=>Lj b&&decide (last<b.Node)&&lZ b.Node l
def jF(l:List eY):List eY:=if lZ 0 l then l else[]
def N7(l:List eY)(k:Nat):Int:=match (l.take k).getLast? with | some b=>b.Node | none=>0
theorem XJ:∀(l:List eY)(b:eY)(z:Int),lZ z (l++[b])=(lZ z l&&Lj b&&decide ((match l.getLast? with | some c=>c.Node | none=>z)<b.Node))
  | [],b,z=>by simp [lZ]; try rfl
  | c::l,b,z=>by
    have ih:=XJ l b c.Node
    simp only [Z4,lZ,ih]
    cases l with
    | nil=>simp [Bool.and_assoc]; try rfl
    | cons d l=>simp [Bool.and_assoc,List.getLast?_cons_cons]; cases hl:(d::l).getLast? <;> simp_all
theorem XK{l:List eY}{b:eY}(h:lZ 0 (l.take k)=true)(hx:l[k]? = some b):lZ 0 (l.take (k+1))=(Lj b&&decide (N7 l k<b.Node)):=by
  rw [fC hx,XJ,h]; simp [N7]; try rfl
theorem aaz:∀(l m:List eY)(z:Int),lZ z (l++m)=true->lZ z l=true
  | [],m,z,_=>rfl
  | b::l,m,z,h=>by
    simp only [Z4,lZ,bK] at h ⊢
    exact⟨h.1,aaz l m _ h.2⟩
theorem aiq{l:List eY}{b:eY}(hx:l[k]? = some b):N7 l (k+1)=b.Node:=by
  unfold N7; rw [fC hx]; simp
theorem ams{l:List eY}{b:eY}(h:lZ 0 (l.take k)=true)(hx:l[k]? = some b)(hb:(Lj b&&decide (N7 l k<b.Node))=false):jF l=[]:=by
  unfold jF;rw [aP];intro h1;have h2:=aaz (l.take (k+1)) (l.drop (k+1)) 0 (by rw [FC]; exact h1);rw [XK h hx,hb] at h2
  cases h2
theorem Qm{l:List eY}(h:lZ 0 l=true):jF l=l:=by unfold jF; rw [aS h]
theorem GX:dL prog 107 0 0:=ay
theorem Ll:dL prog 107 1 1:=ay
theorem apK  : ∀ w,(Instr.buildSlice 47 0 (List.toArray [])).run prog w=.ok (.slice (some ⟨w.heap.size,0,none⟩) 0 0) (w.alloc (.cells (List.toArray []) 107)):=ay
theorem apL:lY prog 107 2 16:=by
  obtain⟨i,h1,h2,h3,h4⟩:=uJ (show(prog.info? 107).map (λi=>(i.zero,i.size,i.bytes))=some (some (.agg #[aI 0,aI 0]),2,16) by kernel_rfl);exact⟨i,_,h1,h2,h3,h4,Y⟩
theorem Lm:Size prog 107 2:=ay
theorem I5:Z9 prog 107 2:=⟨λ_=>by kernel_rfl,Lm⟩
theorem Qn:∀ w,(zeroValue 107).run prog w=.ok (.agg #[aI 0,aI 0]) w:=ay
theorem ajZ(w:World)(b:eY) :
    bO prog 182 #[.agg #[aI b.Node,aI b.At]] w λv w'=>v=.bool (Lj b)/\Hp w S0 w' []:=by
 refine lg S0 func182 ntmps182 Y λH0=>rg<|bx Y Y H0 λg1 w1 K1=>bX Y<|rg<|j6 g1 0 GX K1 s0 Y<|ev (qD Y Y)<|mv Y<|iO 4 10 ((decide (1<=b.Node))&&(decide (b.Node<=16))) ?_ ?_
 ·cases hb6:decide (1<=b.Node) with
  | true=>
   refine wB g1 0 GX K1 s0 Y<|bE Y (u7 Y Y) Y<|ev (dM Y Y)<|dJ Y
  | false=>
   refine dN<|dN<|dN<|ev (dS Y Y)<|dJ Y
 refine mv Y<|iO 4 15 (((decide (1<=b.Node))&&(decide (b.Node<=16)))&&(decide (0<=b.At))) ?_ ?_
 ·cases SH:((decide (1<=b.Node))&&(decide (b.Node<=16))) with
  | true=>
   have KY:=SH
   try simp only [bK,eu,bM,bV] at KY
   refine wB g1 1 Ll K1 s0 Y<|bE Y (qD Y Y) Y<|ev (dM Y Y)<|dJ Y
  | false=>
   refine dN<|dN<|dN<|ev (dS Y Y)<|dJ Y
 refine mv Y<|iO 4 20 ((((decide (1<=b.Node))&&(decide (b.Node<=16)))&&(decide (0<=b.At)))&&(decide (b.At<=1099511627776))) ?_ ?_
 ·cases Vd:(((decide (1<=b.Node))&&(decide (b.Node<=16)))&&(decide (0<=b.At))) with
  | true=>
   have PW:=Vd
   try simp only [bK,eu,bM,bV] at PW
   refine wB g1 1 Ll K1 s0 Y<|bE Y (u7 Y Y) Y<|ev (dM Y Y)<|dJ Y
  | false=>
   refine dN<|dN<|dN<|ev (dS Y Y)<|dJ Y
 refine bX Y<|iP Y ?_
 exact⟨by skip <;> rfl,(K1.rm s0)⟩
theorem DK(w:World){vF:Nat}{s:List eY}(nA:Sl iK S0 w wT vF s)(hn:s.length<=1000000) :
    bO prog 61 #[.slice wT s.length vF] w λv w'=>∃(A0:ah)(c0:Nat),v=.slice A0 s.length c0/\Hp w S0 w' [aQ iK 107 A0 c0 s]:=by
 refine lg S0 func61 ntmps61 Y λH0=>iT Y<|aY<|bQ Y<|ev (NW Dc Y Y)<|dn<|bP Y (λhc4=>?_) (λhc4=>?_)
 ·refine iT Y<|wO Y ?_
  have H1:=H0.nil iK 107;have fT:(([]:List eY):List eY)=s:=by have h1:=nA.nil (by simpa using hc4); have h2:=nA.cap; exact(qF aj).symm
  have H2:=(fT▸H1:Hp w S0 w (aQ iK 107 none 0 s::[]));exact⟨none,0,by rw [<- fT] <;> rfl,H2⟩
 refine jy ?_;refine rg<|bs0 Y (by intro _; apply apK) rfl H0 λg1 w1 K1=>mv rfl<|ap K1 s0 rfl rfl (K1.a nA).any Dc apL av (by first | omega | (simp; omega) | (simp; done)) rfl λpU pV w2 K2=>bX rfl<|iP rfl ?_
 have gu:((([]:List eY)++s):List eY)=s:=by simp
 rw [gu] at K2;exact⟨pU,pV,by rw [gu] <;> rfl,K2⟩
theorem aeZ(w:World){l:List eY}(jE:Sl iK S0 w jU jR l)(hn:l.length<=800000) :
    bO prog 181 #[.slice jU l.length jR] w λv w'=>∃(A0:ah)(c0:Nat),v=.slice A0 ((jF l).length) c0/\Hp w S0 w' [aQ iK 107 A0 c0 (jF l)]:=by
 refine lg S0 func181 ntmps181 Y λH0=>iT Y<|iT Y<|aY<|bQ Y<|ev (eX Dc Y)<|mv Y<|dn<|cB ?_
 have fT:(0:Int)=N7 l 0:=by simp [N7]
 refine lF (t:=3) Y (aV (Value.int .i64) fT)<|Lp H0 (λl0 rk mJ lJ wJ=>∃(k:Nat),lJ=(3,aI (N7 l k))::(8,aI ((k:Nat):Int))::l0/\mJ=l.length - k/\k<=l.length/\(lZ 0 (l.take k)=true)/\Hp w S0 wJ rk) ⟨0,Y,Y,fE _,by simp [lZ],H0⟩ rfl ?_
 rintro _ _ w1 ⟨k,rfl,rfl,hk,hrise,K1⟩;refine rg<|ev (fD Y Y)<|dn<|pG Y (λFg=>?_) (λFg=>?_)
 ·refine jy ?_;refine aY<|cB<|rg ?_
  obtain⟨x1,bN⟩:=bn (xs:=l) (i:=k) aj;refine ev (eP Dc Lm Y Y Y (aM bN) ((K1.a jE).some_ bN))<|ev (iU I5 Y Y ((K1.a jE).fF bN))<|al Qn Y K1 λg1 w2 K2=>sty Y K2 s0 Y λw3 K3=>dn<|aY<|rg<|ev (fK I5 Y Y (K3.x s0))<|nD K3 Y (ajZ (S0:=Any) _ x1) λw4 K4=>ev (iG Y)<|mv Y<|iO 5 20 ((!(Lj x1))||(decide (x1.Node<=N7 l k))) ?_ ?_
  ·cases U7:(!(Lj x1)) with
   | true=>
    refine dN<|dN<|dN<|dN<|ev (dM Y Y)<|dJ Y
   | false=>
    refine wB g1 0 GX K4 s0 Y<|bE Y (bq Y) Y<|bE Y (u7 Y Y) Y<|ev (dS Y Y)<|dJ Y
  refine dn<|bP Y (λlW=>?_) (λlW=>?_)
  ·try simp only [eT,dO,bK,eu,dZ,fI,bM,bV] at lW
   refine iT Y<|jf (fO (iX (fO (fO (iX (fO (xV Y ?_)))))))
   have H1:=K4.nil iK 107;have gu:(([]:List eY):List eY)=(jF l):=by refine(ams hrise bN ?_).symm; rcases lW with h1 | h1; simp [h1]; simp; intro _; omega
   have H2:=(gu▸H1:Hp w S0 w4 (aQ iK 107 none 0 (jF l)::[dW g1 107 [aI x1.Node,aI x1.At]]));exact⟨none,0,by rw [<- gu] <;> rfl,(H2.rm s1)⟩
  try simp only [eT,dO,bK,eu,dZ,fI,bM,bV] at lW
  refine jy ?_;refine jC<|j6 g1 0 GX K4 s0 Y<|jk Y<|jD<|iw (gy ?_)
  refine jC<|ev (dP Y Y)<|mv Y<|jD ?_
  have kC:(x1.Node:Int)=N7 l (k+1):=by exact(aiq bN).symm
  refine jq (t:=3) Y (aV (Value.int .i64) kC)<|dG ⟨(k+1),Y,Y,aj,by rw [XK hrise bN]; obtain⟨h1,h2⟩:=lW; simp [h1]; omega,(K4.rm s0)⟩ rfl aj
 refine xq ?_;refine bQ Y<|gU Y (DK _ (K1.a jE).any aj) ?_
 rintro _ w5 ⟨CG,CJ,rfl,h5⟩;have K5:=K1.f1 h5;refine bX Y<|iP Y ?_
 have nC:(l:List eY)=(jF l):=by rw [gV aj] at hrise; exact(Qm hrise).symm
 have H3:=(nC▸K5:Hp w S0 w5 [aQ iK 107 CG CJ (jF l)]);exact⟨CG,CJ,by rw [<- nC] <;> rfl,H3⟩
theorem GY(l:List eY):(jF l).length<=l.length:=by unfold jF; split <;> simp
def XL(b:eY)(nu:Int):Int:=b.At+(if(1099511627776:Int)<(if 0>nu then 0 else nu) then 1099511627776 else(if 0>nu then 0 else nu))
def Lr(aJ nu:Int)(b:eY):Bool:=decide (aJ<=XL b nu)
def JV(l:List eY)(aJ nu:Int):List eY:=(jF l).filter (Lr aJ nu)
theorem Tf:∀(l:List eY)(z:Int),lZ z l=true->∀ b∈l,Lj b=true
  | [],_,_,b,hb=>by simp at hb
  | c::l,z,h,b,hb=>by
    simp only [lZ,bK] at h
    rcases iR.1 hb with rfl | hb
    · exact h.1.1
    · exact Tf l _ h.2 b hb
theorem apM{l:List eY}{b:eY}(hb:b∈jF l):1<=b.Node/\b.Node<=16/\0<=b.At/\b.At<=1099511627776:=by
  unfold jF at hb; split at hb
  · rename_i h; have:=Tf l 0 h b hb; simp only [Lj,bK,bM] at this; exact⟨this.1.1.1,this.1.1.2,this.1.2,this.2⟩
  · simp at hb
theorem air{α:Type}{p:α->Bool}{l:List α}{x:α}(hx:l[k]? = some x)(hp:p x=true):(l.take k).filter p++[x] <+: l.filter p:=by
  refine⟨(l.drop (k+1)).filter p,?_⟩;have h1:=nM (p:=p) hx;rw [aS hp] at h1;rw [<- h1,<- Bz,FC]
theorem azd:bJ prog 263:=ay
theorem ab0:∀ w,(zeroValue 55).run prog w=.ok (.slice none 0 0) w:=ay
theorem aze:bJ prog 262:=ay
theorem auU(w:World)(b:eY)(nu:Int)(hA:0<=b.At/\b.At<=1099511627776) :
    bO prog 263 #[.agg #[aI b.Node,aI b.At],aI nu] w λv w'=>v=aI (XL b nu)/\Hp w S0 w' []:=by
 refine lg S0 func263 ntmps263 Y λH0=>rg<|bx Y Y H0 λg1 w1 K1=>bX Y<|rg<|j6 g1 1 Ll K1 s0 Y<|mv Y<|ev (Ev.max2 Y Y)<|ev (Ev.min2 Y Y)<|ev (Ev.add Y Y (zP (by split <;> (try split) <;> omega) (by split <;> (try split) <;> omega)))<|bX rfl<|iP rfl ?_
 exact⟨by skip <;> rfl,(K1.rm s0)⟩
abbrev zB10x2z(iE:ah)(je:List eY)(wP:Nat):List Value:=[.slice iE je.length wP]
theorem ab2{b:World}{S:Nat->Prop}{gl gn gt:Nat}{l:List eY}{aJ nu:Int}(hn:l.length<=800000) :
    Iter prog 262 [gI gl,gI gn,gI gt] (fun(x:eY)=>[.agg #[aI x.Node,aI x.At]]) (JV l aJ nu) b S [dW gl 47 (zB10x2z jU l jR),dW gn 3 [aI aJ],dW gt 3 [aI nu],dH iK jU jR l]:=by
 intro lr Jf Jx w F0 H0 h0 hY;refine WP.ahK func262 Y ntmps262 Y ?_;have K0:=uI (F:=F0) H0;have hf:=GY l;refine rg<|nL K0 s0 Y<|gU Y (aeZ _ (K0.s s3).any aj) ?_
 rintro _ w1 ⟨jZ,j3,rfl,h1⟩;have K1:=K0.f1 h1;have JO:=(K1.o s0).bC;refine ev (eX Dc Y)<|mv Y<|dn<|cB<|qZ (λmJ lJ wJ=>∃(k:Nat)(F:List lG),lJ=[(0,.func (.yield lr) #[] #[]),(2,gI gn),(3,gI gt),(8,.slice jZ ((jF l).length) j3),(9,aI (((jF l).length:Nat):Int)),(10,aI ((k:Nat):Int))]/\mJ=(jF l).length - k/\k<=(jF l).length/\(Jf (((jF l).take k).filter (Lr aJ nu)) F)/\Hp b S wJ (aQ iK 107 jZ j3 (jF l)::dW gl 47 (zB10x2z jU l jR)::dW gn 3 [aI aJ]::dW gt 3 [aI nu]::dH iK jU jR l::F)) ⟨0,F0,Y,Y,fE _,by simpa using h0,K1⟩ rfl ?_
 rintro _ _ w2 ⟨k,F,rfl,rfl,hk,hJt,K2⟩;refine rg<|ev (fD Y Y)<|dn<|pG Y (λy7=>?_) (λy7=>?_)
 ·refine jy ?_;refine aY<|cB<|rg ?_
  obtain⟨x1,bN⟩:=bn (xs:=jF l) (i:=k) aj;refine ev (eP (i:=k) Dc Lm Y Y Y (aM bN) ((K2.o s0).some_ bN))<|ev (iU I5 Y Y ((K2.o s0).fF bN))<|al Qn Y K2 λg1 w3 K3=>sty Y K3 s0 Y λw4 K4=>dn<|WP.dr ak ?_
  have H1:=K4.grow (pW w4).drew;refine wiz H1 [(0,14,aI aJ),(1,15,.agg #[aI x1.Node,aI x1.At]),(2,16,aI nu),(3,17,aI (XL x1 nu)),(4,18,.bool (decide (aJ<=XL x1 nu))),(5,19,.bool (decide (aJ<=XL x1 nu)))] 5 (aby ak) (Gx Y (λ_ hK=>(eF jN Y (hK.x s3) Y))<|Gx Y (λ_ hK=>(fK I5 Y Y (hK.x s0)))<|Gx Y (λ_ hK=>(eF jN Y (hK.x s4) Y))<|qcz Y (Qi.call Y Y Y azd (λ_ hK=>(auU (S0:=Any) _ x1 nu (apM (bZ bN)).2.2).mono (by rintro _ _ ⟨rfl,gu⟩; exact⟨rfl,hK.grow gu.ext⟩)))<|Gx rfl (λ_ hK=>(u7 rfl rfl))<|Gx rfl (λ_ hK=>(bq rfl))<|qnz) λw5 K5=>?_
  cases ZC:decide (aJ<=XL x1 nu) with
  | true=>
   have apN:=iY ZC;refine wiz K5 [(6,20,.func (.yield lr) #[] #[]),(7,21,.agg #[aI x1.Node,aI x1.At])] 3 ak (NG Y (λ_ hK=>(bq Y))<|NG Y (λ_ hK=>(fK I5 Y Y (hK.x s0)))<|qnz) λw6 K6=>?_;refine WI.one 8 ak Y ?_;have hy1:=hY (((jF l).take k).filter (Lr aJ nu)) x1 _ _ [dW g1 107 [aI x1.Node,aI x1.At],aQ iK 107 jZ j3 (jF l)] hJt (air bN (by exact ZC)) (uI (F:=[dW gl 47 (zB10x2z jU l jR),dW gn 3 [aI aJ],dW gt 3 [aI nu],dH iK jU jR l,dW g1 107 [aI x1.Node,aI x1.At],aQ iK 107 jZ j3 (jF l)]) ((K6.mV 0 2).mV 2 4));refine WL.yield Y Y Y hy1 (by rintro e w' (⟨rfl,_⟩ | ⟨rfl,_⟩) <;> exact⟨_,rfl⟩) rfl rfl rfl ?_;rintro v w7 (⟨hv,F1,hJ1,K7⟩ | ⟨hv,F1,hJ1,K7⟩)
   ·cases hv
    have K7c:=uI (F:=F1) K7;refine WI.nx<|wiz K7c [(9,23,.bool false),(10,24,.bool false)] 0 ak (NG Y (λ_ hK=>(iG (b:=true) Y))<|Gx Y (λ_ hK=>(dM Y Y))<|qnz) λw8 K8=>?_
    refine WI.dn ak<|bP Y nofun (λ_h=>?_)
    refine Ci ?_;refine jC<|ev (dP Y Y)<|mv Y<|jD<|dG ⟨(k+1),F1,Y,Y,aj,by rw [nM bN]; first | (rw [aS (show Lr aJ nu x1=true from ZC)]; assumption) | (rw [aP (show ¬ Lr aJ nu x1=true by rw [show Lr aJ nu x1=false from ZC]; decide),zM]; exact hJt),(((K8.rm s4).mV 0 4).sel s4)⟩ rfl aj
   ·cases hv
    have K7c:=uI (F:=F1) K7;refine WI.nx<|wiz K7c [(9,23,.bool true),(10,24,.bool true)] 0 ak (NG Y (λ_ hK=>(iG (b:=false) Y))<|Gx Y (λ_ hK=>(dM Y Y))<|qnz) λw9 K9=>?_
    refine WI.dn ak<|bP Y (λ_h=>?_) nofun
    exact jf (iX (fO (fO (iX (l8.alK Y ⟨⟨_,Y⟩,.inr ⟨_,_,hJ1,(uI (K9.cU 4 2))⟩⟩)))))
  | false=>
   have apN:=jS ZC;refine wiz K5 [(6,20,undef),(7,21,undef),(8,22,undef),(9,23,undef),(10,24,.bool false)] 0 ak (zV Y<|zV Y<|zV Y<|zV Y<|Gx Y (λ_ hK=>(dS Y Y))<|qnz) λOm K10=>?_;refine WI.dn ak<|bP Y nofun (λ_h=>?_)
   refine Ci ?_;refine jC<|ev (dP Y Y)<|mv Y<|jD<|dG ⟨(k+1),F,Y,Y,aj,by rw [nM bN]; first | (rw [aS (show Lr aJ nu x1=true from ZC)]; assumption) | (rw [aP (show ¬ Lr aJ nu x1=true by rw [show Lr aJ nu x1=false from ZC]; decide),zM]; exact hJt),(K10.rm s0)⟩ rfl aj
 exact sP (mY (mY (um (l8.aoB (l8.alK Y ⟨⟨_,Y⟩,.inl ⟨_,by rw [gV aj] at hJt; exact hJt,(uI (K2.rm s0))⟩⟩)))))
theorem amu(w:World){l:List eY}(jE:Sl iK S0 w jU jR l)(aJ:Int)(nu:Int) :
    bO prog 172 #[.slice jU l.length jR,aI aJ,aI nu] w λv w'=>∃(aeT:Nat)(aeU:Nat)(aCO:Nat),v=.func (.func 262) #[] #[gI aeT,gI aeU,gI aCO]/\Hp w S0 w' [dW aeT 47 [.slice jU l.length jR],dW aeU 3 [aI aJ],dW aCO 3 [aI nu]]:=by
 refine lg S0 func172 ntmps172 Y λH0=>rg<|bx Y Y H0 λg1 w1 K1=>bx Y Y K1 λg2 w2 K2=>bx Y Y K2 λg3 w3 K3=>bX Y<|rg<|ev (rE Y)<|bX Y<|iP Y ?_
 exact⟨g1,g2,g3,Y,(((K3.sel s0).sel s1).sel s2)⟩
theorem N8(w:World){l:List eY}(jE:Sl iK S0 w jU jR l)(aJ:Int)(nu:Int)(hn:l.length<=800000) :
    bO prog 102 #[.slice jU l.length jR,aI aJ,aI nu] w λv w'=>∃(A0:ah)(c0:Nat),v=.slice A0 (((JV l aJ nu).map eY.Node).length) c0/\Hp w S0 w' [aQ dQ 3 A0 c0 ((JV l aJ nu).map eY.Node)]:=by
 refine aCc S0 func102 ntmps102 Y λH0=>?_;have hlv:(JV l aJ nu).length<=800000:=by have h1:=ni (Lr aJ nu) (jF l); have h2:=GY l; unfold JV; omega
 refine iT Y<|rg<|al ab0 Y H0 λg1 w1 K1=>dn<|aY<|bQ Y<|mv Y<|mv Y<|gU Y (amu _ (K1.a jE).any aJ nu) ?_
 rintro _ w2 ⟨Oz,aIp,aIq,rfl,h2⟩;have K2:=K1.f3 h2;refine dn<|cB ?_
 have H1:=K2.push (K2.a jE);have H2:=H1.nil dQ 3;refine WP.range Y aze (ab2 aj) (((H2.sel s1).mV 1 4).sel s5) (λ_=>Y) Y (λpre Fj=>∃(A:ah)(c:Nat),Fj=[dW g1 55 [.slice A ((pre.map eY.Node).length) c],aQ dQ 3 A c (pre.map eY.Node)]) (λc pre Fj=>False) (λpre x l1 Fj=>∃(A:ah)(c:Nat)(UC:Nat),l1=[(7,gI g1),(8,gI UC)]/\Fj=[dW UC 107 [aI x.Node,aI x.At],dW g1 55 [.slice A ((pre.map eY.Node).length) c],aQ dQ 3 A c (pre.map eY.Node)]) ⟨none,0,Y⟩ ?_ ?_ ?_ ?_
 ·rintro lr pre x _ G w3 ⟨A,c,rfl⟩ hpre K3;refine jC<|al Qn Y K3 λg2 w4 K4=>sty Y K4 s0 Y λw5 K5=>jD<|l8.ap ⟨A,c,g2,Y,Y⟩ Y K5
 ·rintro lr pre x _ _ G w6 ⟨A,c,UC,rfl,rfl⟩ hpre K6;have hpl:(pre.map eY.Node).length<=800000:=by have h1:=hpre.length_le; simp at h1 ⊢; omega
  refine cB<|jC<|nL K6 s1 Y<|j6 UC 0 GX K6 s0 Y<|Bh Y (by intro _; apply pR) rfl K6 (λ_ _=>rfl) λg3 w7 K7=>ap K7 s3 rfl rfl (K7.o s0) fA KU aj av rfl λpU pV w8 K8=>yD rfl K8 s3 rfl λw9 K9=>jD<|iw ?_
  have fT:(((pre.map eY.Node)++([x.Node]:List Int)):List Int)=((pre++[x]).map eY.Node):=by simp
  rw [fT] at K9;exact l8.rn ⟨pU,pV,Y⟩ (K9.cU 2 2)
 ·rintro D _ Om ⟨A,c,rfl⟩ K10;refine iw (gy ?_);refine rg<|nL K10 s5 Y<|bX Y<|jf (l8.alJ K10 Y λVa vM=>⟨_,⟨_,_,Y,Y,Y⟩,?_⟩)
  exact⟨A,c,Y,(vM.cU 0 5)⟩
 ·rintro D c pre F w h _;exact h.elim
end
end Go.Proofs.YtlhnnmlenkahlaaGreat
