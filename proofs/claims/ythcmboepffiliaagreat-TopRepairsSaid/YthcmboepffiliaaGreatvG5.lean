/- Lemmas. -/
import Derived.Test.YthcmboepffiliaaGreatvG4
set_option maxRecDepth 4000
set_option linter.all false
namespace Go.Proofs.YthcmboepffiliaaGreat
open Go.RowKit Go.Proofs.Tryz
def aj2:=@List.findSome?_eq_none_iff
def YU:=@List.mem_of_find?_eq_some
def UK:=@List.countP_append
def vw:=@underlying61
def adv:=@underlying338
def AP:=@List.foldl_append
def UL:=@List.find?_cons_of_pos
def M0:=@underlying60
section
variable {α β:Type}{cs:List aH}{l:List aT}{D old:List Int}{aX:List fJ}{k jK jZ nk:Nat}{S0:Nat->Prop}{jL j3 wP nu:ah}{f:α->Option β}{p:α->Bool}
def adw(cs:List aH)(l:List aT)(x y:aT):Option aL:=(cs.find? fun(c:aH)=>BX c l x.ID y.ID).map fun(c:aH)=>⟨0,c.ID,c.E,c.Sum,x.ID,y.ID,0⟩
def D7(cs:List aH)(l:List aT)(aX:List fJ)(lq:Int)(p:aT × aT):Option aL:=if nX aX p.1.ID - nX aX p.2.ID<=(if 1>lq then 1 else lq)∨p.2.lV<=nX aX p.2.ID then none else adw cs l p.1 p.2
def YV(cs:List aH)(l:List aT)(D:List Int):List (aT × aT):=vZ (LD (frC (gK cs l D)) (xH l D)) (LD (toC (gK cs l D)) (xH l D))
def iV(cs:List aH)(l:List aT)(D:List Int)(lq:Int):aL:=if ku cs=true then((YV cs l D).findSome? (D7 cs l (gK cs l D) lq)).getD ⟨0,0,0,0,0,0,0⟩ else⟨0,0,0,0,0,0,0⟩
def moveB(cs:List aH)(l:List aT)(D:List Int)(lq:Int):Bool:=decide (0<(iV cs l D lq).X)
def arR{pre ys:V α}{x:α}{o:β}(h:pre++[x] <+: ys)(hno:∀ p∈pre,f p=none)(hx:f x=some o):ys.findSome? f=some o:=by
 obtain⟨t,rfl⟩:=h;rw [List.findSome?_append,List.findSome?_append,aj2.2 hno]
 simp [hx]
def arS(id:Int):0<=nX (gK cs l D) id/\nX (gK cs l D) id<=cs.length:=by
 unfold nX
 split
 ·rename_i x hx; exact ajX (YU hx)
 ·omega
def axR(l:V aT)(D:V Int):Up aT.ID (xH l D):=by
 unfold xH; split
 ·rename_i h; exact List.Pairwise.filter _ (E9 _ 0 h)
 ·exact List.Pairwise.nil
def arT(l:V aT)(D:V Int):(xH l D).length<=l.length:=by
 unfold xH; split
 ·exact mW _ _
 ·simp
def YW{lq:Int}{p:aT × aT}(h:∀ c∈cs.take k,BX c l p.1.ID p.2.ID=false)(hk:cs.length<=k):D7 cs l aX lq p=none:=by
 unfold D7 adw;rw [gY hk] at h;rw [EZ.2 (λc hc=>by simp [h c hc])];exact ite_self _
def aoD{lq:Int}{p:aT × aT}{x:aH}(hc:¬ (nX aX p.1.ID - nX aX p.2.ID<=(if 1>lq then 1 else lq)∨p.2.lV<=nX aX p.2.ID))(h:∀ c∈cs.take k,BX c l p.1.ID p.2.ID=false)(hx:cs[k]? = some x)(hg:BX x l p.1.ID p.2.ID=true):D7 cs l aX lq p=some ⟨0,x.ID,x.E,x.Sum,p.1.ID,p.2.ID,0⟩:=by
 have hs:cs=cs.take k++x::cs.drop (k+1):=by
  conv=>lhs; rw [<- Gp k cs]
  rw [CF (aP hx),(rG.1 hx).2]
 unfold D7 adw;rw [aQ hc,hs,MS,EZ.2 (λc hc=>by simp [h c hc])]
 simp [hg]
def Dw:∀ w,(zeroValue 121).run prog w=.ok (.agg #[O 0,O 0,O 0,gP 0,O 0,O 0,O 0]) w:=ay
def alX:kW prog 34:=ay
def UM:Size prog 121 7:=ay
def zH:WC prog 121 7:=⟨λ_=>by kernel_rfl,UM⟩
def arU:∀ w,(zeroValue 131).run prog w=.ok (.slice none 0 0) w:=ay
def aCM:bC prog 328:=ay
def Hu(a0:Int)(a1:Int)(a2:Int)(a3:Int)(a4:Int)(a5:Int):prog.built 121 [(0,O a0),(1,O a1),(2,O a2),(3,gP a3),(4,O a4),(5,O a5)]=some #[O a0,O a1,O a2,gP a3,O a4,O a5,O 0]:=ak
def uF:bU prog 121 1 1:=ay
def adx{pre:V α}{x:α}(h:∀ p∈pre,f p=none)(hx:f x=none):∀ p∈pre++[x],f p=none:=by
 intro p hp
 rcases j5.1 hp with h1 | h1
 ·exact h p h1
 ·rw [mU.1 h1]; exact hx
abbrev arV(gX:List aH)(iP:List aT)(xE:List Int):=LD (frC (gK gX iP xE)) (xH iP xE)
abbrev arW(gX:List aH)(iP:List aT)(xE:List Int):=LD (toC (gK gX iP xE)) (xH iP xE)
abbrev aj3(gX:List aH)(iP:List aT)(xE:List Int)(AU:(aT × aT))(Gg:Int):=nX (gK gX iP xE) AU.1.ID - nX (gK gX iP xE) AU.2.ID<=(if 1>Gg then 1 else Gg)
def alY(w:World){uD:ah}{uz:Nat}{dh:V aH}(uE:Sl bD S0 w uD uz dh)(jq:Sl bW S0 w jL jK l)(kQ:Sl dN S0 w j3 jZ D)(lq:Int)(hn:l.length<=100000)(hc:dh.length<=100000)(hh:∀ x∈dh,x.aD.length<=100000):bM prog 184 #[.slice uD dh.length uz,.slice jL l.length jK,.slice j3 D.length jZ,O lq] w λv w'=>v=.tuple #[.agg #[O ((iV dh l D lq).Kind),O ((iV dh l D lq).X),O ((iV dh l D lq).E),gP ((iV dh l D lq).Sum),O ((iV dh l D lq).jm),O ((iV dh l D lq).To),O ((iV dh l D lq).iK)],.bool (moveB dh l D lq)]/\Hp w S0 w' []:=by
 refine aGy S0 func184 ntmps184 Y λH0=>?_;have aox:=uE.bI;have Iz:=jq.bI;have arK:=kQ.bI;have hfl:=arT l D;refine rg<|bx Y Y H0 λg1 w1 K1=>bx Y Y K1 λg2 w2 K2=>bx Y Y K2 λg3 w3 K3=>al Dw Y K3 λg4 w4 K4=>fE Y<|WP.sc<|rg<|al Dw Y K4 λg5 w5 K5=>dn<|aZ<|rg<|lY K5 s4 Y<|mX K5 Y (Oa _ (K5.a uE).any aj) λw6 K6=>pA 2 Y<|bS Y (λl8=>?_) (λl8=>?_)
 ·try simp only [aA] at l8
  refine rg<|ev (fA zH Y Y (K6.x U))<|sty Y K6 s1 Y λw7 K7=>fE Y<|jE (gG (l7.adb (l7.aMQ Y ⟨_,_,Y,⟨_,Y,jo zH Y (K7.x U)⟩,⟨_,_,Y,Y,Y⟩⟩ ?_)))
  have gy:((⟨0,0,0,0,0,0,0⟩:aL):aL)=(iV dh l D lq):=by unfold iV; rw [aQ (by rw [l8]; decide)]
  have gH:(0:Int)=(iV dh l D lq).Kind:=by rw [<- gy]
  have kN:(0:Int)=(iV dh l D lq).X:=by rw [<- gy]
  have nM:(0:Int)=(iV dh l D lq).E:=by rw [<- gy]
  have uO:(0:Int)=(iV dh l D lq).Sum:=by rw [<- gy]
  have zC:(0:Int)=(iV dh l D lq).jm:=by rw [<- gy]
  have BO:(0:Int)=(iV dh l D lq).To:=by rw [<- gy]
  have hq8:(0:Int)=(iV dh l D lq).iK:=by rw [<- gy]
  have Aa:(false:Bool)=(moveB dh l D lq):=by unfold moveB iV; rw [aQ (by rw [l8]; decide)]; rfl
  exact⟨by rw [<- gH,<- kN,<- nM,<- uO,<- zC,<- BO,<- hq8,<- Aa] <;> rfl,K7.z⟩
 try simp only [aA] at l8
 refine jQ ?_;refine rg<|lY K6 s4 Y<|lY K6 s3 Y<|mv Y<|gu Y (aCz _ (K6.a uE).any (K6.a jq).any (K6.a kQ).any aj) ?_
 rintro _ w8 ⟨JQ,JR,aj4,aj5,rfl,h8⟩;have K8:=K6.f2 h8;have aGP:=(K8.o U).bI;have aGQ:=(K8.o s1).bI;refine pq 3 Y<|al arU Y K8 λg6 w9 K9=>oJ Y<|xD Y K9 U Y λPE K10=>dn<|aZ (WP.lab (fV ?_))
 refine aZ<|gD Y<|lY K10 U Y<|gu Y (arP _ (K10.o s1) (K10.o s2) aj (axR l D)) ?_
 rintro _ VY ⟨axS,alZ,al0,axT,al1,al2,rfl,h11⟩;have vF:=K10.f4 h11;have aNi:=(vF.o s2).bI;have aNj:=(vF.o s3).bI;refine dn<|dF ?_
 refine WP.range (G0:=[dJ axS 33 [.slice alZ ((arV dh l D).length) al0],dJ axT 33 [.slice al1 ((arW dh l D).length) al2],aR bW 72 alZ al0 (arV dh l D),aR bW 72 al1 al2 (arW dh l D)]) Y aCM (agF (by simp only [LD,MH]; omega) (by simp only [LD,MH]; omega)) ((((vF.mV 0 4).mV 8 4).mV 8 3).sel s11) (λ_=>rfl) rfl (λpre Fj=>Fj=[dJ g5 121 [O 0,O 0,O 0,gP 0,O 0,O 0,O 0],dJ g6 131 [.slice aj4 ((gK dh l D).length) aj5],aR bW 72 JQ JR (xH l D),aR nW 221 aj4 aj5 (gK dh l D),dJ g4 121 [O 0,O 0,O 0,gP 0,O 0,O 0,O 0],dJ g3 3 [O lq],dJ g2 33 [.slice jL l.length jK],dJ g1 34 [.slice uD dh.length uz]]/\(∀ p∈pre,(D7 dh l (gK dh l D) lq) p=none)) (λc pre Fj=>(c=(.exit 0)/\∃(oc:Int)(ov:Int)(os:Int)(of_:Int)(ot:Int),Fj=[dJ g5 121 [O 0,O oc,O ov,gP os,O of_,O ot,O 0],dJ g6 131 [.slice aj4 ((gK dh l D).length) aj5],aR bW 72 JQ JR (xH l D),aR nW 221 aj4 aj5 (gK dh l D),dJ g4 121 [O 0,O 0,O 0,gP 0,O 0,O 0,O 0],dJ g3 3 [O lq],dJ g2 33 [.slice jL l.length jK],dJ g1 34 [.slice uD dh.length uz]]/\((YV dh l D).findSome? (D7 dh l (gK dh l D) lq)=some ⟨0,oc,ov,os,of_,ot,0⟩))) (λpre x l1 Fj=>∃ V3 gm1,l1=[(4,fK g1),(5,fK g2),(7,fK g3),(10,fK g5),(12,fK g6),(13,fK gm1),(14,fK V3)]/\Fj=[dJ V3 72 [O x.2.ID,O x.2.mY,O x.2.lV,O x.2.fT],dJ gm1 72 [O x.1.ID,O x.1.mY,O x.1.lV,O x.1.fT],dJ g5 121 [O 0,O 0,O 0,gP 0,O 0,O 0,O 0],dJ g6 131 [.slice aj4 ((gK dh l D).length) aj5],aR bW 72 JQ JR (xH l D),aR nW 221 aj4 aj5 (gK dh l D),dJ g4 121 [O 0,O 0,O 0,gP 0,O 0,O 0,O 0],dJ g3 3 [O lq],dJ g2 33 [.slice jL l.length jK],dJ g1 34 [.slice uD dh.length uz]]/\(∀ p∈pre,(D7 dh l (gK dh l D) lq) p=none)) ⟨rfl,by intro p hp; simp at hp⟩ ?_ ?_ ?_ ?_
 ·rintro lr pre x _ G Uy ⟨rfl,hno⟩ hpre uR;refine rg<|al tT Y uR λg7 YX xk=>sty Y xk U Y λw14 wF=>dn<|jN<|al tT Y wF λg8 w15 zI=>sty Y zI U Y λw16 BZ=>jO<|l7.ap ⟨g8,g7,Y,Y,hno⟩ Y BZ
 ·rintro lr pre x _ _ G w17 ⟨V3,gm1,rfl,rfl,hno⟩ hpre zT;refine dF<|rg<|lY zT s3 Y<|jP V3 0 mF zT U Y<|mX zT Y (vM _ (zT.o s5) x.2.ID) λw18 EL=>fE Y<|aZ ?_
  have hpb:=arS (cs:=dh) (l:=l) (D:=D) x.1.ID;have hpc:=arS (cs:=dh) (l:=l) (D:=D) x.2.ID;refine WP.dr ak ?_;have H1:=EL.grow (oW w18).drew;refine wiz H1 [(0,38,.slice aj4 ((gK dh l D).length) aj5),(1,39,fK gm1),(4,42,O (nX (gK dh l D) x.2.ID)),(6,44,O lq),(2,40,O x.1.ID),(7,45,O (if 1>lq then 1 else lq)),(3,41,O (nX (gK dh l D) x.1.ID)),(5,43,O (nX (gK dh l D) x.1.ID - nX (gK dh l D) x.2.ID)),(8,46,.bool (decide (aj3 dh l D x lq))),(9,47,.bool (decide (aj3 dh l D x lq)))] 5 (ada ak) (Ik Y (λ_ hK=>(dU P6 Y (hK.x s3) Y))<|Ik Y (λ_ hK=>(fq (q:=⟨gm1,0,none⟩) mF Y Y))<|Ik Y (λ_ hK=>(dP Y))<|Ik Y (λ_ hK=>(dU jF Y (hK.x s7) Y))<|Ik Y (λ_ hK=>(dU jF Y (hK.x s1) Y))<|Ik Y (λ_ hK=>(Ev.max2 Y Y))<|qcz Y (Qi.call Y Y Y aj0 (λ_ hK=>(vM _ (hK.o s5) x.1.ID).mono (by rintro _ _ ⟨rfl,gH⟩; exact⟨rfl,hK.grow gH.ext⟩)))<|Ik rfl (λ_ hK=>(VO rfl rfl))<|Ik rfl (λ_ hK=>(Ev.leq rfl rfl))<|Ik rfl (λ_ hK=>(dP rfl))<|qnz) λw19 Ai=>?_
  cases aGR:decide (aj3 dh l D x lq) with
  | true=>
   have aGS:=iY aGR;refine wiz Ai [(10,48,undef),(11,49,undef),(12,50,undef),(13,51,undef),(14,52,.bool true)] 0 ak (AA Y<|AA Y<|AA Y<|AA Y<|Ik Y (λ_ hK=>(oP Y Y))<|qnz) λw20 Fg=>?_;refine WI.dn ak<|bS Y (λ_h=>?_) nofun
   refine tu (mG (tZ ?_));exact l7.rn ⟨Y,by refine adx hno ?_; first | exact YW arX aj | (unfold D7; rw [aS aj])⟩ (Fg.cU 0 2)
  | false=>
   have aGS:=jX aGR;refine wiz Ai [(10,48,O (nX (gK dh l D) x.2.ID)),(11,49,.pointer (some ⟨V3,2,none⟩)),(12,50,O x.2.lV),(13,51,.bool (decide (x.2.lV<=nX (gK dh l D) x.2.ID))),(14,52,.bool (decide (x.2.lV<=nX (gK dh l D) x.2.ID)))] 0 ak (O9 Y (λ_ hK=>(dP Y))<|O9 Y (λ_ hK=>(fq (q:=⟨V3,2,none⟩) Oh Y Y))<|O9 Y (λ_ hK=>(dU jF Y (hK.x U) Y))<|O9 Y (λ_ hK=>(Ev.geq Y Y))<|Ik Y (λ_ hK=>(oU Y Y))<|qnz) λw21 IJ=>?_;refine WI.dn ak<|o8 Y (λaNk=>?_) (λaNk=>?_)
   ·refine tu (mG (tZ ?_));exact l7.rn ⟨Y,by refine adx hno ?_; first | exact YW arX aj | (unfold D7; rw [aS aj])⟩ (IJ.cU 0 2)
   refine jQ ?_;refine rg<|lY IJ s9 Y<|pA 3 Y<|dF<|Lp IJ (λl0 rk mJ lJ wJ=>∃ k,lJ=(55,O ((k:Nat):Int))::l0/\mJ=dh.length - k/\k<=dh.length/\(∀ c∈dh.take k,BX c l x.1.ID x.2.ID=false)/\Hp w S0 wJ rk) ⟨0,Y,Y,fI _,av,IJ⟩ rfl ?_
   rintro _ _ w22 ⟨k,rfl,rfl,hk,arX,Hy⟩;refine rg<|ev (iH Y Y)<|dn<|r9 Y (λaNl=>?_) (λaNl=>?_)
   ·refine jQ ?_;refine aZ<|dF<|rg ?_
    obtain⟨x1,bT⟩:=bH (xs:=dh) (i:=k) aj;refine ev (d9 (i:=k) lT tH Y Y Y (aP bT) ((Hy.a uE).some_ bT)) ?_;obtain⟨B1,d1,yG,hi1⟩:=CG (uE.row bT);refine ev (iR (cs:=[O x1.ID,O x1.E,gP x1.Sum,.slice B1 x1.aD.length d1]) p8 Y Y (Gu (λj u hu=>Hy.ext.cell (yG j u hu))))<|al lX Y Hy λg9 w23 Le=>sty Y Le U Y λw24 pz=>dn<|rg<|ev (fA p8 Y Y (pz.x U))<|lY pz s9 Y<|jP gm1 0 mF pz s2 Y<|jP V3 0 mF pz s1 Y<|mX pz Y (axO _ x1 (pz.a hi1).any (pz.a jq).any x.1.ID x.2.ID aj (hh _ (dz bT))) λw25 DU=>dn<|bS Y (λaj7=>?_) (λaj7=>?_)
    ·refine rg<|jP g9 0 pG DU U Y<|jP g9 1 tO DU U Y<|jP g9 2 JH DU U Y<|jP gm1 0 mF DU s2 Y<|jP V3 0 mF DU s1 Y<|ev (iT (vs:=[(0,O 0),(1,O x1.ID),(2,O x1.E),(3,gP x1.Sum),(4,O x.1.ID),(5,O x.2.ID)]) (cs:=[O 0,O x1.ID,O x1.E,gP x1.Sum,O x.1.ID,O x.2.ID,O 0]) Y (by apply Hu))<|sty rfl DU s3 rfl λw26 JU=>dn<|tu (LY rfl (mG (mG (LY rfl (LY rfl ?_)))))
     exact l7.rx ⟨Y,x1.ID,x1.E,x1.Sum,x.1.ID,x.2.ID,Y,by exact arR hpre hno (aoD (by rintro(h | h) <;> omega) arX bT aj7)⟩ (JU.cU 1 3)
    refine Gw ?_;refine jN<|ev (eG Y Y)<|mv Y<|jO<|dX ⟨(k+1),Y,Y,aj,by exact ug (q:=λc=>BX c l x.1.ID x.2.ID=false) arX bT aj7,(DU.rm U)⟩ rfl aj
   refine tu (mG (mG (tZ (iF ?_))));exact l7.rn ⟨Y,by refine adx hno ?_; first | exact YW arX aj | (unfold D7; rw [aS aj])⟩ (Hy.cU 0 2)
 ·rintro aYb _ w27 ⟨rfl,hno⟩ LG;refine iF (fV ?_);refine He LG (λ_ K=>(K.rm s9)) (λl0 rk lJ wJ=>lJ=(9,.bool (decide (0<0)))::l0/\Hp w S0 wJ (dJ g4 121 [O 0,O 0,O 0,gP 0,O 0,O 0,O 0]::rk)) (λhns H2=>?_) ?_
  ·have k1:=(H2.rm s9);refine kI 0 Y (λ_ hK=>fA zH Y Y (hK.x s5)) k1<|mK 1 2 g5 1 uF s5 Y k1<|kI 3 Y (λ_ _=>Ev.gtr Y Y) k1<|O1 4 Y<|sty Y H2 s9 Y λw28 Fh=>?_
   have k2:=(Fh.rm U);refine aO k2<|xC 5 Y Y k2<|Dn ⟨Y,Fh⟩ Y
  rintro _ w29 ⟨rfl,Fp⟩;refine jE (l7.adb (l7.an6 ((Fp.sel U).sel s1) Y λw30 Fq=>⟨_,⟨_,_,Y,⟨_,Y,jo (cs:=[O 0,O 0,O 0,gP 0,O 0,O 0,O 0]) zH Y (Fq.x U)⟩,⟨_,_,Y,Y,Y⟩⟩,?_⟩));have vL:((⟨0,0,0,0,0,0,0⟩:aL):aL)=(iV dh l D lq):=by unfold iV; rw [aS l8,show(YV dh l D).findSome? (D7 dh l (gK dh l D) lq)=none from aj2.2 hno]; rfl
  have hq11:(0:Int)=(iV dh l D lq).Kind:=by rw [<- vL]
  have hq12:(0:Int)=(iV dh l D lq).X:=by rw [<- vL]
  have aj8:(0:Int)=(iV dh l D lq).E:=by rw [<- vL]
  have aj9:(0:Int)=(iV dh l D lq).Sum:=by rw [<- vL]
  have ar4:(0:Int)=(iV dh l D lq).jm:=by rw [<- vL]
  have ar5:(0:Int)=(iV dh l D lq).To:=by rw [<- vL]
  have ar6:(0:Int)=(iV dh l D lq).iK:=by rw [<- vL]
  have ar7:(decide (0<0):Bool)=(moveB dh l D lq):=by unfold moveB iV; rw [aS l8,show(YV dh l D).findSome? (D7 dh l (gK dh l D) lq)=none from aj2.2 hno]; rfl
  exact⟨by rw [ar7,<- hq11,<- hq12,<- aj8,<- aj9,<- ar4,<- ar5,<- ar6] <;> rfl,Fq.z⟩
 ·rintro aYb c pre F w31 (⟨rfl,oc,ov,os,of_,ot,rfl,hfs⟩) Lh;refine tu (tZ (fV ?_));refine He Lh (λ_ K=>(K.rm s9)) (λl0 rk lJ wJ=>lJ=(9,.bool (decide (0<oc)))::l0/\Hp w S0 wJ (dJ g4 121 [O 0,O oc,O ov,gP os,O of_,O ot,O 0]::rk)) (λhns H3=>?_) ?_
  ·have k3:=(H3.rm s9);refine kI 0 Y (λ_ hK=>fA zH Y Y (hK.x s5)) k3<|mK 1 2 g5 1 uF s5 Y k3<|kI 3 Y (λ_ _=>Ev.gtr Y Y) k3<|O1 4 Y<|sty Y H3 s9 Y λw32 M4=>?_
   have k4:=(M4.rm U);refine aO k4<|xC 5 Y Y k4<|Dn ⟨Y,M4⟩ Y
  rintro _ w33 ⟨rfl,P7⟩;refine jE (l7.adb (l7.an6 ((P7.sel U).sel s1) Y λw34 Xd=>⟨_,⟨_,_,Y,⟨_,Y,jo (cs:=[O 0,O oc,O ov,gP os,O of_,O ot,O 0]) zH Y (Xd.x U)⟩,⟨_,_,Y,Y,Y⟩⟩,?_⟩));have akb:((⟨0,oc,ov,os,of_,ot,0⟩:aL):aL)=(iV dh l D lq):=by unfold iV; rw [aS l8,hfs]; rfl
  have aNm:(0:Int)=(iV dh l D lq).Kind:=by rw [<- akb]
  have aNn:(oc:Int)=(iV dh l D lq).X:=by rw [<- akb]
  have aNo:(ov:Int)=(iV dh l D lq).E:=by rw [<- akb]
  have aNp:(os:Int)=(iV dh l D lq).Sum:=by rw [<- akb]
  have aNq:(of_:Int)=(iV dh l D lq).jm:=by rw [<- akb]
  have aNr:(ot:Int)=(iV dh l D lq).To:=by rw [<- akb]
  have aNs:(0:Int)=(iV dh l D lq).iK:=by rw [<- akb]
  have aNt:(decide (0<oc):Bool)=(moveB dh l D lq):=by unfold moveB iV; rw [aS l8,hfs]; rfl
  exact⟨by rw [aNt,<- aNm,<- aNn,<- aNo,<- aNp,<- aNq,<- aNr,<- aNs] <;> rfl,Xd.z⟩
structure bq where
  X:Int
  E:Int
  jm:Int
  To:Int
  iK:Int
  deriving DecidableEq
def bq.enc(x:bq):List Value:=[.int .i64 x.X,.int .i64 x.E,.int .i64 x.jm,.int .i64 x.To,.int .i64 x.iK]
def bq.kP(x:bq):∀ u∈x.enc,u.oneCell'=true:=by
 intro u hu
 simp only [bq.enc,gW,lH,qM] at hu
 rcases hu with rfl | rfl | rfl | rfl | rfl <;> rfl
def dB:Ty bq:=Ty.flat 5 bq.enc au (λ_=>rfl) bq.kP
instance:Flat dB:=⟨λh=>h⟩
def uG(n:Int):Bool:=decide (1<=n)&&decide (n<=16)
def P8(x:bq):Bool:=uG x.jm&&uG x.To&&!decide (x.jm=x.To)&&decide (1<=x.X)&&decide (1<=x.E)&&decide (0<=x.iK)&&decide (x.iK<=1099511627776)
def sends(l:List bq)(id:Int):Nat:=l.countP λx=>decide (x.jm=id)
def takes(l:List bq)(id:Int):Nat:=l.countP λx=>decide (x.To=id)
def JV{l:V bq}{x:bq}(h:l[k]? = some x)(id:Int):sends (l.take (k+1)) id=sends (l.take k) id+if x.jm=id then 1 else 0:=by
 rw [eO h]; simp [sends,UK,List.countP_cons]
def JW{l:V bq}{x:bq}(h:l[k]? = some x)(id:Int):takes (l.take (k+1)) id=takes (l.take k) id+if x.To=id then 1 else 0:=by
 rw [eO h]; simp [takes,UK,List.countP_cons]
def Fv(l:V bq)(id:Int):sends l id<=l.length:=Ya
def M5(l:V bq)(id:Int):takes l id<=l.length:=Ya
def CQ(l:V bq)(k:Nat)(id:Int):sends (l.take k) id<=k:=lG (Fv _ _) (by simp only [iX]; omega)
def CS(l:V bq)(k:Nat)(id:Int):takes (l.take k) id<=k:=lG (M5 _ _) (by simp only [iX]; omega)
def Cb(l:List bq)(aN to:Int):Int:=idxOf (λx=>decide (x.X=aN)&&decide (x.To=to)) l
def pO(l:List bq)(x:bq)(dG all:Int):Int:=
  if P8 x=false then 1 else if 0<=Cb l x.X x.To then 6 else if all<=l.length∨dG<=sends l x.jm∨dG<=takes l x.To then 7 else 0
def wh(l:List bq)(x:bq)(dG all:Int):List bq:=if pO l x dG all=0 then l++[x] else[]
def inB(Z:Int)(x:bq):Bool:=!decide (x.iK<Z)
def P9(Z:Int)(x:bq):Bool:=decide (x.iK<Z)
def Ro{xs:V α}{x:α}(h:xs[k]? = some x):(xs.take (k+1)).filter p=(xs.take k).filter p++if p x then[x] else[]:=by
 rw [eO h,CB]
 cases hp:p x <;> simp [hp]
def al4(p:α->Bool)(xs:V α)(k:Nat):((xs.take k).filter p).length<=k:=lG (mW _ _) (by simp only [iX]; omega)
def axW(l:List bq)(dG:Int)(i:Nat)(x:bq):Bool:=P8 x&&decide (Cb l x.X x.To=(i:Int))&&decide ((sends l x.jm:Int)<=dG)&&decide ((takes l x.To:Int)<=dG)
def JX(l:List bq)(dG all:Int):Bool:=ajB (axW l dG) l&&decide ((l.length:Int)<=all)
def M6(l:List bq)(dG n:Int):Bool:=decide ((sends l n:Int)<dG)
def Cc(l:List bq)(yU:List Int)(dG:Int):Int:=match yU.find? (M6 l dG) with | some n=>n | none=>0
def Fz(l:List bq)(yU:List Int)(dG:Int):Bool:=(yU.find? (M6 l dG)).isSome
def Qb{α:Type}{p:α->Bool}:∀ {xs:V α} {k:Nat} {x:α},(∀ y∈xs.take k,p y=false)->xs[k]? = some x->p x=true->xs.find? p=some x
 | [],k,x,_,h,_=>by simp at h
 | y::xs,0,x,_,h,hp=>by simp at h; subst h; simp [List.find?,hp]
 | y::xs,k+1,x,h0,h,hp=>by
  have h1:=h0 y av;have h2:=Qb (xs:=xs) (k:=k) (x:=x) (λz hz=>h0 z (by simp [hz])) (by simpa using h) hp
  simp [List.find?,h1,h2]
def YZ{xs:V α}(h:∀ y∈xs,p y=false):xs.find? p=none:=by
 rw [EZ]; intro x hx; simp [h x hx]
def Rq:bU prog 165 2 2:=ay
def aCO:bC prog 364:=ay
def yJ:bU prog 165 3 3:=ay
def Rt:bU prog 165 0 0:=ay
def ar9:bU prog 165 1 1:=ay
def Y0:bU prog 165 4 4:=ay
def Hz:Size prog 165 5:=ay
def JY:WC prog 165 5:=⟨λ_=>by kernel_rfl,Hz⟩
def Ru:∀ w,(zeroValue 165).run prog w=.ok (.agg #[O 0,O 0,O 0,O 0,O 0]) w:=ay
def aCP:bC prog 339:=ay
def asa  : ∀ w,(Instr.buildSlice 61 0 (List.toArray [])).run prog w=.ok (.slice (some ⟨w.heap.size,0,none⟩) 0 0) (w.alloc (.cells (List.toArray []) 165)):=ay
def UN:kH prog 165 5 40:=by
 obtain⟨i,h1,h2,h3,h4⟩:=qo (show(prog.info? 165).map (λi=>(i.zero,i.size,i.bytes))=some (some (.agg #[O 0,O 0,O 0,O 0,O 0]),5,40) by kernel_rfl);exact⟨i,_,h1,h2,h3,h4,Y⟩
def C9(a0:Int)(a1:Int)(a2:Int)(a3:Int)(a4:Int):∀ w,(Instr.buildSlice 61 1 (List.toArray [(0,.agg #[O a0,O a1,O a2,O a3,O a4])])).run prog w=.ok (.slice (some ⟨w.heap.size,0,none⟩) 1 1) (w.alloc (.cells (List.toArray [O a0,O a1,O a2,O a3,O a4]) 165)):=ay
def abV(w:World)(id:Int):bM prog 364 #[O id] w λv w'=>v=.bool (uG id)/\Hp w S0 w' []:=by
 refine lg S0 func364 ntmps364 Y λH0=>pC 7 Y<|iJ 3 8 ((decide (1<=id))&&(decide (id<=16))) ?_ ?_
 ·cases hb5:decide (1<=id) with
  | true=>
   refine pq 3 Y<|dK Y
  | false=>
   refine pq 3 Y<|dK Y
 refine fE Y<|iU Y ?_
 exact⟨by skip <;> rfl,H0⟩
def asb(w:World)(x:bq):bM prog 321 #[.agg #[O x.X,O x.E,O x.jm,O x.To,O x.iK]] w λv w'=>v=.bool (P8 x)/\Hp w S0 w' []:=by
 refine lg S0 func321 ntmps321 Y λH0=>rg<|bx Y Y H0 λg1 w1 K1=>fE Y<|rg<|jP g1 2 Rq K1 U Y<|mX K1 Y (abV (S0:=Any) _ x.jm) λw2 K2=>mv Y<|qg 4 10 ((uG x.jm)&&(uG x.To)) ?_ ?_
 ·cases hb6:uG x.jm with
  | true=>
   refine wW g1 3 yJ K2 U Y<|om Y Y Y Y aCO (abV (S0:=Any) _ x.To) Y ?_
   rintro _ w3 ⟨rfl,h3⟩;refine pq 1 Y<|jI Y h3.ext
  | false=>
   refine pq 4 Y<|jI Y (oW _)
 intro w4 e4;have K4:=K2.grow e4;refine mv Y<|iJ 6 17 (((uG x.jm)&&(uG x.To))&&(!decide (x.jm=x.To))) ?_ ?_
 ·cases UD:((uG x.jm)&&(uG x.To)) with
  | true=>
   have MW:=UD
   try simp only [aA] at MW
   refine wW g1 2 Rq K4 U Y<|wW g1 3 yJ K4 U Y<|pq 2 Y<|dK Y
  | false=>
   refine pq 6 Y<|dK Y
 refine mv Y<|iJ 4 22 ((((uG x.jm)&&(uG x.To))&&(!decide (x.jm=x.To)))&&(decide (1<=x.X))) ?_ ?_
 ·cases aCl:(((uG x.jm)&&(uG x.To))&&(!decide (x.jm=x.To))) with
  | true=>
   have aAC:=aCl
   try simp only [aA] at aAC
   refine wW g1 0 Rt K4 U Y<|pq 2 Y<|dK Y
  | false=>
   refine pq 4 Y<|dK Y
 refine mv Y<|iJ 4 27 (((((uG x.jm)&&(uG x.To))&&(!decide (x.jm=x.To)))&&(decide (1<=x.X)))&&(decide (1<=x.E))) ?_ ?_
 ·cases aNu:((((uG x.jm)&&(uG x.To))&&(!decide (x.jm=x.To)))&&(decide (1<=x.X))) with
  | true=>
   have aGT:=aNu
   try simp only [aA] at aGT
   refine wW g1 1 ar9 K4 U Y<|pq 2 Y<|dK Y
  | false=>
   refine pq 4 Y<|dK Y
 refine mv Y<|iJ 4 32 ((((((uG x.jm)&&(uG x.To))&&(!decide (x.jm=x.To)))&&(decide (1<=x.X)))&&(decide (1<=x.E)))&&(decide (0<=x.iK))) ?_ ?_
 ·cases aoE:(((((uG x.jm)&&(uG x.To))&&(!decide (x.jm=x.To)))&&(decide (1<=x.X)))&&(decide (1<=x.E))) with
  | true=>
   have aGU:=aoE
   try simp only [aA] at aGU
   refine wW g1 4 Y0 K4 U Y<|pq 2 Y<|dK Y
  | false=>
   refine pq 4 Y<|dK Y
 refine mv Y<|iJ 4 37 (((((((uG x.jm)&&(uG x.To))&&(!decide (x.jm=x.To)))&&(decide (1<=x.X)))&&(decide (1<=x.E)))&&(decide (0<=x.iK)))&&(decide (x.iK<=1099511627776))) ?_ ?_
 ·cases aCQ:((((((uG x.jm)&&(uG x.To))&&(!decide (x.jm=x.To)))&&(decide (1<=x.X)))&&(decide (1<=x.E)))&&(decide (0<=x.iK))) with
  | true=>
   have aGV:=aCQ
   try simp only [aA] at aGV
   refine wW g1 4 Y0 K4 U Y<|pq 2 Y<|dK Y
  | false=>
   refine pq 4 Y<|dK Y
 refine fE Y<|iU Y ?_
 exact⟨by skip <;> rfl,(K4.rm U)⟩
def Rw(w:World){l:V bq}(jq:Sl dB S0 w jL jK l)(id:Int)(hn:l.length<=100):bM prog 248 #[.slice jL l.length jK,O id] w λv w'=>v=.complex .f64 (fb (sends l id)) (fb (takes l id))/\Hp w S0 w' []:=by
 refine lg S0 func248 ntmps248 Y λH0=>kX Y<|kX Y<|aZ<|gD Y<|ev (jf vw Y)<|mv Y<|dn<|dF ?_
 have gy:(.complex .f64 0 0:Value)=.complex .f64 (fb (sends (l.take 0) id)) (fb (takes (l.take 0) id)):=by simp [sends,takes,fb,alH]
 refine mP (t:=5) Y gy ?_;have gH:(0:Int)=((0:Nat):Int):=by simp
 refine mP (t:=10) Y (aY (Value.int .i64) gH)<|qh (λmJ lJ wJ=>∃ k,lJ=[(1,O id),(5,.complex .f64 (fb (sends (l.take k) id)) (fb (takes (l.take k) id))),(8,.slice jL l.length jK),(9,O ((l.length:Nat):Int)),(10,O ((k:Nat):Int))]/\mJ=l.length - k/\k<=l.length/\Hp w S0 wJ []) ⟨0,Y,Y,fI _,H0⟩ Y ?_
 rintro _ _ w1 ⟨k,rfl,rfl,hk,K1⟩;refine rg<|ev (iH Y Y)<|dn<|r9 Y (λzG=>?_) (λzG=>?_)
 ·refine jQ ?_;refine aZ<|dF<|rg ?_
  obtain⟨x1,bT⟩:=bH (xs:=l) (i:=k) aj;refine ev (d9 (i:=k) vw Hz Y Y Y (aP bT) ((K1.a jq).some_ bT))<|ev (iR JY Y Y ((K1.a jq).fF bT))<|al Ru Y K1 λg1 w2 K2=>sty Y K2 U Y λw3 K3=>dn<|aZ<|rg<|jP g1 2 Rq K3 U Y<|pA 3 Y<|o8 Y (λhc17=>?_) (λhc17=>?_)
  ·refine jN<|mv Y<|ev (Ev.axg Y Y (acZ _ (by have:=CQ l k id; have:=CS l k id; omega)) (WZ _ (by have:=CQ l k id; have:=CS l k id; omega)))<|oJ rfl<|jO<|fV<|rg<|jP g1 3 yJ K3 U rfl<|pA 3 rfl<|bS rfl (λuQ=>?_) (λuQ=>?_)
   ·replace uQ:=iY uQ;refine jN<|mv Y<|ev (Ev.axg Y Y (WZ _ (by have:=CQ l k id; have:=CS l k id; omega)) (acZ _ (by have:=CQ l k id; have:=CS l k id; omega)))<|oJ rfl<|jO<|iF (fV ?_)
    refine jN<|ev (eG Y Y)<|mv Y<|jO ?_
    have kN:(.complex .f64 (fb (sends (l.take k) id+1)) (fb (takes (l.take k) id+1)):Value)=.complex .f64 (fb (sends (l.take (k+1)) id)) (fb (takes (l.take (k+1)) id)):=by rw [JV bT,JW bT]; simp [hc17,uQ]
    refine ji (t:=5) Y kN ?_;have nM:(((k+1:Nat):Int):Int)=(((k+1):Nat):Int):=by simp
    refine ji (t:=10) Y (aY (Value.int .i64) nM)<|dX ⟨(k+1),Y,Y,aj,(K3.rm U)⟩ rfl aj
   replace uQ:=jX uQ;refine Gw ?_;refine jN<|ev (eG Y Y)<|mv Y<|jO ?_
   have uO:(.complex .f64 (fb (sends (l.take k) id+1)) (fb (takes (l.take k) id)):Value)=.complex .f64 (fb (sends (l.take (k+1)) id)) (fb (takes (l.take (k+1)) id)):=by rw [JV bT,JW bT]; simp [hc17,uQ]
   refine ji (t:=5) Y uO ?_;have zC:(((k+1:Nat):Int):Int)=(((k+1):Nat):Int):=by simp
   refine ji (t:=10) Y (aY (Value.int .i64) zC)<|dX ⟨(k+1),Y,Y,aj,(K3.rm U)⟩ rfl aj
  refine jQ ?_;refine rg<|jP g1 3 yJ K3 U Y<|pA 3 Y<|bS Y (λuQ=>?_) (λuQ=>?_)
  ·replace uQ:=iY uQ;refine jN<|mv Y<|ev (Ev.axg Y Y (WZ _ (by have:=CQ l k id; have:=CS l k id; omega)) (acZ _ (by have:=CQ l k id; have:=CS l k id; omega)))<|oJ rfl<|jO<|iF (fV ?_)
   refine jN<|ev (eG Y Y)<|mv Y<|jO ?_
   have BO:(.complex .f64 (fb (sends (l.take k) id)) (fb (takes (l.take k) id+1)):Value)=.complex .f64 (fb (sends (l.take (k+1)) id)) (fb (takes (l.take (k+1)) id)):=by rw [JV bT,JW bT]; simp [hc17,uQ]
   refine ji (t:=5) Y BO ?_;have hq8:(((k+1:Nat):Int):Int)=(((k+1):Nat):Int):=by simp
   refine ji (t:=10) Y (aY (Value.int .i64) hq8)<|dX ⟨(k+1),Y,Y,aj,(K3.rm U)⟩ rfl aj
  replace uQ:=jX uQ;refine Gw ?_;refine jN<|ev (eG Y Y)<|mv Y<|jO ?_
  have Aa:(.complex .f64 (fb (sends (l.take k) id)) (fb (takes (l.take k) id)):Value)=.complex .f64 (fb (sends (l.take (k+1)) id)) (fb (takes (l.take (k+1)) id)):=by rw [JV bT,JW bT]; simp [hc17,uQ]
  refine ji (t:=5) Y Aa ?_;have vL:(((k+1:Nat):Int):Int)=(((k+1):Nat):Int):=by simp
  refine ji (t:=10) Y (aY (Value.int .i64) vL)<|dX ⟨(k+1),Y,Y,aj,(K3.rm U)⟩ rfl aj
 refine BU ?_;refine gD Y<|fE Y<|iU Y ?_
 have hq11:(.complex .f64 (fb (sends (l.take k) id)) (fb (takes (l.take k) id)):Value)=(.complex .f64 (fb (sends l id)) (fb (takes l id))):=by rw [gY aj]
 exact⟨by rw [hq11] <;> rfl,K1⟩
def Y1(w:World){l:V bq}(jq:Sl dB S0 w jL jK l)(id:Int)(hn:l.length<=100):bM prog 320 #[.slice jL l.length jK,O id] w λv w'=>v=.tuple #[O ((sends l id:Nat):Int),O ((takes l id:Nat):Int)]/\Hp w S0 w' []:=by
 refine lg S0 func320 ntmps320 Y λH0=>pC 7 Y<|mX H0 Y (Rw _ (H0.a jq).any id aj) λw1 K1=>pB 4 Y<|ev (Ev.real Y)<|ev (Ev.aGb ⟨_,adv⟩ ig Y (aqV _ (by have:=Fv l id; have:=M5 l id; omega)) (by have:=Fv l id; have:=M5 l id; omega))<|mv rfl<|ev (Ev.imag rfl)<|ev (Ev.aGb ⟨_,adv⟩ ig rfl (aqV _ (by have:=Fv l id; have:=M5 l id; omega)) (by have:=Fv l id; have:=M5 l id; omega))<|pA 3 rfl<|iU rfl ?_
 exact⟨Y,K1⟩
def Rx(w:World){vk:Nat}{s:V bq}(sP:Sl dB S0 w wP vk s){CK:FuncId}{Hr:V Value}(VR:bC prog CK)(f:bq->Bool)(VT:∀(w':World)(x:bq),Ext w w'->x∈s->bM prog CK (([.agg #[O x.X,O x.E,O x.jm,O x.To,O x.iK]]:V Value)++Hr).toArray w' λv w''=>v=.bool (f x)/\Ext w' w''):bM prog 338 #[.slice wP s.length vk,.func (.func CK) #[] Hr.toArray] w λv w'=>v=O (idxOf f s)/\Hp w S0 w' []:=by
 refine lg S0 func338 ntmps338 Y λH0=>?_;have qU:=vw;have qZ:=Hz;have qG:=JY;exact mIF
def akc(w:World)(x:bq){Ry:Nat}(aN:Int)(ady:Bx w Ry 3 [O aN]){aAH:Nat}(nZ:Int)(aGW:Bx w aAH 3 [O nZ]):bM prog 339 #[.agg #[O x.X,O x.E,O x.jm,O x.To,O x.iK],fK Ry,fK aAH] w λv w'=>v=.bool (decide (x.X=aN)&&decide (x.To=nZ))/\Hp w S0 w' []:=by
 refine lg S0 func339 ntmps339 Y λH0=>rg<|bx Y Y H0 λg1 w1 K1=>fE Y<|rg<|jP g1 0 Rt K1 U Y<|ev (dU jF Y (ady.ext K1.ext) Y)<|pq 2 Y<|iJ 5 14 ((decide (x.X=aN))&&(decide (x.To=nZ))) ?_ ?_
 ·cases hb9:decide (x.X=aN) with
  | true=>
   refine wW g1 3 yJ K1 U Y<|uf Y (dU jF Y (aGW.ext K1.ext) Y) Y<|pq 2 Y<|dK Y
  | false=>
   refine pq 5 Y<|dK Y
 refine fE Y<|iU Y ?_
 have gy:(((decide (x.X=aN))&&(decide (x.To=nZ))):Bool)=(decide (x.X=aN)&&decide (x.To=nZ)):=by first | with_reducible rfl | (simp; done) | omega
 exact⟨by rw [gy] <;> rfl,(K1.rm U)⟩
def abW(w:World){l:V bq}(jq:Sl dB S0 w jL jK l)(aN:Int)(nZ:Int):bM prog 271 #[.slice jL l.length jK,O aN,O nZ] w λv w'=>v=O (Cb l aN nZ)/\Hp w S0 w' []:=by
 refine lg S0 func271 ntmps271 Y λH0=>rg<|bx Y Y H0 λg1 w1 K1=>bx Y Y K1 λg2 w2 K2=>pB 4 Y<|ev (rZ Y)<|mX K2 Y (Rx _ (K2.a jq).any aCP (fun(x:bq)=>decide (x.X=aN)&&decide (x.To=nZ)) (λw' x e hm=>(akc (S0:=Any) w' x aN ((K2.x s1).ext e) nZ ((K2.x U).ext e)).mono (by rintro _ _ ⟨rfl,gH⟩; exact⟨rfl,gH.ext⟩))) λw3 K3=>fE rfl<|iU rfl ?_
 exact⟨by skip <;> rfl,K3.z⟩
def Da(w:World){vk:Nat}{s:V bq}(sP:Sl dB S0 w wP vk s)(hn:s.length<=1000000):bM prog 96 #[.slice wP s.length vk] w λv w'=>∃ A0 c0,v=.slice A0 s.length c0/\Hp w S0 w' [aR dB 165 A0 c0 s]:=by
 refine lg S0 func96 ntmps96 Y λH0=>?_;have qU:=vw;have qI:=UN;have qB:=@asa;exact mCL
def akd(w:World){l:V bq}(jq:Sl dB S0 w jL jK l)(x:bq)(dG:Int)(all:Int)(hn:l.length<=100):bM prog 249 #[.slice jL l.length jK,.agg #[O x.X,O x.E,O x.jm,O x.To,O x.iK],O dG,O all] w λv w'=>∃ A0 c0,v=.tuple #[.slice A0 ((wh l x dG all).length) c0,O (pO l x dG all)]/\Hp w S0 w' [aR dB 165 A0 c0 (wh l x dG all)]:=by
 refine lg S0 func249 ntmps249 Y λH0=>rg<|bx Y Y H0 λg1 w1 K1=>pB 5 Y<|jP g1 2 Rq K1 U Y<|mX K1 Y (Y1 _ (K1.a jq).any x.jm aj) λw2 K2=>pB 8 Y<|jP g1 3 yJ K2 U Y<|mX K2 Y (Y1 _ (K2.a jq).any x.To aj) λw3 K3=>pA 6 Y<|aZ<|dF<|rg<|ev (fA JY Y Y (K3.x U))<|mX K3 Y (asb (S0:=Any) _ x) λw4 K4=>pA 3 Y<|bS Y (λhc28=>?_) (λhc28=>?_)
 ·try simp only [aA] at hc28
  refine rg<|oJ Y<|fE Y<|YC Y ?_
  have H1:=K4.nil dB 165;have gy:(([]:V bq):V bq)=(wh l x dG all):=by simp [wh,pO,(show P8 x=false by simpa using hc28)]
  have H2:=(gy▸H1:Hp w S0 w4 (aR dB 165 none 0 (wh l x dG all)::[dJ g1 165 [O x.X,O x.E,O x.jm,O x.To,O x.iK]]));have gH:(1:Int)=(pO l x dG all):=by simp [pO,(show P8 x=false by simpa using hc28)]
  exact⟨none,0,by rw [<- gy,<- gH] <;> rfl,(H2.rm s1)⟩
 try simp only [aA] at hc28
 refine gD Y<|jP g1 0 Rt K4 U Y<|jP g1 3 yJ K4 U Y<|mX K4 Y (abW _ (K4.a jq).any x.X x.To) λw5 K5=>pA 3 Y<|o8 Y (λhc32=>?_) (λhc32=>?_)
 ·refine rg<|oJ Y<|fE Y<|YC Y ?_
  have H3:=K5.nil dB 165;have kN:(([]:V bq):V bq)=(wh l x dG all):=by have hm:P8 x=true:=(by simpa using hc28); simp [wh,pO,hm,hc32]
  have H4:=(kN▸H3:Hp w S0 w5 (aR dB 165 none 0 (wh l x dG all)::[dJ g1 165 [O x.X,O x.E,O x.jm,O x.To,O x.iK]]));have nM:(6:Int)=(pO l x dG all):=by have hm:P8 x=true:=(by simpa using hc28); simp [pO,hm,hc32]
  exact⟨none,0,by rw [<- kN,<- nM] <;> rfl,(H4.rm s1)⟩
 refine pC 6 Y<|iJ 4 49 ((decide (all<=((l.length:Nat):Int)))||(decide (dG<=((sends l x.jm:Nat):Int)))) ?_ ?_
 ·cases aCR:decide (all<=((l.length:Nat):Int)) with
  | true=>
   refine pq 4 Y<|dK Y
  | false=>
   refine pq 4 Y<|dK Y
 refine mv Y<|iJ 4 54 (((decide (all<=((l.length:Nat):Int)))||(decide (dG<=((sends l x.jm:Nat):Int))))||(decide (dG<=((takes l x.To:Nat):Int)))) ?_ ?_
 ·cases aNv:((decide (all<=((l.length:Nat):Int)))||(decide (dG<=((sends l x.jm:Nat):Int)))) with
  | true=>
   refine pq 4 Y<|dK Y
  | false=>
   have aGX:=aNv
   try simp only [aA] at aGX
   refine pq 4 Y<|dK Y
 refine fE Y<|WP.keep' [(0,.slice jL l.length jK),(5,fK g1),(40,.bool (((decide (all<=((l.length:Nat):Int)))||(decide (dG<=((sends l x.jm:Nat):Int))))||(decide (dG<=((takes l x.To:Nat):Int)))))] Y<|bS Y (λY2=>?_) (λY2=>?_)
 ·try simp only [aA] at Y2
  refine rg<|oJ Y<|fE Y<|YC Y ?_
  have H5:=K5.nil dB 165;have uO:(([]:V bq):V bq)=(wh l x dG all):=by have hm:P8 x=true:=(by simpa using hc28); have hf:¬ 0<=Cb l x.X x.To:=hc32; have hx:all<=l.length∨dG<=sends l x.jm∨dG<=takes l x.To:=(by simpa [or_assoc] using Y2); simp [wh,pO,hm,hf,hx]
  have H6:=(uO▸H5:Hp w S0 w5 (aR dB 165 none 0 (wh l x dG all)::[dJ g1 165 [O x.X,O x.E,O x.jm,O x.To,O x.iK]]));have zC:(7:Int)=(pO l x dG all):=by have hm:P8 x=true:=(by simpa using hc28); have hf:¬ 0<=Cb l x.X x.To:=hc32; have hx:all<=l.length∨dG<=sends l x.jm∨dG<=takes l x.To:=(by simpa [or_assoc] using Y2); simp [pO,hm,hf,hx]
  exact⟨none,0,by rw [<- uO,<- zC] <;> rfl,(H6.rm s1)⟩
 try simp only [aA] at Y2
 refine Gw ?_;refine He K5 (λ_ K=>K) (λl0 rk lJ wJ=>∃ jG jr,lJ=(8,.slice jG ((l++([x]:V bq)).length) jr)::(9,O 0)::l0/\Hp w S0 wJ (aR dB 165 jG jr (l++([x]:V bq))::rk)) (λhns H7=>?_) ?_
 ·refine lF 0 Y Y H7<|kI 2 Y (λ_ hK=>fA JY Y Y (hK.x U)) H7<|Jn H7 (λl0 rk lJ wJ=>∃ g2 Gi Gj,lJ=(56,.slice Gi l.length Gj)::(58,.slice (some ⟨g2,0,none⟩) (([x]:V bq).length) 1)::l0/\Hp w S0 wJ (aR dB 165 (some ⟨g2,0,none⟩) 1 ([x]:V bq)::aR dB 165 Gi Gj l::rk)) 3 15 ?_ λhS1=>?_
  ·rintro _ VY ⟨g2,Gi,Gj,rfl,vF⟩;refine O1 4 Y<|ap (ys:=([x]:V bq)) vF s1 Y Y (vF.o U) vw UN (by first | omega | (simp; omega) | (simp; done)) av rfl λWO cp2 Uy uR=>?_
   have k5:=(uR.cU 0 2);refine aO k5<|xC 5 Y Y k5<|xC 6 Y Y k5<|Dn ⟨WO,cp2,Y,(uR.rm s1)⟩ Y
  refine O2 1 3 Y Y ?_ ?_
  ·refine gu Y (Da _ (H7.a jq).any aj) ?_;rintro _ YX ⟨asc,ase,rfl,h13⟩;have xk:=H7.f1 h13;have k6:=(xk.rm U);refine aO k6<|O1 3 Y<|yV (τ:=dB) Y (by intro _; apply C9) rfl xk (λ_ _=>rfl) λg4 w14 wF=>?_
   have k7:=(wF.cU 0 2);exact Kj hS1 k7 ⟨g4,asc,ase,Y,wF⟩ Y
  ·refine yV (τ:=dB) (x:=x) Y (by intro _; apply C9) rfl H7 (λ_ _=>rfl) λg5 w15 zI=>?_;have k8:=(zI.rm U);refine aO k8<|O1 1 Y<|gu Y (Da _ (zI.a jq).any aj) ?_
   rintro _ w16 ⟨Y3,Y4,rfl,h16⟩;have BZ:=zI.f1 h16;have k9:=(BZ.cU 0 2);exact Kj hS1 k9 ⟨g5,Y3,Y4,Y,((BZ.sel U).sel s1)⟩ Y
 rintro _ w17 ⟨jG,jr,rfl,zT⟩;refine iU Y ?_;have BO:((l++([x]:V bq)):V bq)=(wh l x dG all):=by have hm:P8 x=true:=(by simpa using hc28); have hf:¬ 0<=Cb l x.X x.To:=hc32; have hx:¬ (all<=l.length∨dG<=sends l x.jm∨dG<=takes l x.To):=(by simpa [not_or,and_assoc] using Y2); simp [wh,pO,hm,hf,hx]
 rw [BO] at zT;have hq8:(0:Int)=(pO l x dG all):=by have hm:P8 x=true:=(by simpa using hc28); have hf:¬ 0<=Cb l x.X x.To:=hc32; have hx:¬ (all<=l.length∨dG<=sends l x.jm∨dG<=takes l x.To):=(by simpa [not_or,and_assoc] using Y2); simp [pO,hm,hf,hx]
 exact⟨jG,jr,by rw [BO,<- hq8] <;> rfl,(zT.rm s1)⟩
def agI(w:World){l:V bq}(jq:Sl dB S0 w jL jK l)(Z:Int)(hn:l.length<=1000000):bM prog 169 #[.slice jL l.length jK,O Z] w λv w'=>∃ A0 c0 A1 c1,v=.tuple #[.slice A0 ((l.filter (inB Z)).length) c0,.slice A1 ((l.filter (P9 Z)).length) c1]/\Hp w S0 w' [aR dB 165 A0 c0 (l.filter (inB Z)),aR dB 165 A1 c1 (l.filter (P9 Z))]:=by
 refine lg S0 func169 ntmps169 Y λH0=>rg<|oJ Y<|fE Y<|aZ<|gD Y<|ev (jf vw Y)<|mv Y<|dn<|dF ?_
 have H1:=H0.nil dB 165;have H2:=H1.nil dB 165;have gy:(([]:V bq):V bq)=((l.take 0).filter (inB Z)):=by simp
 refine mP (t:=4) Y (aY (λz=>Value.slice none (List.length z) 0) gy) ?_;have gH:(([]:V bq):V bq)=((l.take 0).filter (P9 Z)):=by simp
 refine mP (t:=5) Y (aY (λz=>Value.slice none (List.length z) 0) gH) ?_;have H3:=H2.nil dB 165;have H4:=(gy▸H3:Hp w S0 w (aR dB 165 none 0 ((l.take 0).filter (inB Z))::[aR dB 165 none 0 [],aR dB 165 none 0 []]));have H5:=H4.nil dB 165;have H6:=(gH▸H5:Hp w S0 w (aR dB 165 none 0 ((l.take 0).filter (P9 Z))::[aR dB 165 none 0 ((l.take 0).filter (inB Z)),aR dB 165 none 0 [],aR dB 165 none 0 []]));refine Lp (H6.cU 0 4) (λl0 rk mJ lJ wJ=>∃ k A4 c4 A5 c5,lJ=(4,.slice A4 (((l.take k).filter (inB Z)).length) c4)::(5,.slice A5 (((l.take k).filter (P9 Z)).length) c5)::(10,O ((k:Nat):Int))::l0/\mJ=l.length - k/\k<=l.length/\Hp w S0 wJ (aR dB 165 A4 c4 ((l.take k).filter (inB Z))::aR dB 165 A5 c5 ((l.take k).filter (P9 Z))::rk)) ⟨0,none,0,none,0,Y,Y,fI _,(((H6.cU 2 2).sel U).sel s1)⟩ Y ?_;rintro _ _ w1 ⟨k,A4,c4,A5,c5,rfl,rfl,hk,K1⟩;refine rg<|ev (iH Y Y)<|dn<|r9 Y (λzG=>?_) (λzG=>?_)
 ·refine jQ ?_;refine aZ<|dF<|rg ?_
  obtain⟨x1,bT⟩:=bH (xs:=l) (i:=k) aj;refine ev (d9 vw Hz Y Y Y (aP bT) ((K1.a jq).some_ bT))<|ev (iR JY Y Y ((K1.a jq).fF bT))<|al Ru Y K1 λg1 w2 K2=>sty Y K2 U Y λw3 K3=>dn<|aZ<|rg<|jP g1 4 Y0 K3 U Y<|pA 3 Y<|o8 Y (λhc17=>?_) (λhc17=>?_)
  ·refine gD Y<|ev (fA JY Y Y (K3.x U))<|yV Y (by intro _; apply C9) rfl K3 (λ_ _=>rfl) λg2 w4 K4=>ap K4 s3 rfl rfl (K4.o U) vw UN (by have:=al4 (P9 Z) l k; omega) av rfl λsQ sS w5 K5=>fE rfl<|tu (mG (tZ (fV ?_)))
   refine jN<|ev (eG Y Y)<|mv Y<|jO ?_
   have kN:(((l.take k).filter (inB Z)):V bq)=((l.take (k+1)).filter (inB Z)):=by rw [Ro bT]; simp [inB,hc17]
   refine ji (t:=4) Y (aY (λz=>Value.slice A4 (List.length z) c4) kN) ?_;have nM:((((l.take k).filter (P9 Z))++([x1]:V bq)):V bq)=((l.take (k+1)).filter (P9 Z)):=by rw [Ro bT]; simp [P9,hc17]
   refine ji (t:=5) Y (aY (λz=>Value.slice sQ (List.length z) sS) nM) ?_;rw [kN] at K5;rw [nM] at K5;exact dX ⟨(k+1),A4,c4,sQ,sS,Y,Y,aj,(((K5.cU 1 2).sel U).sel s1)⟩ rfl aj
  refine jQ ?_;refine jN<|mv Y<|ev (fA JY Y Y (K3.x U))<|yV Y (by intro _; apply C9) rfl K3 (λ_ _=>rfl) λg3 w6 K6=>ap K6 s2 rfl rfl (K6.o U) vw UN (by have:=al4 (inB Z) l k; omega) av rfl λWO cp2 w7 K7=>oJ rfl<|jO<|iF (fV ?_)
  refine jN<|ev (eG Y Y)<|mv Y<|jO ?_
  have uO:((((l.take k).filter (inB Z))++([x1]:V bq)):V bq)=((l.take (k+1)).filter (inB Z)):=by rw [Ro bT]; simp [inB,hc17]
  refine ji (t:=4) Y (aY (λz=>Value.slice WO (List.length z) cp2) uO) ?_;have zC:(((l.take k).filter (P9 Z)):V bq)=((l.take (k+1)).filter (P9 Z)):=by rw [Ro bT]; simp [P9,hc17]
  refine ji (t:=5) Y (aY (λz=>Value.slice A5 (List.length z) c5) zC) ?_;rw [uO] at K7;rw [zC] at K7;exact dX ⟨(k+1),WO,cp2,A5,c5,Y,Y,aj,(K7.cU 1 2)⟩ rfl aj
 refine BU ?_;refine gD Y<|mv Y<|oJ Y<|fE Y<|iU Y ?_
 have BO:(((l.take k).filter (inB Z)):V bq)=(l.filter (inB Z)):=by rw [gY aj]
 rw [BO] at K1;have hq8:(((l.take k).filter (P9 Z)):V bq)=(l.filter (P9 Z)):=by rw [gY aj]
 rw [hq8] at K1;exact⟨A4,c4,A5,c5,by rw [BO,hq8] <;> rfl,K1⟩
def aoF(w:World){l:V bq}(jq:Sl dB S0 w jL jK l){adA:ah}{adB:Nat}{yU:V Int}(Rz:Sl dN S0 w adA adB yU)(dG:Int)(hn:l.length<=65)(h0:0<=dG)(h1:dG<=64):bM prog 181 #[.slice jL l.length jK,.slice adA yU.length adB,O dG] w λv w'=>v=.tuple #[O (Cc l yU dG),.bool (Fz l yU dG)]/\Hp w S0 w' []:=by
 refine lg S0 func181 ntmps181 Y λH0=>?_;have Iz:=jq.bI;have aGY:=Rz.bI;refine rg<|oJ Y<|fE Y<|WP.jumps (lb:=0) (λmJ lJ wJ=>∃ k,lJ=[(0,.slice jL l.length jK),(1,.slice adA yU.length adB),(2,O dG),(8,O ((k:Nat):Int))]/\mJ=yU.length - k/\(k<=yU.length)/\(∀ y∈yU.take k,M6 l dG y=false)/\Hp w S0 wJ []) Y ?_ ?_
 ·rintro _ _ w1 ⟨k,rfl,rfl,hkl,hno,K1⟩;refine aZ<|gD Y<|mv Y<|ev (jf gq Y)<|ev (wQ Y Y)<|dn<|o8 Y (λoD=>?_) (λoD=>?_)
  ·refine rg<|oJ Y<|fE Y<|jE (gG (l7.Yi (uo Y ?_)))
   have gy:(0:Int)=(Cc l yU dG):=by have hf:=YZ (Mc hno aj); simp [Cc,hf]
   have gH:(false:Bool)=(Fz l yU dG):=by have hf:=YZ (Mc hno aj); simp [Fz,hf]
   exact⟨by rw [<- gy,<- gH] <;> rfl,K1⟩
  refine jQ ?_;refine aZ<|pC 4 Y ?_
  obtain⟨x1,bT⟩:=bH (xs:=yU) (i:=k) aj;refine ev (d9 (i:=k) gq wX Y Y Y (aP bT) ((K1.a Rz).some_ bT))<|ev (kG jF Y ((K1.a Rz).eZ (j:=0) bT Y))<|mX K1 Y (Rw _ (K1.a jq).any x1 aj) λw2 K2=>ev (Ev.real Y)<|mv Y<|ev (Ev.aMB (m:=dG.toNat) ⟨_,ig⟩ adv Y aj)<|ev (Ev.aMC (by have:=Fv l x1; omega) (by have:=Fv l x1; omega) rfl rfl)<|dn<|o8 rfl (λhc22=>?_) (λhc22=>?_)
  ·refine gD Y<|ev (eG Y Y)<|fE Y<|WP.goto (l7.abC ?_)
   have kN:(((k+1:Nat):Int):Int)=(((k+1):Nat):Int):=by simp
   refine ji (t:=8) Y (aY (Value.int .i64) kN)<|l7.jag ⟨(k+1),Y,Y,aj,by exact ug hno bT (by simp only [M6,bV]; omega),K2⟩ rfl aj
  refine jQ ?_;refine pC 3 Y<|ev (d9 (i:=k) gq wX Y Y Y (aP bT) ((K2.a Rz).some_ bT))<|ev (kG jF Y ((K2.a Rz).eZ (j:=0) bT Y))<|pA 3 Y<|jE (l7.Yi (uo Y ?_))
  have nM:(x1:Int)=(Cc l yU dG):=by have hf:=Qb hno bT (by simp only [M6,bN]; omega); simp [Cc,hf]
  have uO:(true:Bool)=(Fz l yU dG):=by have hf:=Qb hno bT (by simp only [M6,bN]; omega); simp [Fz,hf]
  exact⟨by rw [<- nM,<- uO] <;> rfl,K2⟩
 ·intro hp0;refine kX Y<|WP.kp hp0 ⟨0,Y,Y,aj,av,H0⟩ rfl
def Ce(l:List aT)(D:List Int)(aX:List fJ)(bX:List Int)(bF:Int):Bool:=(((jY l bF&&decide ((gJ l bF).fT=0))&&D.contains bF)&&!bX.contains bF)&&decide (nX aX bF<(gJ l bF).lV)
abbrev wZ(aX:List fJ)(n:aT):Int:=if n.lV<nX aX n.ID then n.lV else nX aX n.ID
abbrev wR(old:List Int)(n:aT):Nat:=if old.contains n.mY=true then 1 else 0
def al6{n:aT}{z:Int}(h:old.contains n.mY=true):Value.complex .f64 (fb 1) (wIm true z)=Value.complex .f64 (fb (wR old n)) (wIm (old.contains n.mY) z):=by
 unfold wR; rw [h,aS rfl]
def al7{n:aT}{z:Int}(h:old.contains n.mY=false):Value.complex .f64 0 (fz z)=Value.complex .f64 (fb (wR old n)) (wIm (old.contains n.mY) z):=by
 unfold wR; rw [h,aQ au,show fb 0=0 from alH]; unfold wIm; rw [aQ au]
def aCS:∀ w,(zeroValue 4).run prog w=.ok (.bool false) w:=ay
def aoG(w:World)(jq:Sl bW S0 w jL jK l){agz:ah}{agA:Nat}{ids:V Int}(YT:Sl dN S0 w agz agA ids)(hn:l.length<=100000):bM prog 220 #[.slice jL l.length jK,.slice agz ids.length agA] w λv w'=>∃ g0,v=.map (some g0)/\Hp w S0 w' [ark g0 (kY l ids)]:=by
 refine lg S0 func220 ntmps220 Y λH0=>?_;have Iz:=jq.bI;have aCC:=YT.bI;refine kX Y<|rg<|mks H0 Y λg1 w1 K1=>fE Y<|aZ<|gD Y<|ev (jf gq Y)<|mv Y<|dn<|dF ?_
 have gy:[]=(kY l (ids.take 0)):=by rfl
 rw [gy] at K1;refine Lp (K1.rm U) (λl0 rk mJ lJ wJ=>∃ k,lJ=(13,O ((k:Nat):Int))::l0/\mJ=ids.length - k/\k<=ids.length/\Hp w S0 wJ (ark g1 (kY l (ids.take k))::rk)) ⟨0,Y,Y,fI _,K1⟩ Y ?_;rintro _ _ w2 ⟨k,rfl,rfl,hk,K2⟩;refine rg<|ev (iH Y Y)<|dn<|r9 Y (λrR=>?_) (λrR=>?_)
 ·refine jQ ?_;refine aZ<|dF<|rg ?_
  obtain⟨x1,bT⟩:=bH (xs:=ids) (i:=k) aj;refine ev (d9 (i:=k) gq wX Y Y Y (aP bT) ((K2.a YT).some_ bT))<|ev (kG jF Y ((K2.a YT).eZ (j:=0) bT Y))<|pB 5 Y<|mX K2 Y (Fb _ (K2.a jq).any x1 aj) λw3 K3=>pq 3 Y<|al tT Y K3 λg2 w4 K4=>sty Y K4 U Y λw5 K5=>pA 5 Y<|bS Y (λuQ=>?_) (λuQ=>?_)
  ·refine jN<|mv Y<|jP g2 1 Rb K5 U Y<|aGr K5 s1 Y Y Y PY ig λw6 K6=>jO<|iF (fV ?_)
   refine jN<|ev (eG Y Y)<|mv Y<|jO ?_
   have gH:(Us (kY l (ids.take k)) ((gJ l x1).mY))=(kY l (ids.take (k+1))):=by rw [GD bT]; unfold abS; first | rw [aS uQ] | rw [aQ (by rw [uQ]; decide)]
   rw [gH] at K6;exact dX ⟨(k+1),Y,Y,aj,(K6.rm s1)⟩ rfl aj
  refine Gw ?_;refine jN<|ev (eG Y Y)<|mv Y<|jO ?_
  have kN:(kY l (ids.take k))=(kY l (ids.take (k+1))):=by rw [GD bT]; unfold abS; first | rw [aS uQ] | rw [aQ (by rw [uQ]; decide)]
  rw [kN] at K5;exact dX ⟨(k+1),Y,Y,aj,(K5.rm U)⟩ rfl aj
 refine BU ?_;refine gD Y<|fE Y<|iU Y ?_
 have nM:((kY l (ids.take k)):V Int)=(kY l ids):=by rw [gY aj]
 rw [nM] at K2;exact⟨g1,Y,K2⟩
def aoH(w:World)(n:aT)(oC:Sl nW S0 w nu nk aX){aAI:Nat}(aGZ:w.heap[aAI]? = some (.map (yH old) old.length)):bM prog 221 #[.agg #[O n.ID,O n.mY,O n.lV,O n.fT],.slice nu aX.length nk,.map (some aAI)] w λv w'=>v=.complex .f64 (fb (wR old n)) (wIm (old.contains n.mY) (wZ aX n))/\Hp w S0 w' []:=by
 refine lg S0 func221 ntmps221 Y λH0=>rg<|bx Y Y H0 λg1 w1 K1=>fE Y<|pW ak ak<|bf (dP Y) Y<|bf (fq mF Y Y) Y<|bf (dU jF Y (K1.x U) Y) Y<|LZ Y Y Y aj0 (λwq eq=>(vM wq ((K1.a oC).any.ext eq) n.ID).mono (by rintro _ _ ⟨rfl,gH⟩; exact⟨rfl,gH.ext⟩)) rfl<|bf (fq Oh rfl rfl) rfl<|bf (dU jF rfl (K1.x U) rfl) rfl<|bf (Ev.min2 rfl rfl) rfl<|bf (Ev.aGv ⟨_,ig⟩ adv rfl) rfl<|bf (Ev.aM7 rfl rfl) rfl<|bf (tF rfl) rfl<|pX λw2 e2=>?_
 have K2:=K1.grow e2;refine aZ<|gD Y<|jP g1 1 Rb K2 U Y<|ev (Ev.Gz (K2.was aGZ) PY ig aCS Y Y)<|dn<|bS Y (λl8=>?_) (λl8=>?_)
 ·refine jN<|mv Y<|ev (Ev.axg Y Y c01 (axz _))<|oJ Y<|jO<|fV<|gD Y<|fE Y<|iU Y ?_
  have gy:(.complex .f64 (fb 1) (wIm true (if n.lV<nX aX n.ID then n.lV else nX aX n.ID)):Value)=(.complex .f64 (fb (wR old n)) (wIm (old.contains n.mY) (wZ aX n))):=by first | exact al6 l8 | exact al7 l8
  exact⟨by rw [gy] <;> rfl,(K2.rm U)⟩
 refine jQ ?_;refine gD Y<|fE Y<|iU Y ?_
 have gH:(.complex .f64 0 (fz (if n.lV<nX aX n.ID then n.lV else nX aX n.ID)):Value)=(.complex .f64 (fb (wR old n)) (wIm (old.contains n.mY) (wZ aX n))):=by first | exact al6 l8 | exact al7 l8
 exact⟨by rw [gH] <;> rfl,(K2.rm U)⟩
def axX(w:World)(jq:Sl bW S0 w jL jK l)(kQ:Sl dN S0 w j3 jZ D)(oC:Sl nW S0 w nu nk aX){vT:ah}{vU:Nat}{bX:V Int}(EM:Sl dN S0 w vT vU bX)(bF:Int)(hn:l.length<=100000):bM prog 222 #[.slice jL l.length jK,.slice j3 D.length jZ,.slice nu aX.length nk,.slice vT bX.length vU,O bF] w λv w'=>v=.bool (Ce l D aX bX bF)/\Hp w S0 w' []:=by
 refine lg S0 func222 ntmps222 Y λH0=>pC 6 Y<|mX H0 Y (Fb _ (H0.a jq).any bF aj) λw1 K1=>pq 3 Y<|al tT Y K1 λg1 w2 K2=>sty Y K2 U Y λw3 K3=>fE Y<|pW ak ak<|bf (dP Y) Y<|bf (dP Y) Y<|rO 4 24 ((jY l bF)&&(decide ((gJ l bF).fT=0))) ?_ ?_
 ·cases adk:jY l bF with
  | true=>
   refine dM Y (fq yX Y Y) Y<|dM Y (dU jF Y (K3.x U) Y) Y<|dM Y (wQ Y Y) Y<|bf (oP Y Y) Y<|jR Y
  | false=>
   refine dw Y Y Y<|dw Y Y Y<|dw Y Y Y<|bf (oU Y Y) Y<|jR Y
 refine bf (dP Y) Y<|rO 4 29 (((jY l bF)&&(decide ((gJ l bF).fT=0)))&&(D.contains bF)) ?_ ?_
 ·cases aNw:((jY l bF)&&(decide ((gJ l bF).fT=0))) with
  | true=>
   have aG0:=aNw
   try simp only [aA] at aG0
   refine dM Y (dP Y) Y<|dM Y (dP Y) Y<|QS Y Y Y Y agj (λwq eq=>(kJ wq ((K3.a kQ).any.ext eq) bF).mono (by rintro _ _ ⟨rfl,gH⟩; exact⟨rfl,gH.ext⟩)) rfl<|bf (oP rfl rfl) rfl<|jR rfl
  | false=>
   refine dw Y Y Y<|dw Y Y Y<|dw Y Y Y<|bf (oU Y Y) Y<|jR Y
 refine bf (dP Y) Y<|rO 5 35 ((((jY l bF)&&(decide ((gJ l bF).fT=0)))&&(D.contains bF))&&(!(bX.contains bF))) ?_ ?_
 ·cases aNx:(((jY l bF)&&(decide ((gJ l bF).fT=0)))&&(D.contains bF)) with
  | true=>
   have aG1:=aNx
   try simp only [aA] at aG1
   refine dM Y (dP Y) Y<|dM Y (dP Y) Y<|QS Y Y Y Y agj (λwq eq=>(kJ wq ((K3.a EM).any.ext eq) bF).mono (by rintro _ _ ⟨rfl,gH⟩; exact⟨rfl,gH.ext⟩)) rfl<|dM rfl (wC rfl) rfl<|bf (oP rfl rfl) rfl<|jR rfl
  | false=>
   refine dw Y Y Y<|dw Y Y Y<|dw Y Y Y<|dw Y Y Y<|bf (oU Y Y) Y<|jR Y
 refine bf (dP Y) Y<|rO 7 43 (((((jY l bF)&&(decide ((gJ l bF).fT=0)))&&(D.contains bF))&&(!(bX.contains bF)))&&(decide (nX aX bF<(gJ l bF).lV))) ?_ ?_
 ·cases aNy:((((jY l bF)&&(decide ((gJ l bF).fT=0)))&&(D.contains bF))&&(!(bX.contains bF))) with
  | true=>
   have aG2:=aNy
   try simp only [aA] at aG2
   refine dM Y (dP Y) Y<|dM Y (dP Y) Y<|QS Y Y Y Y aj0 (λwq eq=>(vM wq ((K3.a oC).any.ext eq) bF).mono (by rintro _ _ ⟨rfl,gH⟩; exact⟨rfl,gH.ext⟩)) rfl<|dM rfl (fq Oh rfl rfl) rfl<|dM rfl (dU jF rfl (K3.x U) rfl) rfl<|dM rfl (iH rfl rfl) rfl<|bf (oP rfl rfl) rfl<|jR rfl
  | false=>
   refine dw Y Y Y<|dw Y Y Y<|dw Y Y Y<|dw Y Y Y<|dw Y Y Y<|dw Y Y Y<|bf (oU Y Y) Y<|jR Y
 refine bf (tF Y) Y<|pX λw4 e4=>?_
 have K4:=K3.grow e4;refine iU Y ?_;exact⟨by skip <;> rfl,(K4.rm U)⟩
end
section
variable {l:List aT}{D bX:List Int}{aX:List fJ}{k jK jZ nk JO CO g_l:Nat}{n:aT}{S0:Nat->Prop}{jL j3 nu Dq wP:ah}{s:List (Int × Int)}{cf:Int->Int->Int}{c:aH}{bQ:Int}
def bt(x y u z:Nat):Bool:=if x≠u then decide (x<u) else decide (y<z)
abbrev zN(aX:List fJ)(n:aT):Nat:=(nX aX n.ID).toNat
def tgF(l:List aT)(D:List Int)(aX:List fJ)(bX:List Int)(b:Option aT)(n:aT):Option aT:=if Ce l D aX bX n.ID=true then(match b with | none=>some n | some m=>if bt (wR (kY l bX) n) (zN aX n) (wR (kY l bX) m) (zN aX m)=true then some n else some m) else b
def vB(l:List aT)(D:List Int)(aX:List fJ)(bX:List Int)(aYc:List aT):Option aT:=aYc.foldl (tgF l D aX bX) none
def yY(b:Option aT):Int:=match b with | none=>0 | some m=>m.ID
def getD_some{b:Option aT}(h:(!b.isSome)=false):b=some (b.getD ⟨0,0,0,0⟩):=by
 cases b with
 | none=>cases h
 | some m=>rfl
def UO(l:V aT)(D:V Int)(aX:V fJ)(bX:V Int)(b:Option aT)(n:aT):tgF l D aX bX b n=if(Ce l D aX bX n.ID&&(!b.isSome||bt (wR (kY l bX) n) (zN aX n) (wR (kY l bX) (b.getD ⟨0,0,0,0⟩)) (zN aX (b.getD ⟨0,0,0,0⟩))))=true then some n else b:=by
 unfold tgF
 cases hp:Ce l D aX bX n.ID with
 | false=>rfl
 | true=>
  cases b with
  | none=>rfl
  | some m=>
   show(if bt _ _ _ _=true then some n else some m)=if(true&&(false||bt _ _ _ _))=true then some n else some m;rw [Bool.true_and,Bool.false_or]; rfl
def UQ(old:List Int)(aX:List fJ)(b:Option aT):Value:=match b with | none=>.complex .f64 0 0 | some m=>.complex .f64 (fb (wR old m)) (wIm (old.contains m.mY) (wZ aX m))
def IK{aYc:V aT}(hn:aYc[k]? = some n):vB l D aX bX (aYc.take (k+1))=tgF l D aX bX (vB l D aX bX (aYc.take k)) n:=by
 unfold vB; rw [eO hn,AP]; rfl
def RA(hn:n∈l)(h:Ce l D aX bX n.ID=true):tN l=true/\gJ l n.ID=n/\n.fT=0/\D.contains n.ID=true/\bX.contains n.ID=false/\nX aX n.ID<n.lV/\n.lV<=16:=by
 simp only [Ce,bK,bN,dZ] at h
 obtain⟨⟨⟨⟨h1,h2⟩,h3⟩,h4⟩,h5⟩:=h
 have hm:tN l=true:=by
  cases hb:tN l with
  | true=>rfl
  | false=>unfold jY at h1; rw [abR hb] at h1; cases h1
 have h6:gJ l n.ID=n:=by
  unfold jY at h1;obtain⟨x,hx,hk⟩:=qc h1;rw [qP h1 hx];have h3:=dz hx;rw [xg hm] at h3;exact Rl (E9 _ 0 hm) h3 hn hk
 rw [h6] at h2 h5;have h7:=(Q8 _ _ hm n hn).2
 simp only [LC,bK,bN] at h7
 exact⟨hm,h6,h2,h3,h4,h5,h7.1.2.2⟩
def Xe(h:∀ x∈aX,0<=x.N)(id:Int):0<=nX aX id:=by
 unfold nX; split
 ·rename_i x hx; exact h x (YU hx)
 ·omega
def aG3(h0:∀ x∈aX,0<=x.N)(h:nX aX n.ID<n.lV):wZ aX n=(zN aX n:Int):=by
 have:=Xe h0 n.ID;unfold wZ zN; rw [aQ aj]; omega
def asf{old:V Int}(h0:∀ x∈aX,0<=x.N)(h:nX aX n.ID<n.lV)(h1:n.lV<=16):Value.complex .f64 (fb (wR old n)) (wIm (old.contains n.mY) (wZ aX n))=.complex .f64 (fb (wR old n)) (fb (zN aX n)):=by
 have:=Xe h0 n.ID;rw [aG3 h0 h,aCh _ (by unfold zN; omega)]
def aAK(old:V Int)(n:aT):wR old n<70:=by unfold wR; split <;> omega
def al8:∀(aYc:V aT)(b:Option aT),(∀ n∈aYc,n∈l)->(∀ m,b=some m->m∈l/\Ce l D aX bX m.ID=true)->∀ m,aYc.foldl (tgF l D aX bX) b=some m->m∈l/\Ce l D aX bX m.ID=true
 | [],b,_,hb,m,h=>hb m h
 | n::aYc,b,hM,hb,m,h=>by
  refine al8 aYc _ (λx hx=>hM x (by simp [hx])) (λx hx=>?_) m h;unfold tgF at hx
  by_cases hp:Ce l D aX bX n.ID=true
  ·rw [aS hp] at hx
   cases b with
   | none=>cases hx; exact⟨hM _ av,hp⟩
   | some q=>
    simp only at hx
    split at hx
    ·cases hx; exact⟨hM _ av,hp⟩
    ·cases hx; exact hb _ rfl
  ·rw [aQ hp] at hx; exact hb x hx
def aoI{old:V Int}(h0:∀ x∈aX,0<=x.N){m:aT}(h:vB l D aX bX (l.take k)=some m):UQ old aX (vB l D aX bX (l.take k))=.complex .f64 (fb (wR old m)) (fb (zN aX m))/\zN aX m<70:=by
 have hm:=al8 (l.take k) none (λn hn=>List.mem_of_mem_take hn) (λm e=>by cases e) m h;have h1:=RA hm.1 hm.2;have:=Xe h0 m.ID;rw [h];exact⟨asf h0 h1.2.2.2.2.2.1 h1.2.2.2.2.2.2,by unfold zN; omega⟩
def aCT:bC prog 223:=ay
def agJ(w:World){x y:Nat}{u z:Nat}(hb:(x<70/\y<70)/\u<70/\z<70):bM prog 223 #[.complex .f64 (fb x) (fb y),.complex .f64 (fb u) (fb z)] w λv w'=>v=.bool (bt x y u z)/\Hp w S0 w' []:=by
 refine lg S0 func223 ntmps223 Y λH0=>kX Y<|aZ<|gD Y<|ev (Ev.real Y)<|mv Y<|ev (Ev.real Y)<|ev (Ev.aM6 aj aj Y Y)<|dn<|bS Y (λN8=>?_) (λN8=>?_)
 ·replace N8:=oL N8;refine gD Y<|ev (Ev.real Y)<|mv Y<|ev (Ev.real Y)<|ev (Ev.aGu aj aj Y Y)<|fE Y<|Aw Y ?_
  exact⟨by unfold bt; rw [aS (by simpa using N8)] <;> rfl,H0⟩
 replace N8:=oM N8;refine jQ ?_;refine gD Y<|ev (Ev.imag Y)<|mv Y<|ev (Ev.imag Y)<|ev (Ev.aGu aj aj Y Y)<|fE Y<|iU Y ?_
 exact⟨by unfold bt; rw [aQ (by simpa using N8)] <;> rfl,H0⟩
def akf(w:World){a b:Value}(x y u z:Nat)(e1:a=.complex .f64 (fb x) (fb y))(e2:b=.complex .f64 (fb u) (fb z))(hb:(x<70/\y<70)/\u<70/\z<70):bM prog 223 #[a,b] w λv w'=>v=.bool (bt x y u z)/\Hp w S0 w' []:=by subst e1 e2; exact agJ w hb
abbrev zB10x1z(gX:List aT)(iP:List Int)(xE:List fJ)(AU:List Int)(Gg:Nat):=(vB gX iP xE AU (gX.take Gg)).getD ⟨0,0,0,0⟩
def abX(w:World)(jq:Sl bW S0 w jL jK l)(kQ:Sl dN S0 w j3 jZ D)(oC:Sl nW S0 w nu nk aX){vT:ah}{vU:Nat}(EM:Sl dN S0 w vT vU bX)(hn:l.length<=100000)(h0:∀ x∈aX,0<=x.N):bM prog 139 #[.slice jL l.length jK,.slice j3 D.length jZ,.slice nu aX.length nk,.slice vT bX.length vU] w λv w'=>v=.tuple #[O (yY (vB l D aX bX l)),.bool ((vB l D aX bX l).isSome)]/\Hp w S0 w' []:=by
 refine lg S0 func139 ntmps139 Y λH0=>pC 7 Y<|gu Y (aoG _ (H0.a jq).any (H0.a EM).any aj) ?_
 rintro _ w1 ⟨agE,rfl,h1⟩;have K1:=H0.f1 h1;refine pA 7 Y<|aZ<|gD Y<|ev (jf qm Y)<|mv Y<|dn<|dF ?_
 have gy:(0:Int)=yY (vB l D aX bX (l.take 0)):=by rfl
 refine mP (t:=11) Y (aY (Value.int .i64) gy) ?_;have gH:(.complex .f64 0 0:Value)=UQ (kY l bX) aX (vB l D aX bX (l.take 0)):=by rfl
 refine mP (t:=12) Y gH ?_;have kN:(false:Bool)=(vB l D aX bX (l.take 0)).isSome:=by rfl
 refine mP (t:=13) Y (aY Value.bool kN) ?_;have nM:(0:Int)=((0:Nat):Int):=by simp
 refine mP (t:=22) Y (aY (Value.int .i64) nM)<|qh (λmJ lJ wJ=>∃ k,lJ=[(0,.slice jL l.length jK),(1,.slice j3 D.length jZ),(2,.slice nu aX.length nk),(3,.slice vT bX.length vU),(10,.map (some agE)),(11,O (yY (vB l D aX bX (l.take k)))),(12,UQ (kY l bX) aX (vB l D aX bX (l.take k))),(13,.bool ((vB l D aX bX (l.take k)).isSome)),(20,.slice jL l.length jK),(21,O ((l.length:Nat):Int)),(22,O ((k:Nat):Int))]/\mJ=l.length - k/\k<=l.length/\Hp w S0 wJ [ark agE (kY l bX)]) ⟨0,Y,Y,fI _,K1⟩ Y ?_
 rintro _ _ w2 ⟨k,rfl,rfl,hk,K2⟩;refine rg<|ev (iH Y Y)<|dn<|r9 Y (λuQ=>?_) (λuQ=>?_)
 ·refine jQ ?_;refine aZ<|dF<|rg ?_
  obtain⟨x1,bT⟩:=bH (xs:=l) (i:=k) aj;refine ev (d9 (i:=k) qm xU Y Y Y (aP bT) ((K2.a jq).some_ bT))<|ev (iR AJ Y Y ((K2.a jq).fF bT))<|al tT Y K2 λg1 w3 K3=>sty Y K3 U Y λw4 K4=>dn<|rg<|ev (fA AJ Y Y (K4.x U))<|pq 2 Y<|mX K4 Y (aoH _ x1 (K4.a oC).any (K4.obj s1)) λw5 K5=>pB 7 Y<|jP g1 0 mF K5 U Y<|mX K5 Y (axX _ (K5.a jq).any (K5.a kQ).any (K5.a oC).any (K5.a EM).any x1.ID aj) λw6 K6=>mv Y<|qg 8 45 ((Ce l D aX bX x1.ID)&&((!((vB l D aX bX (l.take k)).isSome))||(bt (wR (kY l bX) x1) (zN aX x1) (wR (kY l bX) (zB10x1z l D aX bX k)) (zN aX (zB10x1z l D aX bX k))))) ?_ ?_
  ·cases aNz:Ce l D aX bX x1.ID with
   | true=>
    have hp1:=RA (dz bT) aNz;have hzn:zN aX x1<70:=by have h1:=Xe h0 x1.ID; have h2:=hp1.2.2.2.2.2; unfold zN; omega
    refine pq 3 Y<|qg 4 44 ((!((vB l D aX bX (l.take k)).isSome))||(bt (wR (kY l bX) x1) (zN aX x1) (wR (kY l bX) (zB10x1z l D aX bX k)) (zN aX (zB10x1z l D aX bX k)))) ?_ ?_
    ·cases aoJ:(!((vB l D aX bX (l.take k)).isSome)) with
     | true=>
      refine pq 4 Y<|jI Y (oW _)
     | false=>
      have hlv:=aoI (old:=kY l bX) h0 (k:=k) (getD_some aoJ);refine pq 2 Y<|om Y Y Y Y aCT (akf (S0:=Any) _ (wR (kY l bX) x1) (zN aX x1) (wR (kY l bX) (zB10x1z l D aX bX k)) (zN aX (zB10x1z l D aX bX k)) (asf h0 hp1.2.2.2.2.2.1 hp1.2.2.2.2.2.2) hlv.1 ⟨⟨aAK _ _,hzn⟩,aAK _ _,hlv.2⟩) Y ?_
      rintro _ w7 ⟨rfl,h7⟩;refine pq 1 Y<|jI Y h7.ext
    intro w8 e8;refine pq 1 Y<|jI Y e8
   | false=>
    refine pq 8 Y<|jI Y (oW _)
  intro w9 e9;have K9:=K6.grow e9;refine dn<|bS Y (λUR=>?_) (λUR=>?_)
  ·refine jN<|jP g1 0 mF K9 U Y<|pq 4 Y<|jO<|iF (fV ?_)
   refine jN<|ev (eG Y Y)<|mv Y<|jO ?_
   have uO:(x1.ID:Int)=yY (vB l D aX bX (l.take (k+1))):=by rw [IK bT,UO]; first | (rw [aS UR]; rfl) | rw [aQ (by rw [UR]; decide)]
   refine ji (t:=11) Y (aY (Value.int .i64) uO) ?_;have zC:(.complex .f64 (fb (wR (kY l bX) x1)) (wIm ((kY l bX).contains x1.mY) (wZ aX x1)):Value)=UQ (kY l bX) aX (vB l D aX bX (l.take (k+1))):=by rw [IK bT,UO]; first | (rw [aS UR]; rfl) | rw [aQ (by rw [UR]; decide)]
   refine ji (t:=12) Y zC ?_;have BO:(true:Bool)=(vB l D aX bX (l.take (k+1))).isSome:=by rw [IK bT,UO]; first | (rw [aS UR]; rfl) | rw [aQ (by rw [UR]; decide)]
   refine ji (t:=13) Y (aY Value.bool BO) ?_;have hq8:(((k+1:Nat):Int):Int)=(((k+1):Nat):Int):=by simp
   refine ji (t:=22) Y (aY (Value.int .i64) hq8)<|dX ⟨(k+1),Y,Y,aj,(K9.rm U)⟩ rfl aj
  refine Gw ?_;refine jN<|ev (eG Y Y)<|mv Y<|jO ?_
  have Aa:(yY (vB l D aX bX (l.take k)):Int)=yY (vB l D aX bX (l.take (k+1))):=by rw [IK bT,UO]; first | (rw [aS UR]; rfl) | rw [aQ (by rw [UR]; decide)]
  refine ji (t:=11) Y (aY (Value.int .i64) Aa) ?_;have vL:(UQ (kY l bX) aX (vB l D aX bX (l.take k)):Value)=UQ (kY l bX) aX (vB l D aX bX (l.take (k+1))):=by rw [IK bT,UO]; first | (rw [aS UR]; rfl) | rw [aQ (by rw [UR]; decide)]
  refine ji (t:=12) Y vL ?_;have hq11:((vB l D aX bX (l.take k)).isSome:Bool)=(vB l D aX bX (l.take (k+1))).isSome:=by rw [IK bT,UO]; first | (rw [aS UR]; rfl) | rw [aQ (by rw [UR]; decide)]
  refine ji (t:=13) Y (aY Value.bool hq11) ?_;have hq12:(((k+1:Nat):Int):Int)=(((k+1):Nat):Int):=by simp
  refine ji (t:=22) Y (aY (Value.int .i64) hq12)<|dX ⟨(k+1),Y,Y,aj,(K9.rm U)⟩ rfl aj
 refine BU ?_;refine gD Y<|mv Y<|oJ Y<|fE Y<|iU Y ?_
 have aj8:(yY (vB l D aX bX (l.take k)):Int)=(yY (vB l D aX bX l)):=by rw [gY aj]
 have aj9:((vB l D aX bX (l.take k)).isSome:Bool)=((vB l D aX bX l).isSome):=by rw [gY aj]
 exact⟨by rw [aj8,aj9] <;> rfl,(K2.rm U)⟩
def Gl(c:aH)(D:List Int):List Int:=c.aD.filter fun(id:Int)=>D.contains id
def Ci(l:List aT)(id:Int):Bool:=jY l id&&decide ((gJ l id).fT=0)
def iW(c:aH)(l:List aT)(D:List Int):List Int:=(Gl c D).filter fun(id:Int)=>Ci l id
def adC(l:List aT)(D:List Int)(id:Int):Bool:=(jY l id&&!decide ((gJ l id).fT=0))&&D.contains id
def LH(c:aH)(l:List aT)(D:List Int):List Int:=c.aD.filter fun(id:Int)=>adC l D id
def asg(c:aH)(D:V Int):(Gl c D).length<=c.aD.length:=mW _ _
def aoK(c:aH)(l:V aT)(D:V Int):(iW c l D).length<=(Gl c D).length:=mW _ _
def aCU:bC prog 165:=ay
def aG4:bC prog 92:=ay
def aCV:bC prog 322:=ay
def ash(w:World)(id:Int)(kQ:Bx w JO 46 [.slice j3 D.length jZ])(Ri:Sl dN S0 w j3 jZ D):bM prog 165 #[O id,fK JO] w λv w'=>v=.bool (!(D.contains id))/\Hp w S0 w' []:=by
 refine lg S0 func165 ntmps165 Y λH0=>kX Y<|rg<|ev (dU EX Y (kQ.ext H0.ext) Y)<|mv Y<|mX H0 Y (kJ _ (H0.a Ri).any id) λw1 K1=>pA 3 Y<|iU Y ?_
 exact⟨Y,K1⟩
def Xf(w:World)(c:aH)(IE:Sl dN S0 w Dq CO c.aD)(kQ:Sl dN S0 w j3 jZ D)(hh:c.aD.length<=100000):bM prog 91 #[.agg #[O c.ID,O c.E,gP c.Sum,.slice Dq c.aD.length CO],.slice j3 D.length jZ] w λv w'=>∃ A0 c0,v=.slice A0 ((Gl c D).length) c0/\Hp w S0 w' [aR dN 3 A0 c0 (Gl c D)]:=by
 refine lg S0 func91 ntmps91 Y λH0=>rg<|bx Y Y H0 λg1 w1 K1=>bx Y Y K1 λg2 w2 K2=>fE Y<|rg<|jP g1 3 kr K2 s1 Y<|gu Y (sw _ (K2.a IE).any aj) ?_
 rintro _ w3 ⟨rE,rF,rfl,h3⟩;have K3:=K2.f1 h3;refine ev (rZ Y)<|gu Y (oN (K3.sel U) aCU (λx9=>!(D.contains x9)) (λw9 ys x9 hl9 K9=>(ash w9 x9 (K9.x s1) (K9.a kQ).any).mono (by rintro _ w8 ⟨rfl,K8⟩; exact⟨rfl,K8.ext⟩)) aj) ?_
 rintro _ w4 ⟨rfl,K4⟩;refine fE Y<|iU Y ?_
 have gy:((c.aD.filter λx9=>!(!(D.contains x9))):V Int)=(Gl c D):=by unfold Gl; simp only [Bool.not_not]
 rw [gy] at K4;exact⟨rE,rF,by rw [gy] <;> rfl,(K4.cU 1 2)⟩
def aoL(w:World)(id:Int)(jq:Bx w g_l 33 [.slice jL l.length jK])(k_l:Sl bW S0 w jL jK l)(hn:l.length<=100000):bM prog 92 #[O id,fK g_l] w λv w'=>v=.bool (!(Ci l id))/\Hp w S0 w' []:=by
 refine lg S0 func92 ntmps92 Y λH0=>kX Y<|rg<|ev (dU abT Y (jq.ext H0.ext) Y)<|mv Y<|mX H0 Y (Fb _ (H0.a k_l).any id aj) λw1 K1=>pq 3 Y<|al tT Y K1 λg1 w2 K2=>sty Y K2 U Y λw3 K3=>pB 6 Y<|iJ 4 18 ((!(jY l id))||(!decide ((gJ l id).fT=0))) ?_ ?_
 ·cases aNA:(!(jY l id)) with
  | true=>
   refine pq 4 Y<|dK Y
  | false=>
   refine wW g1 3 yX K3 U Y<|pq 2 Y<|dK Y
 refine fE Y<|iU Y ?_
 have gy:(((!(jY l id))||(!decide ((gJ l id).fT=0))):Bool)=(!(Ci l id)):=by unfold Ci; cases jY l id <;> simp
 exact⟨by rw [gy] <;> rfl,(K3.rm U)⟩
def RB(w:World)(c:aH)(IE:Sl dN S0 w Dq CO c.aD)(jq:Sl bW S0 w jL jK l)(kQ:Sl dN S0 w j3 jZ D)(hh:c.aD.length<=100000)(hn:l.length<=100000):bM prog 42 #[.agg #[O c.ID,O c.E,gP c.Sum,.slice Dq c.aD.length CO],.slice jL l.length jK,.slice j3 D.length jZ] w λv w'=>∃ A0 c0,v=.slice A0 ((iW c l D).length) c0/\Hp w S0 w' [aR dN 3 A0 c0 (iW c l D)]:=by
 refine lg S0 func42 ntmps42 Y λH0=>?_;have hll:=asg c D;refine rg<|bx Y Y H0 λg1 w1 K1=>bx Y Y K1 λg2 w2 K2=>fE Y<|rg<|ev (fA p8 Y Y (K2.x s1))<|mv Y<|gu Y (Xf _ c (K2.a IE).any (K2.a kQ).any aj) ?_
 rintro _ w3 ⟨rE,rF,rfl,h3⟩;have K3:=K2.f1 h3;have arD:=(K3.o U).bI;refine ev (rZ Y)<|gu Y (oN (K3.sel U) aG4 (λx9=>!(Ci l x9)) (λw9 ys x9 hl9 K9=>(aoL w9 x9 (K9.x s1) (K9.a jq).any aj).mono (by rintro _ w8 ⟨rfl,K8⟩; exact⟨rfl,K8.ext⟩)) aj) ?_
 rintro _ w4 ⟨rfl,K4⟩;refine fE Y<|iU Y ?_
 have gy:(((Gl c D).filter λx9=>!(!(Ci l x9))):V Int)=(iW c l D):=by unfold iW; simp only [Bool.not_not]
 rw [gy] at K4;exact⟨rE,rF,by rw [gy] <;> rfl,(K4.cU 1 2)⟩
def aoM(w:World)(id:Int)(jq:Bx w g_l 33 [.slice jL l.length jK])(k_l:Sl bW S0 w jL jK l)(kQ:Bx w JO 46 [.slice j3 D.length jZ])(Ri:Sl dN S0 w j3 jZ D)(hn:l.length<=100000):bM prog 322 #[O id,fK g_l,fK JO] w λv w'=>v=.bool (!(adC l D id))/\Hp w S0 w' []:=by
 refine lg S0 func322 ntmps322 Y λH0=>kX Y<|rg<|ev (dU abT Y (jq.ext H0.ext) Y)<|mv Y<|mX H0 Y (Fb _ (H0.a k_l).any id aj) λw1 K1=>pq 3 Y<|al tT Y K1 λg1 w2 K2=>sty Y K2 U Y λw3 K3=>pB 6 Y<|iJ 4 19 ((!(jY l id))||(decide ((gJ l id).fT=0))) ?_ ?_
 ·cases WJ:(!(jY l id)) with
  | true=>
   refine pq 4 Y<|dK Y
  | false=>
   refine wW g1 3 yX K3 U Y<|pq 2 Y<|dK Y
 refine mv Y<|qg 5 25 (((!(jY l id))||(decide ((gJ l id).fT=0)))||(!(D.contains id))) ?_ ?_
 ·cases adk:((!(jY l id))||(decide ((gJ l id).fT=0))) with
  | true=>
   refine pq 5 Y<|jI Y (oW _)
  | false=>
   have agm:=adk
   try simp only [aA] at agm
   refine uf Y (dU EX Y (kQ.ext K3.ext) Y) Y<|pq 1 Y<|om Y Y Y Y agj (kJ _ (K3.a Ri).any id) Y ?_
   rintro _ w4 ⟨rfl,h4⟩;refine pq 2 Y<|jI Y h4.ext
 intro w5 e5;have K5:=K3.grow e5;refine fE Y<|iU Y ?_
 have gy:((((!(jY l id))||(decide ((gJ l id).fT=0)))||(!(D.contains id))):Bool)=(!(adC l D id)):=by unfold adC; cases jY l id <;> simp
 exact⟨by rw [gy] <;> rfl,(K5.rm U)⟩
def asj(w:World)(c:aH)(IE:Sl dN S0 w Dq CO c.aD)(jq:Sl bW S0 w jL jK l)(kQ:Sl dN S0 w j3 jZ D)(hh:c.aD.length<=100000)(hn:l.length<=100000):bM prog 250 #[.agg #[O c.ID,O c.E,gP c.Sum,.slice Dq c.aD.length CO],.slice jL l.length jK,.slice j3 D.length jZ] w λv w'=>∃ A0 c0,v=.slice A0 ((LH c l D).length) c0/\Hp w S0 w' [aR dN 3 A0 c0 (LH c l D)]:=by
 refine lg S0 func250 ntmps250 Y λH0=>rg<|bx Y Y H0 λg1 w1 K1=>bx Y Y K1 λg2 w2 K2=>bx Y Y K2 λg3 w3 K3=>fE Y<|rg<|jP g1 3 kr K3 s2 Y<|gu Y (sw _ (K3.a IE).any aj) ?_
 rintro _ w4 ⟨sG,sH,rfl,h4⟩;have K4:=K3.f1 h4;refine ev (rZ Y)<|gu Y (oN (K4.sel U) aCV (λx9=>!(adC l D x9)) (λw9 ys x9 hl9 K9=>(aoM w9 x9 (K9.x s2) (K9.a jq).any (K9.x s1) (K9.a kQ).any aj).mono (by rintro _ w8 ⟨rfl,K8⟩; exact⟨rfl,K8.ext⟩)) aj) ?_
 rintro _ w5 ⟨rfl,K5⟩;refine fE Y<|iU Y ?_
 have gy:((c.aD.filter λx9=>!(!(adC l D x9))):V Int)=(LH c l D):=by unfold LH; simp only [Bool.not_not]
 rw [gy] at K5;exact⟨sG,sH,by rw [gy] <;> rfl,(K5.cU 1 3)⟩
def agK(w:World)(jq:Sl bW S0 w jL jK l)(id:Int)(hn:l.length<=100000):bM prog 251 #[.slice jL l.length jK,O id] w λv w'=>v=O ((gJ l id).mY)/\Hp w S0 w' []:=by
 refine lg S0 func251 ntmps251 Y λH0=>pC 6 Y<|mX H0 Y (Fb _ (H0.a jq).any id aj) λw1 K1=>pq 3 Y<|al tT Y K1 λg1 w2 K2=>sty Y K2 U Y λw3 K3=>fE Y<|rg<|jP g1 1 Rb K3 U Y<|fE Y<|iU Y ?_
 exact⟨Y,(K3.rm U)⟩
def aoN{z v y:Int}:(JF s z v).find? (λp=>decide (p.1=y))=if y=z then some (z,v) else s.find? (λp=>decide (p.1=y)):=by
 have hA:y≠z->∀ s:V (Int × Int),(s.map (λp=>if p.1=z then(z,v) else p)).find? (λp=>decide (p.1=y))=s.find? (λp=>decide (p.1=y)):=by
  intro hy s
  induction s with
  | nil=>rfl
  | cons p s ih=>
   rw [mg]
   by_cases e:p.1=z
   ·rw [aS e,Az (by simp; omega),Az (by simp; omega),ih]
   ·rw [aQ e]
    by_cases e2:p.1=y
    ·rw [UL (by simpa using e2),UL (by simpa using e2)]
    ·rw [Az (by simpa using e2),Az (by simpa using e2),ih]
 have hB:∀ s:V (Int × Int),s.any (λp=>decide (p.1=z))=true->(s.map (λp=>if p.1=z then(z,v) else p)).find? (λp=>decide (p.1=z))=some (z,v):=by
  intro s
  induction s with
  | nil=>intro h; cases h
  | cons p s ih=>
   intro h;rw [mg]
   by_cases e:p.1=z
   ·rw [aS e,UL av]
   ·rw [aQ e,Az (by simpa using e)]
    exact ih (by simpa [e] using h)
 unfold JF
 split
 ·rename_i h
  by_cases hy:y=z
  ·subst hy; rw [aS rfl,hB s h]
  ·rw [aQ hy,hA hy s]
 ·rename_i h
  have hn:∀ p∈s,¬ p.1=z:=λp hp e=>h (MN.2 ⟨p,hp,by simpa using e⟩);rw [MS]
  by_cases hy:y=z
  ·subst hy; rw [aS rfl,EZ.2 (λp hp=>by simpa using hn p hp)]; simp
  ·rw [aQ hy]
   cases hf:s.find? (λp=>decide (p.1=y)) with
   | some p=>rfl
   | none=>simp; omega
def asl(s:V (Int × Int))(z v y:Int):Ht (JF s z v) y=if y=z then v else Ht s y:=by
 unfold Ht; rw [aoN]
 by_cases hy:y=z
 ·rw [aS hy,aS hy]
 ·rw [aQ hy,aQ hy]
abbrev rkN(l:List aT)(id:Int):Int:=(gJ l id).mY
def cntF(l:List aT)(s:List (Int × Int))(id:Int):List (Int × Int):=JF s (rkN l id) (Ht s (rkN l id)+1)
def HV(l:List aT)(ids:List Int):List (Int × Int):=ids.foldl (cntF l) []
def aoO{ids:V Int}{x:Int}(hx:ids[k]? = some x):HV l (ids.take (k+1))=cntF l (HV l (ids.take k)) x:=by
 unfold HV; rw [eO hx,AP]; rfl
def UU(l:V aT):∀(ids:V Int)(s:V (Int × Int)),xG s->xG (ids.foldl (cntF l) s)/\∀ r,Ht (ids.foldl (cntF l) s) r=Ht s r+((ids.filter fun(id:Int)=>decide (rkN l id=r)).length:Int)
 | [],s,h=>⟨h,λr=>by simp⟩
 | id::ids,s,h=>by
  have ih:=UU l ids (cntF l s id) (aoh h _ _);refine⟨ih.1,λr=>?_⟩;rw [vY,ih.2 r];unfold cntF;rw [asl,MO]
  by_cases e:r=rkN l id
  ·rw [aS e,aS (by simpa using e.symm),oO,e]; omega
  ·rw [aQ e,aQ (by simpa using λh=>e h.symm)]
def UW(l:V aT)(ids:V Int):xG (HV l ids):=(UU l ids [] List.Pairwise.nil).1
def asn(l:V aT)(ids:V Int)(r:Int):Ht (HV l ids) r=((ids.filter fun(id:Int)=>decide (rkN l id=r)).length:Int):=by
 have:=(UU l ids [] List.Pairwise.nil).2 r;show Ht (ids.foldl (cntF l) []) r=_;rw [this]; show(0:Int)+_=_; omega
def axY(l:V aT)(ids:V Int)(r:Int):0<=Ht (HV l ids) r/\Ht (HV l ids) r<=ids.length:=by
 rw [asn]; have:=mW (fun(id:Int)=>decide (rkN l id=r)) ids; omega
def Mp(w:World)(g:Nat)(s:List (Int × Int)):Prop:=w.heap[g]? = some (.map (En s) s.length)
def Mp.ext{w w':World}{g:Nat}(h:Mp w g s)(e:Ext w w'):Mp w' g s:=(e.block g (vX.1 h).1).trans h
def shB(on:List (Int × Int))(l:List aT)(id:Int):Bool:=decide (1<Ht on (rkN l id))
def exC(on:List (Int × Int))(l:List aT)(aX:List fJ)(a b:Int):Int:=if(shB on l a != shB on l b)&&shB on l a then 1 else if shB on l a != shB on l b then -1 else VZ [bL (nX aX a) (nX aX b),bL a b]
def JZ(cf:Int->Int->Int):List Int->Int
  | []=>0
  | x::l=>l.foldl (λm y=>if 0<cf y m then y else m) x
def aso{l:V Int}{x:Int}(hx:l[0]? = some x):JZ cf (l.take 1)=x:=by
 cases l with
 | nil=>simp at hx
 | cons y l=>simp at hx; subst hx; simp [JZ]
def abY{l:V Int}{x:Int}(hk:1<=k)(hx:l[k]? = some x):JZ cf (l.take (k+1))=if 0<cf x (JZ cf (l.take k)) then x else JZ cf (l.take k):=by
 rw [eO hx]
 cases hl:l.take k with
 | nil=>have h1:=aY List.length hl; have h2:=aP hx; simp only [iX,u6] at h1; omega
 | cons y m=>simp [JZ]; rfl
def V4(c:aH)(l:List aT)(D:List Int)(aX:List fJ)(bQ:Int):Int × Bool:=
  if bQ<1∨((iW c l D).length:Int)<bQ then(0,false) else
  match LH c l D with
  | i::_=>(i,true)
  | []=>if((iW c l D).length:Int)=bQ then(0,false) else(JZ (exC (HV l (iW c l D)) l aX) (iW c l D),true)
def aCX:kW prog 341:=ay
def aCY:bC prog 251:=ay
def akg:∀ w,(zeroValue 3).run prog w=.ok (O 0) w:=ay
def abZ:kW prog 55:=ay
def Y5:bC prog 252:=ay
def Y6(w:World)(id:Int){asq g_m:Nat}(on:V (Int × Int))(ko:xG on)(akh:Bx w asq 341 [.map (some g_m)])(h_m:Mp w g_m on)(jq:Bx w g_l 33 [.slice jL l.length jK])(k_l:Sl bW S0 w jL jK l)(hn:l.length<=100000):bM prog 252 #[O id,fK asq,fK g_l] w λv w'=>v=.bool (shB on l id)/\Hp w S0 w' []:=by
 refine lg S0 func252 ntmps252 Y λH0=>kX Y<|pW ak ak<|bf (dU aCX Y (akh.ext H0.ext) Y) Y<|bf (dU abT Y (jq.ext H0.ext) Y) Y<|bf (dP Y) Y<|LZ Y Y Y aCY (λwq eq=>(agK wq ((H0.a k_l).any.ext eq) id aj).mono (by rintro _ _ ⟨rfl,gH⟩; exact⟨rfl,gH.ext⟩)) rfl<|bf (Ev.aAy (H0.was h_m) ko underlying341 ig akg rfl rfl) rfl<|bf (Ev.gtr rfl rfl) rfl<|bf (tF rfl) rfl<|pX λw1 e1=>?_
 have K1:=H0.grow e1;refine iU Y ?_;exact⟨by skip <;> rfl,K1⟩
def axZ(w:World)(a:Int)(b:Int){asq g_m:Nat}(on:V (Int × Int))(ko:xG on)(akh:Bx w asq 341 [.map (some g_m)])(h_m:Mp w g_m on)(jq:Bx w g_l 33 [.slice jL l.length jK])(k_l:Sl bW S0 w jL jK l){aG5:Nat}(asu:Bx w aG5 55 [.func (.func 252) #[] #[fK asq,fK g_l]]){JL:Nat}(oC:Bx w JL 131 [.slice nu aX.length nk])(Ep:Sl nW S0 w nu nk aX)(hn:l.length<=100000):bM prog 254 #[O a,O b,fK aG5,fK JL] w λv w'=>v=O (exC on l aX a b)/\Hp w S0 w' []:=by
 refine lg S0 func254 ntmps254 Y λH0=>kX Y<|aZ<|dF<|pW ak ak<|bf (dU abZ Y (asu.ext H0.ext) Y) Y<|bf (dP Y) Y<|LZ Y Y Y Y5 (λwq eq=>(Y6 wq a on ko ((akh.ext H0.ext).ext eq) ((h_m.ext H0.ext).ext eq) ((jq.ext H0.ext).ext eq) ((H0.a k_l).any.ext eq) aj).mono (by rintro _ _ ⟨rfl,gH⟩; exact⟨rfl,gH.ext⟩)) rfl<|bf (dU abZ rfl (asu.ext H0.ext) rfl) rfl<|bf (dP rfl) rfl<|LZ rfl rfl rfl Y5 (λwq eq=>(Y6 wq b on ko ((akh.ext H0.ext).ext eq) ((h_m.ext H0.ext).ext eq) ((jq.ext H0.ext).ext eq) ((H0.a k_l).any.ext eq) aj).mono (by rintro _ _ ⟨rfl,gH⟩; exact⟨rfl,gH.ext⟩)) rfl<|bf (Ev.neb Uo rfl rfl) rfl<|bf (dP rfl) rfl<|rO 4 19 ((!((shB on l a) == (shB on l b)))&&(shB on l a)) ?_ ?_
 ·cases WJ:(!((shB on l a) == (shB on l b))) with
  | true=>
   refine dM Y (dU abZ Y (asu.ext H0.ext) Y) Y<|dM Y (dP Y) Y<|QS Y Y Y Y Y5 (λwq eq=>(Y6 wq a on ko ((akh.ext H0.ext).ext eq) ((h_m.ext H0.ext).ext eq) ((jq.ext H0.ext).ext eq) ((H0.a k_l).any.ext eq) aj).mono (by rintro _ _ ⟨rfl,gH⟩; exact⟨rfl,gH.ext⟩)) rfl<|bf (oP rfl rfl) rfl<|jR rfl
  | false=>
   refine dw Y Y Y<|dw Y Y Y<|dw Y Y Y<|bf (oU Y Y) Y<|jR Y
 refine bf (tF Y) Y<|pX λw1 e1=>?_
 have K1:=H0.grow e1;refine bS Y (λhc7=>?_) (λhc7=>?_)
 ·refine kX Y<|YC Y ?_
  exact⟨by unfold exC; rw [aS (by simpa using hc7)] <;> rfl,K1⟩
 refine pW ak ak<|bf (dU abZ Y (asu.ext K1.ext) Y) Y<|bf (dP Y) Y<|LZ Y Y Y Y5 (λwq eq=>(Y6 wq a on ko ((akh.ext K1.ext).ext eq) ((h_m.ext K1.ext).ext eq) ((jq.ext K1.ext).ext eq) ((K1.a k_l).any.ext eq) aj).mono (by rintro _ _ ⟨rfl,gH⟩; exact⟨rfl,gH.ext⟩)) rfl<|bf (dU abZ rfl (asu.ext K1.ext) rfl) rfl<|bf (dP rfl) rfl<|LZ (v:=.bool (shB on l b)) rfl rfl rfl Y5 (λwq eq=>(Y6 wq b on ko ((akh.ext K1.ext).ext eq) ((h_m.ext K1.ext).ext eq) ((jq.ext K1.ext).ext eq) ((K1.a k_l).any.ext eq) aj).mono (by rintro _ _ ⟨rfl,gH⟩; exact⟨rfl,gH.ext⟩)) rfl<|bf (Ev.neb Uo rfl rfl) rfl<|bf (tF rfl) rfl<|pX λw2 e2=>?_
 have K2:=K1.grow e2;refine bS Y (λl8=>?_) (λl8=>?_)
 ·refine kX Y<|YC Y ?_
  exact⟨by unfold exC; rw [aQ (by simpa using hc7),aS (by simpa using l8)] <;> rfl,K2⟩
 refine Gw ?_;refine He K2 (λ_ K=>K) (λl0 rk lJ wJ=>lJ=(6,O (VZ ([bL (nX aX a) (nX aX b),bL a b]:V Int)))::l0/\Hp w S0 wJ rk) (λhns H1=>?_) ?_
 ·refine kI 0 Y (λ_ hK=>dU P6 Y (oC.ext hK.ext) Y) H1<|lF 1 Y Y H1<|kI 3 Y (λ_ hK=>dU P6 Y (oC.ext hK.ext) Y) H1<|lF 4 Y Y H1<|lF 7 Y Y H1<|lF 8 Y Y H1<|O1 2 Y<|mX H1 Y (vM _ (H1.a Ep).any a) λw3 K3=>aO K3<|O1 5 Y<|mX K3 Y (vM _ (K3.a Ep).any b) λw4 K4=>aO K4<|O1 6 Y<|mX K4 Y (nV (S0:=Any) _ (nX aX a) (nX aX b)) λw5 K5=>aO K5<|O1 9 Y<|mX K5 Y (nV (S0:=Any) _ a b) λw6 K6=>aO K6<|O1 10 Y<|bsn (τ:=dN) (xs:=([bL (nX aX a) (nX aX b),bL a b]:V Int)) (vs:=[(0,O (bL (nX aX a) (nX aX b))),(1,O (bL a b))]) (css:=[[O (bL (nX aX a) (nX aX b))],[O (bL a b)]]) Y (by intro _; apply Fe) rfl rfl K6 (λ_ e=>⟨rfl,rfl,trivial⟩) λg1 w7 K7=>?_
  have k1:=(K7.rm U);refine aO k1<|O1 11 Y<|mX K7 Y (agC _ (K7.o U)) λw8 K8=>?_
  have k2:=(K8.rm U);refine aO k2<|xC 12 Y Y k2<|Dn ⟨Y,(K8.rm U)⟩ Y
 rintro _ w9 ⟨rfl,K9⟩;refine iU Y ?_;exact⟨by unfold exC; rw [aQ (by simp_all),aQ (by simpa using l8)] <;> rfl,K9⟩
def abb(w:World){vk:Nat}{s:V Int}(sP:Sl dN S0 w wP vk s){asv:FuncId}{asw:V Value}(aG6:bC prog asv)(cmp:Int->Int->Int)(h_cmp:∀(w':World)(x:Int)(t:Int),Ext w w'->True->bM prog asv (([O x,O t]:V Value)++asw).toArray w' λv w''=>v=O (cmp x t)/\Ext w' w'')(hne:1<=s.length):bM prog 253 #[.slice wP s.length vk,.func (.func asv) #[] asw.toArray] w λv w'=>v=O (JZ cmp s)/\Hp w S0 w' []:=by
 refine lg S0 func253 ntmps253 Y λH0=>?_;have aoa:=sP.bI;refine kX Y<|aZ<|gD Y<|ev (jf gq Y)<|ev (iH Y Y)<|dn<|o8 Y (λN8=>?_) (λN8=>?_)
 ·omega
 refine jQ ?_;refine gD Y ?_;obtain⟨x1,bT⟩:=bH (xs:=s) (i:=0) aj;refine ev (d9 gq wX Y Y Y (aP bT) ((H0.a sP).some_ bT))<|ev (kG jF Y ((H0.a sP).eZ bT Y))<|fE Y<|aZ<|kX Y<|dF ?_
 have gy:(x1:Int)=(JZ cmp (s.take 1)):=by exact(aso bT).symm
 refine mP (t:=5) Y (aY (Value.int .i64) gy)<|Lp H0 (λl0 rk mJ lJ wJ=>∃ j,lJ=(5,O (JZ cmp (s.take j)))::(6,O ((j:Nat):Int))::l0/\mJ=s.length - j/\(1<=j/\j<=s.length)/\Hp w S0 wJ rk) ⟨1,Y,Y,aj,H0⟩ rfl ?_
 rintro _ _ w1 ⟨j,rfl,rfl,hj,K1⟩;refine aZ<|gD Y<|mv Y<|ev (jf gq Y)<|ev (iH Y Y)<|dn<|o8 Y (λhc17=>?_) (λhc17=>?_)
 ·refine jQ ?_;refine aZ<|dF<|pC 4 Y ?_
  obtain⟨x2,nE⟩:=bH (xs:=s) (i:=j) aj;refine ev (d9 (i:=j) gq wX Y Y Y (aP nE) ((K1.a sP).some_ nE))<|ev (kG jF Y ((K1.a sP).eZ (j:=0) nE Y))<|mv Y<|KY Y Y Y aG6 (h_cmp _ x2 (JZ cmp (s.take j)) K1.ext trivial) Y ?_
  rintro _ w2 ⟨rfl,e2⟩;have K2:=K1.grow e2;refine pA 2 Y<|o8 Y (λhc27=>?_) (λhc27=>?_)
  ·refine jN<|pq 2 Y<|ev (d9 (i:=j) gq wX Y Y Y (aP nE) ((K2.a sP).some_ nE))<|ev (kG jF Y ((K2.a sP).eZ (j:=0) nE Y))<|oJ Y<|jO<|iF (fV ?_)
   refine jN<|mv Y<|ev (eG Y Y)<|oJ Y<|jO ?_
   have gH:(x2:Int)=(JZ cmp (s.take (j+1))):=by rw [abY hj.1 nE]; first | rw [aS hc27] | rw [aQ hc27]
   refine ji (t:=5) Y (aY (Value.int .i64) gH)<|dX ⟨(j+1),Y,Y,aj,K2⟩ rfl aj
  refine Gw ?_;refine jN<|mv Y<|ev (eG Y Y)<|oJ Y<|jO ?_
  have kN:((JZ cmp (s.take j)):Int)=(JZ cmp (s.take (j+1))):=by rw [abY hj.1 nE]; first | rw [aS hc27] | rw [aQ hc27]
  refine ji (t:=5) Y (aY (Value.int .i64) kN)<|dX ⟨(j+1),Y,Y,aj,K2⟩ rfl aj
 refine BU ?_;refine gD Y<|fE Y<|iU Y ?_
 have nM:((JZ cmp (s.take j)):Int)=(JZ cmp s):=by rw [gY aj]
 exact⟨by rw [nM] <;> rfl,K1⟩
def ama(h:bQ<1∨((iW c l D).length:Int)<bQ):V4 c l D aX bQ=(0,false):=aS h
def Y7{i:Int}(h:¬ (bQ<1∨((iW c l D).length:Int)<bQ))(hx:(LH c l D)[0]? = some i):V4 c l D aX bQ=(i,true):=by
 unfold V4; rw [aQ h]
 cases hi:LH c l D with
 | nil=>rw [hi] at hx; simp at hx
 | cons j t=>rw [hi] at hx; simp at hx; subst hx; rfl
def Y8(h:¬ (bQ<1∨((iW c l D).length:Int)<bQ))(hi:¬ 0<(LH c l D).length)(he:((iW c l D).length:Int)=bQ):V4 c l D aX bQ=(0,false):=by
 have e:LH c l D=[]:=xY aj;unfold V4; rw [aQ h,e]; exact aS he
def adD(h:¬ (bQ<1∨((iW c l D).length:Int)<bQ))(hi:¬ 0<(LH c l D).length)(he:¬ ((iW c l D).length:Int)=bQ):V4 c l D aX bQ=(JZ (exC (HV l (iW c l D)) l aX) (iW c l D),true):=by
 have e:LH c l D=[]:=xY aj;unfold V4; rw [aQ h,e]; exact aQ he
def aG7:bC prog 42:=ay
def asx:∀ w,(zeroValue 341).run prog w=.ok (.map none) w:=ay
def amb:∀ w,(zeroValue 55).run prog w=.ok (.nilFunc) w:=ay
def aCZ:bC prog 254:=ay
def aki(w:World)(c:aH)(IE:Sl dN S0 w Dq CO c.aD)(jq:Sl bW S0 w jL jK l)(kQ:Sl dN S0 w j3 jZ D)(oC:Sl nW S0 w nu nk aX)(bQ:Int)(hh:c.aD.length<=100000)(hn:l.length<=100000):bM prog 183 #[.agg #[O c.ID,O c.E,gP c.Sum,.slice Dq c.aD.length CO],.slice jL l.length jK,.slice j3 D.length jZ,.slice nu aX.length nk,O bQ] w λv w'=>v=.tuple #[O ((V4 c l D aX bQ).1),.bool ((V4 c l D aX bQ).2)]/\Hp w S0 w' []:=by
 refine lg S0 func183 ntmps183 Y λH0=>?_;have hgl:=aoK c l D;refine rg<|bx Y Y H0 λg1 w1 K1=>bx Y Y K1 λg2 w2 K2=>bx Y Y K2 λg3 w3 K3=>pB 4 Y<|ev (fA p8 Y Y (K3.x s2))<|lY K3 s1 Y<|mv Y<|gu Y (RB _ c (K3.a IE).any (K3.a jq).any (K3.a kQ).any aj aj) ?_
 rintro _ w4 ⟨sG,sH,rfl,h4⟩;have K4:=K3.f1 h4;have aG8:=(K4.o U).bI;refine fE Y<|aZ<|pC 4 Y<|iJ 5 29 ((decide (bQ<1))||(decide ((((iW c l D).length:Nat):Int)<bQ))) ?_ ?_
 ·cases ax0:decide (bQ<1) with
  | true=>
   refine pq 5 Y<|dK Y
  | false=>
   have aG9:=jX ax0;refine pq 5 Y<|dK Y
 refine dn<|bS Y (λhc29=>?_) (λhc29=>?_)
 ·try simp only [aA] at hc29
  refine rg<|oJ Y<|fE Y<|Aw Y ?_
  have gy:(0:Int)=((V4 c l D aX bQ).1):=by rw [ama aj]
  have gH:(false:Bool)=((V4 c l D aX bQ).2):=by rw [ama aj]
  exact⟨by rw [<- gy,<- gH] <;> rfl,K4.z⟩
 try simp only [aA] at hc29
 refine jQ ?_;refine aZ<|rg<|ev (fA p8 Y Y (K4.x s3))<|lY K4 s2 Y<|mv Y<|gu Y (asj _ c (K4.a IE).any (K4.a jq).any (K4.a kQ).any aj aj) ?_
 rintro _ w5 ⟨Du,Dv,rfl,h5⟩;have K5:=K4.f1 h5;have aHa:=(K5.o U).bI;refine pA 7 Y<|o8 Y (λadE=>?_) (λadE=>?_)
 ·refine gD Y ?_;obtain⟨x1,bT⟩:=bH (xs:=LH c l D) (i:=0) aj;refine ev (d9 gq wX Y Y Y (aP bT) ((K5.o U).some_ bT))<|ev (kG jF Y ((K5.o U).eZ bT Y))<|pA 3 Y<|Aw Y ?_
  have kN:(x1:Int)=((V4 c l D aX bQ).1):=by rw [Y7 aj bT]
  have nM:(true:Bool)=((V4 c l D aX bQ).2):=by rw [Y7 aj bT]
  exact⟨by rw [<- kN,<- nM] <;> rfl,K5.z⟩
 refine jQ ?_;refine aZ<|gD Y<|ev (jf gq Y)<|mv Y<|ev (wQ Y Y)<|dn<|o8 Y (λyt=>?_) (λyt=>?_)
 ·refine rg<|oJ Y<|fE Y<|Aw Y ?_
  have uO:(0:Int)=((V4 c l D aX bQ).1):=by rw [Y8 aj aj aj]
  have zC:(false:Bool)=((V4 c l D aX bQ).2):=by rw [Y8 aj aj aj]
  exact⟨by rw [<- uO,<- zC] <;> rfl,K5.z⟩
 refine jQ ?_;refine rg<|mkc K5 Y λg4 w6 K6=>al asx Y K6 λg5 w7 K7=>xD Y K7 U Y λw8 K8=>dn<|aZ<|gD Y<|ev (jf gq Y)<|mv Y<|dn<|dF ?_
 have BO:[]=(HV l ((iW c l D).take 0)):=by rfl
 rw [BO] at K8;refine qh (λmJ lJ wJ=>∃ k,lJ=[(6,fK g2),(8,fK g3),(12,.slice sG ((iW c l D).length) sH),(14,fK g5),(45,.slice sG ((iW c l D).length) sH),(46,O (((iW c l D).length:Nat):Int)),(47,O ((k:Nat):Int))]/\mJ=(iW c l D).length - k/\k<=(iW c l D).length/\Hp w S0 wJ [arl g4 (HV l ((iW c l D).take k)),dJ g5 341 [.map (some g4)],aR dN 3 Du Dv (LH c l D),aR dN 3 sG sH (iW c l D),dJ g3 131 [.slice nu aX.length nk],dJ g2 33 [.slice jL l.length jK],dJ g1 48 [O c.ID,O c.E,gP c.Sum,.slice Dq c.aD.length CO]]) ⟨0,Y,Y,fI _,((K8.sel U).sel s1)⟩ Y ?_;rintro _ _ w9 ⟨k,rfl,rfl,hk,K9⟩;refine rg<|ev (iH Y Y)<|dn<|r9 Y (λaNC=>?_) (λaNC=>?_)
 ·refine jQ ?_;refine aZ<|dF<|rg ?_
  obtain⟨x2,nE⟩:=bH (xs:=iW c l D) (i:=k) aj;refine ev (d9 (i:=k) gq wX Y Y Y (aP nE) ((K9.o s3).some_ nE))<|ev (kG jF Y ((K9.o s3).eZ (j:=0) nE Y))<|fE Y ?_
  have hcb:0<=Ht (HV l ((iW c l D).take k)) ((gJ l x2).mY)/\Ht (HV l ((iW c l D).take k)) ((gJ l x2).mY)<=((iW c l D).take k).length:=axY l _ _
  simp only [iX] at hcb
  refine Hf K9 (λ_ K=>(K.rm U)) (λl0 rk lJ wJ=>lJ=l0/\Hp w S0 wJ (arl g4 (JF (HV l ((iW c l D).take k)) ((gJ l x2).mY) ((Ht (HV l ((iW c l D).take k)) ((gJ l x2).mY))+1))::rk)) (λhns H1=>?_) ?_
  ·have k1:=(H1.rm U);refine xS 0 U Y k1<|xS 1 s4 Y k1<|lF 2 Y Y k1<|O1 3 Y<|mX H1 Y (agK _ (H1.a jq).any x2 aj) λPE K10=>?_
   have k2:=(K10.rm U);refine aO k2<|O1 4 Y<|ev (Ev.aAy (K10.obj U) (UW _ _) underlying341 ig akg Y Y)<|aO k2<|kI 5 Y (λ_ _=>eG Y Y) k2<|O1 6 Y<|aM5 (UW _ _) K10 U Y Y Y underlying341 ig λVY vF=>?_
   have k3:=(vF.rm U);refine aO k3<|Dn ⟨Y,vF⟩ Y
  rintro _ Uy ⟨rfl,uR⟩;refine iF (fV ?_);refine jN<|ev (eG Y Y)<|mv Y<|jO ?_
  have hq8:(JF (HV l ((iW c l D).take k)) ((gJ l x2).mY) ((Ht (HV l ((iW c l D).take k)) ((gJ l x2).mY))+1))=(HV l ((iW c l D).take (k+1))):=by rw [aoO nE]; rfl
  rw [hq8] at uR;exact dX ⟨(k+1),Y,Y,aj,uR⟩ rfl aj
 refine BU ?_;refine rg<|ev (rZ Y)<|al amb Y K9 λg6 YX xk=>xD Y xk U Y λw14 wF=>dn<|gD Y<|ev (rZ Y)<|mX wF Y (abb _ (wF.o s4) (asw:=[fK g6,fK g3]) aCZ (fun(x:Int) (t:Int)=>exC (HV l ((iW c l D).take k)) l aX x t) (λw' x t e hm=>(axZ w' x t (HV l ((iW c l D).take k)) (UW _ _) ((wF.x s2).ext e) ((show Mp _ _ _ from wF.obj s1).ext e) ((wF.x s6).ext e) ((wF.a jq).any.ext e) ((wF.x U).ext e) ((wF.x s5).ext e) ((wF.a oC).any.ext e) aj).mono (by rintro _ _ ⟨rfl,gH⟩; exact⟨rfl,gH.ext⟩)) aj) λw15 zI=>pA 3 rfl<|iU rfl ?_
 have Aa:((JZ (fun(x:Int) (t:Int)=>exC (HV l ((iW c l D).take k)) l aX x t) (iW c l D)):Int)=((V4 c l D aX bQ).1):=by rw [adD aj aj aj,gY (show(iW c l D).length<=k by omega)]
 exact⟨by rw [Aa,adD aj aj aj] <;> rfl,zI.z⟩
structure eP where
  Node:Int
  At:Int
  deriving DecidableEq
def eP.enc(x:eP):List Value:=[.int .i64 x.Node,.int .i64 x.At]
def eP.kP(x:eP):∀ u∈x.enc,u.oneCell'=true:=by
 intro u hu
 simp only [eP.enc,gW,lH,qM] at hu
 rcases hu with rfl | rfl <;> rfl
def iG:Ty eP:=Ty.flat 2 eP.enc au (λ_=>rfl) eP.kP
instance:Flat iG:=⟨λh=>h⟩
def M7(b:eP):Bool:=decide (1<=b.Node)&&decide (b.Node<=16)&&decide (0<=b.At)&&decide (b.At<=1099511627776)
def lZ:Int->List eP->Bool
  | _,[]=>true
  | last,b::l=>M7 b&&decide (last<b.Node)&&lZ b.Node l
def jw(l:List eP):List eP:=if lZ 0 l then l else[]
def PG(l:List eP)(k:Nat):Int:=match (l.take k).getLast? with | some b=>b.Node | none=>0
def Y9:∀(l:V eP)(b:eP)(z:Int),lZ z (l++[b])=(lZ z l&&M7 b&&decide ((match l.getLast? with | some c=>c.Node | none=>z)<b.Node))
 | [],b,z=>by simp [lZ]; try rfl
 | c::l,b,z=>by
  have ih:=Y9 l b c.Node
  simp only [abz,lZ,ih]
  cases l with
  | nil=>simp [Bool.and_assoc]; try rfl
  | cons d l=>simp [Bool.and_assoc,List.getLast?_cons_cons]; cases hl:(d::l).getLast? <;> simp_all
def Za{l:V eP}{b:eP}(h:lZ 0 (l.take k)=true)(hx:l[k]? = some b):lZ 0 (l.take (k+1))=(M7 b&&decide (PG l k<b.Node)):=by
 rw [eO hx,Y9,h]; simp [PG]; try rfl
def ab0:∀(l m:V eP)(z:Int),lZ z (l++m)=true->lZ z l=true
 | [],m,z,_=>rfl
 | b::l,m,z,h=>by
  simp only [abz,lZ,bK] at h ⊢
  exact⟨h.1,ab0 l m _ h.2⟩
def akj{l:V eP}{b:eP}(hx:l[k]? = some b):PG l (k+1)=b.Node:=by
 unfold PG; rw [eO hx]; simp
def aoP{l:V eP}{b:eP}(h:lZ 0 (l.take k)=true)(hx:l[k]? = some b)(hb:(M7 b&&decide (PG l k<b.Node))=false):jw l=[]:=by
 unfold jw;rw [aQ];intro h1;have h2:=ab0 (l.take (k+1)) (l.drop (k+1)) 0 (by rw [Gp]; exact h1);rw [Za h hx,hb] at h2
 cases h2
theorem RD{l:V eP}(h:lZ 0 l=true):jw l=l:=by unfold jw; rw [aS h]
def IL:bU prog 162 0 0:=ay
def M8:bU prog 162 1 1:=ay
def asy  : ∀ w,(Instr.buildSlice 60 0 (List.toArray [])).run prog w=.ok (.slice (some ⟨w.heap.size,0,none⟩) 0 0) (w.alloc (.cells (List.toArray []) 162)):=ay
def asz:kH prog 162 2 16:=by
 obtain⟨i,h1,h2,h3,h4⟩:=qo (show(prog.info? 162).map (λi=>(i.zero,i.size,i.bytes))=some (some (.agg #[O 0,O 0]),2,16) by kernel_rfl);exact⟨i,_,h1,h2,h3,h4,Y⟩
def Qc:Size prog 162 2:=ay
def M9:WC prog 162 2:=⟨λ_=>by kernel_rfl,Qc⟩
def RF:∀ w,(zeroValue 162).run prog w=.ok (.agg #[O 0,O 0]) w:=ay
def amc(w:World)(b:eP):bM prog 148 #[.agg #[O b.Node,O b.At]] w λv w'=>v=.bool (M7 b)/\Hp w S0 w' []:=by
 refine lg S0 func148 ntmps148 Y λH0=>rg<|bx Y Y H0 λg1 w1 K1=>fE Y<|rg<|jP g1 0 IL K1 U Y<|pq 2 Y<|iJ 4 10 ((decide (1<=b.Node))&&(decide (b.Node<=16))) ?_ ?_
 ·cases hb6:decide (1<=b.Node) with
  | true=>
   refine wW g1 0 IL K1 U Y<|pq 2 Y<|dK Y
  | false=>
   refine pq 4 Y<|dK Y
 refine mv Y<|iJ 4 15 (((decide (1<=b.Node))&&(decide (b.Node<=16)))&&(decide (0<=b.At))) ?_ ?_
 ·cases UD:((decide (1<=b.Node))&&(decide (b.Node<=16))) with
  | true=>
   have MW:=UD
   try simp only [aA] at MW
   refine wW g1 1 M8 K1 U Y<|pq 2 Y<|dK Y
  | false=>
   refine pq 4 Y<|dK Y
 refine mv Y<|iJ 4 20 ((((decide (1<=b.Node))&&(decide (b.Node<=16)))&&(decide (0<=b.At)))&&(decide (b.At<=1099511627776))) ?_ ?_
 ·cases YQ:(((decide (1<=b.Node))&&(decide (b.Node<=16)))&&(decide (0<=b.At))) with
  | true=>
   have Rf:=YQ
   try simp only [aA] at Rf
   refine wW g1 1 M8 K1 U Y<|pq 2 Y<|dK Y
  | false=>
   refine pq 4 Y<|dK Y
 refine fE Y<|iU Y ?_
 exact⟨by skip <;> rfl,(K1.rm U)⟩
def Es(w:World){vk:Nat}{s:V eP}(sP:Sl iG S0 w wP vk s)(hn:s.length<=1000000):bM prog 95 #[.slice wP s.length vk] w λv w'=>∃ A0 c0,v=.slice A0 s.length c0/\Hp w S0 w' [aR iG 162 A0 c0 s]:=by
 refine lg S0 func95 ntmps95 Y λH0=>?_;have qU:=M0;have qI:=asz;have qB:=@asy;exact mCL
def agL(w:World){l:V eP}(jq:Sl iG S0 w jL jK l)(hn:l.length<=800000):bM prog 147 #[.slice jL l.length jK] w λv w'=>∃ A0 c0,v=.slice A0 ((jw l).length) c0/\Hp w S0 w' [aR iG 162 A0 c0 (jw l)]:=by
 refine lg S0 func147 ntmps147 Y λH0=>kX Y<|kX Y<|aZ<|gD Y<|ev (jf M0 Y)<|mv Y<|dn<|dF ?_
 have gy:(0:Int)=PG l 0:=by simp [PG]
 refine mP (t:=3) Y (aY (Value.int .i64) gy)<|Lp H0 (λl0 rk mJ lJ wJ=>∃ k,lJ=(3,O (PG l k))::(8,O ((k:Nat):Int))::l0/\mJ=l.length - k/\k<=l.length/\(lZ 0 (l.take k)=true)/\Hp w S0 wJ rk) ⟨0,Y,Y,fI _,by simp [lZ],H0⟩ rfl ?_
 rintro _ _ w1 ⟨k,rfl,rfl,hk,hrise,K1⟩;refine rg<|ev (iH Y Y)<|dn<|r9 Y (λN8=>?_) (λN8=>?_)
 ·refine jQ ?_;refine aZ<|dF<|rg ?_
  obtain⟨x1,bT⟩:=bH (xs:=l) (i:=k) aj;refine ev (d9 M0 Qc Y Y Y (aP bT) ((K1.a jq).some_ bT))<|ev (iR M9 Y Y ((K1.a jq).fF bT))<|al RF Y K1 λg1 w2 K2=>sty Y K2 U Y λw3 K3=>dn<|aZ<|rg<|ev (fA M9 Y Y (K3.x U))<|mX K3 Y (amc (S0:=Any) _ x1) λw4 K4=>pq 2 Y<|iJ 5 20 ((!(M7 x1))||(decide (x1.Node<=PG l k))) ?_ ?_
  ·cases WJ:(!(M7 x1)) with
   | true=>
    refine pq 5 Y<|dK Y
   | false=>
    refine wW g1 0 IL K4 U Y<|pq 3 Y<|dK Y
  refine dn<|bS Y (λl8=>?_) (λl8=>?_)
  ·try simp only [aA] at l8
   refine kX Y<|jE (gG (jM (gG (gG (jM (gG (uo Y ?_)))))))
   have H1:=K4.nil iG 162;have gH:(([]:V eP):V eP)=(jw l):=by refine(aoP hrise bT ?_).symm; rcases l8 with h1 | h1; simp [h1]; simp; intro _; omega
   have H2:=(gH▸H1:Hp w S0 w4 (aR iG 162 none 0 (jw l)::[dJ g1 162 [O x1.Node,O x1.At]]));exact⟨none,0,by rw [<- gH] <;> rfl,(H2.rm s1)⟩
  try simp only [aA] at l8
  refine jQ ?_;refine jN<|jP g1 0 IL K4 U Y<|oJ Y<|jO<|iF (fV ?_)
  refine jN<|ev (eG Y Y)<|mv Y<|jO ?_
  have kN:(x1.Node:Int)=PG l (k+1):=by exact(akj bT).symm
  refine ji (t:=3) Y (aY (Value.int .i64) kN)<|dX ⟨(k+1),Y,Y,aj,by rw [Za hrise bT]; obtain⟨h1,h2⟩:=l8; simp [h1]; omega,(K4.rm U)⟩ rfl aj
 refine BU ?_;refine gD Y<|gu Y (Es _ (K1.a jq).any aj) ?_
 rintro _ w5 ⟨Du,Dv,rfl,h5⟩;have K5:=K1.f1 h5;refine fE Y<|iU Y ?_
 have nM:(l:V eP)=(jw l):=by rw [gY aj] at hrise; exact(RD hrise).symm
 have H3:=(nM▸K5:Hp w S0 w5 [aR iG 162 Du Dv (jw l)]);exact⟨Du,Dv,by rw [<- nM] <;> rfl,H3⟩
theorem IQ(l:V eP):(jw l).length<=l.length:=by unfold jw; split <;> simp
def Zb(b:eP)(ng:Int):Int:=b.At+(if(1099511627776:Int)<(if 0>ng then 0 else ng) then 1099511627776 else(if 0>ng then 0 else ng))
def Na(Z ng:Int)(b:eP):Bool:=decide (Z<=Zb b ng)
def Lj(l:List eP)(Z ng:Int):List eP:=(jw l).filter (Na Z ng)
theorem UY:∀(l:V eP)(z:Int),lZ z l=true->∀ b∈l,M7 b=true
 | [],_,_,b,hb=>by simp at hb
 | c::l,z,h,b,hb=>by
  simp only [lZ,bK] at h
  rcases gW.1 hb with rfl | hb
  ·exact h.1.1
  ·exact UY l _ h.2 b hb
def asA{l:V eP}{b:eP}(hb:b∈jw l):1<=b.Node/\b.Node<=16/\0<=b.At/\b.At<=1099511627776:=by
 unfold jw at hb; split at hb
 ·rename_i h; have:=UY l 0 h b hb; simp only [M7,bK,bN] at this; exact⟨this.1.1.1,this.1.1.2,this.1.2,this.2⟩
 ·simp at hb
def akk{α:Type}{p:α->Bool}{l:V α}{x:α}(hx:l[k]? = some x)(hp:p x=true):(l.take k).filter p++[x] <+: l.filter p:=by
 refine⟨(l.drop (k+1)).filter p,?_⟩;have h1:=nL (p:=p) hx;rw [aS hp] at h1;rw [<- h1,<- CB,Gp]
def aC0:bC prog 219:=ay
def adF:∀ w,(zeroValue 46).run prog w=.ok (.slice none 0 0) w:=ay
def aC1:bC prog 218:=ay
def ax1(w:World)(b:eP)(ng:Int)(hA:0<=b.At/\b.At<=1099511627776):bM prog 219 #[.agg #[O b.Node,O b.At],O ng] w λv w'=>v=O (Zb b ng)/\Hp w S0 w' []:=by
 refine lg S0 func219 ntmps219 Y λH0=>rg<|bx Y Y H0 λg1 w1 K1=>fE Y<|rg<|jP g1 1 M8 K1 U Y<|pq 3 Y<|ev (L6 Y Y (xR (by split <;> (try split) <;> omega) (by split <;> (try split) <;> omega)))<|fE rfl<|iU rfl ?_
 exact⟨by skip <;> rfl,(K1.rm U)⟩
abbrev zB10x2z(gX:ah)(iP:List eP)(xE:Nat):List Value:=[.slice gX iP.length xE]
def adH{b:World}{S:Nat->Prop}{gl gn gt:Nat}{l:V eP}{Z ng:Int}(hn:l.length<=800000):Iter prog 218 [fK gl,fK gn,fK gt] (fun(x:eP)=>[.agg #[O x.Node,O x.At]]) (Lj l Z ng) b S [dJ gl 60 (zB10x2z jL l jK),dJ gn 3 [O Z],dJ gt 3 [O ng],dI iG jL jK l]:=by
 intro lr Jf Jx w F0 H0 h0 hY;refine WP.ajI func218 Y ntmps218 Y ?_;have K0:=vg (F:=F0) H0;have hf:=IQ l;refine rg<|lY K0 U Y<|gu Y (agL _ (K0.s s3).any aj) ?_
 rintro _ w1 ⟨jT,jU,rfl,h1⟩;have K1:=K0.f1 h1;have La:=(K1.o U).bI;refine pA 3 Y<|dF<|qh (λmJ lJ wJ=>∃(k:Nat)(F:V kF),lJ=[(0,.func (.yield lr) #[] #[]),(2,fK gn),(3,fK gt),(8,.slice jT ((jw l).length) jU),(9,O (((jw l).length:Nat):Int)),(10,O ((k:Nat):Int))]/\mJ=(jw l).length - k/\k<=(jw l).length/\(Jf (((jw l).take k).filter (Na Z ng)) F)/\Hp b S wJ (aR iG 162 jT jU (jw l)::dJ gl 60 (zB10x2z jL l jK)::dJ gn 3 [O Z]::dJ gt 3 [O ng]::dI iG jL jK l::F)) ⟨0,F0,Y,Y,fI _,by simpa using h0,K1⟩ rfl ?_
 rintro _ _ w2 ⟨k,F,rfl,rfl,hk,hJt,K2⟩;refine rg<|ev (iH Y Y)<|dn<|r9 Y (λzG=>?_) (λzG=>?_)
 ·refine jQ ?_;refine aZ<|dF<|rg ?_
  obtain⟨x1,bT⟩:=bH (xs:=jw l) (i:=k) aj;refine ev (d9 (i:=k) M0 Qc Y Y Y (aP bT) ((K2.o U).some_ bT))<|ev (iR M9 Y Y ((K2.o U).fF bT))<|al RF Y K2 λg1 w3 K3=>sty Y K3 U Y λw4 K4=>dn<|WP.dr ak ?_
  have H1:=K4.grow (oW w4).drew;refine wiz H1 [(0,14,O Z),(1,15,.agg #[O x1.Node,O x1.At]),(2,16,O ng),(3,17,O (Zb x1 ng)),(4,18,.bool (decide (Z<=Zb x1 ng))),(5,19,.bool (decide (Z<=Zb x1 ng)))] 5 (ada ak) (Ik Y (λ_ hK=>(dU jF Y (hK.x s3) Y))<|Ik Y (λ_ hK=>(fA M9 Y Y (hK.x U)))<|Ik Y (λ_ hK=>(dU jF Y (hK.x s4) Y))<|qcz Y (Qi.call Y Y Y aC0 (λ_ hK=>(ax1 (S0:=Any) _ x1 ng (asA (dz bT)).2.2).mono (by rintro _ _ ⟨rfl,gH⟩; exact⟨rfl,hK.grow gH.ext⟩)))<|Ik rfl (λ_ hK=>(Ev.leq rfl rfl))<|Ik rfl (λ_ hK=>(dP rfl))<|qnz) λw5 K5=>?_
  cases abd:decide (Z<=Zb x1 ng) with
  | true=>
   have asB:=iY abd;refine wiz K5 [(6,20,.func (.yield lr) #[] #[]),(7,21,.agg #[O x1.Node,O x1.At])] 3 ak (O9 Y (λ_ hK=>(dP Y))<|O9 Y (λ_ hK=>(fA M9 Y Y (hK.x U)))<|qnz) λw6 K6=>?_;refine WI.one 8 ak Y ?_;have hy1:=hY (((jw l).take k).filter (Na Z ng)) x1 _ _ [dJ g1 162 [O x1.Node,O x1.At],aR iG 162 jT jU (jw l)] hJt (akk bT (by exact abd)) (vg (F:=[dJ gl 60 (zB10x2z jL l jK),dJ gn 3 [O Z],dJ gt 3 [O ng],dI iG jL jK l,dJ g1 162 [O x1.Node,O x1.At],aR iG 162 jT jU (jw l)]) ((K6.mV 0 2).mV 2 4));refine WL.yield Y Y Y hy1 (by rintro e w' (⟨rfl,_⟩ | ⟨rfl,_⟩) <;> exact⟨_,rfl⟩) rfl rfl rfl ?_;rintro v w7 (⟨hv,F1,hJ1,K7⟩ | ⟨hv,F1,hJ1,K7⟩)
   ·cases hv
    have K7c:=vg (F:=F1) K7;refine WI.nx<|wiz K7c [(9,23,.bool false),(10,24,.bool false)] 0 ak (O9 Y (λ_ hK=>(wC (b:=true) Y))<|Ik Y (λ_ hK=>(oP Y Y))<|qnz) λw8 K8=>?_
    refine WI.dn ak<|bS Y nofun (λ_h=>?_)
    refine Gw ?_;refine jN<|ev (eG Y Y)<|mv Y<|jO<|dX ⟨(k+1),F1,Y,Y,aj,by rw [nL bT]; first | (rw [aS (show Na Z ng x1=true from abd)]; assumption) | (rw [aQ (show ¬ Na Z ng x1=true by rw [show Na Z ng x1=false from abd]; decide),Aj]; exact hJt),(((K8.rm s4).mV 0 4).sel s4)⟩ rfl aj
   ·cases hv
    have K7c:=vg (F:=F1) K7;refine WI.nx<|wiz K7c [(9,23,.bool true),(10,24,.bool true)] 0 ak (O9 Y (λ_ hK=>(wC (b:=false) Y))<|Ik Y (λ_ hK=>(oP Y Y))<|qnz) λw9 K9=>?_
    refine WI.dn ak<|bS Y (λ_h=>?_) nofun
    exact jE (jM (gG (gG (jM (l7.an7 Y ⟨⟨_,Y⟩,.inr ⟨_,_,hJ1,(vg (K9.cU 4 2))⟩⟩)))))
  | false=>
   have asB:=jX abd;refine wiz K5 [(6,20,undef),(7,21,undef),(8,22,undef),(9,23,undef),(10,24,.bool false)] 0 ak (AA Y<|AA Y<|AA Y<|AA Y<|Ik Y (λ_ hK=>(oU Y Y))<|qnz) λPE K10=>?_;refine WI.dn ak<|bS Y nofun (λ_h=>?_)
   refine Gw ?_;refine jN<|ev (eG Y Y)<|mv Y<|jO<|dX ⟨(k+1),F,Y,Y,aj,by rw [nL bT]; first | (rw [aS (show Na Z ng x1=true from abd)]; assumption) | (rw [aQ (show ¬ Na Z ng x1=true by rw [show Na Z ng x1=false from abd]; decide),Aj]; exact hJt),(K10.rm U)⟩ rfl aj
 exact tu (mG (mG (tZ (l7.aq1 (l7.an7 Y ⟨⟨_,Y⟩,.inl ⟨_,by rw [gY aj] at hJt; exact hJt,(vg (K2.rm U))⟩⟩)))))
def aoQ(w:World){l:V eP}(jq:Sl iG S0 w jL jK l)(Z:Int)(ng:Int):bM prog 138 #[.slice jL l.length jK,O Z,O ng] w λv w'=>∃ agD agE aHb,v=.func (.func 218) #[] #[fK agD,fK agE,fK aHb]/\Hp w S0 w' [dJ agD 60 [.slice jL l.length jK],dJ agE 3 [O Z],dJ aHb 3 [O ng]]:=by
 refine lg S0 func138 ntmps138 Y λH0=>rg<|bx Y Y H0 λg1 w1 K1=>bx Y Y K1 λg2 w2 K2=>bx Y Y K2 λg3 w3 K3=>fE Y<|rg<|ev (rZ Y)<|fE Y<|iU Y ?_
 exact⟨g1,g2,g3,Y,(((K3.sel U).sel s1).sel s2)⟩
def PI(w:World){l:V eP}(jq:Sl iG S0 w jL jK l)(Z:Int)(ng:Int)(hn:l.length<=800000):bM prog 71 #[.slice jL l.length jK,O Z,O ng] w λv w'=>∃ A0 c0,v=.slice A0 (((Lj l Z ng).map eP.Node).length) c0/\Hp w S0 w' [aR dN 3 A0 c0 ((Lj l Z ng).map eP.Node)]:=by
 refine aGy S0 func71 ntmps71 Y λH0=>?_;have hlv:(Lj l Z ng).length<=800000:=by have h1:=mW (Na Z ng) (jw l); have h2:=IQ l; unfold Lj; omega
 refine kX Y<|rg<|al adF Y H0 λg1 w1 K1=>dn<|aZ<|pC 4 Y<|gu Y (aoQ _ (K1.a jq).any Z ng) ?_
 rintro _ w2 ⟨Qd,aND,aNE,rfl,h2⟩;have K2:=K1.f3 h2;refine dn<|dF ?_
 have H1:=K2.push (K2.a jq);have H2:=H1.nil dN 3;refine WP.range Y aC1 (adH aj) (((H2.sel s1).mV 1 4).sel s5) (λ_=>Y) Y (λpre Fj=>∃ A c,Fj=[dJ g1 46 [.slice A ((pre.map eP.Node).length) c],aR dN 3 A c (pre.map eP.Node)]) (λc pre Fj=>False) (λpre x l1 Fj=>∃ A c V3,l1=[(7,fK g1),(8,fK V3)]/\Fj=[dJ V3 162 [O x.Node,O x.At],dJ g1 46 [.slice A ((pre.map eP.Node).length) c],aR dN 3 A c (pre.map eP.Node)]) ⟨none,0,Y⟩ ?_ ?_ ?_ ?_
 ·rintro lr pre x _ G w3 ⟨A,c,rfl⟩ hpre K3;refine jN<|al RF Y K3 λg2 w4 K4=>sty Y K4 U Y λw5 K5=>jO<|l7.ap ⟨A,c,g2,Y,Y⟩ Y K5
 ·rintro lr pre x _ _ G w6 ⟨A,c,V3,rfl,rfl⟩ hpre K6;have hpl:(pre.map eP.Node).length<=800000:=by have h1:=hpre.length_le; simp at h1 ⊢; omega
  refine dF<|jN<|lY K6 s1 Y<|jP V3 0 IL K6 U Y<|yV Y (by intro _; apply pI) rfl K6 (λ_ _=>rfl) λg3 w7 K7=>ap K7 s3 rfl rfl (K7.o U) gq LB aj av rfl λsQ sS w8 K8=>xD rfl K8 s3 rfl λw9 K9=>jO<|iF ?_
  have gy:(((pre.map eP.Node)++([x.Node]:V Int)):V Int)=((pre++[x]).map eP.Node):=by simp
  rw [gy] at K9;exact l7.rn ⟨sQ,sS,Y⟩ (K9.cU 2 2)
 ·rintro aYb _ PE ⟨A,c,rfl⟩ K10;refine iF (fV ?_);refine rg<|lY K10 s5 Y<|fE Y<|jE (l7.an6 K10 Y λVY vF=>⟨_,⟨_,_,Y,Y,Y⟩,?_⟩)
  exact⟨A,c,Y,(vF.cU 0 5)⟩
 ·rintro aYb c pre F w h _;exact h.elim
end
end Go.Proofs.YthcmboepffiliaaGreat
