/- Lemmas. -/
import Derived.Test.YtlhnnmlenkahlaaGreathG6
set_option maxRecDepth 4000
set_option linter.all false
namespace Go.Proofs.YtlhnnmlenkahlaaGreat
open Go.RowKit Go.Proofs.Tryz
def acs:=@List.flatMap_append
def X7:=@List.take_zero
def Lx:=@underlying138
def acu:=@underlying336
section
variable {ls:List bf}{ns:List aR}{ks dF M:List aF}{aH:List Int}{bS:Int}{x:aF}{S0:Nat->Prop}
def NM(ks dF:List aF)(ns:List aR)(aH:List Int)(kZ:Int):Bool:=moveB dF ns aH kZ&&gZ ks (jm dF ns aH kZ).aD
def Qv(ls:List bf)(ks dF:List aF)(ns:List aR)(aH:List Int)(kZ dD all u:Int):List bf:=if NM ks dF ns aH kZ=true then yc ls dD all (aU ks (jm dF ns aH kZ).aD) (jm dF ns aH kZ).jM (jm dF ns aH kZ).To u else ls
def Qw(ls:List bf)(os:List aK)(ks dF:List aF)(ns:List aR)(aH:List Int)(kZ dD all u:Int):List aK:=if NM ks dF ns aH kZ=true then xw ls os dD all (aU ks (jm dF ns aH kZ).aD) (jm dF ns aH kZ).jM (jm dF ns aH kZ).To u else os
theorem LA:dL prog 195 5 14:=ay
theorem G6:dL prog 195 4 13:=ay
theorem X8:dL prog 112 4 4:=ay
theorem azq:bJ prog 244:=ay
abbrev Af(iE je:List aF)(wP:List aR)(zZ:List Int)(Fh:Int):=aU iE ((jm je wP zZ Fh).aD)
set_option maxHeartbeats 1000000 in
theorem au5{b w:World}{S:Nat->Prop}{F:List lG}{g:Nat}{v0 v2 v5 v6 v9 v16:Value}{AL:ah}{cL:Nat}{AO:ah}{cO:Nat}{os:List aK}{AN:ah}{cN:Nat}{AK:ah}{cK:Nat}{AV:ah}{cV:Nat}{AS:ah}{cS:Nat}{dD all eO kZ aJ:Int}(H0:Hp b S w (dW g 195 [v0,.slice AL ls.length cL,v2,.slice AN ns.length cN,.slice AK ks.length cK,v5,v6,aI dD,aI all,v9,aI eO,aI kZ,aI aJ,.slice AV aH.length cV,.slice AS dF.length cS,.slice AO os.length cO,v16]::aQ dz 117 AL cL ls::aQ bg 112 AO cO os::dH bW AN cN ns::dH bD AK cK ks::dH dQ AV cV aH::dH bD AS cS dF::F))(hl:ls.length<=100)(ho:os.length<=100000)(hn:ns.length<=1000)(hc:ks.length<=1000)(hs:dF.length<=1000)(hk:∀ x∈ks,x.aC.length<=100000)(hh:∀ x∈dF,x.aC.length<=100000)(hu:-1099511627776<=aJ/\aJ<=4398046511104/\-1099511627776<=eO/\eO<=1099511627776) :
    bO prog 157 #[gI g] w λv w'=>v=.tuple #[]/\∃ AL' cL' AO' cO',Hp b S w' (dW g 195 [v0,.slice AL' ((Qv ls ks dF ns aH kZ dD all (aJ+eO)).length) cL',v2,.slice AN ns.length cN,.slice AK ks.length cK,v5,v6,aI dD,aI all,v9,aI eO,aI kZ,aI aJ,.slice AV aH.length cV,.slice AS dF.length cS,.slice AO' ((Qw ls os ks dF ns aH kZ dD all (aJ+eO)).length) cO',v16]::aQ dz 117 AL' cL' (Qv ls ks dF ns aH kZ dD all (aJ+eO))::aQ bg 112 AO' cO' (Qw ls os ks dF ns aH kZ dD all (aJ+eO))::dH bW AN cN ns::dH bD AK cK ks::dH dQ AV cV aH::dH bD AS cS dF::F):=by
 refine rU func157 ntmps157 Y<|He H0 (λ_ K=>K) (λl0 rk lJ wJ=>∃(su:Nat),lJ=(2,gI su)::(3,.bool (moveB dF ns aH kZ))::l0/\Hp b S wJ (dW su 112 [aI ((jm dF ns aH kZ).Kind),aI ((jm dF ns aH kZ).aD),aI ((jm dF ns aH kZ).aB),gP ((jm dF ns aH kZ).Sum),aI ((jm dF ns aH kZ).jM),aI ((jm dF ns aH kZ).To),aI ((jm dF ns aH kZ).ji)]::rk)) (λhns H1=>?_) ?_
 ·refine tZ 0 g 14 LA Y H1<|Db 3 s0 Y H1<|tZ 4 g 3 EI Y H1<|nJ 7 8 g 3 lM s0 Y H1<|tZ 9 g 13 G6 Y H1<|Db 12 s0 Y H1<|tZ 13 g 6 CP Y H1<|MO 16 g 11 acf Y H1<|Db 17 s0 Y H1<|Jn H1 (λl0 rk lJ wJ=>∃(g1:Nat),lJ=(2,gI g1)::(27,.bool (moveB dF ns aH kZ))::l0/\Hp b S wJ (dW g1 112 [aI ((jm dF ns aH kZ).Kind),aI ((jm dF ns aH kZ).aD),aI ((jm dF ns aH kZ).aB),gP ((jm dF ns aH kZ).Sum),aI ((jm dF ns aH kZ).jM),aI ((jm dF ns aH kZ).To),aI ((jm dF ns aH kZ).ji)]::rk)) 1 16777215 ?_ λhS1=>?_
  ·rintro _ w7 ⟨g1,rfl,K7⟩;have k5:=(K7.rm s0);refine xL 24 Y Y k5<|Dn ⟨g1,Y,K7⟩ Y
  refine O2 18 22 Y Y ?_ ?_
  ·refine nD H1 Y (ajL _ (H1.s s6).any (H1.s s3).any (H1.s s5).any kZ aj aj hh) λw8 K8=>aO K8<|lQ 19 Y Y K8<|xU 20 Y Y Y K8<|xU 21 Y Y Y K8<|O1 22 Y<|al CK Y K8 λg3 w9 K9=>?_
   have k6:=(K9.rm s0);refine aO k6<|O1 23 Y<|sty Y K9 s0 Y λOm K10=>?_
   have k7:=(K10.rm s0);exact Kj hS1 k7 ⟨g3,Y,K10⟩ Y
  ·refine al CK Y H1 λg4 Va vM=>?_;have k8:=(vM.rm s0);refine aO k8<|O1 18 Y<|nD vM Y (ajL _ (vM.s s7).any (vM.s s4).any (vM.s s6).any kZ aj aj hh) λVb vH=>?_
   have k9:=(vH.rm s0);refine aO k9<|lQ 19 Y Y k9<|xU 20 Y Y Y k9<|xU 21 Y Y Y k9<|O1 23 Y<|sty Y vH s0 Y λw13 Bf=>?_
   have k10:=(Bf.rm s0);exact Kj hS1 k10 ⟨g4,Y,Bf⟩ Y
 rintro _ w14 ⟨su,rfl,xM⟩;refine He xM (λ_ K=>K) (λl0 rk lJ wJ=>∃(gj2:Nat)(jW:ah)(jT:Nat),lJ=(4,gI gj2)::(5,.bool (gZ ks ((jm dF ns aH kZ).aD)))::l0/\Hp b S wJ (dW gj2 59 [aI ((Af ks dF ns aH kZ).ID),aI ((Af ks dF ns aH kZ).aB),gP ((Af ks dF ns aH kZ).Sum),.slice jW (((Af ks dF ns aH kZ).aC).length) jT]::dH dQ jW jT ((Af ks dF ns aH kZ).aC)::rk)) (λhns H2=>?_) ?_
 ·refine tZ 0 g 3 EI Y H2<|nJ 3 4 g 4 j4 s1 Y H2<|nJ 5 6 su 1 tL s0 Y H2<|Jn H2 (λl0 rk lJ wJ=>∃(g5:Nat)(Vw:ah)(Vx:Nat),lJ=(4,gI g5)::(38,.bool (gZ ks ((jm dF ns aH kZ).aD)))::l0/\Hp b S wJ (dW g5 59 [aI ((Af ks dF ns aH kZ).ID),aI ((Af ks dF ns aH kZ).aB),gP ((Af ks dF ns aH kZ).Sum),.slice Vw (((Af ks dF ns aH kZ).aC).length) Vx]::dH dQ Vw Vx ((Af ks dF ns aH kZ).aC)::rk)) 1 8191 ?_ λhS2=>?_
  ·rintro _ w21 ⟨g5,Vw,Vx,rfl,IV⟩;have k16:=(IV.cU 0 2);refine xL 13 Y Y k16<|Dn ⟨g5,Vw,Vx,Y,IV⟩ Y
  refine O2 7 11 Y Y ?_ ?_
  ·refine gU Y (find_ok _ (H2.s s5) ((jm dF ns aH kZ).aD) aj hk) ?_;rintro _ w22 ⟨MZ,M0,rfl,h22⟩;have GR:=H2.c1 h22;have k17:=(GR.rm s0);refine aO k17<|lQ 8 Y Y k17<|xU 9 Y Y Y k17<|xU 10 Y Y Y k17<|O1 11 Y<|al lX Y GR λg7 w23 JU=>?_
   have k18:=(JU.cU 0 2);refine aO k18<|O1 12 Y<|sty Y JU s0 Y λw24 pK=>?_
   have k19:=(pK.cU 0 2);exact Kj hS2 k19 ⟨g7,MZ,M0,Y,pK⟩ Y
  ·refine al lX Y H2 λg8 w25 Ea=>?_;have k20:=(Ea.rm s0);refine aO k20<|O1 7 Y<|gU Y (find_ok _ (Ea.s s6) ((jm dF ns aH kZ).aD) aj hk) ?_
   rintro _ w26 ⟨Qx,Qy,rfl,h26⟩;have NK:=Ea.c1 h26;have k21:=(NK.cU 0 2);refine aO k21<|lQ 8 Y Y k21<|xU 9 Y Y Y k21<|xU 10 Y Y Y k21<|O1 12 Y<|sty Y NK s1 Y λw27 Ou=>?_
   have k22:=(Ou.cU 0 2);exact Kj hS2 k22 ⟨g8,Qx,Qy,Y,Ou⟩ Y
 rintro _ w28 ⟨gj2,jW,jT,rfl,GU⟩;refine bQ Y<|mv Y<|iO 2 42 ((moveB dF ns aH kZ)&&(gZ ks ((jm dF ns aH kZ).aD))) ?_ ?_
 ·cases aml:(moveB dF ns aH kZ) with
  | true=>
   refine bE Y (bq Y) Y<|ev (dM Y Y)<|dJ Y
  | false=>
   refine dN<|ev (dS Y Y)<|dJ Y
 refine dn<|bP Y (λTv=>?_) (λTv=>?_)
 ·refine jC<|mv Y<|ev (fK pQ Y Y (GU.x s0))<|j6 su 4 X8 GU s2 Y<|j6 su 5 Ab GU s2 Y<|gU Y (X6 ((GU.mV 0 3).mV 3 3) (Af ks dF ns aH kZ) ((jm dF ns aH kZ).jM) ((jm dF ns aH kZ).To) aj aj aj) ?_
  rintro _ w29 ⟨rfl,Ae1,ce1,Af1,cf1,Ii⟩;refine jD<|qc (xV Y ?_)
  have H3:=(Ii.cU 3 3);exact⟨Y,_,_,_,_,by unfold Qv Qw; first | (rw [aS (show NM ks dF ns aH kZ=true from Tv),aS (show NM ks dF ns aH kZ=true from Tv)]; exact H3) | (rw [aP (show ¬ NM ks dF ns aH kZ=true by rw [show NM ks dF ns aH kZ=false from Tv]; decide),aP (show ¬ NM ks dF ns aH kZ=true by rw [show NM ks dF ns aH kZ=false from Tv]; decide)]; exact H3)⟩
 refine zo (qc (xV Y ?_));have H4:=(GU.cU 0 3);exact⟨Y,_,_,_,_,by unfold Qv Qw; first | (rw [aS (show NM ks dF ns aH kZ=true from Tv),aS (show NM ks dF ns aH kZ=true from Tv)]; exact H4) | (rw [aP (show ¬ NM ks dF ns aH kZ=true by rw [show NM ks dF ns aH kZ=false from Tv]; decide),aP (show ¬ NM ks dF ns aH kZ=true by rw [show NM ks dF ns aH kZ=false from Tv]; decide)]; exact H4)⟩
def Tz(c:aF)(id u:Int):aK:=⟨1,c.ID,c.aB,c.Sum,id,id,u⟩
def wG(o:aK):fH:=⟨0,0,6,o.aD,o.jM,0⟩
def trE(ls:List bf)(ks:List aF)(ns:List aR)(aH:List Int)(bS:Int)(c:aF):Int × Bool:=UD c ns aH (jh ks ns ls) bS
def NP(ls:List bf)(ks:List aF)(ns:List aR)(aH:List Int)(bS u:Int)(c:aF):List aK:=if 0<(jJ ls c.ID).length then[] else if(trE ls ks ns aH bS c).2=true then[Tz c (trE ls ks ns aH bS c).1 u] else[]
def wV(ls:List bf)(ks:List aF)(ns:List aR)(aH:List Int)(bS u:Int)(M:List aF):List aK:=M.flatMap (NP ls ks ns aH bS u)
theorem aaG{u:Int}{k:Nat}(hx:M[k]? = some x):wV ls ks ns aH bS u (M.take (k+1))=wV ls ks ns aH bS u (M.take k)++NP ls ks ns aH bS u x:=by
  unfold wV; rw [fC hx,acs]; simp
theorem G7(ls:List bf)(ks:List aF)(ns:List aR)(aH:List Int)(bS u:Int):∀ M:List aF,(wV ls ks ns aH bS u M).length<=M.length
  | []=>kJ _
  | c::M=>by
    have ih:=G7 ls ks ns aH bS u M;have h1:(NP ls ks ns aH bS u c).length<=1:=by unfold NP; split; simp; split <;> simp
    show(NP ls ks ns aH bS u c++wV ls ks ns aH bS u M).length<=_;rw [jG,oV]; omega
theorem aj5{u:Int}{k:Nat}(hx:M[k]? = some x)(h:0<(jJ ls x.ID).length∨(trE ls ks ns aH bS x).2=false):wV ls ks ns aH bS u (M.take (k+1))=wV ls ks ns aH bS u (M.take k):=by
  rw [aaG hx]; unfold NP
  rcases h with h | h
  · rw [aS h,zM]
  · rw [h]; simp
theorem aqd{u:Int}{k:Nat}(hx:M[k]? = some x)(h:¬ 0<(jJ ls x.ID).length)(h2:(trE ls ks ns aH bS x).2=true):wV ls ks ns aH bS u (M.take (k+1))=wV ls ks ns aH bS u (M.take k)++[Tz x (trE ls ks ns aH bS x).1 u]:=by
  rw [aaG hx]; unfold NP; rw [aP h,aS h2]
theorem Qz:dL prog 195 7 16:=ay
theorem yH(a0:Int)(a1:Int)(a2:Int):prog.built 120 [(2,aI a0),(3,aI a1),(4,aI a2)]=some #[aI 0,aI 0,aI a0,aI a1,aI a2,aI 0]:=ak
theorem yI(a0:Int)(a1:Int)(a2:Int)(a3:Int)(a4:Int)(a5:Int):∀ w,(Instr.buildSlice 138 1 (List.toArray [(0,.agg #[aI a0,aI a1,aI a2,aI a3,aI a4,aI a5])])).run prog w=.ok (.slice (some ⟨w.heap.size,0,none⟩) 1 1) (w.alloc (.cells (List.toArray [aI a0,aI a1,aI a2,aI a3,aI a4,aI a5]) 120)):=ay
theorem aiB:lY prog 120 6 48:=by
  obtain⟨i,h1,h2,h3,h4⟩:=uJ (show(prog.info? 120).map (λi=>(i.zero,i.size,i.bytes))=some (some (.agg #[aI 0,aI 0,aI 0,aI 0,aI 0,aI 0]),6,48) by kernel_rfl);exact⟨i,_,h1,h2,h3,h4,Y⟩
set_option maxHeartbeats 2000000 in
theorem amG{b w:World}{S:Nat->Prop}{F:List lG}{g:Nat}{v0 v5 v6 v7 v8 v11:Value}{AL:ah}{cL:Nat}{AD:ah}{cD:Nat}{ds:List aK}{AO:ah}{cO:Nat}{os:List aK}{AC:ah}{cC:Nat}{cs:List fH}{AN:ah}{cN:Nat}{AK:ah}{cK:Nat}{AV:ah}{cV:Nat}{AS:ah}{cS:Nat}{eO aJ:Int}(H0:Hp b S w (dW g 195 [v0,.slice AL ls.length cL,.slice AD ds.length cD,.slice AN ns.length cN,.slice AK ks.length cK,v5,v6,v7,v8,aI bS,aI eO,v11,aI aJ,.slice AV aH.length cV,.slice AS dF.length cS,.slice AO os.length cO,.slice AC cs.length cC]::aQ dz 117 AL cL ls::aQ bg 112 AD cD ds::aQ bg 112 AO cO os::aQ Ad 120 AC cC cs::dH bW AN cN ns::dH bD AK cK ks::dH dQ AV cV aH::dH bD AS cS dF::F))(hl:ls.length<=100)(hd:ds.length<=100000)(ho:os.length<=100000)(hq:cs.length<=1000)(hn:ns.length<=1000)(hc:ks.length<=1000)(hs:dF.length<=1000)(hh:∀ x∈dF,x.aC.length<=100000)(hu:-1099511627776<=aJ/\aJ<=4398046511104/\-1099511627776<=eO/\eO<=1099511627776) :
    bO prog 156 #[gI g] w λv w'=>v=.tuple #[]/\∃ AD' cD' AO' cO' AC' cC',Hp b S w' (dW g 195 [v0,.slice AL ls.length cL,.slice AD' ((ds++(wV ls ks ns aH bS (aJ+eO) dF)).length) cD',.slice AN ns.length cN,.slice AK ks.length cK,v5,v6,v7,v8,aI bS,aI eO,v11,aI aJ,.slice AV aH.length cV,.slice AS dF.length cS,.slice AO' ((os++(wV ls ks ns aH bS (aJ+eO) dF)).length) cO',.slice AC' ((cs++(wV ls ks ns aH bS (aJ+eO) dF).map wG).length) cC']::aQ dz 117 AL cL ls::aQ bg 112 AD' cD' (ds++(wV ls ks ns aH bS (aJ+eO) dF))::aQ bg 112 AO' cO' (os++(wV ls ks ns aH bS (aJ+eO) dF))::aQ Ad 120 AC' cC' (cs++(wV ls ks ns aH bS (aJ+eO) dF).map wG)::dH bW AN cN ns::dH bD AK cK ks::dH dQ AV cV aH::dH bD AS cS dF::F):=by
 refine rU func156 ntmps156 Y<|bQ Y<|ev (d9 Y)<|j6 g 14 LA H0 s0 Y<|ev (eX iV Y)<|mv Y<|dn<|cB ?_
 have fT:(ds:List aK)=(ds++(wV ls ks ns aH bS (aJ+eO) (dF.take 0))):=by rw [X7]; exact(zM _).symm
 rw [fT] at H0;have gu:(os:List aK)=(os++(wV ls ks ns aH bS (aJ+eO) (dF.take 0))):=by rw [X7]; exact(zM _).symm
 rw [gu] at H0;have kC:(cs:List fH)=(cs++(wV ls ks ns aH bS (aJ+eO) (dF.take 0)).map wG):=by rw [X7]; exact(zM _).symm
 rw [kC] at H0;refine qZ (λmJ lJ wJ=>∃(k:Nat)(A2:ah)(c2:Nat)(Vy:ah)(c15:Nat)(A16:ah)(c16:Nat),lJ=[(0,gI g),(10,.slice AS dF.length cS),(11,aI ((dF.length:Nat):Int)),(12,aI ((k:Nat):Int))]/\mJ=dF.length - k/\k<=dF.length/\Hp b S wJ (aQ bg 112 A2 c2 (ds++(wV ls ks ns aH bS (aJ+eO) (dF.take k)))::aQ bg 112 Vy c15 (os++(wV ls ks ns aH bS (aJ+eO) (dF.take k)))::aQ Ad 120 A16 c16 (cs++(wV ls ks ns aH bS (aJ+eO) (dF.take k)).map wG)::dW g 195 [v0,.slice AL ls.length cL,.slice A2 ((ds++(wV ls ks ns aH bS (aJ+eO) (dF.take k))).length) c2,.slice AN ns.length cN,.slice AK ks.length cK,v5,v6,v7,v8,aI bS,aI eO,v11,aI aJ,.slice AV aH.length cV,.slice AS dF.length cS,.slice Vy ((os++(wV ls ks ns aH bS (aJ+eO) (dF.take k))).length) c15,.slice A16 ((cs++(wV ls ks ns aH bS (aJ+eO) (dF.take k)).map wG).length) c16]::aQ dz 117 AL cL ls::dH bW AN cN ns::dH bD AK cK ks::dH dQ AV cV aH::dH bD AS cS dF::F)) ⟨0,AD,cD,AO,cO,AC,cC,Y,Y,fE _,((H0.mV 0 2).mV 2 3)⟩ Y ?_;rintro _ _ w1 ⟨k,A2,c2,Vy,c15,A16,c16,rfl,rfl,hk,K1⟩;refine rg<|ev (fD Y Y)<|dn<|pG Y (λaIv=>?_) (λaIv=>?_)
 ·refine jy ?_;refine aY<|cB ?_
  obtain⟨x1,bN⟩:=bn (xs:=dF) (i:=k) aj;have hhx:=hh _ (bZ bN);have htl:=G7 ls ks ns aH bS (aJ+eO) (dF.take k)
  simp only [iF] at htl
  obtain⟨T,hT⟩:∃ y,wV ls ks ns aH bS (aJ+eO) (dF.take k)=y:=⟨_,rfl⟩;obtain⟨E,hE⟩:∃ y,UD x1 ns aH (jh ks ns ls) bS=y:=⟨_,rfl⟩;rw [hT] at K1 htl;refine rg<|ev (eP (i:=k) iV qy Y Y Y (aM bN) ((K1.s s8).some_ bN)) ?_
  obtain⟨B1,d1,zF,hi1⟩:=zW (K1.is s8 bN);have H1:=K1.push hi1;refine ev (iU (cs:=[aI x1.ID,aI x1.aB,gP x1.Sum,.slice B1 x1.aC.length d1]) pQ Y Y (FE zF))<|al lX Y H1 λg1 w2 K2=>sty Y K2 s0 Y λw3 K3=>dn<|aY<|bQ Y<|j6 g1 0 qN K3 s0 Y<|gU Y (Tt ((K3.mV 0 5).mV 5 2) aj x1.ID) ?_
  rintro _ w4 ⟨NQ,NR,rfl,K4⟩;refine ev (eX fA Y)<|ev (sQ Y Y)<|dn<|mZ Y (λhc21=>?_) (λhc21=>?_)
  ·refine sP (mY (um (gy ?_)));refine jC<|ev (dP Y Y)<|mv Y<|jD ?_
   have hT2:wV ls ks ns aH bS (aJ+eO) (dF.take (k+1))=T:=(aj5 bN (.inl aj)).trans hT;exact dG ⟨(k+1),A2,c2,Vy,c15,A16,c16,Y,Y,aj,by rw [hT2]; exact((((K4.cU 3 2).rm s0).mV 0 2).mV 2 3)⟩ rfl aj
  refine jy ?_;refine He K4 (λ_ K=>K) (λl0 rk lJ wJ=>lJ=(4,aI (E.1))::(5,.bool (E.2))::l0/\Hp b S wJ rk) (λhns H2=>?_) ?_
  ·refine l9 0 Y (λ_ hK=>fK pQ Y Y (hK.x s3)) H2<|tZ 1 g 3 EI Y H2<|nJ 4 5 g 3 lM s1 Y H2<|tZ 6 g 13 G6 Y H2<|Db 9 s1 Y H2<|lQ 10 Y Y H2<|tZ 12 g 6 CP Y H2<|nJ 15 16 g 9 FN s1 Y H2<|O1 11 Y<|gU Y (aaF (((H2.mV 3 5).sel s5).mV 6 4) aj aj aj) ?_
   rintro _ w5 ⟨Ad1,cd1,rfl,K5⟩;have k1:=(((((K5.rm s0).mV 2 2).mV 5 5).mV 7 2).sel s9);have hx9:=aip _ x1 (K5.s s7).any (K5.s s3).any (K5.s s11).any (K5.o s0) bS hhx aj;rw [hE] at hx9;refine aO k1<|O1 17 Y<|nD K5 Y hx9 λw6 K6=>?_
   have k2:=(((((K6.rm s0).mV 2 2).mV 5 5).mV 7 2).sel s9);refine aO k2<|lQ 18 Y Y k2<|xU 19 Y (vs:=[aI (E.1),.bool (E.2)]) Y Y k2<|xU 20 Y (vs:=[aI (E.1),.bool (E.2)]) Y Y k2<|xL 21 Y Y k2<|xL 22 Y Y k2<|Dn ⟨Y,(((((K6.rm s0).mV 2 2).mV 5 5).mV 7 2).sel s9)⟩ Y
  rintro _ w7 ⟨rfl,K7⟩;refine aY<|bQ Y<|ev (iG Y)<|dn<|bP Y (λXT=>?_) (λXT=>?_)
  ·try simp only [eT,dO,bK,eu,dZ,fI,bM,bV] at XT
   refine sP (mY (um (gy ?_)));refine jC<|ev (dP Y Y)<|mv Y<|jD ?_
   have hT2:wV ls ks ns aH bS (aJ+eO) (dF.take (k+1))=T:=(aj5 bN (.inr (by simpa [trE,hE] using XT))).trans hT;exact dG ⟨(k+1),A2,c2,Vy,c15,A16,c16,Y,Y,aj,by rw [hT2]; exact((((K7.cU 3 2).rm s0).mV 0 2).mV 2 3)⟩ rfl aj
  try simp only [eT,dO,bK,eu,dZ,fI,bM,bV] at XT
  refine jy ?_;refine He K7 (λ_ K=>K) (λl0 rk lJ wJ=>∃(su:Nat),lJ=(6,gI su)::l0/\Hp b S wJ (dW su 112 [aI 1,aI x1.ID,aI x1.aB,gP x1.Sum,aI (E.1),aI (E.1),aI (aJ+eO)]::rk)) (λhns H3=>?_) ?_
  ·refine nJ 0 1 g1 0 qN s3 Y H3<|nJ 2 3 g1 1 sJ s3 Y H3<|nJ 4 5 g1 2 Iz s3 Y H3<|lQ 6 Y Y H3<|lQ 7 Y Y H3<|tZ 8 g 12 afk Y H3<|Db 11 s1 Y H3<|tZ 12 g 6 CP Y H3<|nJ 15 16 g 10 Qs s1 Y H3<|l9 17 Y (λ_ _=>dP Y Y) H3<|l9 18 Y (λ_ _=>jX (vs:=[(0,aI 1),(1,aI x1.ID),(2,aI x1.aB),(3,gP x1.Sum),(4,aI (E.1)),(5,aI (E.1)),(6,aI (aJ+eO))]) (cs:=[aI 1,aI x1.ID,aI x1.aB,gP x1.Sum,aI (E.1),aI (E.1),aI (aJ+eO)]) Y (by apply nP)) H3<|O1 19 rfl<|al CK rfl H3 λg2 w8 K8=>?_
   have k3:=(K8.rm s0);refine aO k3<|O1 20 Y<|sty Y K8 s0 Y λw9 K9=>?_
   have k4:=(K9.rm s0);refine aO k4<|Dn ⟨g2,Y,K9⟩ Y
  rintro _ Om ⟨su,rfl,K10⟩;refine He K10 (λ_ K=>((K.cU 6 2).rm s2)) (λl0 rk lJ wJ=>∃(pO:ah)(cj2:Nat)(wW:ah)(vV:Nat),lJ=l0/\Hp b S wJ (dW g 195 [v0,.slice AL ls.length cL,.slice pO (((ds++T)++([(⟨1,x1.ID,x1.aB,x1.Sum,E.1,E.1,aJ+eO⟩:aK)]:List aK)).length) cj2,.slice AN ns.length cN,.slice AK ks.length cK,v5,v6,v7,v8,aI bS,aI eO,v11,aI aJ,.slice AV aH.length cV,.slice AS dF.length cS,.slice wW (((os++T)++([(⟨1,x1.ID,x1.aB,x1.Sum,E.1,E.1,aJ+eO⟩:aK)]:List aK)).length) vV,.slice A16 ((cs++T.map wG).length) c16]::aQ bg 112 pO cj2 ((ds++T)++([(⟨1,x1.ID,x1.aB,x1.Sum,E.1,E.1,aJ+eO⟩:aK)]:List aK))::aQ bg 112 wW vV ((os++T)++([(⟨1,x1.ID,x1.aB,x1.Sum,E.1,E.1,aJ+eO⟩:aK)]:List aK))::rk)) (λhns H4=>?_) ?_
  ·have k5:=((H4.cU 6 2).rm s2);refine lQ 0 Y Y k5<|lQ 1 Y Y k5<|tZ 2 g 15 G5 Y k5<|l9 6 Y (λ_ hK=>fK wF Y Y (hK.x s0)) k5<|tZ 9 g 0 rG Y k5<|MO 12 g 2 DN Y k5<|l9 14 Y (λ_ hK=>fK wF Y Y (hK.x s0)) k5<|Jn (H4.rm s7) (λl0 rk lJ wJ=>∃(g4:Nat)(pU:ah)(pV g3:Nat),lJ=(72,.slice pU (((os++T)++([(⟨1,x1.ID,x1.aB,x1.Sum,E.1,E.1,aJ+eO⟩:aK)]:List aK)).length) pV)::(77,.slice A2 ((ds++T).length) c2)::(79,.slice (some ⟨g4,0,none⟩) (([(⟨1,x1.ID,x1.aB,x1.Sum,E.1,E.1,aJ+eO⟩:aK)]:List aK).length) 1)::l0/\Hp b S wJ (aQ bg 112 (some ⟨g4,0,none⟩) 1 ([(⟨1,x1.ID,x1.aB,x1.Sum,E.1,E.1,aJ+eO⟩:aK)]:List aK)::aQ bg 112 pU pV ((os++T)++([(⟨1,x1.ID,x1.aB,x1.Sum,E.1,E.1,aJ+eO⟩:aK)]:List aK))::aQ bg 112 (some ⟨g3,0,none⟩) 1 ([(⟨1,x1.ID,x1.aB,x1.Sum,E.1,E.1,aJ+eO⟩:aK)]:List aK)::rk)) 8 65535 ?_ λhS1=>?_
   ·rintro _ w36 ⟨g4,pU,pV,g3,rfl,ZF⟩;refine O1 16 Y<|ap (ys:=([(⟨1,x1.ID,x1.aB,x1.Sum,E.1,E.1,aJ+eO⟩:aK)]:List aK)) ZF s9 Y Y (ZF.o s0) lH EH (by simp only [jG,kF]; omega) av rfl λAp6 cp6 w37 Vs=>?_
    have k22:=((Vs.rm s6).cU 0 4);refine aO k22<|Sr 17 g 15 G5 Y k22<|O1 19 Y<|yD Y Vs s6 Y λw38 K38=>?_
    have k23:=(K38.cU 0 5);refine aO k23<|Sr 20 g 0 rG Y k23<|MO 22 g 2 DN Y k23<|O1 23 Y<|yD Y K38 s0 Y λw39 ZH=>?_
    have k24:=(ZH.cU 0 5);refine aO k24<|Dn ⟨Ap6,cp6,pU,pV,Y,((ZH.rm s4).rm s2)⟩ Y
   refine Jn (H4.rm s7) (λl0 rk lJ wJ=>∃(pU:ah)(pV g3:Nat),lJ=(72,.slice pU (((os++T)++([(⟨1,x1.ID,x1.aB,x1.Sum,E.1,E.1,aJ+eO⟩:aK)]:List aK)).length) pV)::(77,.slice A2 ((ds++T).length) c2)::l0/\Hp b S wJ (aQ bg 112 pU pV ((os++T)++([(⟨1,x1.ID,x1.aB,x1.Sum,E.1,E.1,aJ+eO⟩:aK)]:List aK))::aQ bg 112 (some ⟨g3,0,none⟩) 1 ([(⟨1,x1.ID,x1.aB,x1.Sum,E.1,E.1,aJ+eO⟩:aK)]:List aK)::rk)) 9 32767 ?_ λhS2=>?_
   ·rintro _ w40 ⟨pU,pV,g3,rfl,K40⟩;refine O1 15 Y<|Bh (τ:=bg) (x:=(⟨1,x1.ID,x1.aB,x1.Sum,E.1,E.1,aJ+eO⟩:aK)) Y (by intro _; apply fM) rfl K40 (λ_ _=>rfl) λg21 w41 K41=>?_
    have k25:=(((K41.rm s9).rm s5).cU 0 3);exact Kj hS1 k25 ⟨g21,pU,pV,g3,Y,K41⟩ Y
   refine Jn (H4.rm s7) (λl0 rk lJ wJ=>∃(g5:Nat)(pU:ah)(pV g3:Nat),lJ=(72,.slice pU (((os++T)++([(⟨1,x1.ID,x1.aB,x1.Sum,E.1,E.1,aJ+eO⟩:aK)]:List aK)).length) pV)::(79,.slice (some ⟨g5,0,none⟩) (([(⟨1,x1.ID,x1.aB,x1.Sum,E.1,E.1,aJ+eO⟩:aK)]:List aK).length) 1)::l0/\Hp b S wJ (aQ bg 112 (some ⟨g5,0,none⟩) 1 ([(⟨1,x1.ID,x1.aB,x1.Sum,E.1,E.1,aJ+eO⟩:aK)]:List aK)::aQ bg 112 pU pV ((os++T)++([(⟨1,x1.ID,x1.aB,x1.Sum,E.1,E.1,aJ+eO⟩:aK)]:List aK))::aQ bg 112 (some ⟨g3,0,none⟩) 1 ([(⟨1,x1.ID,x1.aB,x1.Sum,E.1,E.1,aJ+eO⟩:aK)]:List aK)::rk)) 9 57343 ?_ λhS3=>?_
   ·rintro _ w42 ⟨g5,pU,pV,g3,rfl,K42⟩;refine O1 13 Y<|nL K42 s5 Y ?_
    have k26:=(((K42.rm s9).rm s5).cU 0 3);exact Kj hS1 k26 ⟨g5,pU,pV,g3,Y,K42⟩ Y
   refine Jn H4 (λl0 rk lJ wJ=>∃(g6 g3:Nat),lJ=(69,.slice Vy ((os++T).length) c15)::(71,.slice (some ⟨g3,0,none⟩) (([(⟨1,x1.ID,x1.aB,x1.Sum,E.1,E.1,aJ+eO⟩:aK)]:List aK).length) 1)::(77,.slice A2 ((ds++T).length) c2)::(79,.slice (some ⟨g6,0,none⟩) (([(⟨1,x1.ID,x1.aB,x1.Sum,E.1,E.1,aJ+eO⟩:aK)]:List aK).length) 1)::l0/\Hp b S wJ (aQ bg 112 (some ⟨g6,0,none⟩) 1 ([(⟨1,x1.ID,x1.aB,x1.Sum,E.1,E.1,aJ+eO⟩:aK)]:List aK)::aQ bg 112 (some ⟨g3,0,none⟩) 1 ([(⟨1,x1.ID,x1.aB,x1.Sum,E.1,E.1,aJ+eO⟩:aK)]:List aK)::rk)) 9 65279 ?_ λhS4=>?_
   ·rintro _ w43 ⟨g6,g3,rfl,K43⟩;refine O1 8 Y<|ap (ys:=([(⟨1,x1.ID,x1.aB,x1.Sum,E.1,E.1,aJ+eO⟩:aK)]:List aK)) K43 s9 Y Y (K43.o s1) lH EH (by simp only [jG,kF]; omega) av rfl λAp7 cp7 w44 K44=>?_
    have k27:=(((K44.rm s9).rm s5).cU 0 3);exact Kj hS1 k27 ⟨g6,Ap7,cp7,g3,Y,((K44.sel s0).sel s1)⟩ Y
   refine Jn H4 (λl0 rk lJ wJ=>∃(g3:Nat),lJ=(69,.slice Vy ((os++T).length) c15)::(71,.slice (some ⟨g3,0,none⟩) (([(⟨1,x1.ID,x1.aB,x1.Sum,E.1,E.1,aJ+eO⟩:aK)]:List aK).length) 1)::(77,.slice A2 ((ds++T).length) c2)::l0/\Hp b S wJ (aQ bg 112 (some ⟨g3,0,none⟩) 1 ([(⟨1,x1.ID,x1.aB,x1.Sum,E.1,E.1,aJ+eO⟩:aK)]:List aK)::rk)) 10 32511 ?_ λhS5=>?_
   ·rintro _ w45 ⟨g3,rfl,K45⟩;refine O2 8 15 Y Y ?_ ?_
    ·refine ap (ys:=([(⟨1,x1.ID,x1.aB,x1.Sum,E.1,E.1,aJ+eO⟩:aK)]:List aK)) K45 s8 Y Y (K45.o s0) lH EH (by simp only [jG,kF]; omega) av rfl λAp8 cp8 w46 K46=>?_;have k28:=(((K46.rm s8).rm s4).cU 0 2);exact Kj hS2 k28 ⟨Ap8,cp8,g3,Y,K46⟩ Y
    ·refine Bh (τ:=bg) (x:=(⟨1,x1.ID,x1.aB,x1.Sum,E.1,E.1,aJ+eO⟩:aK)) Y (by intro _; apply fM) rfl K45 (λ_ _=>rfl) λg22 w47 K47=>?_;have k29:=(((K47.cU 8 2).rm s4).cU 0 2);exact Kj hS4 k29 ⟨g22,g3,Y,K47⟩ Y
   refine Jn H4 (λl0 rk lJ wJ=>∃(g7 g3:Nat),lJ=(69,.slice Vy ((os++T).length) c15)::(71,.slice (some ⟨g3,0,none⟩) (([(⟨1,x1.ID,x1.aB,x1.Sum,E.1,E.1,aJ+eO⟩:aK)]:List aK).length) 1)::(79,.slice (some ⟨g7,0,none⟩) (([(⟨1,x1.ID,x1.aB,x1.Sum,E.1,E.1,aJ+eO⟩:aK)]:List aK).length) 1)::l0/\Hp b S wJ (aQ bg 112 (some ⟨g7,0,none⟩) 1 ([(⟨1,x1.ID,x1.aB,x1.Sum,E.1,E.1,aJ+eO⟩:aK)]:List aK)::aQ bg 112 (some ⟨g3,0,none⟩) 1 ([(⟨1,x1.ID,x1.aB,x1.Sum,E.1,E.1,aJ+eO⟩:aK)]:List aK)::rk)) 10 57087 ?_ λhS6=>?_
   ·rintro _ w48 ⟨g7,g3,rfl,K48⟩;refine O2 8 13 Y Y ?_ ?_
    ·refine ap (ys:=([(⟨1,x1.ID,x1.aB,x1.Sum,E.1,E.1,aJ+eO⟩:aK)]:List aK)) K48 s9 Y Y (K48.o s1) lH EH (by simp only [jG,kF]; omega) av rfl λAp9 cp9 w49 K49=>?_;have k30:=(((K49.rm s9).rm s5).cU 0 3);exact Kj hS3 k30 ⟨g7,Ap9,cp9,g3,Y,((K49.sel s0).sel s1)⟩ Y
    ·refine nL K48 s4 Y ?_;have k31:=(((K48.cU 8 2).rm s4).cU 0 2);exact Kj hS4 k31 ⟨g7,g3,Y,K48⟩ Y
   refine Jn H4 (λl0 rk lJ wJ=>∃(g9:Nat),lJ=(69,.slice Vy ((os++T).length) c15)::(77,.slice A2 ((ds++T).length) c2)::(79,.slice (some ⟨g9,0,none⟩) (([(⟨1,x1.ID,x1.aB,x1.Sum,E.1,E.1,aJ+eO⟩:aK)]:List aK).length) 1)::l0/\Hp b S wJ (aQ bg 112 (some ⟨g9,0,none⟩) 1 ([(⟨1,x1.ID,x1.aB,x1.Sum,E.1,E.1,aJ+eO⟩:aK)]:List aK)::rk)) 10 65151 ?_ λhS7=>?_
   ·rintro _ w50 ⟨g9,rfl,K50⟩;refine O1 7 Y<|Bh (τ:=bg) (x:=(⟨1,x1.ID,x1.aB,x1.Sum,E.1,E.1,aJ+eO⟩:aK)) Y (by intro _; apply fM) rfl K50 (λ_ _=>rfl) λg23 w51 K51=>?_
    have k32:=(((K51.cU 8 2).rm s4).cU 0 2);exact Kj hS4 k32 ⟨g9,g23,Y,((K51.sel s0).sel s1)⟩ Y
   refine Jn H4 (λl0 rk lJ wJ=>∃(g14 g13:Nat),lJ=(71,.slice (some ⟨g13,0,none⟩) (([(⟨1,x1.ID,x1.aB,x1.Sum,E.1,E.1,aJ+eO⟩:aK)]:List aK).length) 1)::(77,.slice A2 ((ds++T).length) c2)::(79,.slice (some ⟨g14,0,none⟩) (([(⟨1,x1.ID,x1.aB,x1.Sum,E.1,E.1,aJ+eO⟩:aK)]:List aK).length) 1)::l0/\Hp b S wJ (aQ bg 112 (some ⟨g14,0,none⟩) 1 ([(⟨1,x1.ID,x1.aB,x1.Sum,E.1,E.1,aJ+eO⟩:aK)]:List aK)::aQ bg 112 (some ⟨g13,0,none⟩) 1 ([(⟨1,x1.ID,x1.aB,x1.Sum,E.1,E.1,aJ+eO⟩:aK)]:List aK)::rk)) 10 65247 ?_ λhS8=>?_
   ·rintro _ w52 ⟨g14,g13,rfl,K52⟩;refine O1 5 Y<|nL K52 s4 Y ?_
    have k33:=(((K52.cU 8 2).rm s4).cU 0 2);exact Kj hS4 k33 ⟨g14,g13,Y,K52⟩ Y
   refine Jn H4 (λl0 rk lJ wJ=>∃(g3:Nat),lJ=(69,.slice Vy ((os++T).length) c15)::(71,.slice (some ⟨g3,0,none⟩) (([(⟨1,x1.ID,x1.aB,x1.Sum,E.1,E.1,aJ+eO⟩:aK)]:List aK).length) 1)::l0/\Hp b S wJ (aQ bg 112 (some ⟨g3,0,none⟩) 1 ([(⟨1,x1.ID,x1.aB,x1.Sum,E.1,E.1,aJ+eO⟩:aK)]:List aK)::rk)) 11 24319 ?_ λhS9=>?_
   ·rintro _ w53 ⟨g3,rfl,K53⟩;refine yT (fuel:=10) (rs:=[8,13,15]) ak au ?_
    simp only [wC,mP,xF,xG,uK]
    refine⟨?_,?_,?_⟩
    ·refine⟨_,Y,?_⟩;refine ap (ys:=([(⟨1,x1.ID,x1.aB,x1.Sum,E.1,E.1,aJ+eO⟩:aK)]:List aK)) K53 s8 Y Y (K53.o s0) lH EH (by simp only [jG,kF]; omega) av rfl λaC4 aC5 w54 K54=>?_;have k34:=(((K54.rm s8).rm s4).cU 0 2);refine aO k34<|O2 13 15 Y Y ?_ ?_
     ·refine nL K54 s4 Y<|Kj hS2 k34 ⟨aC4,aC5,g3,Y,K54⟩ Y
     ·refine Bh (τ:=bg) (x:=(⟨1,x1.ID,x1.aB,x1.Sum,E.1,E.1,aJ+eO⟩:aK)) Y (by intro _; apply fM) rfl K54 (λ_ _=>rfl) λg24 w55 K55=>?_;have k35:=(((K55.rm s9).rm s5).cU 0 3);exact Kj hS3 k35 ⟨g24,aC4,aC5,g3,Y,K55⟩ Y
    ·refine⟨_,Y,?_⟩;refine nL K53 s3 Y ?_;have k36:=(((K53.cU 7 2).rm s3).rm s0);exact Kj hS5 k36 ⟨g3,Y,K53⟩ Y
    ·refine⟨_,Y,?_⟩;refine Bh (τ:=bg) (x:=(⟨1,x1.ID,x1.aB,x1.Sum,E.1,E.1,aJ+eO⟩:aK)) Y (by intro _; apply fM) rfl K53 (λ_ _=>rfl) λg25 w56 K56=>?_;have k37:=(((K56.cU 8 2).rm s4).cU 0 2);exact Kj hS6 k37 ⟨g25,g3,Y,K56⟩ Y
   refine Jn H4 (λl0 rk lJ wJ=>lJ=(69,.slice Vy ((os++T).length) c15)::(77,.slice A2 ((ds++T).length) c2)::l0/\Hp b S wJ rk) 11 32383 ?_ λaC7=>?_
   ·rintro _ w57 ⟨rfl,K57⟩;refine O2 7 15 Y Y ?_ ?_
    ·refine Bh (τ:=bg) (x:=(⟨1,x1.ID,x1.aB,x1.Sum,E.1,E.1,aJ+eO⟩:aK)) Y (by intro _; apply fM) rfl K57 (λ_ _=>rfl) λg26 w58 K58=>?_;have k38:=(((K58.cU 7 2).rm s3).rm s0);exact Kj hS5 k38 ⟨g26,Y,K58⟩ Y
    ·refine Bh (τ:=bg) (x:=(⟨1,x1.ID,x1.aB,x1.Sum,E.1,E.1,aJ+eO⟩:aK)) Y (by intro _; apply fM) rfl K57 (λ_ _=>rfl) λg27 w59 K59=>?_;have k39:=(((K59.cU 7 2).rm s3).rm s0);exact Kj hS7 k39 ⟨g27,Y,K59⟩ Y
   refine Jn H4 (λl0 rk lJ wJ=>∃(g11:Nat),lJ=(69,.slice Vy ((os++T).length) c15)::(79,.slice (some ⟨g11,0,none⟩) (([(⟨1,x1.ID,x1.aB,x1.Sum,E.1,E.1,aJ+eO⟩:aK)]:List aK).length) 1)::l0/\Hp b S wJ (aQ bg 112 (some ⟨g11,0,none⟩) 1 ([(⟨1,x1.ID,x1.aB,x1.Sum,E.1,E.1,aJ+eO⟩:aK)]:List aK)::rk)) 11 56959 ?_ λaC8=>?_
   ·rintro _ w60 ⟨g11,rfl,K60⟩;refine O2 7 13 Y Y ?_ ?_
    ·refine Bh (τ:=bg) (x:=(⟨1,x1.ID,x1.aB,x1.Sum,E.1,E.1,aJ+eO⟩:aK)) Y (by intro _; apply fM) rfl K60 (λ_ _=>rfl) λg28 w61 K61=>?_;have k40:=(((K61.cU 8 2).rm s4).cU 0 2);exact Kj hS6 k40 ⟨g11,g28,Y,((K61.sel s0).sel s1)⟩ Y
    ·refine nL K60 s3 Y ?_;have k41:=(((K60.cU 7 2).rm s3).rm s0);exact Kj hS7 k41 ⟨g11,Y,K60⟩ Y
   refine Jn H4 (λl0 rk lJ wJ=>∃(g13:Nat),lJ=(71,.slice (some ⟨g13,0,none⟩) (([(⟨1,x1.ID,x1.aB,x1.Sum,E.1,E.1,aJ+eO⟩:aK)]:List aK).length) 1)::(77,.slice A2 ((ds++T).length) c2)::l0/\Hp b S wJ (aQ bg 112 (some ⟨g13,0,none⟩) 1 ([(⟨1,x1.ID,x1.aB,x1.Sum,E.1,E.1,aJ+eO⟩:aK)]:List aK)::rk)) 11 32479 ?_ λaC9=>?_
   ·rintro _ w62 ⟨g13,rfl,K62⟩;refine O2 5 15 Y Y ?_ ?_
    ·refine nL K62 s3 Y ?_;have k42:=(((K62.cU 7 2).rm s3).rm s0);exact Kj hS5 k42 ⟨g13,Y,K62⟩ Y
    ·refine Bh (τ:=bg) (x:=(⟨1,x1.ID,x1.aB,x1.Sum,E.1,E.1,aJ+eO⟩:aK)) Y (by intro _; apply fM) rfl K62 (λ_ _=>rfl) λg29 w63 K63=>?_;have k43:=(((K63.cU 8 2).rm s4).cU 0 2);exact Kj hS8 k43 ⟨g29,g13,Y,K63⟩ Y
   refine Jn H4 (λl0 rk lJ wJ=>∃(g15 g13:Nat),lJ=(71,.slice (some ⟨g13,0,none⟩) (([(⟨1,x1.ID,x1.aB,x1.Sum,E.1,E.1,aJ+eO⟩:aK)]:List aK).length) 1)::(79,.slice (some ⟨g15,0,none⟩) (([(⟨1,x1.ID,x1.aB,x1.Sum,E.1,E.1,aJ+eO⟩:aK)]:List aK).length) 1)::l0/\Hp b S wJ (aQ bg 112 (some ⟨g15,0,none⟩) 1 ([(⟨1,x1.ID,x1.aB,x1.Sum,E.1,E.1,aJ+eO⟩:aK)]:List aK)::aQ bg 112 (some ⟨g13,0,none⟩) 1 ([(⟨1,x1.ID,x1.aB,x1.Sum,E.1,E.1,aJ+eO⟩:aK)]:List aK)::rk)) 11 57055 ?_ λaDa=>?_
   ·rintro _ w64 ⟨g15,g13,rfl,K64⟩;refine O2 5 13 Y Y ?_ ?_
    ·refine nL K64 s4 Y ?_;have k44:=(((K64.cU 8 2).rm s4).cU 0 2);exact Kj hS6 k44 ⟨g15,g13,Y,K64⟩ Y
    ·refine nL K64 s4 Y ?_;have k45:=(((K64.cU 8 2).rm s4).cU 0 2);exact Kj hS8 k45 ⟨g15,g13,Y,K64⟩ Y
   refine Jn H4 (λl0 rk lJ wJ=>∃(g17:Nat),lJ=(77,.slice A2 ((ds++T).length) c2)::(79,.slice (some ⟨g17,0,none⟩) (([(⟨1,x1.ID,x1.aB,x1.Sum,E.1,E.1,aJ+eO⟩:aK)]:List aK).length) 1)::l0/\Hp b S wJ (aQ bg 112 (some ⟨g17,0,none⟩) 1 ([(⟨1,x1.ID,x1.aB,x1.Sum,E.1,E.1,aJ+eO⟩:aK)]:List aK)::rk)) 11 65119 ?_ λaDb=>?_
   ·rintro _ w65 ⟨g17,rfl,K65⟩;refine O2 5 7 Y Y ?_ ?_
    ·refine nL K65 s3 Y ?_;have k46:=(((K65.cU 7 2).rm s3).rm s0);exact Kj hS7 k46 ⟨g17,Y,K65⟩ Y
    ·refine Bh (τ:=bg) (x:=(⟨1,x1.ID,x1.aB,x1.Sum,E.1,E.1,aJ+eO⟩:aK)) Y (by intro _; apply fM) rfl K65 (λ_ _=>rfl) λg30 w66 K66=>?_;have k47:=(((K66.cU 8 2).rm s4).cU 0 2);exact Kj hS8 k47 ⟨g17,g30,Y,((K66.sel s0).sel s1)⟩ Y
   refine yT (fuel:=12) (rs:=[5,7,13,15]) ak au ?_
   simp only [wC,mP,xF,xG,uK]
   refine⟨?_,?_,?_,?_⟩
   ·refine⟨_,Y,?_⟩;refine nL H4 s2 Y<|aO k5<|yT (fuel:=11) (rs:=[7,13,15]) ak au ?_
    simp only [wC,mP,xF,xG,uK]
    refine⟨?_,?_,?_⟩
    ·refine⟨_,Y,?_⟩;refine Bh (τ:=bg) (x:=(⟨1,x1.ID,x1.aB,x1.Sum,E.1,E.1,aJ+eO⟩:aK)) Y (by intro _; apply fM) rfl H4 (λ_ _=>rfl) λg31 w67 K67=>?_;have k48:=(((K67.cU 7 2).rm s3).rm s0);exact Kj hS9 k48 ⟨g31,Y,K67⟩ Y
    ·refine⟨_,Y,?_⟩;refine nL H4 s2 Y<|Kj aC7 k5 ⟨Y,H4⟩ Y
    ·refine⟨_,Y,?_⟩;refine Bh (τ:=bg) (x:=(⟨1,x1.ID,x1.aB,x1.Sum,E.1,E.1,aJ+eO⟩:aK)) Y (by intro _; apply fM) rfl H4 (λ_ _=>rfl) λg32 w68 K68=>?_;have k49:=(((K68.cU 7 2).rm s3).rm s0);exact Kj aC8 k49 ⟨g32,Y,K68⟩ Y
   ·refine⟨_,Y,?_⟩;refine Bh (τ:=bg) (x:=(⟨1,x1.ID,x1.aB,x1.Sum,E.1,E.1,aJ+eO⟩:aK)) Y (by intro _; apply fM) rfl H4 (λ_ _=>rfl) λg33 w69 K69=>?_;have k50:=(((K69.cU 7 2).rm s3).rm s0);refine aO k50<|yT (fuel:=11) (rs:=[5,13,15]) ak au ?_
    simp only [wC,mP,xF,xG,uK]
    refine⟨?_,?_,?_⟩
    ·refine⟨_,Y,?_⟩;refine nL K69 s3 Y<|Kj hS9 k50 ⟨g33,Y,K69⟩ Y
    ·refine⟨_,Y,?_⟩;refine nL K69 s3 Y<|Kj aC9 k50 ⟨g33,Y,K69⟩ Y
    ·refine⟨_,Y,?_⟩;refine Bh (τ:=bg) (x:=(⟨1,x1.ID,x1.aB,x1.Sum,E.1,E.1,aJ+eO⟩:aK)) Y (by intro _; apply fM) rfl K69 (λ_ _=>rfl) λg34 w70 K70=>?_;have k51:=(((K70.cU 8 2).rm s4).cU 0 2);exact Kj aDa k51 ⟨g34,g33,Y,K70⟩ Y
   ·refine⟨_,Y,?_⟩;refine nL H4 s2 Y<|aO k5<|yT (fuel:=11) (rs:=[5,7,15]) ak au ?_
    simp only [wC,mP,xF,xG,uK]
    refine⟨?_,?_,?_⟩
    ·refine⟨_,Y,?_⟩;refine nL H4 s2 Y<|Kj aC7 k5 ⟨Y,H4⟩ Y
    ·refine⟨_,Y,?_⟩;refine Bh (τ:=bg) (x:=(⟨1,x1.ID,x1.aB,x1.Sum,E.1,E.1,aJ+eO⟩:aK)) Y (by intro _; apply fM) rfl H4 (λ_ _=>rfl) λg35 w71 K71=>?_;have k52:=(((K71.cU 7 2).rm s3).rm s0);exact Kj aC9 k52 ⟨g35,Y,K71⟩ Y
    ·refine⟨_,Y,?_⟩;refine Bh (τ:=bg) (x:=(⟨1,x1.ID,x1.aB,x1.Sum,E.1,E.1,aJ+eO⟩:aK)) Y (by intro _; apply fM) rfl H4 (λ_ _=>rfl) λg36 w72 K72=>?_;have k53:=(((K72.cU 7 2).rm s3).rm s0);exact Kj aDb k53 ⟨g36,Y,K72⟩ Y
   ·refine⟨_,Y,?_⟩;refine Bh (τ:=bg) (x:=(⟨1,x1.ID,x1.aB,x1.Sum,E.1,E.1,aJ+eO⟩:aK)) Y (by intro _; apply fM) rfl H4 (λ_ _=>rfl) λg37 w73 K73=>?_;have k54:=(((K73.cU 7 2).rm s3).rm s0);refine aO k54<|yT (fuel:=11) (rs:=[5,7,13]) ak au ?_
    simp only [wC,mP,xF,xG,uK]
    refine⟨?_,?_,?_⟩
    ·refine⟨_,Y,?_⟩;refine nL K73 s3 Y<|Kj aC8 k54 ⟨g37,Y,K73⟩ Y
    ·refine⟨_,Y,?_⟩;refine Bh (τ:=bg) (x:=(⟨1,x1.ID,x1.aB,x1.Sum,E.1,E.1,aJ+eO⟩:aK)) Y (by intro _; apply fM) rfl K73 (λ_ _=>rfl) λg38 w74 K74=>?_;have k55:=(((K74.cU 8 2).rm s4).cU 0 2);exact Kj aDa k55 ⟨g37,g38,Y,((K74.sel s0).sel s1)⟩ Y
    ·refine⟨_,Y,?_⟩;refine nL K73 s3 Y<|Kj aDb k54 ⟨g37,Y,K73⟩ Y
  rintro _ w75 ⟨pO,cj2,wW,vV,rfl,K75⟩;refine Hf K75 (λ_ K=>((K.rm s8).rm s0)) (λl0 rk lJ wJ=>∃(CQ:ah)(CS:Nat),lJ=l0/\Hp b S wJ (dW g 195 [v0,.slice AL ls.length cL,.slice pO (((ds++T)++([(⟨1,x1.ID,x1.aB,x1.Sum,E.1,E.1,aJ+eO⟩:aK)]:List aK)).length) cj2,.slice AN ns.length cN,.slice AK ks.length cK,v5,v6,v7,v8,aI bS,aI eO,v11,aI aJ,.slice AV aH.length cV,.slice AS dF.length cS,.slice wW (((os++T)++([(⟨1,x1.ID,x1.aB,x1.Sum,E.1,E.1,aJ+eO⟩:aK)]:List aK)).length) vV,.slice CQ (((cs++T.map wG)++([(⟨0,0,6,x1.ID,E.1,0⟩:fH)]:List fH)).length) CS]::aQ Ad 120 CQ CS ((cs++T.map wG)++([(⟨0,0,6,x1.ID,E.1,0⟩:fH)]:List fH))::rk)) (λhns H5=>?_) ?_
  ·have k56:=((H5.rm s8).rm s0);refine lQ 0 Y Y k56<|tZ 1 g 16 Qz Y k56<|nJ 5 6 g1 0 qN s5 Y k56<|lQ 7 Y Y k56<|l9 8 Y (λ_ _=>jX (vs:=[(2,aI 6),(3,aI x1.ID),(4,aI (E.1))]) (cs:=[aI 0,aI 0,aI 6,aI x1.ID,aI (E.1),aI 0]) Y (by apply yH)) k56<|Jn H5 (λl0 rk lJ wJ=>∃(g39:Nat),lJ=(90,.slice A16 ((cs++T.map wG).length) c16)::(95,.slice (some ⟨g39,0,none⟩) (([(⟨0,0,6,x1.ID,E.1,0⟩:fH)]:List fH).length) 1)::l0/\Hp b S wJ (aQ Ad 120 (some ⟨g39,0,none⟩) 1 ([(⟨0,0,6,x1.ID,E.1,0⟩:fH)]:List fH)::rk)) 4 1023 ?_ λaDc=>?_
   ·rintro _ w80 ⟨g39,rfl,K80⟩;refine O1 10 Y<|ap (ys:=([(⟨0,0,6,x1.ID,E.1,0⟩:fH)]:List fH)) K80 s9 Y Y (K80.o s0) Lx aiB (by simp only [jG,kF]; omega) av rfl λaID aIE w81 K81=>?_
    have k61:=(K81.cU 0 3);refine aO k61<|Sr 11 g 16 Qz Y k61<|O1 13 Y<|yD Y K81 s2 Y λw82 K82=>?_
    have k62:=(K82.cU 0 3);refine aO k62<|Dn ⟨aID,aIE,Y,(K82.rm s2)⟩ Y
   refine O2 4 9 Y Y ?_ ?_
   ·refine nL H5 s0 Y<|aO k56<|O1 9 Y<|Bh (τ:=Ad) (x:=(⟨0,0,6,x1.ID,E.1,0⟩:fH)) Y (by intro _; apply yI) rfl H5 (λ_ _=>rfl) λg41 w83 K83=>?_
    have k63:=((K83.rm s9).cU 0 2);exact Kj aDc k63 ⟨g41,Y,K83⟩ Y
   ·refine Bh (τ:=Ad) (x:=(⟨0,0,6,x1.ID,E.1,0⟩:fH)) Y (by intro _; apply yI) rfl H5 (λ_ _=>rfl) λg42 w84 K84=>?_;have k64:=((K84.rm s9).cU 0 2);refine aO k64<|O1 4 Y<|nL K84 s1 Y<|Kj aDc k64 ⟨g42,Y,K84⟩ Y
  rintro _ w85 ⟨CQ,CS,rfl,K85⟩;refine iw (gy ?_);refine jC<|ev (dP Y Y)<|mv Y<|jD ?_
  have hT2:wV ls ks ns aH bS (aJ+eO) (dF.take (k+1))=T++[Tz x1 E.1 (aJ+eO)]:=by rw [aqd bN aj (by simpa [trE,hE] using XT),hT,show trE ls ks ns aH bS x1=E from hE]
  exact dG ⟨(k+1),pO,cj2,wW,vV,CQ,CS,Y,Y,aj,by rw [hT2]; simp only [tu,<- pE]; exact(((((K85.cU 7 2).cU 4 2).sel s0).sel s1).mV 2 2)⟩ rfl aj
 refine sP (mY (mY (um (qc (xV Y ?_)))));have hfk:dF.take k=dF:=gV aj;rw [hfk] at K1;exact⟨Y,_,_,_,_,_,_,((K1.mV 0 3).mV 3 2)⟩
theorem afm(w:World){jU:ah}{jR:Nat}{l:List aF}(jE:Sl bD S0 w jU jR l)(id:Int)(hn:l.length<=100000)(hh:∀ x∈l,x.aC.length<=100000) :
    bO prog 53 #[.slice jU l.length jR,aI id] w λv w'=>∃(vT:ah)(vU:Nat),v=.tuple #[.agg #[aI ((aU l id).ID),aI ((aU l id).aB),gP ((aU l id).Sum),.slice vT (((aU l id).aC).length) vU],.bool (gZ l id)]/\Hp w S0 w' [aQ dQ 3 vT vU ((aU l id).aC)]:=by
 refine lg S0 func53 ntmps53 Y λH0=>?_;have hf:=D8 l;refine rg<|al lX Y H0 λg1 w1 K1=>bX Y<|bQ Y<|gU Y (Xk (S0:=Rd w S0 [dW g1 59 [aI 0,aI 0,gP 0,.slice none 0 0]] _) _ (K1.a jE) hn hh) ?_
 rintro _ w2 ⟨A,c,ks,rfl,hkc,h9⟩;have K2:=K1.c2 h9;have hkl:ks.length=(eD l).length:=by rw [<- hkc,kF]
 refine bX Y ?_;have hrd:=K2.rdK s0 s0;refine lF (t:=0) Y (aV (λz=>Value.slice A z c) (PK ks).symm)<|bQ Y<|mv Y<|nD K2 Y (GL _ hrd id (by rw [hkc]; exact Cj l) (by rw [kF]; omega)) λw3 K3=>mv rfl<|xt rfl rfl<|xt rfl rfl<|jk rfl<|bX rfl<|aY<|lF (t:=0) rfl (aV (λz=>Value.slice A z c) (PK ks))<|bQ rfl<|ev (iG rfl)<|dn<|bP rfl (λhc17=>?_) (λhc17=>?_)
 ·try simp only [eT,dO,bK,eu,dZ,fI,bM,bV] at hc17
  refine rg<|ev (jX (vs:=[]) Y (by apply aoP))<|sty rfl K3 s2 rfl λw4 K4=>bX rfl<|jf (fO (sW rfl ⟨_,_,rfl,⟨_,rfl,kK pQ rfl (K4.x s0)⟩,⟨_,_,rfl,rfl,rfl⟩⟩ ?_))
  have hnf:aU l id=⟨0,0,0,[]⟩:=Xm (by rw [<- hkc]; simpa using hc17);have hnb:gZ l id=false:=by unfold gZ; rw [<- hkc]; simpa using hc17
  have fT:((⟨0,0,0,[]⟩:aF):aF)=(aU l id):=by exact hnf.symm
  have gu:(0:Int)=(aU l id).ID:=by rw [<- fT]
  have kC:(0:Int)=(aU l id).aB:=by rw [<- fT]
  have nC:(0:Int)=(aU l id).Sum:=by rw [<- fT]
  have H1:=K4.nil dQ 3;have rV:(([]:List Int):List Int)=((aU l id).aC):=by rw [<- fT]
  have xW:(false:Bool)=(gZ l id):=by exact hnb.symm
  exact⟨none,0,by first | (rw [<- gu,<- kC,<- nC,<- xW,<- rV] <;> rfl) | (rw [<- rV,<- gu,<- kC,<- nC,<- xW] <;> rfl),by rw [<- rV]; exact(H1.cU 1 3)⟩
 try simp only [eT,dO,bK,eu,dZ,fI,bM,bV] at hc17
 have hc17:hits (fun(y:aF)=>bL y.ID id) (ks.map bF.c)=true:=by simpa using hc17
 obtain⟨xb,hxb,hkb⟩:=qh hc17;have abH:=aM hxb;rw [kF] at abH;refine jy ?_;refine bQ Y<|mv Y ?_
 obtain⟨x1,bN⟩:=bn aj;refine ev (eP (i:=low (fun(y:aF)=>bL y.ID id) (ks.map bF.c)) iV qy Y Y Y (aM bN) ((K3.o s0).some_ bN))<|ev (iU pQ Y Y ((K3.o s0).fF bN))<|sty Y K3 s2 Y λw5 K5=>bX Y<|jf (sW Y ⟨_,_,Y,⟨_,Y,kK (cs:=[aI x1.c.ID,aI x1.c.aB,gP x1.c.Sum,.slice x1.B x1.c.aC.length x1.d]) pQ Y (K5.x s0)⟩,⟨_,_,Y,Y,Y⟩⟩ ?_)
 have hrx:(ks.map ru)[low (fun(y:aF)=>bL y.ID id) (ks.map bF.c)]? = some (x1.B,x1.d,x1.c.aC):=by rw [rQ,bN]; rfl
 have H2:=K5.Ce s2 hrx;have hyf:aU l id=x1.c:=SB (by rw [<- hkc]; exact hc17) (by rw [<- hkc,rQ,bN]; rfl);have hyb:gZ l id=true:=by unfold gZ; rw [<- hkc]; exact hc17
 have zX:(x1.c:aF)=(aU l id):=by exact hyf.symm
 have hq8:(x1.c.ID:Int)=(aU l id).ID:=by rw [<- zX]
 have zG:(x1.c.aB:Int)=(aU l id).aB:=by rw [<- zX]
 have vg:(x1.c.Sum:Int)=(aU l id).Sum:=by rw [<- zX]
 have hq11:(x1.c.aC:List Int)=((aU l id).aC):=by rw [<- zX]
 have hq12:(true:Bool)=(gZ l id):=by exact hyb.symm
 exact⟨x1.B,x1.d,by first | (rw [hq8,zG,vg,hq11,<- hq12] <;> rfl) | (rw [hq11,hq8,zG,vg,<- hq12] <;> rfl),by rw [<- hq11]; exact(H2.cU 1 3)⟩
theorem afn(w:World)(n:Nat)(hn:n<=1000000) :
    bO prog 330 #[.slice none 0 0,aI ((n:Nat):Int)] w λv w'=>∃(A0:ah)(c0:Nat),v=.slice A0 (([]:List Int).length) c0/\Hp w S0 w' [aQ dQ 3 A0 c0 ([]:List Int)]:=by
 refine lg S0 func330 ntmps330 Y λH0=>iT Y<|aY<|bQ Y<|ev (fD Y Y)<|dn<|mZ Y (λhc6=>?_) (λhc6=>?_)
 ·omega
 refine jy ?_;refine aY<|bQ Y<|mv Y<|ev (Ev.cap fA Y)<|mv Y<|ev (eX fA Y)<|ev (Uw Y Y)<|ev (Uw Y Y)<|bX Y<|bQ Y<|ev (sQ Y Y)<|dn<|mZ Y (λhc16=>?_) (λhc16=>?_)
 ·refine jC<|mv Y<|mv Y<|ev (Ev.cap fA Y)<|ev (Ev.Vi fA uf Y Y Y)<|mv Y<|apz dQ Y Y fA iJ KU aj aj Y H0 λg1 cz1 w1 K1=>mv Y<|ev (eX fA Y)<|ev (Ev.Vi fA uf Y Y Y)<|jk Y<|jD<|gy<|bQ Y<|bX Y<|iP Y ?_
  exact⟨(some ⟨g1,0,none⟩),cz1,Y,K1⟩
 refine jy ?_;refine bQ Y<|bX Y<|iP Y ?_
 have H1:=H0.nil dQ 3;exact⟨none,0,Y,H1⟩
theorem acv(w:World){afo:ah}{afp:Nat}{xss:List (List Int)}(LB:Sl (Ty.list dQ) S0 w afo afp xss)(hn:(xss).flatten.length<=1000000) :
    bO prog 241 #[.slice afo xss.length afp] w λv w'=>∃(A0:ah)(c0:Nat),v=.slice A0 (((xss).flatten).length) c0/\Hp w S0 w' [aQ dQ 3 A0 c0 ((xss).flatten)]:=by
 refine lg S0 func241 ntmps241 Y λH0=>?_;have azt:=LB.bC;refine iT Y<|iT Y<|aY<|bQ Y<|ev (eX acu Y)<|mv Y<|dn<|cB ?_
 have fT:(0:Int)=((Cc xss 0:Nat):Int):=by rfl
 refine lF (t:=3) Y (aV (Value.int .i64) fT)<|Lp H0 (λl0 rk mJ lJ wJ=>∃(k:Nat),lJ=(3,aI ((Cc xss k:Nat):Int))::(11,aI ((k:Nat):Int))::l0/\mJ=xss.length - k/\k<=xss.length/\Hp w S0 wJ rk) ⟨0,Y,Y,fE _,H0⟩ Y ?_
 rintro _ _ w1 ⟨k,rfl,rfl,hk,K1⟩;refine rg<|ev (fD Y Y)<|dn<|pG Y (λnN=>?_) (λnN=>?_)
 ·refine jy ?_;refine aY<|cB<|rg ?_
  obtain⟨x1,bN⟩:=bn (xs:=xss) (i:=k) aj;refine ev (eP (i:=k) acu PG Y Y Y (aM bN) ((K1.a LB).some_ bN)) ?_;obtain⟨B1,d1,zF,hi1⟩:=Vk (LB.row bN);refine ev (kP Dp Y (K1.ext.cell zF))<|bX Y<|bQ Y<|mv Y<|ev (eX fA Y)<|ev (Ev.add Y Y (zP (by have:=wu bN; have:=xQ xss (k+1); omega) (by have:=wu bN; have:=xQ xss (k+1); omega)))<|bX rfl<|bQ rfl<|ev (fD rfl rfl)<|dn<|mZ rfl (λlW=>?_) (λlW=>?_)
  ·omega
  refine Ci ?_;refine jC<|ev (dP Y Y)<|mv Y<|jD ?_
  have gu:(((Cc xss k+x1.length:Nat):Int):Int)=((Cc xss (k+1):Nat):Int):=by have:=wu bN; omega
  refine jq (t:=3) Y (aV (Value.int .i64) gu)<|dG ⟨(k+1),Y,Y,aj,K1⟩ rfl aj
 refine xq ?_;refine bQ Y<|gU Y (afn (S0:=Any) _ (Cc xss k) (by have:=xQ xss k; omega)) ?_
 rintro _ w2 ⟨pI,pJ,rfl,h2⟩;have K2:=K1.f1 h2;refine bX Y<|aY<|bQ Y<|ev (eX acu Y)<|mv Y<|dn<|cB ?_
 have kC:(([]:List Int):List Int)=((xss.take 0).flatten):=by simp
 refine lF (t:=6) Y (aV (λz=>Value.slice pI (List.length z) pJ) kC) ?_;rw [kC] at K2;refine Lp (K2.rm s0) (λl0 rk mJ lJ wJ=>∃(k:Nat)(A6:ah)(c6:Nat),lJ=(6,.slice A6 (((xss.take k).flatten).length) c6)::(27,aI ((k:Nat):Int))::l0/\mJ=xss.length - k/\k<=xss.length/\Hp w S0 wJ (aQ dQ 3 A6 c6 ((xss.take k).flatten)::rk)) ⟨0,pI,pJ,Y,Y,fE _,K2⟩ Y ?_;rintro _ _ w3 ⟨k,A6,c6,rfl,rfl,hk,K3⟩;refine rg<|ev (fD Y Y)<|dn<|pG Y (λhc28=>?_) (λhc28=>?_)
 ·refine jy ?_;refine aY<|cB<|rg ?_
  obtain⟨x2,lN⟩:=bn (xs:=xss) (i:=k) aj;refine ev (eP (i:=k) acu PG Y Y Y (aM lN) ((K3.a LB).some_ lN)) ?_;obtain⟨B2,d2,aoR,hi2⟩:=Vk (LB.row lN);refine ev (kP Dp Y (K3.ext.cell aoR))<|bX Y<|jC<|mv Y<|mv Y<|ap (ys:=x2) K3 s0 Y Y (K3.a hi2).any fA KU (by have:=xQ xss k; simp only [Cc] at this; omega) (by have:=wu lN; have:=xQ xss (k+1); omega) rfl λpU pV w4 K4=>jk rfl<|jD<|iw (gy ?_)
  refine jC<|ev (dP Y Y)<|mv Y<|jD ?_
  have nC:((((xss.take k).flatten)++x2):List Int)=((xss.take (k+1)).flatten):=by exact Pz lN
  refine jq (t:=6) Y (aV (λz=>Value.slice pU (List.length z) pV) nC) ?_;rw [nC] at K4;exact dG ⟨(k+1),pU,pV,Y,Y,aj,K4⟩ rfl aj
 refine xq ?_;refine bQ Y<|bX Y<|iP Y ?_
 have rV:(((xss.take k).flatten):List Int)=((xss).flatten):=by rw [gV aj]
 rw [rV] at K3;exact⟨A6,c6,by rw [rV] <;> rfl,K3⟩
end
section
variable {c d:aF}{l:List aF}{ls:List bf}{nV:Int}{a b:Bool}{S0:Nat->Prop}
structure Gv where
  ds:List aK
  ns:List aR
  ks:List aF
  aH:List Int
  dF:List aF
  dD:Int
  all:Int
  bS:Int
  u:Int
def I9(aH:List Int)(c:aF):List Int:=c.aC.filter fun(x9:Int)=>!(!(aH.contains x9))
def Ja(x:Gv)(c:aF)(ls:List bf):List Int:=([c.aC,jJ ls c.ID,mU x.ds c.ID]:List (List Int)).flatten
def rZ(x:Gv)(c:aF)(ls:List bf):Option aR:=uR x.ns x.aH (jh x.ks x.ns ls) (Ja x c ls) x.ns
def uw(x:Gv)(d:aF)(ls:List bf):Int:=Bq ls (I9 x.aH d) x.dD
def wH(x:Gv)(c d:aF)(ls:List bf):Bool:=((rZ x c ls).isSome&&EF ls (I9 x.aH d) x.dD)&&Du ls x.dD x.all c (uw x d ls) (yF (rZ x c ls)) x.u
def Kt(x:Gv)(c d:aF)(have_:Int):Nat->List bf × List aK->List bf × List aK
  | 0,s=>s
  | f+1,s=>if have_+((jJ s.1 c.ID).length:Int)<x.bS/\wH x c d s.1=true then Kt x c d have_ f (yc s.1 x.dD x.all c (uw x d s.1) (yF (rZ x c s.1)) x.u,xw s.1 s.2 x.dD x.all c (uw x d s.1) (yF (rZ x c s.1)) x.u) else s
def Jb(x:Gv)(s:List bf × List aK)(n:eG):List bf × List aK:=Kt x (aU x.ks n.aD) (aU x.dF n.aD) n.Have 100 s
def qz(x:Gv)(M:List eG)(s:List bf × List aK):List bf × List aK:=M.foldl (Jb x) s
theorem aj7{x:Gv}{h:Int}{f:Nat}{l:List bf}{o:List aK}(hf:0<f)(h1:h+((jJ l c.ID).length:Int)<x.bS)(h2:wH x c d l=true):Kt x c d h (f - 1) (yc l x.dD x.all c (uw x d l) (yF (rZ x c l)) x.u,xw l o x.dD x.all c (uw x d l) (yF (rZ x c l)) x.u)=Kt x c d h f (l,o):=by
  cases f with
  | zero=>omega
  | succ f=>symm; exact aS ⟨h1,h2⟩
theorem M4{x:Gv}{h:Int}{l:List bf}{o:List aK}(hn:¬ (h+((jJ l c.ID).length:Int)<x.bS/\wH x c d l=true)):∀ f,Kt x c d h f (l,o)=(l,o)
  | 0=>rfl
  | f+1=>aP hn
theorem LC{dD all:Int}{fr u:Int}(h:Du ls dD all c fr nV u=true):(jJ (yc ls dD all c fr nV u) c.ID).length=(jJ ls c.ID).length+1/\(yc ls dD all c fr nV u).length=ls.length+1/\∀ os,(xw ls os dD all c fr nV u).length=os.length+1:=by
  have e:yc ls dD all c fr nV u=ls++[Ae c fr nV u]:=aS h;refine⟨?_,by rw [e]; simp,λos=>by unfold xw; rw [aS h]; simp⟩;rw [e]; unfold jJ; rw [Bz]; simp
theorem afq{dD all:Int}{fr u:Int}(h:Du ls dD all c fr nV u=true):(ls.length:Int)<all:=by
  have h1:p8 ls (Ae c fr nV u) dD all=0:=iY h;unfold p8 at h1
  split at h1
  · cases h1
  · split at h1
    · cases h1
    · split at h1
      · cases h1
      · rename_i h3; simp only [not_or] at h3; omega
theorem LD{dD all:Int}{fr u:Int}(h:Du ls dD all c fr nV u=false):yc ls dD all c fr nV u=ls/\∀ os,xw ls os dD all c fr nV u=os:=
  ⟨aP (by rw [h]; decide),λos=>aP (by rw [h]; decide)⟩
theorem acw{c:Bool}(h:(!a)=true):((a&&b)&&c)=false:=by cases a <;> simp_all
theorem acy{c:Bool}(h:(!b)=true):((a&&b)&&c)=false:=by cases b <;> simp_all
theorem acz{c:Bool}(h:c=false):((a&&b)&&c)=false:=by cases c <;> simp_all
theorem aDd{c:Bool}(h:(!c)=false):c=true:=by cases c <;> simp_all
theorem JY{c:Bool}(h:(!c)=true):c=false:=by cases c <;> simp_all
theorem azu{c:Bool}(h1:(!a)=false)(h2:(!b)=false)(h3:c=true):((a&&b)&&c)=true:=by cases a <;> cases b <;> simp_all
theorem aaH{m:Nat}(h:∀ x∈l,x.aC.length<=m)(id:Int):(aU l id).aC.length<=m:=by
  unfold aU; split
  · rename_i c e
    split
    · exact h c (by have:=bZ e; unfold eD at this; split at this; exact this; simp at this)
    · simp
  · simp
theorem M5{x:Gv}{M:List eG}{k:Nat}{n:eG}{s:List bf × List aK}(hn:M[k]? = some n):qz x (M.take (k+1)) s=Jb x (qz x (M.take k) s) n:=by
  unfold qz; rw [fC hn,zY]; rfl
theorem aiE:mg prog 193:=ay
theorem azw:bJ prog 239:=ay
theorem acA(a0:ah)(a0n a0c:Nat)(a1:ah)(a1n a1c:Nat)(a2:ah)(a2n a2c:Nat):∀ w,(Instr.buildSlice 336 3 (List.toArray [(0,.slice a0 a0n a0c),(1,.slice a1 a1n a1c),(2,.slice a2 a2n a2c)])).run prog w=.ok (.slice (some ⟨w.heap.size,0,none⟩) 3 3) (w.alloc (.cells (List.toArray [.slice a0 a0n a0c,.slice a1 a1n a1c,.slice a2 a2n a2c]) 55)):=ay
theorem azx:bJ prog 243:=ay
abbrev uS(iE:List Int)(je:Int):=!(iE.contains je)
theorem aqf(w:World)(id:Int){g_d g_r:Nat}{v0 v1 v2 v3 v4 v5 v6 v7 v8 v9 v10 v11 v12 v14 v15 v16:Value}{AV:ah}{cV:Nat}{aH:List Int}(h_d:Bx w g_d 193 [gI g_r])(h_r:Bx w g_r 195 [v0,v1,v2,v3,v4,v5,v6,v7,v8,v9,v10,v11,v12,.slice AV aH.length cV,v14,v15,v16])(aIJ:Sl dQ S0 w AV cV aH) :
    bO prog 239 #[aI id,gI g_d] w λv w'=>v=.bool (uS aH id)/\Hp w S0 w' []:=by
 refine lg S0 func239 ntmps239 Y λH0=>iT Y<|rg<|ev (eF aiE Y (h_d.ext H0.ext) Y)<|ev (d9 Y)<|yV g_r 13 G6 Y<|ev (eF Dp Y (h_r.ext H0.ext) Y)<|mv Y<|nD H0 Y (kL _ (H0.a aIJ).any id) λw1 K1=>ev (iG Y)<|bX Y<|iP Y ?_
 exact⟨Y,K1⟩
abbrev iL(iE:List aK)(je:List aR)(wP:List aF)(zZ:List Int)(Fh:List aF)(QA UH ZI y8z y9z:Int):=(⟨iE,je,wP,zZ,Fh,QA,UH,ZI,y8z+y9z⟩:Gv)
set_option maxHeartbeats 4000000 in
theorem ava{b w:World}{S:Nat->Prop}{F:List lG}{g:Nat}{v0 v5 v6 v11 v16:Value}{AL:ah}{cL:Nat}{AD:ah}{cD:Nat}{ds:List aK}{AO:ah}{cO:Nat}{os:List aK}{AN:ah}{cN:Nat}{ns:List aR}{AK:ah}{cK:Nat}{ks:List aF}{AV:ah}{cV:Nat}{aH:List Int}{AS:ah}{cS:Nat}{dF:List aF}{dD all bS eO aJ:Int}{AQ:ah}{cQ:Nat}{needs:List eG}(H0:Hp b S w (dW g 195 [v0,.slice AL ls.length cL,.slice AD ds.length cD,.slice AN ns.length cN,.slice AK ks.length cK,v5,v6,aI dD,aI all,aI bS,aI eO,v11,aI aJ,.slice AV aH.length cV,.slice AS dF.length cS,.slice AO os.length cO,v16]::aQ dz 117 AL cL ls::aQ bg 112 AD cD ds::aQ bg 112 AO cO os::dH bW AN cN ns::dH bD AK cK ks::dH dQ AV cV aH::dH bD AS cS dF::dH qg AQ cQ needs::F))(hl:ls.length<=64)(hd:ds.length<=100000)(ho:os.length<=1000)(hn:ns.length<=1000)(hc:ks.length<=1000)(hs:dF.length<=1000)(hkk:∀ x∈ks,x.aC.length<=1000)(hh:∀ x∈dF,x.aC.length<=1000)(he:0<=dD/\dD<=64/\all<=64/\bS<=8)(hq:∀ x∈needs,0<=x.Have/\x.Have<=1000)(hnl:needs.length<=100000)(hu:-1099511627776<=aJ/\aJ<=4398046511104/\-1099511627776<=eO/\eO<=1099511627776) :
    bO prog 155 #[gI g,.slice AQ needs.length cQ] w λv w'=>v=.tuple #[]/\∃ AL' cL' AO' cO',Hp b S w' (dW g 195 [v0,.slice AL' (((qz (iL ds ns ks aH dF dD all bS aJ eO) needs (ls,os)).1).length) cL',.slice AD ds.length cD,.slice AN ns.length cN,.slice AK ks.length cK,v5,v6,aI dD,aI all,aI bS,aI eO,v11,aI aJ,.slice AV aH.length cV,.slice AS dF.length cS,.slice AO' (((qz (iL ds ns ks aH dF dD all bS aJ eO) needs (ls,os)).2).length) cO',v16]::aQ dz 117 AL' cL' ((qz (iL ds ns ks aH dF dD all bS aJ eO) needs (ls,os)).1)::aQ bg 112 AD cD ds::aQ bg 112 AO' cO' ((qz (iL ds ns ks aH dF dD all bS aJ eO) needs (ls,os)).2)::dH bW AN cN ns::dH bD AK cK ks::dH dQ AV cV aH::dH bD AS cS dF::dH qg AQ cQ needs::F):=by
 refine rU func155 ntmps155 Y<|rg<|bx Y Y H0 λg1 w1 K1=>dn<|WP.sc<|aY (WP.lab (gy ?_))
 refine bQ Y<|ev (eX qj Y)<|mv Y<|dn<|cB ?_
 have fT:(ls:List bf)=(qz (iL ds ns ks aH dF dD all bS aJ eO) (needs.take 0) (ls,os)).1:=by rfl
 rw [fT] at K1;have gu:(os:List aK)=(qz (iL ds ns ks aH dF dD all bS aJ eO) (needs.take 0) (ls,os)).2:=by rfl
 rw [gu] at K1;refine qZ (λmJ lJ wJ=>∃(k:Nat)(A1:ah)(c1:Nat)(Vy:ah)(c15:Nat),lJ=[(2,gI g1),(16,.slice AQ needs.length cQ),(17,aI ((needs.length:Nat):Int)),(18,aI ((k:Nat):Int))]/\mJ=needs.length - k/\k<=needs.length/\((qz (iL ds ns ks aH dF dD all bS aJ eO) (needs.take k) (ls,os)).2.length+ls.length=os.length+(qz (iL ds ns ks aH dF dD all bS aJ eO) (needs.take k) (ls,os)).1.length/\(qz (iL ds ns ks aH dF dD all bS aJ eO) (needs.take k) (ls,os)).1.length<=64)/\Hp b S wJ (aQ dz 117 A1 c1 ((qz (iL ds ns ks aH dF dD all bS aJ eO) (needs.take k) (ls,os)).1)::aQ bg 112 Vy c15 ((qz (iL ds ns ks aH dF dD all bS aJ eO) (needs.take k) (ls,os)).2)::dW g 195 [v0,.slice A1 (((qz (iL ds ns ks aH dF dD all bS aJ eO) (needs.take k) (ls,os)).1).length) c1,.slice AD ds.length cD,.slice AN ns.length cN,.slice AK ks.length cK,v5,v6,aI dD,aI all,aI bS,aI eO,v11,aI aJ,.slice AV aH.length cV,.slice AS dF.length cS,.slice Vy (((qz (iL ds ns ks aH dF dD all bS aJ eO) (needs.take k) (ls,os)).2).length) c15,v16]::dW g1 193 [gI g]::aQ bg 112 AD cD ds::dH bW AN cN ns::dH bD AK cK ks::dH dQ AV cV aH::dH bD AS cS dF::dH qg AQ cQ needs::F)) ⟨0,AL,cL,AO,cO,Y,Y,fE _,by exact⟨Nat.add_comm _ _▸rfl,hl⟩,((((K1.sel s3).sel s1).sel s2).mV 3 2)⟩ rfl ?_;rintro _ _ w2 ⟨k,A1,c1,Vy,c15,rfl,rfl,hk,hlo,K2⟩;refine rg<|ev (fD Y Y)<|dn<|pG Y (λhc19=>?_) (λhc19=>?_)
 ·refine jy ?_;refine aY<|cB<|rg ?_
  obtain⟨x1,bN⟩:=bn (xs:=needs) (i:=k) aj;refine ev (eP (i:=k) qj qH Y Y Y (aM bN) ((K2.s s9).some_ bN))<|ev (iU ql Y Y ((K2.s s9).fF bN))<|al CO Y K2 λg2 w3 K3=>sty Y K3 s0 Y λw4 K4=>dn<|He K4 (λ_ K=>K) (λl0 rk lJ wJ=>∃(su:Nat)(jW:ah)(jT:Nat),lJ=(6,gI su)::l0/\Hp b S wJ (dW su 59 [aI ((aU ks x1.aD).ID),aI ((aU ks x1.aD).aB),gP ((aU ks x1.aD).Sum),.slice jW (((aU ks x1.aD).aC).length) jT]::dH dQ jW jT ((aU ks x1.aD).aC)::rk)) (λhns H1=>?_) ?_
  ·refine Db 0 s4 Y H1<|Sr 1 g 3 EI Y H1<|nJ 3 4 g 4 j4 s3 Y H1<|nJ 5 6 g2 0 Qp s0 Y H1<|Jn H1 (λl0 rk lJ wJ=>∃(g3:Nat)(X9:ah)(Ya:Nat),lJ=(6,gI g3)::(32,.bool (gZ ks x1.aD))::l0/\Hp b S wJ (dW g3 59 [aI ((aU ks x1.aD).ID),aI ((aU ks x1.aD).aB),gP ((aU ks x1.aD).Sum),.slice X9 (((aU ks x1.aD).aC).length) Ya]::dH dQ X9 Ya ((aU ks x1.aD).aC)::rk)) 1 8191 ?_ λhS1=>?_
   ·rintro _ Va ⟨g3,X9,Ya,rfl,vM⟩;have k6:=(vM.cU 0 2);refine xL 13 Y Y k6<|Dn ⟨g3,X9,Ya,Y,vM⟩ Y
   refine O2 7 11 Y Y ?_ ?_
   ·refine gU Y (find_ok _ (H1.s s7) x1.aD aj (λx hx=>by first | (have:=hkk x hx; omega) | (have:=hh x hx; omega))) ?_;rintro _ Vb ⟨acB,acC,rfl,h12⟩;have vH:=H1.c1 h12;have aIK:=(vH.s s0).bC;have k7:=(vH.rm s0);refine aO k7<|lQ 8 Y Y k7<|xU 9 Y (vs:=[.agg #[aI ((aU ks x1.aD).ID),aI ((aU ks x1.aD).aB),gP ((aU ks x1.aD).Sum),.slice acB (((aU ks x1.aD).aC).length) acC],.bool (gZ ks x1.aD)]) Y Y k7<|xU 10 Y (vs:=[.agg #[aI ((aU ks x1.aD).ID),aI ((aU ks x1.aD).aB),gP ((aU ks x1.aD).Sum),.slice acB (((aU ks x1.aD).aC).length) acC],.bool (gZ ks x1.aD)]) Y Y k7<|O1 11 Y<|al lX Y vH λg5 w13 Bf=>?_
    have k8:=(Bf.cU 0 2);refine aO k8<|O1 12 Y<|sty Y Bf s0 Y λw14 xM=>?_
    have k9:=(xM.cU 0 2);exact Kj hS1 k9 ⟨g5,acB,acC,Y,xM⟩ Y
   ·refine al lX Y H1 λg6 w15 BI=>?_;have k10:=(BI.rm s0);refine aO k10<|O1 7 Y<|gU Y (find_ok _ (BI.s s8) x1.aD aj (λx hx=>by first | (have:=hkk x hx; omega) | (have:=hh x hx; omega))) ?_
    rintro _ w16 ⟨acD,acE,rfl,h16⟩;have EB:=BI.c1 h16;have azy:=(EB.s s0).bC;have k11:=(EB.cU 0 2);refine aO k11<|lQ 8 Y Y k11<|xU 9 Y (vs:=[.agg #[aI ((aU ks x1.aD).ID),aI ((aU ks x1.aD).aB),gP ((aU ks x1.aD).Sum),.slice acD (((aU ks x1.aD).aC).length) acE],.bool (gZ ks x1.aD)]) Y Y k11<|xU 10 Y (vs:=[.agg #[aI ((aU ks x1.aD).ID),aI ((aU ks x1.aD).aB),gP ((aU ks x1.aD).Sum),.slice acD (((aU ks x1.aD).aC).length) acE],.bool (gZ ks x1.aD)]) Y Y k11<|O1 12 Y<|sty Y EB s1 Y λw17 BJ=>?_
    have k12:=(BJ.cU 0 2);exact Kj hS1 k12 ⟨g6,acD,acE,Y,BJ⟩ Y
  rintro _ w18 ⟨su,jW,jT,rfl,JR⟩;refine He JR (λ_ K=>K) (λl0 rk lJ wJ=>∃(gj2:Nat)(pO:ah)(cj2:Nat),lJ=(8,gI gj2)::l0/\Hp b S wJ (dW gj2 59 [aI ((aU dF x1.aD).ID),aI ((aU dF x1.aD).aB),gP ((aU dF x1.aD).Sum),.slice pO (((aU dF x1.aD).aC).length) cj2]::aQ dQ 3 pO cj2 ((aU dF x1.aD).aC)::rk)) (λhns H2=>?_) ?_
  ·refine Db 0 s6 Y H2<|Sr 1 g 14 LA Y H2<|Db 3 s5 Y H2<|nJ 4 5 g2 0 Qp s2 Y H2<|Jn H2 (λl0 rk lJ wJ=>∃(g7:Nat)(Vz:ah)(VA:Nat),lJ=(8,gI g7)::(42,.bool (gZ dF x1.aD))::l0/\Hp b S wJ (dW g7 59 [aI ((aU dF x1.aD).ID),aI ((aU dF x1.aD).aB),gP ((aU dF x1.aD).Sum),.slice Vz (((aU dF x1.aD).aC).length) VA]::aQ dQ 3 Vz VA ((aU dF x1.aD).aC)::rk)) 1 4095 ?_ λhS2=>?_
   ·rintro _ w25 ⟨g7,Vz,VA,rfl,Ea⟩;have k18:=(Ea.cU 0 2);refine xL 12 Y Y k18<|Dn ⟨g7,Vz,VA,Y,Ea⟩ Y
   refine O2 6 10 Y Y ?_ ?_
   ·refine gU Y (afm _ (H2.s s11).any x1.aD aj (λx hx=>by first | (have:=hkk x hx; omega) | (have:=hh x hx; omega))) ?_;rintro _ w26 ⟨Qx,Qy,rfl,h26⟩;have NK:=H2.f1 h26;have azz:=(NK.o s0).bC;have k19:=(NK.rm s0);refine aO k19<|lQ 7 Y Y k19<|xU 8 Y (vs:=[.agg #[aI ((aU dF x1.aD).ID),aI ((aU dF x1.aD).aB),gP ((aU dF x1.aD).Sum),.slice Qx (((aU dF x1.aD).aC).length) Qy],.bool (gZ dF x1.aD)]) Y Y k19<|xU 9 Y (vs:=[.agg #[aI ((aU dF x1.aD).ID),aI ((aU dF x1.aD).aB),gP ((aU dF x1.aD).Sum),.slice Qx (((aU dF x1.aD).aC).length) Qy],.bool (gZ dF x1.aD)]) Y Y k19<|O1 10 Y<|al lX Y NK λg9 w27 Ou=>?_
    have k20:=(Ou.cU 0 2);refine aO k20<|O1 11 Y<|sty Y Ou s0 Y λw28 GU=>?_
    have k21:=(GU.cU 0 2);exact Kj hS2 k21 ⟨g9,Qx,Qy,Y,GU⟩ Y
   ·refine al lX Y H2 λg10 w29 Ii=>?_;have k22:=(Ii.rm s0);refine aO k22<|O1 6 Y<|gU Y (afm _ (Ii.s s12).any x1.aD aj (λx hx=>by first | (have:=hkk x hx; omega) | (have:=hh x hx; omega))) ?_
    rintro _ w30 ⟨acF,acG,rfl,h30⟩;have Gz:=Ii.f1 h30;have azA:=(Gz.o s0).bC;have k23:=(Gz.cU 0 2);refine aO k23<|lQ 7 Y Y k23<|xU 8 Y (vs:=[.agg #[aI ((aU dF x1.aD).ID),aI ((aU dF x1.aD).aB),gP ((aU dF x1.aD).Sum),.slice acF (((aU dF x1.aD).aC).length) acG],.bool (gZ dF x1.aD)]) Y Y k23<|xU 9 Y (vs:=[.agg #[aI ((aU dF x1.aD).ID),aI ((aU dF x1.aD).aB),gP ((aU dF x1.aD).Sum),.slice acF (((aU dF x1.aD).aC).length) acG],.bool (gZ dF x1.aD)]) Y Y k23<|O1 11 Y<|sty Y Gz s1 Y λw31 NZ=>?_
    have k24:=(NZ.cU 0 2);exact Kj hS2 k24 ⟨g10,acF,acG,Y,NZ⟩ Y
  rintro _ w32 ⟨gj2,pO,cj2,rfl,Ph⟩;have aOi:=aaH hkk x1.aD;have aOj:=aaH hh x1.aD;have hqx:=hq _ (bZ bN);refine rg<|j6 gj2 3 kH Ph s0 Y<|ev (rE Y)<|gU Y (oQ (kd:=[gI g1]) (Ph.sel s1) azw (λx9=>!(aH.contains x9)) (λw9 ys x9 hl9 K9=>(aqf (S0:=Any) w9 x9 (K9.x s8) (K9.x s7) (K9.s s12).any).mono (by rintro _ w8 ⟨rfl,K8⟩; exact⟨rfl,K8.ext⟩)) aj) ?_
  rintro _ w33 ⟨rfl,Vo⟩;refine bX Y<|cB<|qZ (λmJ lJ wJ=>∃(A1:ah)(c1:Nat)(Vy:ah)(c15:Nat)(l:List bf)(o:List aK)(f:Nat),lJ=[(2,gI g1),(5,gI g2),(6,gI su),(10,.slice pO ((((aU dF x1.aD).aC).filter λx9=>!(uS aH x9)).length) cj2),(16,.slice AQ needs.length cQ),(17,aI ((needs.length:Nat):Int)),(18,aI ((k:Nat):Int))]/\mJ=f+1/\(o.length+ls.length=os.length+l.length/\l.length<=64)/\(Kt (iL ds ns ks aH dF dD all bS aJ eO) (aU ks x1.aD) (aU dF x1.aD) x1.Have f (l,o)=Jb (iL ds ns ks aH dF dD all bS aJ eO) (qz (iL ds ns ks aH dF dD all bS aJ eO) (needs.take k) (ls,os)) x1)/\(bS - x1.Have - ((jJ l (aU ks x1.aD).ID).length:Int)<(f:Int))/\Hp b S wJ (aQ dz 117 A1 c1 l::aQ bg 112 Vy c15 o::dW g 195 [v0,.slice A1 l.length c1,.slice AD ds.length cD,.slice AN ns.length cN,.slice AK ks.length cK,v5,v6,aI dD,aI all,aI bS,aI eO,v11,aI aJ,.slice AV aH.length cV,.slice AS dF.length cS,.slice Vy o.length c15,v16]::aQ dQ 3 pO cj2 (((aU dF x1.aD).aC).filter λx9=>!(uS aH x9))::dW gj2 59 [aI ((aU dF x1.aD).ID),aI ((aU dF x1.aD).aB),gP ((aU dF x1.aD).Sum),.slice pO (((aU dF x1.aD).aC).length) cj2]::dW su 59 [aI ((aU ks x1.aD).ID),aI ((aU ks x1.aD).aB),gP ((aU ks x1.aD).Sum),.slice jW (((aU ks x1.aD).aC).length) jT]::dH dQ jW jT ((aU ks x1.aD).aC)::dW g2 242 [aI x1.aD,aI x1.Have,aI x1.Live]::dW g1 193 [gI g]::aQ bg 112 AD cD ds::dH bW AN cN ns::dH bD AK cK ks::dH dQ AV cV aH::dH bD AS cS dF::dH qg AQ cQ needs::F)) ⟨A1,c1,Vy,c15,((qz (iL ds ns ks aH dF dD all bS aJ eO) (needs.take k) (ls,os)).1),((qz (iL ds ns ks aH dF dD all bS aJ eO) (needs.take k) (ls,os)).2),100,Y,Y,by exact hlo,by rfl,by have:=hq _ (bZ bN); omega,((Vo.mV 0 5).mV 5 3)⟩ rfl ?_
  rintro _ _ w34 ⟨A1,c1,Vy,c15,l,o,f,rfl,rfl,hlo2,hrep,hff,K34⟩;refine aY ?_;have hcl:=afi l (aU ks x1.aD).ID;refine He K34 (λ_ K=>K) (λl0 rk lJ wJ=>lJ=(60,.bool (decide (x1.Have+(((jJ l ((aU ks x1.aD).ID)).length:Nat):Int)<bS)))::l0/\Hp b S wJ rk) (λhns H3=>?_) ?_
  ·refine nJ 0 1 g2 1 Qo s7 Y H3<|Db 2 s8 Y H3<|nJ 3 4 su 0 qN s5 Y H3<|Db 8 s8 Y H3<|Sr 9 g 6 CP Y H3<|nJ 11 12 g 9 FN s2 Y H3<|O1 5 Y<|gU Y (Tt ((H3.mV 0 2).sel s2) aj ((aU ks x1.aD).ID)) ?_
   rintro _ w35 ⟨NQ,NR,rfl,K35⟩;have k25:=(((K35.rm s0).sel s0).mV 1 2);refine aO k25<|l9 6 Y (λ_ _=>eX fA Y) k25<|l9 7 Y (λ_ _=>dP Y Y) k25<|l9 13 Y (λ_ _=>fD Y Y) k25<|Dn ⟨Y,(((K35.rm s0).sel s0).mV 1 2)⟩ Y
  rintro _ w36 ⟨rfl,ZF⟩;refine mZ Y (λaqg=>?_) (λaqg=>?_)
  ·refine jy ?_;refine cB ?_;have hgl:=amD ds (aU ks x1.aD).ID;refine He ZF (λ_ K=>K) (λl0 rk lJ wJ=>∃(CQ:ah)(CS:Nat),lJ=(11,.slice CQ (((([((aU ks x1.aD).aC),(jJ l ((aU ks x1.aD).ID)),(mU ds ((aU ks x1.aD).ID))]:List (List Int))).flatten).length) CS)::l0/\Hp b S wJ (aQ dQ 3 CQ CS ((([((aU ks x1.aD).aC),(jJ l ((aU ks x1.aD).ID)),(mU ds ((aU ks x1.aD).ID))]:List (List Int))).flatten)::rk)) (λhns H4=>?_) ?_
   ·refine nJ 0 1 su 3 kH s5 Y H4<|Db 2 s8 Y H4<|nJ 3 4 su 0 qN s5 Y H4<|Db 6 s8 Y H4<|Sr 7 g 0 rG Y H4<|nJ 9 10 g 2 DN s2 Y H4<|nJ 11 12 su 0 qN s5 Y H4<|O1 5 Y<|gU Y (Tt ((H4.mV 0 2).sel s2) aj ((aU ks x1.aD).ID)) ?_
    rintro _ w37 ⟨Ac2,cc2,rfl,Vs⟩;have k26:=(((Vs.rm s0).sel s0).mV 1 2);refine aO k26<|O1 13 Y<|gU Y (afg _ (Vs.o s10) ((aU ks x1.aD).ID) aj) ?_
    rintro _ w38 ⟨UJ,UK,rfl,h38⟩;have K38:=Vs.f1 h38;have aIN:=(K38.o s0).bC;have k27:=(((K38.cU 0 2).sel s0).mV 1 2);refine aO k27<|O1 14 Y ?_
    have H5:=K38.fz s1;have H6:=H5.fz s1;refine bsn (τ:=(Ty.list dQ)) (xs:=([((aU ks x1.aD).aC),(jJ l ((aU ks x1.aD).ID)),(mU ds ((aU ks x1.aD).ID))]:List (List Int))) (vs:=[(0,.slice jW (((aU ks x1.aD).aC).length) jT),(1,.slice Ac2 ((jJ l ((aU ks x1.aD).ID)).length) cc2),(2,.slice UJ ((mU ds ((aU ks x1.aD).ID)).length) UK)]) (css:=[[.slice jW (((aU ks x1.aD).aC).length) jT],[.slice Ac2 ((jJ l ((aU ks x1.aD).ID)).length) cc2],[.slice UJ ((mU ds ((aU ks x1.aD).ID)).length) UK]]) Y (by intro _; apply acA) rfl rfl H6 (λ_ e=>⟨⟨_,_,rfl,(H6.s s8).ext e⟩,⟨_,_,rfl,(H6.s s1).ext e⟩,⟨_,_,rfl,(H6.s s0).ext e⟩,trivial⟩) λg11 w39 ZH=>?_;have k28:=(((ZH.cU 0 3).sel s0).mV 1 2);refine aO k28<|O1 15 Y<|gU Y (acv _ (ZH.o s0) (by simp only [aee,List.flatten_nil,zM,jG]; omega)) ?_
    rintro _ w40 ⟨aqh,aqi,rfl,h40⟩;have K40:=ZH.f1 h40;have k29:=(((K40.cU 0 4).sel s0).mV 1 2);refine aO k29<|xL 16 Y Y k29<|Dn ⟨aqh,aqi,Y,(((K40.cU 1 3).sel s1).mV 1 3)⟩ Y
   rintro _ w41 ⟨CQ,CS,rfl,K41⟩;refine He K41 (λ_ K=>K) (λl0 rk lJ wJ=>lJ=(12,aI (yF (uR ns aH (jh ks ns l) ((([((aU ks x1.aD).aC),(jJ l ((aU ks x1.aD).ID)),(mU ds ((aU ks x1.aD).ID))]:List (List Int))).flatten) ns)))::(13,.bool ((uR ns aH (jh ks ns l) ((([((aU ks x1.aD).aC),(jJ l ((aU ks x1.aD).ID)),(mU ds ((aU ks x1.aD).ID))]:List (List Int))).flatten) ns).isSome))::l0/\Hp b S wJ rk) (λhns H7=>?_) ?_
   ·refine Db 0 s9 Y H7<|Sr 1 g 3 EI Y H7<|nJ 3 4 g 3 lM s3 Y H7<|Db 5 s9 Y H7<|Sr 6 g 13 G6 Y H7<|Db 8 s3 Y H7<|Db 9 s9 Y H7<|lQ 11 Y Y H7<|O1 10 Y<|gU Y (aaF ((((((H7.mV 4 7).sel s9).sel s8).mV 11 2).sel s11).sel s12) aj aj aj) ?_
    rintro _ w42 ⟨Ad1,cd1,rfl,K42⟩;have k30:=(((((((K42.rm s0).mV 2 2).mV 6 7).sel s9).sel s12).sel s11).sel s12);refine aO k30<|O1 12 Y<|nD K42 Y (aaw _ (K42.s s3).any (K42.s s14).any (K42.o s0) (K42.o s5) aj (λx hx=>((Tq _ _ _).1 x hx).1)) λw43 K43=>?_
    have k31:=(((((((K43.rm s0).mV 2 2).mV 6 7).sel s9).sel s12).sel s11).sel s12);refine aO k31<|lQ 13 Y Y k31<|l9 14 Y (λ_ _=>xP (vs:=[aI (yF (uR ns aH (jh ks ns l) ((([((aU ks x1.aD).aC),(jJ l ((aU ks x1.aD).ID)),(mU ds ((aU ks x1.aD).ID))]:List (List Int))).flatten) ns)),.bool ((uR ns aH (jh ks ns l) ((([((aU ks x1.aD).aC),(jJ l ((aU ks x1.aD).ID)),(mU ds ((aU ks x1.aD).ID))]:List (List Int))).flatten) ns).isSome)]) Y Y) k31<|l9 15 Y (λ_ _=>xP (vs:=[aI (yF (uR ns aH (jh ks ns l) ((([((aU ks x1.aD).aC),(jJ l ((aU ks x1.aD).ID)),(mU ds ((aU ks x1.aD).ID))]:List (List Int))).flatten) ns)),.bool ((uR ns aH (jh ks ns l) ((([((aU ks x1.aD).aC),(jJ l ((aU ks x1.aD).ID)),(mU ds ((aU ks x1.aD).ID))]:List (List Int))).flatten) ns).isSome)]) Y Y) k31<|xL 16 Y Y k31<|xL 17 Y Y k31<|Dn ⟨Y,(((((((K43.rm s0).mV 2 2).mV 6 7).sel s9).sel s12).sel s11).sel s12)⟩ Y
   rintro _ w44 ⟨rfl,K44⟩;refine qU ak ak<|bB (eF aiE Y (K44.x s9) Y) Y<|bB (d9 Y) Y<|bB (fQ (q:=⟨g,0,none⟩) rG Y Y) Y<|bB (fQ (q:=⟨g,1,none⟩) yG Y Y) Y<|bB (eF ap5 Y (K44.x s3) Y) Y<|bB (bq Y) Y<|bB (eF aiE Y (K44.x s9) Y) Y<|bB (d9 Y) Y<|bB (fQ (q:=⟨g,6,none⟩) CP Y Y) Y<|bB (fQ (q:=⟨g,7,none⟩) ace Y Y) Y<|bB (eF jN Y (K44.x s3) Y) Y<|KE (v:=.tuple #[aI (Bq l (((aU dF x1.aD).aC).filter λx9=>!(uS aH x9)) dD),.bool (EF l (((aU dF x1.aD).aC).filter λx9=>!(uS aH x9)) dD)]) Y Y Y azx (λwq eq=>(amh wq ((K44.o s1).ext eq) ((K44.o s4).ext eq) dD aj aj aj).mono (by rintro _ _ ⟨rfl,gu⟩; exact⟨rfl,gu.ext⟩)) rfl<|bB (bq rfl) rfl<|bB (xP (vs:=[aI (Bq l (((aU dF x1.aD).aC).filter λx9=>!(uS aH x9)) dD),.bool (EF l (((aU dF x1.aD).aC).filter λx9=>!(uS aH x9)) dD)]) rfl rfl) rfl<|bB (xP (vs:=[aI (Bq l (((aU dF x1.aD).aC).filter λx9=>!(uS aH x9)) dD),.bool (EF l (((aU dF x1.aD).aC).filter λx9=>!(uS aH x9)) dD)]) rfl rfl) rfl<|bB (pz rfl) rfl<|bB (pz rfl) rfl<|qV λw45 e45=>?_
   have K45:=K44.grow e45;refine bQ Y<|ev (iG Y)<|mv Y ?_
   cases afr:(!((uR ns aH (jh ks ns l) ((([((aU ks x1.aD).aC),(jJ l ((aU ks x1.aD).ID)),(mU ds ((aU ks x1.aD).ID))]:List (List Int))).flatten) ns).isSome)) with
   | true=>
    refine dN<|dN<|ev (dM Y Y)<|mv Y<|dN<|dN<|dN<|dN<|dN<|dN<|ev (dM Y Y)<|dn<|bP Y (λ_h=>?_) nofun
    refine sP (NV Y (mY (NV Y (um (gy ?_)))));have hnx:(qz (iL ds ns ks aH dF dD all bS aJ eO) (needs.take (k+1)) (ls,os))=(l,o):=by rw [M5 bN,<- hrep]; exact M4 (x:=(iL ds ns ks aH dF dD all bS aJ eO)) (by first | (rintro⟨hg1,hg⟩; exact absurd hg1 aqg) | (rintro⟨_,hg⟩; first | (rw [show wH (iL ds ns ks aH dF dD all bS aJ eO) (aU ks x1.aD) (aU dF x1.aD) l=false from acw afr] at hg; cases hg) | (rw [show wH (iL ds ns ks aH dF dD all bS aJ eO) (aU ks x1.aD) (aU dF x1.aD) l=false from acy afs] at hg; cases hg) | (rw [show wH (iL ds ns ks aH dF dD all bS aJ eO) (aU ks x1.aD) (aU dF x1.aD) l=false from acz (JY FR)] at hg; cases hg))) f
    refine jC<|ev (dP Y Y)<|mv Y<|jD ?_
    have kC:(l:List bf)=(qz (iL ds ns ks aH dF dD all bS aJ eO) (needs.take (k+1)) (ls,os)).1:=by first | (rw [hnx]; done) | (rw [hnx]; exact(LD (JY FR)).1)
    rw [kC] at K45;have nC:(o:List aK)=(qz (iL ds ns ks aH dF dD all bS aJ eO) (needs.take (k+1)) (ls,os)).2:=by first | (rw [hnx]; done) | (rw [hnx]; exact(LD (JY FR)).2 _)
    rw [nC] at K45;exact dG ⟨(k+1),A1,c1,Vy,c15,Y,Y,aj,by rw [hnx]; exact hlo2,((K45.cU 4 5).rm s0)⟩ rfl aj
   | false=>
    refine bE Y (bq Y) Y<|bE Y (iG Y) Y<|ev (dS Y Y)<|mv Y ?_
    cases afs:(!(EF l (((aU dF x1.aD).aC).filter λx9=>!(uS aH x9)) dD)) with
    | true=>
     refine dN<|dN<|dN<|dN<|dN<|dN<|ev (dM Y Y)<|dn<|bP Y (λ_h=>?_) nofun
     refine sP (NV Y (mY (NV Y (um (gy ?_)))));have hnx:(qz (iL ds ns ks aH dF dD all bS aJ eO) (needs.take (k+1)) (ls,os))=(l,o):=by rw [M5 bN,<- hrep]; exact M4 (x:=(iL ds ns ks aH dF dD all bS aJ eO)) (by first | (rintro⟨hg1,hg⟩; exact absurd hg1 aqg) | (rintro⟨_,hg⟩; first | (rw [show wH (iL ds ns ks aH dF dD all bS aJ eO) (aU ks x1.aD) (aU dF x1.aD) l=false from acw afr] at hg; cases hg) | (rw [show wH (iL ds ns ks aH dF dD all bS aJ eO) (aU ks x1.aD) (aU dF x1.aD) l=false from acy afs] at hg; cases hg) | (rw [show wH (iL ds ns ks aH dF dD all bS aJ eO) (aU ks x1.aD) (aU dF x1.aD) l=false from acz (JY FR)] at hg; cases hg))) f
     refine jC<|ev (dP Y Y)<|mv Y<|jD ?_
     have rV:(l:List bf)=(qz (iL ds ns ks aH dF dD all bS aJ eO) (needs.take (k+1)) (ls,os)).1:=by first | (rw [hnx]; done) | (rw [hnx]; exact(LD (JY FR)).1)
     rw [rV] at K45;have xW:(o:List aK)=(qz (iL ds ns ks aH dF dD all bS aJ eO) (needs.take (k+1)) (ls,os)).2:=by first | (rw [hnx]; done) | (rw [hnx]; exact(LD (JY FR)).2 _)
     rw [xW] at K45;exact dG ⟨(k+1),A1,c1,Vy,c15,Y,Y,aj,by rw [hnx]; exact hlo2,((K45.cU 4 5).rm s0)⟩ rfl aj
    | false=>
     refine gby K45 s9 Y<|bE Y (fK pQ Y Y (K45.x s6)) Y<|bE Y (bq Y) Y<|bE Y (bq Y) Y<|oD Y Y Y Y azq (X6 (((K45.sel s0).mV 1 2).sel s3) (aU ks x1.aD) (Bq l (((aU dF x1.aD).aC).filter λx9=>!(uS aH x9)) dD) (yF (uR ns aH (jh ks ns l) ((([((aU ks x1.aD).aC),(jJ l ((aU ks x1.aD).ID)),(mU ds ((aU ks x1.aD).ID))]:List (List Int))).flatten) ns)) aj aj aj) Y ?_
     rintro _ w46 ⟨rfl,Ae1,ce1,Af1,cf1,K46⟩;refine bE Y (iG Y) Y<|ev (dS Y Y)<|dn<|bP Y (λFR=>?_) (λFR=>?_)
     ·refine sP (NV Y (mY (NV Y (um (gy ?_)))));have hnx:(qz (iL ds ns ks aH dF dD all bS aJ eO) (needs.take (k+1)) (ls,os))=(l,o):=by rw [M5 bN,<- hrep]; exact M4 (x:=(iL ds ns ks aH dF dD all bS aJ eO)) (by first | (rintro⟨hg1,hg⟩; exact absurd hg1 aqg) | (rintro⟨_,hg⟩; first | (rw [show wH (iL ds ns ks aH dF dD all bS aJ eO) (aU ks x1.aD) (aU dF x1.aD) l=false from acw afr] at hg; cases hg) | (rw [show wH (iL ds ns ks aH dF dD all bS aJ eO) (aU ks x1.aD) (aU dF x1.aD) l=false from acy afs] at hg; cases hg) | (rw [show wH (iL ds ns ks aH dF dD all bS aJ eO) (aU ks x1.aD) (aU dF x1.aD) l=false from acz (JY FR)] at hg; cases hg))) f
      refine jC<|ev (dP Y Y)<|mv Y<|jD ?_
      have zX:((yc l dD all (aU ks x1.aD) (Bq l (((aU dF x1.aD).aC).filter λx9=>!(uS aH x9)) dD) (yF (uR ns aH (jh ks ns l) ((([((aU ks x1.aD).aC),(jJ l ((aU ks x1.aD).ID)),(mU ds ((aU ks x1.aD).ID))]:List (List Int))).flatten) ns)) (aJ+eO)):List bf)=(qz (iL ds ns ks aH dF dD all bS aJ eO) (needs.take (k+1)) (ls,os)).1:=by first | (rw [hnx]; done) | (rw [hnx]; exact(LD (JY FR)).1)
      rw [zX] at K46;have hq8:((xw l o dD all (aU ks x1.aD) (Bq l (((aU dF x1.aD).aC).filter λx9=>!(uS aH x9)) dD) (yF (uR ns aH (jh ks ns l) ((([((aU ks x1.aD).aC),(jJ l ((aU ks x1.aD).ID)),(mU ds ((aU ks x1.aD).ID))]:List (List Int))).flatten) ns)) (aJ+eO)):List aK)=(qz (iL ds ns ks aH dF dD all bS aJ eO) (needs.take (k+1)) (ls,os)).2:=by first | (rw [hnx]; done) | (rw [hnx]; exact(LD (JY FR)).2 _)
      rw [hq8] at K46;exact dG ⟨(k+1),Ae1,ce1,Af1,cf1,Y,Y,aj,by rw [hnx]; exact hlo2,(((K46.cU 3 6).sel s0).mV 1 2)⟩ rfl aj
     have avb:=aDd FR;have hgo:wH (iL ds ns ks aH dF dD all bS aJ eO) (aU ks x1.aD) (aU dF x1.aD) l=true:=azu afr afs avb;have aIP:x1.Have+((jJ l (aU ks x1.aD).ID).length:Int)<bS:=aj;refine zo (iw ?_);exact dG ⟨Ae1,ce1,Af1,cf1,(yc l dD all (aU ks x1.aD) (Bq l (((aU dF x1.aD).aC).filter λx9=>!(uS aH x9)) dD) (yF (uR ns aH (jh ks ns l) ((([((aU ks x1.aD).aC),(jJ l ((aU ks x1.aD).ID)),(mU ds ((aU ks x1.aD).ID))]:List (List Int))).flatten) ns)) (aJ+eO)),(xw l o dD all (aU ks x1.aD) (Bq l (((aU dF x1.aD).aC).filter λx9=>!(uS aH x9)) dD) (yF (uR ns aH (jh ks ns l) ((([((aU ks x1.aD).aC),(jJ l ((aU ks x1.aD).ID)),(mU ds ((aU ks x1.aD).ID))]:List (List Int))).flatten) ns)) (aJ+eO)),(f - 1),Y,Y,by have hcb:=LC avb; have hca:=afq avb; rw [hcb.2.1,hcb.2.2]; omega,by exact(aj7 (x:=(iL ds ns ks aH dF dD all bS aJ eO)) aj aIP hgo).trans hrep,by have hcb:=LC avb; rw [hcb.1]; omega,(((K46.rm s3).sel s0).mV 1 2)⟩ rfl aj
  refine sP (mY (mY (um (iw (gy ?_)))));have hnx:(qz (iL ds ns ks aH dF dD all bS aJ eO) (needs.take (k+1)) (ls,os))=(l,o):=by rw [M5 bN,<- hrep]; exact M4 (x:=(iL ds ns ks aH dF dD all bS aJ eO)) (by first | (rintro⟨hg1,hg⟩; exact absurd hg1 aqg) | (rintro⟨_,hg⟩; first | (rw [show wH (iL ds ns ks aH dF dD all bS aJ eO) (aU ks x1.aD) (aU dF x1.aD) l=false from acw afr] at hg; cases hg) | (rw [show wH (iL ds ns ks aH dF dD all bS aJ eO) (aU ks x1.aD) (aU dF x1.aD) l=false from acy afs] at hg; cases hg) | (rw [show wH (iL ds ns ks aH dF dD all bS aJ eO) (aU ks x1.aD) (aU dF x1.aD) l=false from acz (JY FR)] at hg; cases hg))) f
  refine jC<|ev (dP Y Y)<|mv Y<|jD ?_
  have zG:(l:List bf)=(qz (iL ds ns ks aH dF dD all bS aJ eO) (needs.take (k+1)) (ls,os)).1:=by first | (rw [hnx]; done) | (rw [hnx]; exact(LD (JY FR)).1)
  rw [zG] at ZF;have vg:(o:List aK)=(qz (iL ds ns ks aH dF dD all bS aJ eO) (needs.take (k+1)) (ls,os)).2:=by first | (rw [hnx]; done) | (rw [hnx]; exact(LD (JY FR)).2 _)
  rw [vg] at ZF;exact dG ⟨(k+1),A1,c1,Vy,c15,Y,Y,aj,by rw [hnx]; exact hlo2,(ZF.cU 3 5)⟩ rfl aj
 refine sP (mY (mY (um (l8.aul (qc (xV Y ?_))))));have hfk:needs.take k=needs:=gV aj;rw [hfk] at K2;have H8:=(K2.rm s3);exact⟨Y,_,_,_,_,((((H8.sel s1).sel s3).sel s2).sel s3)⟩
def vK(s:gG)(r:ARules)(aJ:Int):List Int:=(JV (fq s aJ).cZ aJ r.kY).map eY.Node
def EJ(m:dh)(s:gG)(aJ:Int):List aF:=zy m.aA (fq s aJ).bA
def RP(m:dh)(s:gG)(r:ARules)(aJ:Int):List eG:=Gu (EJ m s aJ) m.aL (vK s r aJ) r.jw
abbrev Dv(m:dh)(s:gG)(r:ARules)(aJ:Int):Gv:=⟨(fq s aJ).bA,m.aL,m.aA,vK s r aJ,EJ m s aJ,r.l7,r.All,r.jw,aJ+r.iD⟩
def tO(m:dh)(s:gG)(r:ARules)(aJ:Int):List bf × List aK:=qz (Dv m s r aJ) (RP m s r aJ) ((fq s aJ).bI,[])
def uy(m:dh)(s:gG)(r:ARules)(aJ:Int):List aK:=wV (tO m s r aJ).1 m.aA m.aL (vK s r aJ) r.jw (aJ+r.iD) (EJ m s aJ)
def rdQ(m:dh)(s:gG)(r:ARules)(aJ:Int):Bool:=(decide (((RP m s r aJ).length:Int)=0)&&decide (((tO m s r aJ).1.length:Int)=0))&&decide ((((fq s aJ).bA++uy m s r aJ).length:Int)=0)
def rdL(m:dh)(s:gG)(r:ARules)(aJ:Int):List bf:=if rdQ m s r aJ=true then Qv (tO m s r aJ).1 m.aA (EJ m s aJ) m.aL (vK s r aJ) r.eZ r.l7 r.All (aJ+r.iD) else(tO m s r aJ).1
def rdO(m:dh)(s:gG)(r:ARules)(aJ:Int):List aK:=if rdQ m s r aJ=true then Qw (tO m s r aJ).1 ((tO m s r aJ).2++uy m s r aJ) m.aA (EJ m s aJ) m.aL (vK s r aJ) r.eZ r.l7 r.All (aJ+r.iD) else(tO m s r aJ).2++uy m s r aJ
def rdB(m:dh)(r:ARules):Bool:=l5 r&&kI m.aA
def jr(m:dh)(s:gG)(r:ARules)(aJ:Int):gG:=if rdB m r=true then⟨(fq s aJ).cZ,rdL m s r aJ,(fq s aJ).bA++uy m s r aJ⟩ else s
def qb(m:dh)(s:gG)(r:ARules)(aJ:Int):List aK:=if rdB m r=true then rdO m s r aJ else[]
def mX(m:dh)(s:gG)(r:ARules)(aJ:Int):List fH:=if rdB m r=true then(uy m s r aJ).map wG else[]
theorem acH(h:oL c=true):c.aC.length<=16:=by
  rcases IC _ _ (rC h).2.2 with h1 | h1
  · rw [h1]; simp
  · omega
theorem afu(ds:List aK)(c:aF):(oF ds c).aC.length<=c.aC.length:=ni _ _
theorem afv{x:Gv}{c d:aF}{h:Int}(ha:x.all<=64):∀(f:Nat)(l:List bf)(o:List aK),l.length<=64->(Kt x c d h f (l,o)).1.length<=64/\(Kt x c d h f (l,o)).2.length+l.length=o.length+(Kt x c d h f (l,o)).1.length
  | 0,l,o,hl=>⟨hl,by show o.length+l.length=o.length+l.length; rfl⟩
  | f+1,l,o,hl=>by
    unfold Kt
    split
    · rename_i hc
      have hg:Du l x.dD x.all c (uw x d l) (yF (rZ x c l)) x.u=true:=by
        have:=hc.2; unfold wH at this; simp only [bK] at this; exact this.2
      have h1:=LC hg;have h2:=afq hg;have ih:=afv (c:=c) (d:=d) (h:=h) ha f (yc l x.dD x.all c (uw x d l) (yF (rZ x c l)) x.u) (xw l o x.dD x.all c (uw x d l) (yF (rZ x c l)) x.u) (by rw [h1.2.1]; omega);rw [h1.2.1,h1.2.2] at ih;have key:∀ r:List bf × List aK,r.2.length+(l.length+1)=o.length+1+r.1.length->r.2.length+l.length=o.length+r.1.length:=by intro r h; omega
      exact⟨ih.1,key _ ih.2⟩
    · exact⟨hl,Y⟩
theorem QB{x:Gv}(ha:x.all<=64):∀(M:List eG)(s:List bf × List aK),s.1.length<=64->(qz x M s).1.length<=64/\(qz x M s).2.length+s.1.length=s.2.length+(qz x M s).1.length
  | [],s,hs=>⟨hs,rfl⟩
  | n::M,s,hs=>by
    have h1:=afv (c:=aU x.ks n.aD) (d:=aU x.dF n.aD) (h:=n.Have) ha 100 s.1 s.2 hs;have h2:=QB ha M (Jb x s n) h1.1;refine⟨h2.1,?_⟩;have h3:(Jb x s n).2.length+s.1.length=s.2.length+(Jb x s n).1.length:=h1.2;have h4:=h2.2;show(qz x M (Jb x s n)).2.length+s.1.length=s.2.length+(qz x M (Jb x s n)).1.length;omega
theorem Ed(s:gG)(aJ:Int):(fq s aJ).bI.length<=s.bI.length/\(fq s aJ).bA.length<=s.bA.length:=⟨ni _ _,ni _ _⟩
theorem azB{m:dh}(hm:kI m.aA=true)(s:gG)(r:ARules)(aJ:Int):∀ x∈RP m s r aJ,0<=x.Have/\x.Have<=1000:=by
  intro x hx;obtain⟨c,hc,_,rfl⟩:=OC.1 hx;obtain⟨c0,h0,rfl⟩:=gB.1 hc;have h1:=acH ((kM.1 hm).1 c0 h0);have h2:=afu (fq s aJ).bA c0;have h3:(jg (oF (fq s aJ).bA c0) m.aL (vK s r aJ)).length<=(oF (fq s aJ).bA c0).aC.length:=lI (ni _ _) (ni _ _)
  simp only [Lu]; omega
theorem acI(hm:kI l=true)(k:Nat)(hk:16<=k):∀ x∈l,x.aC.length<=k:=λx hx=>by have:=acH ((kM.1 hm).1 x hx); omega
theorem VB(hm:kI l=true)(ds:List aK)(k:Nat)(hk:16<=k):∀ x∈zy l ds,x.aC.length<=k:=λx hx=>by
  obtain⟨c,hc,rfl⟩:=gB.1 hx;have:=acH ((kM.1 hm).1 c hc); have:=afu ds c; omega
theorem BM(l:List aF)(ds:List aK):(zy l ds).length=l.length:=kF ..
theorem oq{r:ARules}(h:l5 r=true):(1<=r.kY/\r.kY<=1048576)/\(1<=r.iD/\r.iD<=1048576)/\(1<=r.l7/\r.l7<=64)/\(1<=r.All/\r.All<=64)/\(1<=r.jw/\r.jw<=8)/\1<=r.eZ/\r.eZ<=16:=by
  simp only [l5,qm,bK,bM] at h; omega
theorem aDg:Size prog 23 6:=ay
theorem JZ:Z9 prog 23 6:=⟨λ_=>by kernel_rfl,aDg⟩
theorem LG(a0:ah)(a0n a0c:Nat)(a1:ah)(a1n a1c:Nat)(a2:ah)(a2n a2c:Nat):prog.built 51 [(0,.slice a0 a0n a0c),(1,.slice a1 a1n a1c),(2,.slice a2 a2n a2c)]=some #[.slice a0 a0n a0c,.slice a1 a1n a1c,.slice a2 a2n a2c]:=ak
theorem aqj:Size prog 45 3:=ay
theorem yg:Z9 prog 45 3:=⟨λ_=>by kernel_rfl,aqj⟩
theorem OE(XV:ah)(UE UF:Nat)(afw:ah)(afx afy:Nat)(afz:ah)(afA afB:Nat)(aDh:ah)(axx axy:Nat)(aDi:ah)(axz axA:Nat)(aDj:ah)(axB axC:Nat)(aDk:Int)(aDl:Int)(aDm:Int)(aDn:Int)(aDo:Int)(aDp:Int)(a3:Int):prog.built 195 [(0,.agg #[.slice XV UE UF,.slice afw afx afy,.slice afz afA afB]),(1,.agg #[.slice aDh axx axy,.slice aDi axz axA,.slice aDj axB axC]),(2,.agg #[aI aDk,aI aDl,aI aDm,aI aDn,aI aDo,aI aDp]),(3,aI a3)]=some #[.slice XV UE UF,.slice afw afx afy,.slice afz afA afB,.slice aDh axx axy,.slice aDi axz axA,.slice aDj axB axC,aI aDk,aI aDl,aI aDm,aI aDn,aI aDo,aI aDp,aI a3,.slice none 0 0,.slice none 0 0,.slice none 0 0,.slice none 0 0]:=ak
set_option maxHeartbeats 2000000 in
theorem QC(w:World)(m:dh){vP:ah}{vv:Nat}(BN:Sl bW S0 w vP vv m.aL){uT:ah}{ug:Nat}(G8:Sl bD S0 w uT ug m.aA){sw:ah}{rW:Nat}(OG:Sl dw S0 w sw rW m.aT)(s:gG){ach:ah}{aci:Nat}(au0:Sl iK S0 w ach aci s.cZ){acj:ah}{acn:Nat}(au1:Sl dz S0 w acj acn s.bI){aco:ah}{acp:Nat}(au2:Sl bg S0 w aco acp s.bA)(r:ARules)(aJ:Int)(hb:s.cZ.length<=1000)(hl:s.bI.length<=64)(hd:s.bA.length<=50000)(hn:m.aL.length<=1000)(hc:m.aA.length<=1000)(hu:0<=aJ/\aJ<=1099511627776) :
    bO prog 89 #[.agg #[.slice vP m.aL.length vv,.slice uT m.aA.length ug,.slice sw m.aT.length rW],.agg #[.slice ach s.cZ.length aci,.slice acj s.bI.length acn,.slice aco s.bA.length acp],.agg #[aI r.kY,aI r.l7,aI r.All,aI r.jw,aI r.iD,aI r.eZ],aI aJ] w λv w'=>∃(vT:ah)(vU:Nat)(zH:ah)(zI:Nat)(zJ:ah)(zK:Nat)(A1:ah)(c1:Nat)(A2:ah)(c2:Nat),v=.tuple #[.agg #[.slice vT (((jr m s r aJ).cZ).length) vU,.slice zH (((jr m s r aJ).bI).length) zI,.slice zJ (((jr m s r aJ).bA).length) zK],.slice A1 ((qb m s r aJ).length) c1,.slice A2 ((mX m s r aJ).length) c2]/\Hp w S0 w' [aQ iK 107 vT vU ((jr m s r aJ).cZ),aQ dz 117 zH zI ((jr m s r aJ).bI),aQ bg 112 zJ zK ((jr m s r aJ).bA),aQ bg 112 A1 c1 (qb m s r aJ),aQ Ad 120 A2 c2 (mX m s r aJ)]:=by
 refine lg S0 func89 ntmps89 Y λH0=>rg<|bx Y Y H0 λg1 w1 K1=>bx Y Y K1 λg2 w2 K2=>bx Y Y K2 λg3 w3 K3=>al DL Y K3 λg4 w4 K4=>jk Y<|bX Y<|aY<|rg<|ev (fK JZ Y Y (K4.x s1))<|nD K4 Y (acg (S0:=Any) _ r) λw5 K5=>ev (iG Y)<|mv Y<|pF 5 21 ((!(l5 r))||(!(kI m.aA))) ?_ ?_
 ·cases Vd:(!(l5 r)) with
  | true=>
   refine dN<|dN<|dN<|dN<|ev (dM Y Y)<|jo Y (pW _)
  | false=>
   refine wB g1 1 j4 K5 s3 Y<|oD Y Y Y Y aoO (MP _ (K5.a G8).any aj) Y ?_
   rintro _ w6 ⟨rfl,h6⟩;refine bE Y (iG Y) Y<|ev (dS Y Y)<|jo Y h6.ext
 intro w7 e7;have K7:=K5.grow e7;refine dn<|bP Y (λhc21=>?_) (λhc21=>?_)
 ·have hrb:rdB m r=false:=by unfold rdB; revert hc21; cases l5 r <;> cases kI m.aA <;> simp
  refine He K7 (λ_ K=>(K.rm s0)) (λl0 rk lJ wJ=>∃(jW:ah)(jT:Nat)(pO:ah)(cj2:Nat)(wW:ah)(vV:Nat),lJ=l0/\Hp w S0 wJ (dW g4 51 [.slice wW s.cZ.length vV,.slice pO s.bI.length cj2,.slice jW s.bA.length jT]::aQ bg 112 jW jT s.bA::aQ dz 117 pO cj2 s.bI::aQ iK 107 wW vV s.cZ::rk)) (λhns H1=>?_) ?_
  ·have k1:=(H1.rm s0);refine nJ 0 1 g2 0 FP s1 Y k1<|nJ 3 4 g2 1 yG s1 Y k1<|nJ 6 7 g2 2 DN s1 Y k1<|O1 2 Y<|gU Y (DK _ (H1.a au0).any aj) ?_
   rintro _ w8 ⟨IQ,IU,rfl,h8⟩;have K8:=H1.f1 h8;have k2:=(K8.cU 0 2);refine aO k2<|O1 5 Y<|gU Y (BR _ (K8.a au1).any aj) ?_
   rintro _ w9 ⟨aqk,aql,rfl,h9⟩;have K9:=K8.f1 h9;have k3:=(K9.cU 0 3);refine aO k3<|O1 8 Y<|gU Y (BS _ (K9.a au2).any aj) ?_
   rintro _ Om ⟨Oa,Ob,rfl,h10⟩;have K10:=K9.f1 h10;have k4:=(K10.cU 0 4);refine aO k4<|l9 9 Y (λ_ _=>jX (vs:=[(0,.slice IQ s.cZ.length IU),(1,.slice aqk s.bI.length aql),(2,.slice Oa s.bA.length Ob)]) (cs:=[.slice IQ s.cZ.length IU,.slice aqk s.bI.length aql,.slice Oa s.bA.length Ob]) Y (by apply LG)) k4<|O1 10 rfl<|sty rfl K10 s3 rfl λVa vM=>?_
   have k5:=(vM.cU 0 4);refine aO k5<|xL 11 Y Y k5<|xL 12 Y Y k5<|Dn ⟨Oa,Ob,aqk,aql,IQ,IU,Y,vM⟩ Y
  rintro _ Vb ⟨jW,jT,pO,cj2,wW,vV,rfl,vH⟩;refine jf (fO (sW Y ⟨_,_,Y,⟨_,Y,kK (cs:=[.slice wW s.cZ.length vV,.slice pO s.bI.length cj2,.slice jW s.bA.length jT]) JX Y (vH.x s0)⟩,⟨_,_,Y,Y,⟨_,_,Y,Y,Y⟩⟩⟩ ?_));have fT:((⟨s.cZ,s.bI,s.bA⟩:gG):gG)=(jr m s r aJ):=by unfold jr; rw [aP (by rw [hrb]; decide)]
  have gu:(s.cZ:List eY)=((jr m s r aJ).cZ):=by rw [<- fT]
  have kC:(s.bI:List bf)=((jr m s r aJ).bI):=by rw [<- fT]
  have nC:(s.bA:List aK)=((jr m s r aJ).bA):=by rw [<- fT]
  have H2:=vH.nil bg 112;have rV:(([]:List aK):List aK)=(qb m s r aJ):=by unfold qb; rw [aP (by rw [hrb]; decide)]
  have H3:=(rV▸H2:Hp w S0 Vb (aQ bg 112 none 0 (qb m s r aJ)::[dW g4 51 [.slice wW s.cZ.length vV,.slice pO s.bI.length cj2,.slice jW s.bA.length jT],aQ bg 112 jW jT s.bA,aQ dz 117 pO cj2 s.bI,aQ iK 107 wW vV s.cZ,dW g3 23 [aI r.kY,aI r.l7,aI r.All,aI r.jw,aI r.iD,aI r.eZ],dW g2 51 [.slice ach s.cZ.length aci,.slice acj s.bI.length acn,.slice aco s.bA.length acp],dW g1 45 [.slice vP m.aL.length vv,.slice uT m.aA.length ug,.slice sw m.aT.length rW]]));have H4:=H3.nil Ad 120;have xW:(([]:List fH):List fH)=(mX m s r aJ):=by unfold mX; rw [aP (by rw [hrb]; decide)]
  have H5:=(xW▸H4:Hp w S0 Vb (aQ Ad 120 none 0 (mX m s r aJ)::[aQ bg 112 none 0 (qb m s r aJ),dW g4 51 [.slice wW s.cZ.length vV,.slice pO s.bI.length cj2,.slice jW s.bA.length jT],aQ bg 112 jW jT s.bA,aQ dz 117 pO cj2 s.bI,aQ iK 107 wW vV s.cZ,dW g3 23 [aI r.kY,aI r.l7,aI r.All,aI r.jw,aI r.iD,aI r.eZ],dW g2 51 [.slice ach s.cZ.length aci,.slice acj s.bI.length acn,.slice aco s.bA.length acp],dW g1 45 [.slice vP m.aL.length vv,.slice uT m.aA.length ug,.slice sw m.aT.length rW]]));exact⟨wW,vV,pO,cj2,jW,jT,none,0,none,0,by first | (rw [gu,kC,nC,<- rV,<- xW] <;> rfl) | (rw [gu,kC,nC,<- rV,<- xW] <;> rfl),by rw [<- gu,<- kC,<- nC]; exact(((((((H5.cU 6 3).rm s2).sel s0).sel s1).sel s2).sel s3).sel s4)⟩
 have hrb:l5 r=true/\kI m.aA=true:=by revert hc21; cases l5 r <;> cases kI m.aA <;> simp
 refine jy ?_;refine He K7 (λ_ K=>K) (λl0 rk lJ wJ=>∃(su:Nat)(CQ:ah)(CS:Nat)(Aj5:ah)(cj5:Nat)(Aj6:ah)(cj6:Nat),lJ=(11,gI su)::l0/\Hp w S0 wJ (dW su 195 [.slice CQ (((fq s aJ).cZ).length) CS,.slice Aj5 (((fq s aJ).bI).length) cj5,.slice Aj6 (((fq s aJ).bA).length) cj6,.slice vP m.aL.length vv,.slice uT m.aA.length ug,.slice sw m.aT.length rW,aI r.kY,aI r.l7,aI r.All,aI r.jw,aI r.iD,aI r.eZ,aI aJ,.slice none 0 0,.slice none 0 0,.slice none 0 0,.slice none 0 0]::aQ iK 107 CQ CS ((fq s aJ).cZ)::aQ dz 117 Aj5 cj5 ((fq s aJ).bI)::aQ bg 112 Aj6 cj6 ((fq s aJ).bA)::rk)) (λhns H6=>?_) ?_
 ·refine l9 0 Y (λ_ hK=>fK JX Y Y (hK.x s2)) H6<|lQ 1 Y Y H6<|l9 3 Y (λ_ hK=>fK yg Y Y (hK.x s3)) H6<|l9 4 Y (λ_ hK=>fK JZ Y Y (hK.x s1)) H6<|lQ 5 Y Y H6<|O1 2 Y<|gU Y (afh _ s (H6.a au0).any (H6.a au1).any (H6.a au2).any aJ aj aj aj) ?_
  rintro _ w13 ⟨qo,qp,uU,uV,uW,uX,rfl,h13⟩;have Bf:=H6.f3 h13;have k6:=(Bf.cU 0 3);refine aO k6<|l9 6 Y (λ_ _=>jX (vs:=[(0,.agg #[.slice qo (((fq s aJ).cZ).length) qp,.slice uU (((fq s aJ).bI).length) uV,.slice uW (((fq s aJ).bA).length) uX]),(1,.agg #[.slice vP m.aL.length vv,.slice uT m.aA.length ug,.slice sw m.aT.length rW]),(2,.agg #[aI r.kY,aI r.l7,aI r.All,aI r.jw,aI r.iD,aI r.eZ]),(3,aI aJ)]) (cs:=[.slice qo (((fq s aJ).cZ).length) qp,.slice uU (((fq s aJ).bI).length) uV,.slice uW (((fq s aJ).bA).length) uX,.slice vP m.aL.length vv,.slice uT m.aA.length ug,.slice sw m.aT.length rW,aI r.kY,aI r.l7,aI r.All,aI r.jw,aI r.iD,aI r.eZ,aI aJ,.slice none 0 0,.slice none 0 0,.slice none 0 0,.slice none 0 0]) Y (by apply OE)) k6<|O1 7 rfl<|bx rfl rfl Bf λg5 w14 xM=>?_
  have k7:=(xM.cU 0 4);refine aO k7<|xL 8 Y Y k7<|Dn ⟨g5,qo,qp,uU,uV,uW,uX,Y,xM⟩ Y
 rintro _ w15 ⟨su,CQ,CS,Aj5,cj5,Aj6,cj6,rfl,BI⟩;refine He BI (λ_ K=>(K.rm s0)) (λl0 rk lJ wJ=>∃(Aj7:ah)(cj7:Nat),lJ=l0/\Hp w S0 wJ (dW su 195 [.slice CQ (((fq s aJ).cZ).length) CS,.slice Aj5 (((fq s aJ).bI).length) cj5,.slice Aj6 (((fq s aJ).bA).length) cj6,.slice vP m.aL.length vv,.slice uT m.aA.length ug,.slice sw m.aT.length rW,aI r.kY,aI r.l7,aI r.All,aI r.jw,aI r.iD,aI r.eZ,aI aJ,.slice Aj7 ((vK s r aJ).length) cj7,.slice none 0 0,.slice none 0 0,.slice none 0 0]::aQ dQ 3 Aj7 cj7 (vK s r aJ)::rk)) (λhns H7=>?_) ?_
 ·have k8:=(H7.rm s0);refine lQ 0 Y Y k8<|tZ 1 su 0 rG Y k8<|MO 4 su 0 FP Y k8<|lQ 6 Y Y k8<|nJ 7 8 g3 0 acd s4 Y k8<|O1 5 Y<|nL H7 s0 Y<|aO k8<|O1 9 Y<|gU Y (N8 _ (H7.o s1) aJ r.kY (lI hb au)) ?_
  rintro _ w16 ⟨XD,XE,rfl,h16⟩;have EB:=H7.f1 h16;have azy:=(EB.o s0).bC;have k9:=(EB.cU 0 2);refine aO k9<|Sr 10 su 13 G6 Y k9<|O1 12 Y<|yD Y EB s1 Y λw17 BJ=>?_
  have k10:=(BJ.cU 0 2);refine aO k10<|Dn ⟨XD,XE,Y,BJ⟩ Y
 rintro _ w18 ⟨Aj7,cj7,rfl,JR⟩;refine He JR (λ_ K=>(K.rm s0)) (λl0 rk lJ wJ=>∃(Aj8:ah)(cj8:Nat),lJ=l0/\Hp w S0 wJ (dW su 195 [.slice CQ (((fq s aJ).cZ).length) CS,.slice Aj5 (((fq s aJ).bI).length) cj5,.slice Aj6 (((fq s aJ).bA).length) cj6,.slice vP m.aL.length vv,.slice uT m.aA.length ug,.slice sw m.aT.length rW,aI r.kY,aI r.l7,aI r.All,aI r.jw,aI r.iD,aI r.eZ,aI aJ,.slice Aj7 ((vK s r aJ).length) cj7,.slice Aj8 ((EJ m s aJ).length) cj8,.slice none 0 0,.slice none 0 0]::aQ bD 59 Aj8 cj8 (EJ m s aJ)::rk)) (λhns H8=>?_) ?_
 ·have k11:=(H8.rm s0);refine lQ 0 Y Y k11<|nJ 1 2 g1 1 j4 s7 Y k11<|tZ 3 su 0 rG Y k11<|MO 6 su 2 DN Y k11<|O1 7 Y<|nL H8 s0 Y<|aO k11<|O1 8 Y<|gU Y (ap9 _ (H8.a G8) (H8.o s4) aj (by have:=(Ed s aJ).2; omega) (acI hrb.2 _ au)) ?_
  rintro _ w19 ⟨aqm,aqn,rfl,h19⟩;have EC:=H8.c1 h19;have aIQ:=(EC.o s0).bC;have k12:=(EC.cU 0 2);refine aO k12<|Sr 9 su 14 LA Y k12<|O1 11 Y<|yD Y EC s1 Y λw20 Gy=>?_
  have k13:=(Gy.cU 0 2);refine aO k13<|Dn ⟨aqm,aqn,Y,Gy⟩ Y
 rintro _ w21 ⟨Aj8,cj8,rfl,IV⟩;refine He IV (λ_ K=>K) (λl0 rk lJ wJ=>∃(Aj9:ah)(cj9:Nat),lJ=(12,.slice Aj9 ((RP m s r aJ).length) cj9)::l0/\Hp w S0 wJ (aQ qg 242 Aj9 cj9 (RP m s r aJ)::rk)) (λhns H9=>?_) ?_
 ·refine tZ 0 su 14 LA Y H9<|Db 3 s0 Y H9<|nJ 4 5 g1 0 lM s9 Y H9<|tZ 6 su 13 G6 Y H9<|Db 9 s0 Y H9<|nJ 10 11 g3 3 FN s7 Y H9<|O1 12 Y<|gU Y (apX _ (H9.o s1) (H9.a BN).any (H9.o s2) r.jw (by have:=BM m.aA (fq s aJ).bA; show(zy m.aA (fq s aJ).bA).length<=_; omega) (VB hrb.2 _ _ au) aj) ?_
  rintro _ w22 ⟨ae7,ae8,rfl,h22⟩;have GR:=H9.f1 h22;have azh:=(GR.o s0).bC;have k14:=(GR.rm s0);refine aO k14<|xL 13 Y Y k14<|Dn ⟨ae7,ae8,Y,GR⟩ Y
 rintro _ w23 ⟨Aj9,cj9,rfl,JU⟩;have H10:=JU.fz s3;have H11:=H10.fz s3;have H12:=H11.fz s2;have H13:=H12.push (H12.a BN);have H14:=H13.push (H13.a G8);have H15:=H14.nil bg 112;have H16:=H15.nil Ad 120;have hmay:l5 r=true/\kI m.aA=true:=hrb;have hbd:=oq hmay.1;have hpl:=Ed s aJ;have hsl:(EJ m s aJ).length=m.aA.length:=BM _ _;have hnl:(RP m s r aJ).length<=(EJ m s aJ).length:=aiy _ _ _ _;have hrl:=QB (x:=Dv m s r aJ) hbd.2.2.2.1.2 (RP m s r aJ) ((fq s aJ).bI,[]) (lI hpl.1 hl);have aDs:(tO m s r aJ).1.length<=64:=hrl.1;have hrl2:(tO m s r aJ).2.length<=64:=by have h2:=hrl.2; have h3:(tO m s r aJ).1.length<=64:=hrl.1; simp only [uE] at h2; show(qz (Dv m s r aJ) (RP m s r aJ) ((fq s aJ).bI,[])).2.length<=64; have h4:(qz (Dv m s r aJ) (RP m s r aJ) ((fq s aJ).bI,[])).1.length<=64:=hrl.1; omega
 have htl:(uy m s r aJ).length<=(EJ m s aJ).length:=G7 _ _ _ _ _ _ _;have hcl:=(kM.1 hmay.2).2.1;have hol:((tO m s r aJ).2++uy m s r aJ).length<=100000:=by rw [jG]; omega
 refine bQ Y<|mv Y<|gU Y (ava (os:=[]) (AO:=none) (cO:=0) ((((((((H16.sel s8).sel s1).sel s5).sel s6).sel s7).sel s6).mV 6 2).mV 8 3) aj aj av aj aj aj (acI hmay.2 _ au) (VB hmay.2 _ _ au) aj (azB hmay.2 s r aJ) aj aj) ?_
 rintro _ w24 ⟨rfl,Ag1,cg1,Ag2,cg2,pK⟩;refine dn<|bQ Y<|gU Y (amG (cs:=[]) ((pK.mV 4 5).mV 5 5) (lI aDs au) aj (lI hrl2 au) av aj aj aj (VB hmay.2 _ _ au) aj) ?_
 rintro _ w25 ⟨rfl,Ag3,cg3,Ag4,cg4,Ag5,cg5,Ea⟩;refine dn<|aY<|bQ Y<|ev (eX qj Y)<|ev (iM Y Y)<|mv Y<|iO 8 92 ((decide ((((RP m s r aJ).length:Nat):Int)=0))&&(decide (((((tO m s r aJ).1).length:Nat):Int)=0))) ?_ ?_
 ·cases aOn:decide ((((RP m s r aJ).length:Nat):Int)=0) with
  | true=>
   refine bE Y (bq Y) Y<|bE Y (d9 Y) Y<|gfy su 0 rG Y<|wB su 1 yG Ea s0 Y<|bE Y (eX oI Y) Y<|bE Y (iM Y Y) Y<|ev (dM Y Y)<|dJ Y
  | false=>
   refine dN<|dN<|dN<|dN<|dN<|dN<|dN<|ev (dS Y Y)<|dJ Y
 refine mv Y<|iO 8 101 (((decide ((((RP m s r aJ).length:Nat):Int)=0))&&(decide (((((tO m s r aJ).1).length:Nat):Int)=0)))&&(decide (((((fq s aJ).bA++uy m s r aJ).length:Nat):Int)=0))) ?_ ?_
 ·cases aIR:((decide ((((RP m s r aJ).length:Nat):Int)=0))&&(decide (((((tO m s r aJ).1).length:Nat):Int)=0))) with
  | true=>
   have aDv:=aIR
   try simp only [bK,eu,bM,bV] at aDv
   refine bE Y (bq Y) Y<|bE Y (d9 Y) Y<|gfy su 0 rG Y<|wB su 2 DN Ea s0 Y<|bE Y (eX lH Y) Y<|bE Y (iM Y Y) Y<|ev (dM Y Y)<|dJ Y
  | false=>
   refine dN<|dN<|dN<|dN<|dN<|dN<|dN<|ev (dS Y Y)<|dJ Y
 refine dn<|bP Y (λhc101=>?_) (λhc101=>?_)
 ·refine jC<|mv Y<|gU Y (au5 (((Ea.sel s4).sel s3).mV 2 7) (lI aDs au) hol aj aj aj (acI hmay.2 _ au) (VB hmay.2 _ _ au) aj) ?_
  rintro _ w26 ⟨rfl,Ae1,ce1,Af1,cf1,NK⟩;refine jD<|gy ?_
  refine He NK (λ_ K=>(K.rm s11)) (λl0 rk lJ wJ=>lJ=(9,.slice Af1 ((Qw (tO m s r aJ).1 ((tO m s r aJ).2++uy m s r aJ) m.aA (EJ m s aJ) m.aL (vK s r aJ) r.eZ r.l7 r.All (aJ+r.iD)).length) cf1)::(10,.slice Ag5 (((uy m s r aJ).map wG).length) cg5)::l0/\Hp w S0 wJ [dW g4 51 [.slice CQ (((fq s aJ).cZ).length) CS,.slice Ae1 ((Qv (tO m s r aJ).1 m.aA (EJ m s aJ) m.aL (vK s r aJ) r.eZ r.l7 r.All (aJ+r.iD)).length) ce1,.slice Ag3 (((fq s aJ).bA++uy m s r aJ).length) cg3],dW su 195 [.slice CQ (((fq s aJ).cZ).length) CS,.slice Ae1 ((Qv (tO m s r aJ).1 m.aA (EJ m s aJ) m.aL (vK s r aJ) r.eZ r.l7 r.All (aJ+r.iD)).length) ce1,.slice Ag3 (((fq s aJ).bA++uy m s r aJ).length) cg3,.slice vP m.aL.length vv,.slice uT m.aA.length ug,.slice sw m.aT.length rW,aI r.kY,aI r.l7,aI r.All,aI r.jw,aI r.iD,aI r.eZ,aI aJ,.slice Aj7 ((vK s r aJ).length) cj7,.slice Aj8 ((EJ m s aJ).length) cj8,.slice Af1 ((Qw (tO m s r aJ).1 ((tO m s r aJ).2++uy m s r aJ) m.aA (EJ m s aJ) m.aL (vK s r aJ) r.eZ r.l7 r.All (aJ+r.iD)).length) cf1,.slice Ag5 (((uy m s r aJ).map wG).length) cg5],aQ dz 117 Ae1 ce1 (Qv (tO m s r aJ).1 m.aA (EJ m s aJ) m.aL (vK s r aJ) r.eZ r.l7 r.All (aJ+r.iD)),aQ bg 112 Af1 cf1 (Qw (tO m s r aJ).1 ((tO m s r aJ).2++uy m s r aJ) m.aA (EJ m s aJ) m.aL (vK s r aJ) r.eZ r.l7 r.All (aJ+r.iD)),dH bW vP vv m.aL,dH bD uT ug m.aA,dH dQ Aj7 cj7 (vK s r aJ),dH bD Aj8 cj8 (EJ m s aJ),aQ bg 112 Ag3 cg3 ((fq s aJ).bA++uy m s r aJ),aQ Ad 120 Ag5 cg5 ((uy m s r aJ).map wG),dH qg Aj9 cj9 (RP m s r aJ),aQ iK 107 CQ CS ((fq s aJ).cZ),dW g3 23 [aI r.kY,aI r.l7,aI r.All,aI r.jw,aI r.iD,aI r.eZ],dW g2 51 [.slice ach s.cZ.length aci,.slice acj s.bI.length acn,.slice aco s.bA.length acp],dW g1 45 [.slice vP m.aL.length vv,.slice uT m.aA.length ug,.slice sw m.aT.length rW]]) (λhns H17=>?_) ?_
  ·have k15:=(H17.rm s11);refine tZ 0 su 0 rG Y k15<|l9 3 Y (λ_ hK=>KF (cs':=[.slice CQ (((fq s aJ).cZ).length) CS,.slice Ae1 ((Qv (tO m s r aJ).1 m.aA (EJ m s aJ) m.aL (vK s r aJ) r.eZ r.l7 r.All (aJ+r.iD)).length) ce1,.slice Ag3 (((fq s aJ).bA++uy m s r aJ).length) cg3]) JX Y Y (hK.x s0) Y) k15<|tZ 4 su 15 G5 Y k15<|Db 7 s0 Y k15<|tZ 8 su 16 Qz Y k15<|Db 11 s0 Y k15<|O1 12 Y<|sty Y H17 s11 Y λw27 Ou=>?_
   have k16:=(Ou.rm s0);refine aO k16<|xL 13 Y Y k16<|xL 14 Y Y k16<|Dn ⟨Y,Ou⟩ Y
  rintro _ w28 ⟨rfl,GU⟩;refine jf (sW Y ⟨_,_,Y,⟨_,Y,kK JX Y (GU.x s0)⟩,⟨_,_,Y,Y,⟨_,_,Y,Y,Y⟩⟩⟩ ?_);have aiF:rdB m r=true:=by unfold rdB; rw [hmay.1,hmay.2]; rfl
  have hrq:rdQ m s r aJ=true:=by unfold rdQ; first | exact hc101 | (simpa using hc101)
  have zX:((⟨(fq s aJ).cZ,(Qv (tO m s r aJ).1 m.aA (EJ m s aJ) m.aL (vK s r aJ) r.eZ r.l7 r.All (aJ+r.iD)),((fq s aJ).bA++uy m s r aJ)⟩:gG):gG)=(jr m s r aJ):=by unfold jr rdL; rw [aS aiF,aS hrq]
  have hq8:((fq s aJ).cZ:List eY)=((jr m s r aJ).cZ):=by rw [<- zX]
  have zG:((Qv (tO m s r aJ).1 m.aA (EJ m s aJ) m.aL (vK s r aJ) r.eZ r.l7 r.All (aJ+r.iD)):List bf)=((jr m s r aJ).bI):=by rw [<- zX]
  have vg:(((fq s aJ).bA++uy m s r aJ):List aK)=((jr m s r aJ).bA):=by rw [<- zX]
  have hq11:((Qw (tO m s r aJ).1 ((tO m s r aJ).2++uy m s r aJ) m.aA (EJ m s aJ) m.aL (vK s r aJ) r.eZ r.l7 r.All (aJ+r.iD)):List aK)=(qb m s r aJ):=by unfold qb rdO; rw [aS aiF,aS hrq]
  rw [hq11] at GU;have hq12:(((uy m s r aJ).map wG):List fH)=(mX m s r aJ):=by unfold mX; rw [aS aiF]
  rw [hq12] at GU;exact⟨CQ,CS,Ae1,ce1,Ag3,cg3,Af1,cf1,Ag5,cg5,by first | (rw [hq11,hq12,hq8,zG,vg] <;> rfl) | (rw [hq8,zG,vg,hq11,hq12] <;> rfl),by rw [<- hq8,<- zG,<- vg]; exact((((((((GU.cU 12 3).rm s10).cU 4 4).cU 0 2).sel s3).sel s2).mV 2 2).sel s4)⟩
 refine jy ?_;refine He Ea (λ_ K=>(K.rm s11)) (λl0 rk lJ wJ=>lJ=(9,.slice Ag4 (((tO m s r aJ).2++uy m s r aJ).length) cg4)::(10,.slice Ag5 (((uy m s r aJ).map wG).length) cg5)::l0/\Hp w S0 wJ [dW g4 51 [.slice CQ (((fq s aJ).cZ).length) CS,.slice Ag1 (((tO m s r aJ).1).length) cg1,.slice Ag3 (((fq s aJ).bA++uy m s r aJ).length) cg3],dW su 195 [.slice CQ (((fq s aJ).cZ).length) CS,.slice Ag1 (((tO m s r aJ).1).length) cg1,.slice Ag3 (((fq s aJ).bA++uy m s r aJ).length) cg3,.slice vP m.aL.length vv,.slice uT m.aA.length ug,.slice sw m.aT.length rW,aI r.kY,aI r.l7,aI r.All,aI r.jw,aI r.iD,aI r.eZ,aI aJ,.slice Aj7 ((vK s r aJ).length) cj7,.slice Aj8 ((EJ m s aJ).length) cj8,.slice Ag4 (((tO m s r aJ).2++uy m s r aJ).length) cg4,.slice Ag5 (((uy m s r aJ).map wG).length) cg5],aQ dz 117 Ag1 cg1 ((tO m s r aJ).1),aQ bg 112 Ag3 cg3 ((fq s aJ).bA++uy m s r aJ),aQ bg 112 Ag4 cg4 ((tO m s r aJ).2++uy m s r aJ),aQ Ad 120 Ag5 cg5 ((uy m s r aJ).map wG),dH bW vP vv m.aL,dH bD uT ug m.aA,dH dQ Aj7 cj7 (vK s r aJ),dH bD Aj8 cj8 (EJ m s aJ),dH qg Aj9 cj9 (RP m s r aJ),aQ iK 107 CQ CS ((fq s aJ).cZ),dW g3 23 [aI r.kY,aI r.l7,aI r.All,aI r.jw,aI r.iD,aI r.eZ],dW g2 51 [.slice ach s.cZ.length aci,.slice acj s.bI.length acn,.slice aco s.bA.length acp],dW g1 45 [.slice vP m.aL.length vv,.slice uT m.aA.length ug,.slice sw m.aT.length rW]]) (λhns H18=>?_) ?_
 ·have k17:=(H18.rm s11);refine tZ 0 su 0 rG Y k17<|l9 3 Y (λ_ hK=>KF (cs':=[.slice CQ (((fq s aJ).cZ).length) CS,.slice Ag1 (((tO m s r aJ).1).length) cg1,.slice Ag3 (((fq s aJ).bA++uy m s r aJ).length) cg3]) JX Y Y (hK.x s0) Y) k17<|tZ 4 su 15 G5 Y k17<|Db 7 s0 Y k17<|tZ 8 su 16 Qz Y k17<|Db 11 s0 Y k17<|O1 12 Y<|sty Y H18 s11 Y λw29 Ii=>?_
  have k18:=(Ii.rm s0);refine aO k18<|xL 13 Y Y k18<|xL 14 Y Y k18<|Dn ⟨Y,Ii⟩ Y
 rintro _ w30 ⟨rfl,Gz⟩;refine jf (sW Y ⟨_,_,Y,⟨_,Y,kK JX Y (Gz.x s0)⟩,⟨_,_,Y,Y,⟨_,_,Y,Y,Y⟩⟩⟩ ?_);have aiF:rdB m r=true:=by unfold rdB; rw [hmay.1,hmay.2]; rfl
 have hrq:rdQ m s r aJ=false:=by unfold rdQ; first | exact hc101 | (simpa using hc101)
 have aic:((⟨(fq s aJ).cZ,(tO m s r aJ).1,((fq s aJ).bA++uy m s r aJ)⟩:gG):gG)=(jr m s r aJ):=by unfold jr rdL; rw [aS aiF,aP (by rw [hrq]; decide)]
 have aie:((fq s aJ).cZ:List eY)=((jr m s r aJ).cZ):=by rw [<- aic]
 have apl:((tO m s r aJ).1:List bf)=((jr m s r aJ).bI):=by rw [<- aic]
 have apm:(((fq s aJ).bA++uy m s r aJ):List aK)=((jr m s r aJ).bA):=by rw [<- aic]
 have apn:(((tO m s r aJ).2++uy m s r aJ):List aK)=(qb m s r aJ):=by unfold qb rdO; rw [aS aiF,aP (by rw [hrq]; decide)]
 rw [apn] at Gz;have apo:(((uy m s r aJ).map wG):List fH)=(mX m s r aJ):=by unfold mX; rw [aS aiF]
 rw [apo] at Gz;exact⟨CQ,CS,Ag1,cg1,Ag3,cg3,Ag4,cg4,Ag5,cg5,by first | (rw [apn,apo,aie,apl,apm] <;> rfl) | (rw [aie,apl,apm,apn,apo] <;> rfl),by rw [<- aie,<- apl,<- apm]; exact(((((Gz.cU 12 3).cU 6 5).cU 0 2).mV 0 4).sel s4)⟩
end
end Go.Proofs.YtlhnnmlenkahlaaGreat
