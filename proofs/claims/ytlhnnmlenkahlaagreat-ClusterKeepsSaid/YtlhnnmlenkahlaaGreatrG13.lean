/- Lemmas. -/
import Derived.Test.YtlhnnmlenkahlaaGreatrG12
set_option maxRecDepth 4000
set_option linter.all false
namespace Go.Proofs.YtlhnnmlenkahlaaGreat
open Go.RowKit Go.Proofs.Tryz
def acP:=@List.flatMap_append
def Pj:=@underlying138
def acQ:=@underlying336
variable {ls:List bD}{ns:List aV}{ks dG M:List aH}{aG:List Int}{bW:Int}{x:aH}{S0:Nat->Prop}
def Pm(ks dG:List aH)(ns:List aV)(aG:List Int)(kr:Int):Bool:=moveB dG ns aG kr&&gY ks (iT dG ns aG kr).aC
def TT(ls:List bD)(ks dG:List aH)(ns:List aV)(aG:List Int)(kr dV all u:Int):List bD:=if Pm ks dG ns aG kr=true then BU ls dV all (aU ks (iT dG ns aG kr).aC) (iT dG ns aG kr).jM (iT dG ns aG kr).To u else ls
def Vg(ls:List bD)(os:List aM)(ks dG:List aH)(ns:List aV)(aG:List Int)(kr dV all u:Int):List aM:=if Pm ks dG ns aG kr=true then Df ls os dV all (aU ks (iT dG ns aG kr).aC) (iT dG ns aG kr).jM (iT dG ns aG kr).To u else os
theorem LV:eu prog 195 5 14:=ay
theorem Ho:eu prog 195 4 13:=ay
theorem Ya:eu prog 112 4 4:=ay
theorem azr:bF prog 244:=ay
abbrev VB(iD:List aH)(ji:List aV)(uS:List Int)(wV:Int):List Value:=[.agg #[aF ((iT iD ji uS wV).Kind),aF ((iT iD ji uS wV).aC),aF ((iT iD ji uS wV).aB),gK ((iT iD ji uS wV).Sum),aF ((iT iD ji uS wV).jM),aF ((iT iD ji uS wV).To),aF ((iT iD ji uS wV).jS)],.bool (moveB iD ji uS wV)]
abbrev mg(iD ji:List aH)(uS:List aV)(wV:List Int)(ES:Int):=aU iD ((iT ji uS wV ES).aC)
set_option maxHeartbeats 1000000 in
theorem au7{b w:World}{S:Nat->Prop}{F:List lH}{g:Nat}{v0 v2 v5 v6 v9 v16:Value}{AL:ah}{cL:Nat}{AO:ah}{cO:Nat}{os:List aM}{AN:ah}{cN:Nat}{AK:ah}{cK:Nat}{AV:ah}{cV:Nat}{AS:ah}{cS:Nat}{dV all eZ kr aN:Int}(H0:Hp b S w (dY g 195 [v0,.slice AL ls.length cL,v2,.slice AN ns.length cN,.slice AK ks.length cK,v5,v6,aF dV,aF all,v9,aF eZ,aF kr,aF aN,.slice AV aG.length cV,.slice AS dG.length cS,.slice AO os.length cO,v16]::aS dJ 117 AL cL ls::aS bG 112 AO cO os::dP cZ AN cN ns::dP bJ AK cK ks::dP dQ AV cV aG::dP bJ AS cS dG::F))(hl:ls.length<=100)(ho:os.length<=100000)(hn:ns.length<=1000)(hc:ks.length<=1000)(hs:dG.length<=1000)(hk:∀ x∈ks,x.aD.length<=100000)(hh:∀ x∈dG,x.aD.length<=100000)(hu:-1099511627776<=aN/\aN<=4398046511104/\-1099511627776<=eZ/\eZ<=1099511627776) :
    bS prog 157 #[gD g] w λv w'=>v=.tuple #[]/\∃ AL' cL' AO' cO',Hp b S w' (dY g 195 [v0,.slice AL' ((TT ls ks dG ns aG kr dV all (aN+eZ)).length) cL',v2,.slice AN ns.length cN,.slice AK ks.length cK,v5,v6,aF dV,aF all,v9,aF eZ,aF kr,aF aN,.slice AV aG.length cV,.slice AS dG.length cS,.slice AO' ((Vg ls os ks dG ns aG kr dV all (aN+eZ)).length) cO',v16]::aS dJ 117 AL' cL' (TT ls ks dG ns aG kr dV all (aN+eZ))::aS bG 112 AO' cO' (Vg ls os ks dG ns aG kr dV all (aN+eZ))::dP cZ AN cN ns::dP bJ AK cK ks::dP dQ AV cV aG::dP bJ AS cS dG::F):=by
 refine sV func157 ntmps157 Y<|He H0 (λ_ K=>K) (λl0 rk lJ wJ=>∃(tN:Nat),lJ=(2,gD tN)::(3,.bool (moveB dG ns aG kr))::l0/\Hp b S wJ (dY tN 112 [aF ((iT dG ns aG kr).Kind),aF ((iT dG ns aG kr).aC),aF ((iT dG ns aG kr).aB),gK ((iT dG ns aG kr).Sum),aF ((iT dG ns aG kr).jM),aF ((iT dG ns aG kr).To),aF ((iT dG ns aG kr).jS)]::rk)) (λhns H1=>?_) ?_
 ·refine uw 0 g 14 LV Y H1<|Ci 3 s0 Y H1<|uw 4 g 3 Ew Y H1<|ng 7 8 g 3 pY s0 Y H1<|uw 9 g 13 Ho Y H1<|Ci 12 s0 Y H1<|uw 13 g 6 BX Y H1<|Np 16 g 11 aku Y H1<|Ci 17 s0 Y H1<|Jn H1 (λl0 rk lJ wJ=>∃(g1:Nat),lJ=(2,gD g1)::(27,.bool (moveB dG ns aG kr))::l0/\Hp b S wJ (dY g1 112 [aF ((iT dG ns aG kr).Kind),aF ((iT dG ns aG kr).aC),aF ((iT dG ns aG kr).aB),gK ((iT dG ns aG kr).Sum),aF ((iT dG ns aG kr).jM),aF ((iT dG ns aG kr).To),aF ((iT dG ns aG kr).jS)]::rk)) 1 16777215 ?_ λhS1=>?_
  ·rintro _ w7 ⟨g1,rfl,K7⟩;have k5:=(K7.rm s0);refine xI 24 Y Y k5<|Dn ⟨g1,Y,K7⟩ Y
  refine O2 18 22 Y Y ?_ ?_
  ·refine mU H1 Y (akb _ (H1.s s6).any (H1.s s3).any (H1.s s5).any kr aj aj hh) λw8 K8=>aQ K8<|kX 19 Y Y K8<|zL 20 Y (vs:=(VB dG ns aG kr)) Y Y K8<|zL 21 Y (vs:=(VB dG ns aG kr)) Y Y K8<|O1 22 Y<|al BQ Y K8 λg3 w9 K9=>?_
   have k6:=(K9.rm s0);refine aQ k6<|O1 23 Y<|sty Y K9 s0 Y λOz K10=>?_
   have k7:=(K10.rm s0);exact Kj hS1 k7 ⟨g3,Y,K10⟩ Y
  ·refine al BQ Y H1 λg4 Ti tZ=>?_;have k8:=(tZ.rm s0);refine aQ k8<|O1 18 Y<|mU tZ Y (akb _ (tZ.s s7).any (tZ.s s4).any (tZ.s s6).any kr aj aj hh) λSm sJ=>?_
   have k9:=(sJ.rm s0);refine aQ k9<|kX 19 Y Y k9<|zL 20 Y (vs:=(VB dG ns aG kr)) Y Y k9<|zL 21 Y (vs:=(VB dG ns aG kr)) Y Y k9<|O1 23 Y<|sty Y sJ s0 Y λXu wz=>?_
   have k10:=(wz.rm s0);exact Kj hS1 k10 ⟨g4,Y,wz⟩ Y
 rintro _ Z0 ⟨tN,rfl,wB⟩;refine He wB (λ_ K=>K) (λl0 rk lJ wJ=>∃(gj2:Nat)(jR:ah)(jO:Nat),lJ=(4,gD gj2)::(5,.bool (gY ks ((iT dG ns aG kr).aC)))::l0/\Hp b S wJ (dY gj2 59 [aF ((mg ks dG ns aG kr).ID),aF ((mg ks dG ns aG kr).aB),gK ((mg ks dG ns aG kr).Sum),.slice jR (((mg ks dG ns aG kr).aD).length) jO]::dP dQ jR jO ((mg ks dG ns aG kr).aD)::rk)) (λhns H2=>?_) ?_
 ·refine uw 0 g 3 Ew Y H2<|ng 3 4 g 4 jE s1 Y H2<|ng 5 6 tN 1 sw s0 Y H2<|Jn H2 (λl0 rk lJ wJ=>∃(g5:Nat)(Jc:ah)(Jd:Nat),lJ=(4,gD g5)::(38,.bool (gY ks ((iT dG ns aG kr).aC)))::l0/\Hp b S wJ (dY g5 59 [aF ((mg ks dG ns aG kr).ID),aF ((mg ks dG ns aG kr).aB),gK ((mg ks dG ns aG kr).Sum),.slice Jc (((mg ks dG ns aG kr).aD).length) Jd]::dP dQ Jc Jd ((mg ks dG ns aG kr).aD)::rk)) 1 8191 ?_ λhS2=>?_
  ·rintro _ w21 ⟨g5,Jc,Jd,rfl,FH⟩;have k16:=(FH.cU 0 2);refine xI 13 Y Y k16<|Dn ⟨g5,Jc,Jd,Y,FH⟩ Y
  refine O2 7 11 Y Y ?_ ?_
  ·refine gX Y (find_ok _ (H2.s s5) ((iT dG ns aG kr).aC) aj hk) ?_;rintro _ w22 ⟨zV,zW,rfl,h22⟩;have EU:=H2.c1 h22;have k17:=(EU.rm s0);refine aQ k17<|kX 8 Y Y k17<|zL 9 Y (vs:=[.agg #[aF ((mg ks dG ns aG kr).ID),aF ((mg ks dG ns aG kr).aB),gK ((mg ks dG ns aG kr).Sum),.slice zV (((mg ks dG ns aG kr).aD).length) zW],.bool (gY ks ((iT dG ns aG kr).aC))]) Y Y k17<|zL 10 Y (vs:=[.agg #[aF ((mg ks dG ns aG kr).ID),aF ((mg ks dG ns aG kr).aB),gK ((mg ks dG ns aG kr).Sum),.slice zV (((mg ks dG ns aG kr).aD).length) zW],.bool (gY ks ((iT dG ns aG kr).aC))]) Y Y k17<|O1 11 Y<|al lU Y EU λg7 w23 KA=>?_
   have k18:=(KA.cU 0 2);refine aQ k18<|O1 12 Y<|sty Y KA s0 Y λw24 qB=>?_
   have k19:=(qB.cU 0 2);exact Kj hS2 k19 ⟨g7,zV,zW,Y,qB⟩ Y
  ·refine al lU Y H2 λg8 w25 FI=>?_;have k20:=(FI.rm s0);refine aQ k20<|O1 7 Y<|gX Y (find_ok _ (FI.s s6) ((iT dG ns aG kr).aC) aj hk) ?_
   rintro _ w26 ⟨Je,Jg,rfl,h26⟩;have Nw:=FI.c1 h26;have k21:=(Nw.cU 0 2);refine aQ k21<|kX 8 Y Y k21<|zL 9 Y (vs:=[.agg #[aF ((mg ks dG ns aG kr).ID),aF ((mg ks dG ns aG kr).aB),gK ((mg ks dG ns aG kr).Sum),.slice Je (((mg ks dG ns aG kr).aD).length) Jg],.bool (gY ks ((iT dG ns aG kr).aC))]) Y Y k21<|zL 10 Y (vs:=[.agg #[aF ((mg ks dG ns aG kr).ID),aF ((mg ks dG ns aG kr).aB),gK ((mg ks dG ns aG kr).Sum),.slice Je (((mg ks dG ns aG kr).aD).length) Jg],.bool (gY ks ((iT dG ns aG kr).aC))]) Y Y k21<|O1 12 Y<|sty Y Nw s1 Y λw27 OB=>?_
   have k22:=(OB.cU 0 2);exact Kj hS2 k22 ⟨g8,Je,Jg,Y,OB⟩ Y
 rintro _ w28 ⟨gj2,jR,jO,rfl,FJ⟩;refine bQ Y<|mv Y<|iP 2 42 ((moveB dG ns aG kr)&&(gY ks ((iT dG ns aG kr).aC))) ?_ ?_
 ·cases amU:(moveB dG ns aG kr) with
  | true=>
   refine bn Y (bf Y) Y<|ev (dH Y Y)<|dM Y
  | false=>
   refine dN<|ev (dL Y Y)<|dM Y
 refine dn<|bK Y (λCB=>?_) (λCB=>?_)
 ·refine jy<|mv Y<|ev (dU qw Y Y (FJ.x s0))<|jT tN 4 Ya FJ s2 Y<|jT tN 5 xX FJ s2 Y<|gX Y (X9 ((FJ.mV 0 3).mV 3 3) (mg ks dG ns aG kr) ((iT dG ns aG kr).jM) ((iT dG ns aG kr).To) aj aj aj) ?_
  rintro _ w29 ⟨rfl,Ae1,ce1,Af1,cf1,Lx⟩;refine jA<|rU (zA Y ?_)
  have H3:=(Lx.cU 3 3);exact⟨Y,_,_,_,_,by unfold TT Vg; first | (rw [aO (show Pm ks dG ns aG kr=true from CB),aO (show Pm ks dG ns aG kr=true from CB)]; exact H3) | (rw [aK (show ¬ Pm ks dG ns aG kr=true by rw [show Pm ks dG ns aG kr=false from CB]; decide),aK (show ¬ Pm ks dG ns aG kr=true by rw [show Pm ks dG ns aG kr=false from CB]; decide)]; exact H3)⟩
 refine ze (rU (zA Y ?_));have H4:=(FJ.cU 0 3);exact⟨Y,_,_,_,_,by unfold TT Vg; first | (rw [aO (show Pm ks dG ns aG kr=true from CB),aO (show Pm ks dG ns aG kr=true from CB)]; exact H4) | (rw [aK (show ¬ Pm ks dG ns aG kr=true by rw [show Pm ks dG ns aG kr=false from CB]; decide),aK (show ¬ Pm ks dG ns aG kr=true by rw [show Pm ks dG ns aG kr=false from CB]; decide)]; exact H4)⟩
def Yb(c:aH)(id u:Int):aM:=⟨1,c.ID,c.aB,c.Sum,id,id,u⟩
def wC(o:aM):fV:=⟨0,0,6,o.aC,o.jM,0⟩
def trE(ls:List bD)(ks:List aH)(ns:List aV)(aG:List Int)(bW:Int)(c:aH):Int × Bool:=Ve c ns aG (jZ ks ns ls) bW
def QX(ls:List bD)(ks:List aH)(ns:List aV)(aG:List Int)(bW u:Int)(c:aH):List aM:=if 0<(jX ls c.ID).length then[] else if(trE ls ks ns aG bW c).2=true then[Yb c (trE ls ks ns aG bW c).1 u] else[]
def xY(ls:List bD)(ks:List aH)(ns:List aV)(aG:List Int)(bW u:Int)(M:List aH):List aM:=M.flatMap (QX ls ks ns aG bW u)
theorem aa1{u:Int}{k:Nat}(hx:M[k]? = some x):xY ls ks ns aG bW u (M.take (k+1))=xY ls ks ns aG bW u (M.take k)++QX ls ks ns aG bW u x:=by
  unfold xY; rw [fD hx,acP]; simp
theorem LW(ls:List bD)(ks:List aH)(ns:List aV)(aG:List Int)(bW u:Int):∀ M:List aH,(xY ls ks ns aG bW u M).length<=M.length
  | []=>kV _
  | c::M=>by
    have ih:=LW ls ks ns aG bW u M;have h1:(QX ls ks ns aG bW u c).length<=1:=by unfold QX; split; simp; split <;> simp
    show(QX ls ks ns aG bW u c++xY ls ks ns aG bW u M).length<=_;rw [jd,pF]; omega
theorem akx{u:Int}{k:Nat}(hx:M[k]? = some x)(h:0<(jX ls x.ID).length∨(trE ls ks ns aG bW x).2=false):xY ls ks ns aG bW u (M.take (k+1))=xY ls ks ns aG bW u (M.take k):=by
  rw [aa1 hx]; unfold QX
  rcases h with h | h
  · rw [aO h,yN]
  · rw [h]; simp
theorem aqx{u:Int}{k:Nat}(hx:M[k]? = some x)(h:¬ 0<(jX ls x.ID).length)(h2:(trE ls ks ns aG bW x).2=true):xY ls ks ns aG bW u (M.take (k+1))=xY ls ks ns aG bW u (M.take k)++[Yb x (trE ls ks ns aG bW x).1 u]:=by
  rw [aa1 hx]; unfold QX; rw [aK h,aO h2]
theorem QY:eu prog 195 7 16:=ay
theorem yE(a0:Int)(a1:Int)(a2:Int):prog.built 120 [(2,aF a0),(3,aF a1),(4,aF a2)]=some #[aF 0,aF 0,aF a0,aF a1,aF a2,aF 0]:=ak
theorem yF(a0:Int)(a1:Int)(a2:Int)(a3:Int)(a4:Int)(a5:Int):∀ w,(Instr.buildSlice 138 1 (List.toArray [(0,.agg #[aF a0,aF a1,aF a2,aF a3,aF a4,aF a5])])).run prog w=.ok (.slice (some ⟨w.heap.size,0,none⟩) 1 1) (w.alloc (.cells (List.toArray [aF a0,aF a1,aF a2,aF a3,aF a4,aF a5]) 120)):=ay
theorem ai2:lW prog 120 6 48:=by
  obtain⟨i,h1,h2,h3,h4⟩:=tX (show(prog.info? 120).map (λi=>(i.zero,i.size,i.bytes))=some (some (.agg #[aF 0,aF 0,aF 0,aF 0,aF 0,aF 0]),6,48) by kernel_rfl);exact⟨i,_,h1,h2,h3,h4,Y⟩
set_option maxHeartbeats 2000000 in
theorem anc{b w:World}{S:Nat->Prop}{F:List lH}{g:Nat}{v0 v5 v6 v7 v8 v11:Value}{AL:ah}{cL:Nat}{AD:ah}{cD:Nat}{ds:List aM}{AO:ah}{cO:Nat}{os:List aM}{AC:ah}{cC:Nat}{cs:List fV}{AN:ah}{cN:Nat}{AK:ah}{cK:Nat}{AV:ah}{cV:Nat}{AS:ah}{cS:Nat}{eZ aN:Int}(H0:Hp b S w (dY g 195 [v0,.slice AL ls.length cL,.slice AD ds.length cD,.slice AN ns.length cN,.slice AK ks.length cK,v5,v6,v7,v8,aF bW,aF eZ,v11,aF aN,.slice AV aG.length cV,.slice AS dG.length cS,.slice AO os.length cO,.slice AC cs.length cC]::aS dJ 117 AL cL ls::aS bG 112 AD cD ds::aS bG 112 AO cO os::aS AY 120 AC cC cs::dP cZ AN cN ns::dP bJ AK cK ks::dP dQ AV cV aG::dP bJ AS cS dG::F))(hl:ls.length<=100)(hd:ds.length<=100000)(ho:os.length<=100000)(hq:cs.length<=1000)(hn:ns.length<=1000)(hc:ks.length<=1000)(hs:dG.length<=1000)(hh:∀ x∈dG,x.aD.length<=100000)(hu:-1099511627776<=aN/\aN<=4398046511104/\-1099511627776<=eZ/\eZ<=1099511627776) :
    bS prog 156 #[gD g] w λv w'=>v=.tuple #[]/\∃ AD' cD' AO' cO' AC' cC',Hp b S w' (dY g 195 [v0,.slice AL ls.length cL,.slice AD' ((ds++(xY ls ks ns aG bW (aN+eZ) dG)).length) cD',.slice AN ns.length cN,.slice AK ks.length cK,v5,v6,v7,v8,aF bW,aF eZ,v11,aF aN,.slice AV aG.length cV,.slice AS dG.length cS,.slice AO' ((os++(xY ls ks ns aG bW (aN+eZ) dG)).length) cO',.slice AC' ((cs++(xY ls ks ns aG bW (aN+eZ) dG).map wC).length) cC']::aS dJ 117 AL cL ls::aS bG 112 AD' cD' (ds++(xY ls ks ns aG bW (aN+eZ) dG))::aS bG 112 AO' cO' (os++(xY ls ks ns aG bW (aN+eZ) dG))::aS AY 120 AC' cC' (cs++(xY ls ks ns aG bW (aN+eZ) dG).map wC)::dP cZ AN cN ns::dP bJ AK cK ks::dP dQ AV cV aG::dP bJ AS cS dG::F):=by
 refine sV func156 ntmps156 Y<|bQ Y<|ev (eX Y)<|jT g 14 LV H0 s0 Y<|ev (eU iN Y)<|mv Y<|dn<|cB ?_
 have eO:(ds:List aM)=(ds++(xY ls ks ns aG bW (aN+eZ) (dG.take 0))):=by rw [List.take_zero]; exact(yN _).symm
 rw [eO] at H0;have fQ:(os:List aM)=(os++(xY ls ks ns aG bW (aN+eZ) (dG.take 0))):=by rw [List.take_zero]; exact(yN _).symm
 rw [fQ] at H0;have jW:(cs:List fV)=(cs++(xY ls ks ns aG bW (aN+eZ) (dG.take 0)).map wC):=by rw [List.take_zero]; exact(yN _).symm
 rw [jW] at H0;refine pK (λmJ lJ wJ=>∃(k:Nat)(A2:ah)(c2:Nat)(VD:ah)(c15:Nat)(A16:ah)(c16:Nat),lJ=[(0,gD g),(10,.slice AS dG.length cS),(11,aF ((dG.length:Nat):Int)),(12,aF ((k:Nat):Int))]/\mJ=dG.length - k/\k<=dG.length/\Hp b S wJ (aS bG 112 A2 c2 (ds++(xY ls ks ns aG bW (aN+eZ) (dG.take k)))::aS bG 112 VD c15 (os++(xY ls ks ns aG bW (aN+eZ) (dG.take k)))::aS AY 120 A16 c16 (cs++(xY ls ks ns aG bW (aN+eZ) (dG.take k)).map wC)::dY g 195 [v0,.slice AL ls.length cL,.slice A2 ((ds++(xY ls ks ns aG bW (aN+eZ) (dG.take k))).length) c2,.slice AN ns.length cN,.slice AK ks.length cK,v5,v6,v7,v8,aF bW,aF eZ,v11,aF aN,.slice AV aG.length cV,.slice AS dG.length cS,.slice VD ((os++(xY ls ks ns aG bW (aN+eZ) (dG.take k))).length) c15,.slice A16 ((cs++(xY ls ks ns aG bW (aN+eZ) (dG.take k)).map wC).length) c16]::aS dJ 117 AL cL ls::dP cZ AN cN ns::dP bJ AK cK ks::dP dQ AV cV aG::dP bJ AS cS dG::F)) ⟨0,AD,cD,AO,cO,AC,cC,Y,Y,fJ _,((H0.mV 0 2).mV 2 3)⟩ Y ?_;rintro _ _ w1 ⟨k,A2,c2,VD,c15,A16,c16,rfl,rfl,hk,K1⟩;refine rg<|ev (fC Y Y)<|dn<|pQ Y (λaHi=>?_) (λaHi=>?_)
 ·refine jm ?_;refine aW<|cB ?_
  obtain⟨x1,bP⟩:=bC (xs:=dG) (i:=k) aj;have hhx:=hh _ (bT bP);have htl:=LW ls ks ns aG bW (aN+eZ) (dG.take k)
  simp only [fO] at htl
  obtain⟨T,hT⟩:∃ y,xY ls ks ns aG bW (aN+eZ) (dG.take k)=y:=⟨_,rfl⟩;obtain⟨E,hE⟩:∃ y,Ve x1 ns aG (jZ ks ns ls) bW=y:=⟨_,rfl⟩;rw [hT] at K1 htl;refine rg<|ev (cu (i:=k) iN o9 Y Y Y (aJ bP) ((K1.s s8).some_ bP)) ?_
  obtain⟨B1,d1,zP,hi1⟩:=uP (K1.is s8 bP);have H1:=K1.push hi1;refine ev (gI (cs:=[aF x1.ID,aF x1.aB,gK x1.Sum,.slice B1 x1.aD.length d1]) qw Y Y (GV zP))<|al lU Y H1 λg1 w2 K2=>sty Y K2 s0 Y λw3 K3=>dn<|aW<|bQ Y<|jT g1 0 pq K3 s0 Y<|gX Y (TS ((K3.mV 0 5).mV 5 2) aj x1.ID) ?_
  rintro _ w4 ⟨Oj,Ol,rfl,K4⟩;refine ev (eU fB Y)<|ev (pV Y Y)<|dn<|mQ Y (λhc21=>?_) (λhc21=>?_)
  ·refine qJ (lu (rE (gG ?_)));refine jy<|ev (dO Y Y)<|mv Y<|jA ?_
   have hT2:xY ls ks ns aG bW (aN+eZ) (dG.take (k+1))=T:=(akx bP (.inl aj)).trans hT;exact dI ⟨(k+1),A2,c2,VD,c15,A16,c16,Y,Y,aj,by rw [hT2]; exact((((K4.cU 3 2).rm s0).mV 0 2).mV 2 3)⟩ rfl aj
  refine jm ?_;refine He K4 (λ_ K=>K) (λl0 rk lJ wJ=>lJ=(4,aF (E.1))::(5,.bool (E.2))::l0/\Hp b S wJ rk) (λhns H2=>?_) ?_
  ·refine lD 0 Y (λ_ hK=>dU qw Y Y (hK.x s3)) H2<|uw 1 g 3 Ew Y H2<|ng 4 5 g 3 pY s1 Y H2<|uw 6 g 13 Ho Y H2<|Ci 9 s1 Y H2<|kX 10 Y Y H2<|uw 12 g 6 BX Y H2<|ng 15 16 g 9 QV s1 Y H2<|O1 11 Y<|gX Y (aa0 (((H2.mV 3 5).sel s5).mV 6 4) aj aj aj) ?_
   rintro _ w5 ⟨Ad1,cd1,rfl,K5⟩;have k1:=(((((K5.rm s0).mV 2 2).mV 5 5).mV 7 2).sel s9);have hx9:=aiO _ x1 (K5.s s7).any (K5.s s3).any (K5.s s11).any (K5.o s0) bW hhx aj;rw [hE] at hx9;refine aQ k1<|O1 17 Y<|mU K5 Y hx9 λw6 K6=>?_
   have k2:=(((((K6.rm s0).mV 2 2).mV 5 5).mV 7 2).sel s9);refine aQ k2<|kX 18 Y Y k2<|zL 19 Y (vs:=[aF (E.1),.bool (E.2)]) Y Y k2<|zL 20 Y (vs:=[aF (E.1),.bool (E.2)]) Y Y k2<|xI 21 Y Y k2<|xI 22 Y Y k2<|Dn ⟨Y,(((((K6.rm s0).mV 2 2).mV 5 5).mV 7 2).sel s9)⟩ Y
  rintro _ w7 ⟨rfl,K7⟩;refine aW<|bQ Y<|ev (iB Y)<|dn<|bK Y (λXU=>?_) (λXU=>?_)
  ·try simp only [fq,dX,bN,eH,eG,fP,bO,bV] at XU
   refine qJ (lu (rE (gG ?_)));refine jy<|ev (dO Y Y)<|mv Y<|jA ?_
   have hT2:xY ls ks ns aG bW (aN+eZ) (dG.take (k+1))=T:=(akx bP (.inr (by simpa [trE,hE] using XU))).trans hT;exact dI ⟨(k+1),A2,c2,VD,c15,A16,c16,Y,Y,aj,by rw [hT2]; exact((((K7.cU 3 2).rm s0).mV 0 2).mV 2 3)⟩ rfl aj
  try simp only [fq,dX,bN,eH,eG,fP,bO,bV] at XU
  refine jm ?_;refine He K7 (λ_ K=>K) (λl0 rk lJ wJ=>∃(tN:Nat),lJ=(6,gD tN)::l0/\Hp b S wJ (dY tN 112 [aF 1,aF x1.ID,aF x1.aB,gK x1.Sum,aF (E.1),aF (E.1),aF (aN+eZ)]::rk)) (λhns H3=>?_) ?_
  ·refine ng 0 1 g1 0 pq s3 Y H3<|ng 2 3 g1 1 tH s3 Y H3<|ng 4 5 g1 2 IE s3 Y H3<|kX 6 Y Y H3<|kX 7 Y Y H3<|uw 8 g 12 afM Y H3<|Ci 11 s1 Y H3<|uw 12 g 6 BX Y H3<|ng 15 16 g 10 Vz s1 Y H3<|lD 17 Y (λ_ _=>dO Y Y) H3<|lD 18 Y (λ_ _=>iY (vs:=[(0,aF 1),(1,aF x1.ID),(2,aF x1.aB),(3,gK x1.Sum),(4,aF (E.1)),(5,aF (E.1)),(6,aF (aN+eZ))]) (cs:=[aF 1,aF x1.ID,aF x1.aB,gK x1.Sum,aF (E.1),aF (E.1),aF (aN+eZ)]) Y (by apply nU)) H3<|O1 19 rfl<|al BQ rfl H3 λg2 w8 K8=>?_
   have k3:=(K8.rm s0);refine aQ k3<|O1 20 Y<|sty Y K8 s0 Y λw9 K9=>?_
   have k4:=(K9.rm s0);refine aQ k4<|Dn ⟨g2,Y,K9⟩ Y
  rintro _ Oz ⟨tN,rfl,K10⟩;refine He K10 (λ_ K=>((K.cU 6 2).rm s2)) (λl0 rk lJ wJ=>∃(ql:ah)(cj2:Nat)(wF:ah)(vM:Nat),lJ=l0/\Hp b S wJ (dY g 195 [v0,.slice AL ls.length cL,.slice ql (((ds++T)++([(⟨1,x1.ID,x1.aB,x1.Sum,E.1,E.1,aN+eZ⟩:aM)]:List aM)).length) cj2,.slice AN ns.length cN,.slice AK ks.length cK,v5,v6,v7,v8,aF bW,aF eZ,v11,aF aN,.slice AV aG.length cV,.slice AS dG.length cS,.slice wF (((os++T)++([(⟨1,x1.ID,x1.aB,x1.Sum,E.1,E.1,aN+eZ⟩:aM)]:List aM)).length) vM,.slice A16 ((cs++T.map wC).length) c16]::aS bG 112 ql cj2 ((ds++T)++([(⟨1,x1.ID,x1.aB,x1.Sum,E.1,E.1,aN+eZ⟩:aM)]:List aM))::aS bG 112 wF vM ((os++T)++([(⟨1,x1.ID,x1.aB,x1.Sum,E.1,E.1,aN+eZ⟩:aM)]:List aM))::rk)) (λhns H4=>?_) ?_
  ·have k5:=((H4.cU 6 2).rm s2);refine kX 0 Y Y k5<|kX 1 Y Y k5<|uw 2 g 15 Hl Y k5<|lD 6 Y (λ_ hK=>dU wu Y Y (hK.x s0)) k5<|uw 9 g 0 sF Y k5<|Np 12 g 2 yD Y k5<|lD 14 Y (λ_ hK=>dU wu Y Y (hK.x s0)) k5<|Jn (H4.rm s7) (λl0 rk lJ wJ=>∃(g4:Nat)(oL:ah)(oM g3:Nat),lJ=(72,.slice oL (((os++T)++([(⟨1,x1.ID,x1.aB,x1.Sum,E.1,E.1,aN+eZ⟩:aM)]:List aM)).length) oM)::(77,.slice A2 ((ds++T).length) c2)::(79,.slice (some ⟨g4,0,none⟩) (([(⟨1,x1.ID,x1.aB,x1.Sum,E.1,E.1,aN+eZ⟩:aM)]:List aM).length) 1)::l0/\Hp b S wJ (aS bG 112 (some ⟨g4,0,none⟩) 1 ([(⟨1,x1.ID,x1.aB,x1.Sum,E.1,E.1,aN+eZ⟩:aM)]:List aM)::aS bG 112 oL oM ((os++T)++([(⟨1,x1.ID,x1.aB,x1.Sum,E.1,E.1,aN+eZ⟩:aM)]:List aM))::aS bG 112 (some ⟨g3,0,none⟩) 1 ([(⟨1,x1.ID,x1.aB,x1.Sum,E.1,E.1,aN+eZ⟩:aM)]:List aM)::rk)) 8 65535 ?_ λhS1=>?_
   ·rintro _ w36 ⟨g4,oL,oM,g3,rfl,Zl⟩;refine O1 16 Y<|ap (ys:=([(⟨1,x1.ID,x1.aB,x1.Sum,E.1,E.1,aN+eZ⟩:aM)]:List aM)) Zl s9 Y Y (Zl.o s0) kY Eu (by simp only [jd,jY]; omega) av rfl λAp6 cp6 w37 K37=>?_
    have k22:=((K37.rm s6).cU 0 4);refine aQ k22<|SX 17 g 15 Hl Y k22<|O1 19 Y<|xP Y K37 s6 Y λw38 K38=>?_
    have k23:=(K38.cU 0 5);refine aQ k23<|SX 20 g 0 sF Y k23<|Np 22 g 2 yD Y k23<|O1 23 Y<|xP Y K38 s0 Y λw39 K39=>?_
    have k24:=(K39.cU 0 5);refine aQ k24<|Dn ⟨Ap6,cp6,oL,oM,Y,((K39.rm s4).rm s2)⟩ Y
   refine Jn (H4.rm s7) (λl0 rk lJ wJ=>∃(oL:ah)(oM g3:Nat),lJ=(72,.slice oL (((os++T)++([(⟨1,x1.ID,x1.aB,x1.Sum,E.1,E.1,aN+eZ⟩:aM)]:List aM)).length) oM)::(77,.slice A2 ((ds++T).length) c2)::l0/\Hp b S wJ (aS bG 112 oL oM ((os++T)++([(⟨1,x1.ID,x1.aB,x1.Sum,E.1,E.1,aN+eZ⟩:aM)]:List aM))::aS bG 112 (some ⟨g3,0,none⟩) 1 ([(⟨1,x1.ID,x1.aB,x1.Sum,E.1,E.1,aN+eZ⟩:aM)]:List aM)::rk)) 9 32767 ?_ λhS2=>?_
   ·rintro _ w40 ⟨oL,oM,g3,rfl,K40⟩;refine O1 15 Y<|Az (τ:=bG) (x:=(⟨1,x1.ID,x1.aB,x1.Sum,E.1,E.1,aN+eZ⟩:aM)) Y (by intro _; apply gu) rfl K40 (λ_ _=>rfl) λg21 w41 K41=>?_
    have k25:=(((K41.rm s9).rm s5).cU 0 3);exact Kj hS1 k25 ⟨g21,oL,oM,g3,Y,K41⟩ Y
   refine Jn (H4.rm s7) (λl0 rk lJ wJ=>∃(g5:Nat)(oL:ah)(oM g3:Nat),lJ=(72,.slice oL (((os++T)++([(⟨1,x1.ID,x1.aB,x1.Sum,E.1,E.1,aN+eZ⟩:aM)]:List aM)).length) oM)::(79,.slice (some ⟨g5,0,none⟩) (([(⟨1,x1.ID,x1.aB,x1.Sum,E.1,E.1,aN+eZ⟩:aM)]:List aM).length) 1)::l0/\Hp b S wJ (aS bG 112 (some ⟨g5,0,none⟩) 1 ([(⟨1,x1.ID,x1.aB,x1.Sum,E.1,E.1,aN+eZ⟩:aM)]:List aM)::aS bG 112 oL oM ((os++T)++([(⟨1,x1.ID,x1.aB,x1.Sum,E.1,E.1,aN+eZ⟩:aM)]:List aM))::aS bG 112 (some ⟨g3,0,none⟩) 1 ([(⟨1,x1.ID,x1.aB,x1.Sum,E.1,E.1,aN+eZ⟩:aM)]:List aM)::rk)) 9 57343 ?_ λhS3=>?_
   ·rintro _ w42 ⟨g5,oL,oM,g3,rfl,K42⟩;refine O1 13 Y<|nO K42 s5 Y ?_
    have k26:=(((K42.rm s9).rm s5).cU 0 3);exact Kj hS1 k26 ⟨g5,oL,oM,g3,Y,K42⟩ Y
   refine Jn H4 (λl0 rk lJ wJ=>∃(g6 g3:Nat),lJ=(69,.slice VD ((os++T).length) c15)::(71,.slice (some ⟨g3,0,none⟩) (([(⟨1,x1.ID,x1.aB,x1.Sum,E.1,E.1,aN+eZ⟩:aM)]:List aM).length) 1)::(77,.slice A2 ((ds++T).length) c2)::(79,.slice (some ⟨g6,0,none⟩) (([(⟨1,x1.ID,x1.aB,x1.Sum,E.1,E.1,aN+eZ⟩:aM)]:List aM).length) 1)::l0/\Hp b S wJ (aS bG 112 (some ⟨g6,0,none⟩) 1 ([(⟨1,x1.ID,x1.aB,x1.Sum,E.1,E.1,aN+eZ⟩:aM)]:List aM)::aS bG 112 (some ⟨g3,0,none⟩) 1 ([(⟨1,x1.ID,x1.aB,x1.Sum,E.1,E.1,aN+eZ⟩:aM)]:List aM)::rk)) 9 65279 ?_ λhS4=>?_
   ·rintro _ w43 ⟨g6,g3,rfl,K43⟩;refine O1 8 Y<|ap (ys:=([(⟨1,x1.ID,x1.aB,x1.Sum,E.1,E.1,aN+eZ⟩:aM)]:List aM)) K43 s9 Y Y (K43.o s1) kY Eu (by simp only [jd,jY]; omega) av rfl λAp7 cp7 w44 K44=>?_
    have k27:=(((K44.rm s9).rm s5).cU 0 3);exact Kj hS1 k27 ⟨g6,Ap7,cp7,g3,Y,((K44.sel s0).sel s1)⟩ Y
   refine Jn H4 (λl0 rk lJ wJ=>∃(g3:Nat),lJ=(69,.slice VD ((os++T).length) c15)::(71,.slice (some ⟨g3,0,none⟩) (([(⟨1,x1.ID,x1.aB,x1.Sum,E.1,E.1,aN+eZ⟩:aM)]:List aM).length) 1)::(77,.slice A2 ((ds++T).length) c2)::l0/\Hp b S wJ (aS bG 112 (some ⟨g3,0,none⟩) 1 ([(⟨1,x1.ID,x1.aB,x1.Sum,E.1,E.1,aN+eZ⟩:aM)]:List aM)::rk)) 10 32511 ?_ λhS5=>?_
   ·rintro _ w45 ⟨g3,rfl,K45⟩;refine O2 8 15 Y Y ?_ ?_
    ·refine ap (ys:=([(⟨1,x1.ID,x1.aB,x1.Sum,E.1,E.1,aN+eZ⟩:aM)]:List aM)) K45 s8 Y Y (K45.o s0) kY Eu (by simp only [jd,jY]; omega) av rfl λAp8 cp8 w46 K46=>?_;have k28:=(((K46.rm s8).rm s4).cU 0 2);exact Kj hS2 k28 ⟨Ap8,cp8,g3,Y,K46⟩ Y
    ·refine Az (τ:=bG) (x:=(⟨1,x1.ID,x1.aB,x1.Sum,E.1,E.1,aN+eZ⟩:aM)) Y (by intro _; apply gu) rfl K45 (λ_ _=>rfl) λg22 w47 K47=>?_;have k29:=(((K47.cU 8 2).rm s4).cU 0 2);exact Kj hS4 k29 ⟨g22,g3,Y,K47⟩ Y
   refine Jn H4 (λl0 rk lJ wJ=>∃(g7 g3:Nat),lJ=(69,.slice VD ((os++T).length) c15)::(71,.slice (some ⟨g3,0,none⟩) (([(⟨1,x1.ID,x1.aB,x1.Sum,E.1,E.1,aN+eZ⟩:aM)]:List aM).length) 1)::(79,.slice (some ⟨g7,0,none⟩) (([(⟨1,x1.ID,x1.aB,x1.Sum,E.1,E.1,aN+eZ⟩:aM)]:List aM).length) 1)::l0/\Hp b S wJ (aS bG 112 (some ⟨g7,0,none⟩) 1 ([(⟨1,x1.ID,x1.aB,x1.Sum,E.1,E.1,aN+eZ⟩:aM)]:List aM)::aS bG 112 (some ⟨g3,0,none⟩) 1 ([(⟨1,x1.ID,x1.aB,x1.Sum,E.1,E.1,aN+eZ⟩:aM)]:List aM)::rk)) 10 57087 ?_ λhS6=>?_
   ·rintro _ w48 ⟨g7,g3,rfl,K48⟩;refine O2 8 13 Y Y ?_ ?_
    ·refine ap (ys:=([(⟨1,x1.ID,x1.aB,x1.Sum,E.1,E.1,aN+eZ⟩:aM)]:List aM)) K48 s9 Y Y (K48.o s1) kY Eu (by simp only [jd,jY]; omega) av rfl λAp9 cp9 w49 K49=>?_;have k30:=(((K49.rm s9).rm s5).cU 0 3);exact Kj hS3 k30 ⟨g7,Ap9,cp9,g3,Y,((K49.sel s0).sel s1)⟩ Y
    ·refine nO K48 s4 Y ?_;have k31:=(((K48.cU 8 2).rm s4).cU 0 2);exact Kj hS4 k31 ⟨g7,g3,Y,K48⟩ Y
   refine Jn H4 (λl0 rk lJ wJ=>∃(g9:Nat),lJ=(69,.slice VD ((os++T).length) c15)::(77,.slice A2 ((ds++T).length) c2)::(79,.slice (some ⟨g9,0,none⟩) (([(⟨1,x1.ID,x1.aB,x1.Sum,E.1,E.1,aN+eZ⟩:aM)]:List aM).length) 1)::l0/\Hp b S wJ (aS bG 112 (some ⟨g9,0,none⟩) 1 ([(⟨1,x1.ID,x1.aB,x1.Sum,E.1,E.1,aN+eZ⟩:aM)]:List aM)::rk)) 10 65151 ?_ λhS7=>?_
   ·rintro _ w50 ⟨g9,rfl,K50⟩;refine O1 7 Y<|Az (τ:=bG) (x:=(⟨1,x1.ID,x1.aB,x1.Sum,E.1,E.1,aN+eZ⟩:aM)) Y (by intro _; apply gu) rfl K50 (λ_ _=>rfl) λg23 w51 K51=>?_
    have k32:=(((K51.cU 8 2).rm s4).cU 0 2);exact Kj hS4 k32 ⟨g9,g23,Y,((K51.sel s0).sel s1)⟩ Y
   refine Jn H4 (λl0 rk lJ wJ=>∃(g14 g13:Nat),lJ=(71,.slice (some ⟨g13,0,none⟩) (([(⟨1,x1.ID,x1.aB,x1.Sum,E.1,E.1,aN+eZ⟩:aM)]:List aM).length) 1)::(77,.slice A2 ((ds++T).length) c2)::(79,.slice (some ⟨g14,0,none⟩) (([(⟨1,x1.ID,x1.aB,x1.Sum,E.1,E.1,aN+eZ⟩:aM)]:List aM).length) 1)::l0/\Hp b S wJ (aS bG 112 (some ⟨g14,0,none⟩) 1 ([(⟨1,x1.ID,x1.aB,x1.Sum,E.1,E.1,aN+eZ⟩:aM)]:List aM)::aS bG 112 (some ⟨g13,0,none⟩) 1 ([(⟨1,x1.ID,x1.aB,x1.Sum,E.1,E.1,aN+eZ⟩:aM)]:List aM)::rk)) 10 65247 ?_ λhS8=>?_
   ·rintro _ w52 ⟨g14,g13,rfl,K52⟩;refine O1 5 Y<|nO K52 s4 Y ?_
    have k33:=(((K52.cU 8 2).rm s4).cU 0 2);exact Kj hS4 k33 ⟨g14,g13,Y,K52⟩ Y
   refine Jn H4 (λl0 rk lJ wJ=>∃(g3:Nat),lJ=(69,.slice VD ((os++T).length) c15)::(71,.slice (some ⟨g3,0,none⟩) (([(⟨1,x1.ID,x1.aB,x1.Sum,E.1,E.1,aN+eZ⟩:aM)]:List aM).length) 1)::l0/\Hp b S wJ (aS bG 112 (some ⟨g3,0,none⟩) 1 ([(⟨1,x1.ID,x1.aB,x1.Sum,E.1,E.1,aN+eZ⟩:aM)]:List aM)::rk)) 11 24319 ?_ λhS9=>?_
   ·rintro _ w53 ⟨g3,rfl,K53⟩;refine yO (fuel:=10) (rs:=[8,13,15]) ak au ?_
    simp only [xB,lM,xC,xD,uO]
    refine⟨?_,?_,?_⟩
    ·refine⟨_,Y,?_⟩;refine ap (ys:=([(⟨1,x1.ID,x1.aB,x1.Sum,E.1,E.1,aN+eZ⟩:aM)]:List aM)) K53 s8 Y Y (K53.o s0) kY Eu (by simp only [jd,jY]; omega) av rfl λaCE aCF w54 K54=>?_;have k34:=(((K54.rm s8).rm s4).cU 0 2);refine aQ k34<|O2 13 15 Y Y ?_ ?_
     ·refine nO K54 s4 Y<|Kj hS2 k34 ⟨aCE,aCF,g3,Y,K54⟩ Y
     ·refine Az (τ:=bG) (x:=(⟨1,x1.ID,x1.aB,x1.Sum,E.1,E.1,aN+eZ⟩:aM)) Y (by intro _; apply gu) rfl K54 (λ_ _=>rfl) λg24 w55 K55=>?_;have k35:=(((K55.rm s9).rm s5).cU 0 3);exact Kj hS3 k35 ⟨g24,aCE,aCF,g3,Y,K55⟩ Y
    ·refine⟨_,Y,?_⟩;refine nO K53 s3 Y ?_;have k36:=(((K53.cU 7 2).rm s3).rm s0);exact Kj hS5 k36 ⟨g3,Y,K53⟩ Y
    ·refine⟨_,Y,?_⟩;refine Az (τ:=bG) (x:=(⟨1,x1.ID,x1.aB,x1.Sum,E.1,E.1,aN+eZ⟩:aM)) Y (by intro _; apply gu) rfl K53 (λ_ _=>rfl) λg25 w56 K56=>?_;have k37:=(((K56.cU 8 2).rm s4).cU 0 2);exact Kj hS6 k37 ⟨g25,g3,Y,K56⟩ Y
   refine Jn H4 (λl0 rk lJ wJ=>lJ=(69,.slice VD ((os++T).length) c15)::(77,.slice A2 ((ds++T).length) c2)::l0/\Hp b S wJ rk) 11 32383 ?_ λaCH=>?_
   ·rintro _ w57 ⟨rfl,K57⟩;refine O2 7 15 Y Y ?_ ?_
    ·refine Az (τ:=bG) (x:=(⟨1,x1.ID,x1.aB,x1.Sum,E.1,E.1,aN+eZ⟩:aM)) Y (by intro _; apply gu) rfl K57 (λ_ _=>rfl) λg26 w58 K58=>?_;have k38:=(((K58.cU 7 2).rm s3).rm s0);exact Kj hS5 k38 ⟨g26,Y,K58⟩ Y
    ·refine Az (τ:=bG) (x:=(⟨1,x1.ID,x1.aB,x1.Sum,E.1,E.1,aN+eZ⟩:aM)) Y (by intro _; apply gu) rfl K57 (λ_ _=>rfl) λg27 w59 K59=>?_;have k39:=(((K59.cU 7 2).rm s3).rm s0);exact Kj hS7 k39 ⟨g27,Y,K59⟩ Y
   refine Jn H4 (λl0 rk lJ wJ=>∃(g11:Nat),lJ=(69,.slice VD ((os++T).length) c15)::(79,.slice (some ⟨g11,0,none⟩) (([(⟨1,x1.ID,x1.aB,x1.Sum,E.1,E.1,aN+eZ⟩:aM)]:List aM).length) 1)::l0/\Hp b S wJ (aS bG 112 (some ⟨g11,0,none⟩) 1 ([(⟨1,x1.ID,x1.aB,x1.Sum,E.1,E.1,aN+eZ⟩:aM)]:List aM)::rk)) 11 56959 ?_ λaCI=>?_
   ·rintro _ w60 ⟨g11,rfl,K60⟩;refine O2 7 13 Y Y ?_ ?_
    ·refine Az (τ:=bG) (x:=(⟨1,x1.ID,x1.aB,x1.Sum,E.1,E.1,aN+eZ⟩:aM)) Y (by intro _; apply gu) rfl K60 (λ_ _=>rfl) λg28 w61 K61=>?_;have k40:=(((K61.cU 8 2).rm s4).cU 0 2);exact Kj hS6 k40 ⟨g11,g28,Y,((K61.sel s0).sel s1)⟩ Y
    ·refine nO K60 s3 Y ?_;have k41:=(((K60.cU 7 2).rm s3).rm s0);exact Kj hS7 k41 ⟨g11,Y,K60⟩ Y
   refine Jn H4 (λl0 rk lJ wJ=>∃(g13:Nat),lJ=(71,.slice (some ⟨g13,0,none⟩) (([(⟨1,x1.ID,x1.aB,x1.Sum,E.1,E.1,aN+eZ⟩:aM)]:List aM).length) 1)::(77,.slice A2 ((ds++T).length) c2)::l0/\Hp b S wJ (aS bG 112 (some ⟨g13,0,none⟩) 1 ([(⟨1,x1.ID,x1.aB,x1.Sum,E.1,E.1,aN+eZ⟩:aM)]:List aM)::rk)) 11 32479 ?_ λaCJ=>?_
   ·rintro _ w62 ⟨g13,rfl,K62⟩;refine O2 5 15 Y Y ?_ ?_
    ·refine nO K62 s3 Y ?_;have k42:=(((K62.cU 7 2).rm s3).rm s0);exact Kj hS5 k42 ⟨g13,Y,K62⟩ Y
    ·refine Az (τ:=bG) (x:=(⟨1,x1.ID,x1.aB,x1.Sum,E.1,E.1,aN+eZ⟩:aM)) Y (by intro _; apply gu) rfl K62 (λ_ _=>rfl) λg29 w63 K63=>?_;have k43:=(((K63.cU 8 2).rm s4).cU 0 2);exact Kj hS8 k43 ⟨g29,g13,Y,K63⟩ Y
   refine Jn H4 (λl0 rk lJ wJ=>∃(g15 g13:Nat),lJ=(71,.slice (some ⟨g13,0,none⟩) (([(⟨1,x1.ID,x1.aB,x1.Sum,E.1,E.1,aN+eZ⟩:aM)]:List aM).length) 1)::(79,.slice (some ⟨g15,0,none⟩) (([(⟨1,x1.ID,x1.aB,x1.Sum,E.1,E.1,aN+eZ⟩:aM)]:List aM).length) 1)::l0/\Hp b S wJ (aS bG 112 (some ⟨g15,0,none⟩) 1 ([(⟨1,x1.ID,x1.aB,x1.Sum,E.1,E.1,aN+eZ⟩:aM)]:List aM)::aS bG 112 (some ⟨g13,0,none⟩) 1 ([(⟨1,x1.ID,x1.aB,x1.Sum,E.1,E.1,aN+eZ⟩:aM)]:List aM)::rk)) 11 57055 ?_ λaCK=>?_
   ·rintro _ w64 ⟨g15,g13,rfl,K64⟩;refine O2 5 13 Y Y ?_ ?_
    ·refine nO K64 s4 Y ?_;have k44:=(((K64.cU 8 2).rm s4).cU 0 2);exact Kj hS6 k44 ⟨g15,g13,Y,K64⟩ Y
    ·refine nO K64 s4 Y ?_;have k45:=(((K64.cU 8 2).rm s4).cU 0 2);exact Kj hS8 k45 ⟨g15,g13,Y,K64⟩ Y
   refine Jn H4 (λl0 rk lJ wJ=>∃(g17:Nat),lJ=(77,.slice A2 ((ds++T).length) c2)::(79,.slice (some ⟨g17,0,none⟩) (([(⟨1,x1.ID,x1.aB,x1.Sum,E.1,E.1,aN+eZ⟩:aM)]:List aM).length) 1)::l0/\Hp b S wJ (aS bG 112 (some ⟨g17,0,none⟩) 1 ([(⟨1,x1.ID,x1.aB,x1.Sum,E.1,E.1,aN+eZ⟩:aM)]:List aM)::rk)) 11 65119 ?_ λaCL=>?_
   ·rintro _ w65 ⟨g17,rfl,K65⟩;refine O2 5 7 Y Y ?_ ?_
    ·refine nO K65 s3 Y ?_;have k46:=(((K65.cU 7 2).rm s3).rm s0);exact Kj hS7 k46 ⟨g17,Y,K65⟩ Y
    ·refine Az (τ:=bG) (x:=(⟨1,x1.ID,x1.aB,x1.Sum,E.1,E.1,aN+eZ⟩:aM)) Y (by intro _; apply gu) rfl K65 (λ_ _=>rfl) λg30 w66 K66=>?_;have k47:=(((K66.cU 8 2).rm s4).cU 0 2);exact Kj hS8 k47 ⟨g17,g30,Y,((K66.sel s0).sel s1)⟩ Y
   refine yO (fuel:=12) (rs:=[5,7,13,15]) ak au ?_
   simp only [xB,lM,xC,xD,uO]
   refine⟨?_,?_,?_,?_⟩
   ·refine⟨_,Y,?_⟩;refine nO H4 s2 Y<|aQ k5<|yO (fuel:=11) (rs:=[7,13,15]) ak au ?_
    simp only [xB,lM,xC,xD,uO]
    refine⟨?_,?_,?_⟩
    ·refine⟨_,Y,?_⟩;refine Az (τ:=bG) (x:=(⟨1,x1.ID,x1.aB,x1.Sum,E.1,E.1,aN+eZ⟩:aM)) Y (by intro _; apply gu) rfl H4 (λ_ _=>rfl) λg31 w67 K67=>?_;have k48:=(((K67.cU 7 2).rm s3).rm s0);exact Kj hS9 k48 ⟨g31,Y,K67⟩ Y
    ·refine⟨_,Y,?_⟩;refine nO H4 s2 Y<|Kj aCH k5 ⟨Y,H4⟩ Y
    ·refine⟨_,Y,?_⟩;refine Az (τ:=bG) (x:=(⟨1,x1.ID,x1.aB,x1.Sum,E.1,E.1,aN+eZ⟩:aM)) Y (by intro _; apply gu) rfl H4 (λ_ _=>rfl) λg32 w68 K68=>?_;have k49:=(((K68.cU 7 2).rm s3).rm s0);exact Kj aCI k49 ⟨g32,Y,K68⟩ Y
   ·refine⟨_,Y,?_⟩;refine Az (τ:=bG) (x:=(⟨1,x1.ID,x1.aB,x1.Sum,E.1,E.1,aN+eZ⟩:aM)) Y (by intro _; apply gu) rfl H4 (λ_ _=>rfl) λg33 w69 K69=>?_;have k50:=(((K69.cU 7 2).rm s3).rm s0);refine aQ k50<|yO (fuel:=11) (rs:=[5,13,15]) ak au ?_
    simp only [xB,lM,xC,xD,uO]
    refine⟨?_,?_,?_⟩
    ·refine⟨_,Y,?_⟩;refine nO K69 s3 Y<|Kj hS9 k50 ⟨g33,Y,K69⟩ Y
    ·refine⟨_,Y,?_⟩;refine nO K69 s3 Y<|Kj aCJ k50 ⟨g33,Y,K69⟩ Y
    ·refine⟨_,Y,?_⟩;refine Az (τ:=bG) (x:=(⟨1,x1.ID,x1.aB,x1.Sum,E.1,E.1,aN+eZ⟩:aM)) Y (by intro _; apply gu) rfl K69 (λ_ _=>rfl) λg34 w70 K70=>?_;have k51:=(((K70.cU 8 2).rm s4).cU 0 2);exact Kj aCK k51 ⟨g34,g33,Y,K70⟩ Y
   ·refine⟨_,Y,?_⟩;refine nO H4 s2 Y<|aQ k5<|yO (fuel:=11) (rs:=[5,7,15]) ak au ?_
    simp only [xB,lM,xC,xD,uO]
    refine⟨?_,?_,?_⟩
    ·refine⟨_,Y,?_⟩;refine nO H4 s2 Y<|Kj aCH k5 ⟨Y,H4⟩ Y
    ·refine⟨_,Y,?_⟩;refine Az (τ:=bG) (x:=(⟨1,x1.ID,x1.aB,x1.Sum,E.1,E.1,aN+eZ⟩:aM)) Y (by intro _; apply gu) rfl H4 (λ_ _=>rfl) λg35 w71 K71=>?_;have k52:=(((K71.cU 7 2).rm s3).rm s0);exact Kj aCJ k52 ⟨g35,Y,K71⟩ Y
    ·refine⟨_,Y,?_⟩;refine Az (τ:=bG) (x:=(⟨1,x1.ID,x1.aB,x1.Sum,E.1,E.1,aN+eZ⟩:aM)) Y (by intro _; apply gu) rfl H4 (λ_ _=>rfl) λg36 w72 K72=>?_;have k53:=(((K72.cU 7 2).rm s3).rm s0);exact Kj aCL k53 ⟨g36,Y,K72⟩ Y
   ·refine⟨_,Y,?_⟩;refine Az (τ:=bG) (x:=(⟨1,x1.ID,x1.aB,x1.Sum,E.1,E.1,aN+eZ⟩:aM)) Y (by intro _; apply gu) rfl H4 (λ_ _=>rfl) λg37 w73 K73=>?_;have k54:=(((K73.cU 7 2).rm s3).rm s0);refine aQ k54<|yO (fuel:=11) (rs:=[5,7,13]) ak au ?_
    simp only [xB,lM,xC,xD,uO]
    refine⟨?_,?_,?_⟩
    ·refine⟨_,Y,?_⟩;refine nO K73 s3 Y<|Kj aCI k54 ⟨g37,Y,K73⟩ Y
    ·refine⟨_,Y,?_⟩;refine Az (τ:=bG) (x:=(⟨1,x1.ID,x1.aB,x1.Sum,E.1,E.1,aN+eZ⟩:aM)) Y (by intro _; apply gu) rfl K73 (λ_ _=>rfl) λg38 w74 K74=>?_;have k55:=(((K74.cU 8 2).rm s4).cU 0 2);exact Kj aCK k55 ⟨g37,g38,Y,((K74.sel s0).sel s1)⟩ Y
    ·refine⟨_,Y,?_⟩;refine nO K73 s3 Y<|Kj aCL k54 ⟨g37,Y,K73⟩ Y
  rintro _ w75 ⟨ql,cj2,wF,vM,rfl,K75⟩;refine Hf K75 (λ_ K=>((K.rm s8).rm s0)) (λl0 rk lJ wJ=>∃(CF:ah)(CG:Nat),lJ=l0/\Hp b S wJ (dY g 195 [v0,.slice AL ls.length cL,.slice ql (((ds++T)++([(⟨1,x1.ID,x1.aB,x1.Sum,E.1,E.1,aN+eZ⟩:aM)]:List aM)).length) cj2,.slice AN ns.length cN,.slice AK ks.length cK,v5,v6,v7,v8,aF bW,aF eZ,v11,aF aN,.slice AV aG.length cV,.slice AS dG.length cS,.slice wF (((os++T)++([(⟨1,x1.ID,x1.aB,x1.Sum,E.1,E.1,aN+eZ⟩:aM)]:List aM)).length) vM,.slice CF (((cs++T.map wC)++([(⟨0,0,6,x1.ID,E.1,0⟩:fV)]:List fV)).length) CG]::aS AY 120 CF CG ((cs++T.map wC)++([(⟨0,0,6,x1.ID,E.1,0⟩:fV)]:List fV))::rk)) (λhns H5=>?_) ?_
  ·have k56:=((H5.rm s8).rm s0);refine kX 0 Y Y k56<|uw 1 g 16 QY Y k56<|ng 5 6 g1 0 pq s5 Y k56<|kX 7 Y Y k56<|lD 8 Y (λ_ _=>iY (vs:=[(2,aF 6),(3,aF x1.ID),(4,aF (E.1))]) (cs:=[aF 0,aF 0,aF 6,aF x1.ID,aF (E.1),aF 0]) Y (by apply yE)) k56<|Jn H5 (λl0 rk lJ wJ=>∃(g39:Nat),lJ=(90,.slice A16 ((cs++T.map wC).length) c16)::(95,.slice (some ⟨g39,0,none⟩) (([(⟨0,0,6,x1.ID,E.1,0⟩:fV)]:List fV).length) 1)::l0/\Hp b S wJ (aS AY 120 (some ⟨g39,0,none⟩) 1 ([(⟨0,0,6,x1.ID,E.1,0⟩:fV)]:List fV)::rk)) 4 1023 ?_ λaCM=>?_
   ·rintro _ w80 ⟨g39,rfl,K80⟩;refine O1 10 Y<|ap (ys:=([(⟨0,0,6,x1.ID,E.1,0⟩:fV)]:List fV)) K80 s9 Y Y (K80.o s0) Pj ai2 (by simp only [jd,jY]; omega) av rfl λaHq aHr w81 K81=>?_
    have k61:=(K81.cU 0 3);refine aQ k61<|SX 11 g 16 QY Y k61<|O1 13 Y<|xP Y K81 s2 Y λw82 K82=>?_
    have k62:=(K82.cU 0 3);refine aQ k62<|Dn ⟨aHq,aHr,Y,(K82.rm s2)⟩ Y
   refine O2 4 9 Y Y ?_ ?_
   ·refine nO H5 s0 Y<|aQ k56<|O1 9 Y<|Az (τ:=AY) (x:=(⟨0,0,6,x1.ID,E.1,0⟩:fV)) Y (by intro _; apply yF) rfl H5 (λ_ _=>rfl) λg41 w83 K83=>?_
    have k63:=((K83.rm s9).cU 0 2);exact Kj aCM k63 ⟨g41,Y,K83⟩ Y
   ·refine Az (τ:=AY) (x:=(⟨0,0,6,x1.ID,E.1,0⟩:fV)) Y (by intro _; apply yF) rfl H5 (λ_ _=>rfl) λg42 w84 K84=>?_;have k64:=((K84.rm s9).cU 0 2);refine aQ k64<|O1 4 Y<|nO K84 s1 Y<|Kj aCM k64 ⟨g42,Y,K84⟩ Y
  rintro _ w85 ⟨CF,CG,rfl,K85⟩;refine iE (gG ?_);refine jy<|ev (dO Y Y)<|mv Y<|jA ?_
  have hT2:xY ls ks ns aG bW (aN+eZ) (dG.take (k+1))=T++[Yb x1 E.1 (aN+eZ)]:=by rw [aqx bP aj (by simpa [trE,hE] using XU),hT,show trE ls ks ns aG bW x1=E from hE]
  exact dI ⟨(k+1),ql,cj2,wF,vM,CF,CG,Y,Y,aj,by rw [hT2]; simp only [qc,<- oV]; exact(((((K85.cU 7 2).cU 4 2).sel s0).sel s1).mV 2 2)⟩ rfl aj
 refine qJ (lu (lu (rE (rU (zA Y ?_)))));have hfk:dG.take k=dG:=iH aj;rw [hfk] at K1;exact⟨Y,_,_,_,_,_,_,((K1.mV 0 3).mV 3 2)⟩
theorem afN(w:World){jl:ah}{jk:Nat}{l:List aH}(jo:Sl bJ S0 w jl jk l)(id:Int)(hn:l.length<=100000)(hh:∀ x∈l,x.aD.length<=100000) :
    bS prog 53 #[.slice jl l.length jk,aF id] w λv w'=>∃(vP:ah)(vQ:Nat),v=.tuple #[.agg #[aF ((aU l id).ID),aF ((aU l id).aB),gK ((aU l id).Sum),.slice vP (((aU l id).aD).length) vQ],.bool (gY l id)]/\Hp w S0 w' [aS dQ 3 vP vQ ((aU l id).aD)]:=by
 refine kP S0 func53 ntmps53 Y λH0=>?_;have hf:=DK l;refine rg<|al lU Y H0 λg1 w1 K1=>bU Y<|bQ Y<|gX Y (W9 (S0:=Rd w S0 [dY g1 59 [aF 0,aF 0,gK 0,.slice none 0 0]] _) _ (K1.a jo) hn hh) ?_
 rintro _ w2 ⟨A,c,ks,rfl,hkc,h9⟩;have K2:=K1.c2 h9;have hkl:ks.length=(d9 l).length:=by rw [<- hkc,jY]
 refine bU Y ?_;have hrd:=K2.rdK s0 s0;refine lC (t:=0) Y (aR (λz=>Value.slice A z c) (Qo ks).symm)<|bQ Y<|mv Y<|mU K2 Y (G5 _ hrd id (by rw [hkc]; exact BN l) (by rw [jY]; omega)) λw3 K3=>mv rfl<|xt rfl rfl<|xt rfl rfl<|iI rfl<|bU rfl<|aW<|lC (t:=0) rfl (aR (λz=>Value.slice A z c) (Qo ks))<|bQ rfl<|ev (iB rfl)<|dn<|bK rfl (λhc17=>?_) (λhc17=>?_)
 ·try simp only [fq,dX,bN,eH,eG,fP,bO,bV] at hc17
  refine rg<|ev (iY (vs:=[]) (cs:=[aF 0,aF 0,gK 0,.slice none 0 0]) Y (by apply apc))<|sty rfl K3 s2 rfl λw4 K4=>bU rfl<|jf (fT (qA rfl ⟨_,_,rfl,⟨_,rfl,jL (cs:=[aF 0,aF 0,gK 0,.slice none 0 0]) qw rfl (K4.x s0)⟩,⟨_,_,rfl,rfl,rfl⟩⟩ ?_))
  have hnf:aU l id=⟨0,0,0,[]⟩:=Xa (by rw [<- hkc]; simpa using hc17);have hnb:gY l id=false:=by unfold gY; rw [<- hkc]; simpa using hc17
  have eO:((⟨0,0,0,[]⟩:aH):aH)=(aU l id):=by exact hnf.symm
  have fQ:(0:Int)=(aU l id).ID:=by rw [<- eO]
  have jW:(0:Int)=(aU l id).aB:=by rw [<- eO]
  have mH:(0:Int)=(aU l id).Sum:=by rw [<- eO]
  have H1:=K4.nil dQ 3;have rR:(([]:List Int):List Int)=((aU l id).aD):=by rw [<- eO]
  have wM:(false:Bool)=(gY l id):=by exact hnb.symm
  exact⟨none,0,by first | (rw [<- fQ,<- jW,<- mH,<- wM,<- rR] <;> rfl) | (rw [<- rR,<- fQ,<- jW,<- mH,<- wM] <;> rfl),by rw [<- rR]; exact(H1.cU 1 3)⟩
 try simp only [fq,dX,bN,eH,eG,fP,bO,bV] at hc17
 have hc17:hits (fun(y:aH)=>bB y.ID id) (ks.map bI.c)=true:=by simpa using hc17
 obtain⟨xb,hxb,hkb⟩:=qU (key:=aH.ID) hc17;have Xd:=aJ hxb;rw [jY] at Xd;refine jm ?_;refine bQ Y<|mv Y ?_
 obtain⟨x1,bP⟩:=bC (xs:=ks) (i:=low (fun(y:aH)=>bB y.ID id) (ks.map bI.c)) aj;refine ev (cu (i:=low (fun(y:aH)=>bB y.ID id) (ks.map bI.c)) iN o9 Y Y Y (aJ bP) ((K3.o s0).some_ bP))<|ev (gI qw Y Y ((K3.o s0).fE bP))<|sty Y K3 s2 Y λw5 K5=>bU Y<|jf (qA Y ⟨_,_,Y,⟨_,Y,jL (cs:=[aF x1.c.ID,aF x1.c.aB,gK x1.c.Sum,.slice x1.B x1.c.aD.length x1.d]) qw Y (K5.x s0)⟩,⟨_,_,Y,Y,Y⟩⟩ ?_)
 have hrx:(ks.map ru)[low (fun(y:aH)=>bB y.ID id) (ks.map bI.c)]? = some (x1.B,x1.d,x1.c.aD):=by rw [lK,bP]; rfl
 have H2:=K5.BM s2 hrx;have hyf:aU l id=x1.c:=Tf (by rw [<- hkc]; exact hc17) (by rw [<- hkc,lK,bP]; rfl);have hyb:gY l id=true:=by unfold gY; rw [<- hkc]; exact hc17
 have zk:(x1.c:aH)=(aU l id):=by exact hyf.symm
 have hq8:(x1.c.ID:Int)=(aU l id).ID:=by rw [<- zk]
 have AJ:(x1.c.aB:Int)=(aU l id).aB:=by rw [<- zk]
 have r9:(x1.c.Sum:Int)=(aU l id).Sum:=by rw [<- zk]
 have hq11:(x1.c.aD:List Int)=((aU l id).aD):=by rw [<- zk]
 have hq12:(true:Bool)=(gY l id):=by exact hyb.symm
 exact⟨x1.B,x1.d,by first | (rw [hq8,AJ,r9,hq11,<- hq12] <;> rfl) | (rw [hq11,hq8,AJ,r9,<- hq12] <;> rfl),by rw [<- hq11]; exact(H2.cU 1 3)⟩
theorem afO(w:World)(n:Nat)(hn:n<=1000000) :
    bS prog 330 #[.slice none 0 0,aF ((n:Nat):Int)] w λv w'=>∃(A0:ah)(c0:Nat),v=.slice A0 (([]:List Int).length) c0/\Hp w S0 w' [aS dQ 3 A0 c0 ([]:List Int)]:=by
 refine kP S0 func330 ntmps330 Y λH0=>iZ Y<|aW<|bQ Y<|ev (fC Y Y)<|dn<|mQ Y (λhc6=>?_) (λhc6=>?_)
 ·omega
 refine jm ?_;refine aW<|bQ Y<|mv Y<|ev (Ev.cap fB Y)<|mv Y<|ev (eU fB Y)<|ev (UD Y Y)<|ev (UD Y Y)<|bU Y<|bQ Y<|ev (pV Y Y)<|dn<|mQ Y (λhc16=>?_) (λhc16=>?_)
 ·refine jy<|mv Y<|mv Y<|ev (Ev.cap fB Y)<|ev (Ev.Vn fB rZ Y Y Y)<|mv Y<|apz dQ (m:=n) Y Y fB iQ Lh aj aj Y H0 λg1 cz1 w1 K1=>mv Y<|ev (eU fB Y)<|ev (Ev.Vn fB rZ Y Y Y)<|iI Y<|jA<|gG<|bQ Y<|bU Y<|jc Y ?_
  exact⟨(some ⟨g1,0,none⟩),cz1,Y,K1⟩
 refine jm ?_;refine bQ Y<|bU Y<|jc Y ?_
 have H1:=H0.nil dQ 3;exact⟨none,0,Y,H1⟩
theorem acS(w:World){afP:ah}{afQ:Nat}{xss:List (List Int)}(LX:Sl (Ty.list dQ) S0 w afP afQ xss)(hn:(xss).flatten.length<=1000000) :
    bS prog 241 #[.slice afP xss.length afQ] w λv w'=>∃(A0:ah)(c0:Nat),v=.slice A0 (((xss).flatten).length) c0/\Hp w S0 w' [aS dQ 3 A0 c0 ((xss).flatten)]:=by
 refine kP S0 func241 ntmps241 Y λH0=>?_;have azw:=LX.bH;refine iZ Y<|iZ Y<|aW<|bQ Y<|ev (eU acQ Y)<|mv Y<|dn<|cB ?_
 have eO:(0:Int)=((BL xss 0:Nat):Int):=by rfl
 refine lC (t:=3) Y (aR (Value.int .i64) eO)<|Lp H0 (λl0 rk mJ lJ wJ=>∃(k:Nat),lJ=(3,aF ((BL xss k:Nat):Int))::(11,aF ((k:Nat):Int))::l0/\mJ=xss.length - k/\k<=xss.length/\Hp w S0 wJ rk) ⟨0,Y,Y,fJ _,H0⟩ Y ?_
 rintro _ _ w1 ⟨k,rfl,rfl,hk,K1⟩;refine rg<|ev (fC Y Y)<|dn<|pQ Y (λoN=>?_) (λoN=>?_)
 ·refine jm ?_;refine aW<|cB<|rg ?_
  obtain⟨x1,bP⟩:=bC (xs:=xss) (i:=k) aj;refine ev (cu (i:=k) acQ Ql Y Y Y (aJ bP) ((K1.a LX).some_ bP)) ?_;obtain⟨B1,d1,zP,hi1⟩:=Vp (LX.row bP);refine ev (iL Bf Y (K1.ext.cell zP))<|bU Y<|bQ Y<|mv Y<|ev (eU fB Y)<|ev (Ev.add Y Y (wQ (by have:=vV bP; have:=xL xss (k+1); omega) (by have:=vV bP; have:=xL xss (k+1); omega)))<|bU rfl<|bQ rfl<|ev (fC rfl rfl)<|dn<|mQ rfl (λlN=>?_) (λlN=>?_)
  ·omega
  refine xQ ?_;refine jy<|ev (dO Y Y)<|mv Y<|jA ?_
  have fQ:(((BL xss k+x1.length:Nat):Int):Int)=((BL xss (k+1):Nat):Int):=by have:=vV bP; omega
  refine jq (t:=3) Y (aR (Value.int .i64) fQ)<|dI ⟨(k+1),Y,Y,aj,K1⟩ rfl aj
 refine wE ?_;refine bQ Y<|gX Y (afO (S0:=Any) _ (BL xss k) (by have:=xL xss k; omega)) ?_
 rintro _ w2 ⟨oo,oq,rfl,h2⟩;have K2:=K1.f1 h2;refine bU Y<|aW<|bQ Y<|ev (eU acQ Y)<|mv Y<|dn<|cB ?_
 have jW:(([]:List Int):List Int)=((xss.take 0).flatten):=by simp
 refine lC (t:=6) Y (aR (λz=>Value.slice oo (List.length z) oq) jW) ?_;rw [jW] at K2;refine Lp (K2.rm s0) (λl0 rk mJ lJ wJ=>∃(k:Nat)(A6:ah)(c6:Nat),lJ=(6,.slice A6 (((xss.take k).flatten).length) c6)::(27,aF ((k:Nat):Int))::l0/\mJ=xss.length - k/\k<=xss.length/\Hp w S0 wJ (aS dQ 3 A6 c6 ((xss.take k).flatten)::rk)) ⟨0,oo,oq,Y,Y,fJ _,K2⟩ Y ?_;rintro _ _ w3 ⟨k,A6,c6,rfl,rfl,hk,K3⟩;refine rg<|ev (fC Y Y)<|dn<|pQ Y (λhc28=>?_) (λhc28=>?_)
 ·refine jm ?_;refine aW<|cB<|rg ?_
  obtain⟨x2,kZ⟩:=bC (xs:=xss) (i:=k) aj;refine ev (cu (i:=k) acQ Ql Y Y Y (aJ kZ) ((K3.a LX).some_ kZ)) ?_;obtain⟨B2,d2,ah9,hi2⟩:=Vp (LX.row kZ);refine ev (iL Bf Y (K3.ext.cell ah9))<|bU Y<|jy<|mv Y<|mv Y<|ap (ys:=x2) K3 s0 Y Y (K3.a hi2).any fB Lh (by have:=xL xss k; simp only [BL] at this; omega) (by have:=vV kZ; have:=xL xss (k+1); omega) rfl λoL oM w4 K4=>iI rfl<|jA<|iE (gG ?_)
  refine jy<|ev (dO Y Y)<|mv Y<|jA ?_
  have mH:((((xss.take k).flatten)++x2):List Int)=((xss.take (k+1)).flatten):=by exact Qh kZ
  refine jq (t:=6) Y (aR (λz=>Value.slice oL (List.length z) oM) mH) ?_;rw [mH] at K4;exact dI ⟨(k+1),oL,oM,Y,Y,aj,K4⟩ rfl aj
 refine wE ?_;refine bQ Y<|bU Y<|jc Y ?_
 have rR:(((xss.take k).flatten):List Int)=((xss).flatten):=by rw [iH aj]
 rw [rR] at K3;exact⟨A6,c6,by rw [rR] <;> rfl,K3⟩
end Go.Proofs.YtlhnnmlenkahlaaGreat
