/- Lemmas. -/
import Derived.Test.YtlhnnmlenkahlaaGreatvG12
set_option maxRecDepth 4000
set_option linter.all false
namespace Go.Proofs.YtlhnnmlenkahlaaGreat
open Go.RowKit Go.Proofs.Tryz
def Z7:=@List.flatMap_append
def MO:=@underlying138
def Z8:=@underlying336
variable {ls:List bB}{ns:List aW}{ks dh M:List aI}{aG:List Int}{bW:Int}{x:aI}{S0:Nat->Prop}
def OA(ks dh:List aI)(ns:List aW)(aG:List Int)(j5:Int):Bool:=moveB dh ns aG j5&&gU ks (iF dh ns aG j5).aB
def QT(ls:List bB)(ks dh:List aI)(ns:List aW)(aG:List Int)(j5 dD all u:Int):List bB:=if OA ks dh ns aG j5=true then zT ls dD all (aV ks (iF dh ns aG j5).aB) (iF dh ns aG j5).jw (iF dh ns aG j5).To u else ls
def Vx(ls:List bB)(os:List aM)(ks dh:List aI)(ns:List aW)(aG:List Int)(j5 dD all u:Int):List aM:=if OA ks dh ns aG j5=true then Ea ls os dD all (aV ks (iF dh ns aG j5).aB) (iF dh ns aG j5).jw (iF dh ns aG j5).To u else os
theorem Jv:dH prog 195 5 14:=ay
theorem Fv:dH prog 195 4 13:=ay
theorem Vy:dH prog 112 4 4:=ay
theorem au2:bI prog 244:=ay
abbrev SV(gJ:List aI)(iK:List aW)(tF:List Int)(vP:Int):List Value:=[.agg #[aD ((iF gJ iK tF vP).Kind),aD ((iF gJ iK tF vP).aB),aD ((iF gJ iK tF vP).aC),fT ((iF gJ iK tF vP).Sum),aD ((iF gJ iK tF vP).jw),aD ((iF gJ iK tF vP).To),aD ((iF gJ iK tF vP).kG)],.bool (moveB gJ iK tF vP)]
abbrev lg(gJ iK:List aI)(tF:List aW)(vP:List Int)(DI:Int):=aV gJ ((iF iK tF vP DI).aB)
set_option maxHeartbeats 1000000 in
theorem aqH{b w:World}{S:Nat->Prop}{F:List lC}{g:Nat}{v0 v2 v5 v6 v9 v16:Value}{AL:ah}{cL:Nat}{AO:ah}{cO:Nat}{os:List aM}{AN:ah}{cN:Nat}{AK:ah}{cK:Nat}{AV:ah}{cV:Nat}{AS:ah}{cS:Nat}{dD all eH j5 aN:Int}(H0:Hp b S w (dJ g 195 [v0,.slice AL ls.length cL,v2,.slice AN ns.length cN,.slice AK ks.length cK,v5,v6,aD dD,aD all,v9,aD eH,aD j5,aD aN,.slice AV aG.length cV,.slice AS dh.length cS,.slice AO os.length cO,v16]::aR dB 117 AL cL ls::aR bF 112 AO cO os::dP bX AN cN ns::dP bH AK cK ks::dP dL AV cV aG::dP bH AS cS dh::F))(hl:ls.length<=100)(ho:os.length<=100000)(hn:ns.length<=1000)(hc:ks.length<=1000)(hs:dh.length<=1000)(hk:∀ x∈ks,x.aF.length<=100000)(hh:∀ x∈dh,x.aF.length<=100000)(hu:-1099511627776<=aN/\aN<=4398046511104/\-1099511627776<=eH/\eH<=1099511627776) :
    bO prog 157 #[fP g] w λv w'=>v=.tuple #[]/\∃ AL' cL' AO' cO',Hp b S w' (dJ g 195 [v0,.slice AL' ((QT ls ks dh ns aG j5 dD all (aN+eH)).length) cL',v2,.slice AN ns.length cN,.slice AK ks.length cK,v5,v6,aD dD,aD all,v9,aD eH,aD j5,aD aN,.slice AV aG.length cV,.slice AS dh.length cS,.slice AO' ((Vx ls os ks dh ns aG j5 dD all (aN+eH)).length) cO',v16]::aR dB 117 AL' cL' (QT ls ks dh ns aG j5 dD all (aN+eH))::aR bF 112 AO' cO' (Vx ls os ks dh ns aG j5 dD all (aN+eH))::dP bX AN cN ns::dP bH AK cK ks::dP dL AV cV aG::dP bH AS cS dh::F):=by
 refine sF func157 ntmps157 Y<|He H0 (λ_ K=>K) (λl0 rk lJ wJ=>∃(rH:Nat),lJ=(2,fP rH)::(3,.bool (moveB dh ns aG j5))::l0/\Hp b S wJ (dJ rH 112 [aD ((iF dh ns aG j5).Kind),aD ((iF dh ns aG j5).aB),aD ((iF dh ns aG j5).aC),fT ((iF dh ns aG j5).Sum),aD ((iF dh ns aG j5).jw),aD ((iF dh ns aG j5).To),aD ((iF dh ns aG j5).kG)]::rk)) (λhns H1=>?_) ?_
 ·refine sw 0 g 14 Jv Y H1<|Ai 3 s0 Y H1<|sw 4 g 3 Dk Y H1<|mD 7 8 g 3 nD s0 Y H1<|sw 9 g 13 Fv Y H1<|Ai 12 s0 Y H1<|sw 13 g 6 zU Y H1<|Ko 16 g 11 ahv Y H1<|Ai 17 s0 Y H1<|Jn H1 (λl0 rk lJ wJ=>∃(g1:Nat),lJ=(2,fP g1)::(27,.bool (moveB dh ns aG j5))::l0/\Hp b S wJ (dJ g1 112 [aD ((iF dh ns aG j5).Kind),aD ((iF dh ns aG j5).aB),aD ((iF dh ns aG j5).aC),fT ((iF dh ns aG j5).Sum),aD ((iF dh ns aG j5).jw),aD ((iF dh ns aG j5).To),aD ((iF dh ns aG j5).kG)]::rk)) 1 16777215 ?_ λhS1=>?_
  ·rintro _ w7 ⟨g1,rfl,K7⟩;have k5:=(K7.rm s0);refine xJ 24 Y Y k5<|Dn ⟨g1,Y,K7⟩ Y
  refine O2 18 22 Y Y ?_ ?_
  ·refine lF H1 Y (ahc _ (H1.s s6).any (H1.s s3).any (H1.s s5).any j5 aj aj hh) λw8 K8=>aP K8<|kT 19 Y Y K8<|yj 20 Y (vs:=(SV dh ns aG j5)) Y Y K8<|yj 21 Y (vs:=(SV dh ns aG j5)) Y Y K8<|O1 22 Y<|al zQ Y K8 λg3 w9 K9=>?_
   have k6:=(K9.rm s0);refine aP k6<|O1 23 Y<|sty Y K9 s0 Y λNn K10=>?_
   have k7:=(K10.rm s0);exact Kj hS1 k7 ⟨g3,Y,K10⟩ Y
  ·refine al zQ Y H1 λg4 RG tO=>?_;have k8:=(tO.rm s0);refine aP k8<|O1 18 Y<|lF tO Y (ahc _ (tO.s s7).any (tO.s s4).any (tO.s s6).any j5 aj aj hh) λQp rW=>?_
   have k9:=(rW.rm s0);refine aP k9<|kT 19 Y Y k9<|yj 20 Y (vs:=(SV dh ns aG j5)) Y Y k9<|yj 21 Y (vs:=(SV dh ns aG j5)) Y Y k9<|O1 23 Y<|sty Y rW s0 Y λWO vC=>?_
   have k10:=(vC.rm s0);exact Kj hS1 k10 ⟨g4,Y,vC⟩ Y
 rintro _ Xv ⟨rH,rfl,vo⟩;refine He vo (λ_ K=>K) (λl0 rk lJ wJ=>∃(gj2:Nat)(jE:ah)(jB:Nat),lJ=(4,fP gj2)::(5,.bool (gU ks ((iF dh ns aG j5).aB)))::l0/\Hp b S wJ (dJ gj2 59 [aD ((lg ks dh ns aG j5).ID),aD ((lg ks dh ns aG j5).aC),fT ((lg ks dh ns aG j5).Sum),.slice jE (((lg ks dh ns aG j5).aF).length) jB]::dP dL jE jB ((lg ks dh ns aG j5).aF)::rk)) (λhns H2=>?_) ?_
 ·refine sw 0 g 3 Dk Y H2<|mD 3 4 g 4 kE s1 Y H2<|mD 5 6 rH 1 rY s0 Y H2<|Jn H2 (λl0 rk lJ wJ=>∃(g5:Nat)(Gx:ah)(Gy:Nat),lJ=(4,fP g5)::(38,.bool (gU ks ((iF dh ns aG j5).aB)))::l0/\Hp b S wJ (dJ g5 59 [aD ((lg ks dh ns aG j5).ID),aD ((lg ks dh ns aG j5).aC),fT ((lg ks dh ns aG j5).Sum),.slice Gx (((lg ks dh ns aG j5).aF).length) Gy]::dP dL Gx Gy ((lg ks dh ns aG j5).aF)::rk)) 1 8191 ?_ λhS2=>?_
  ·rintro _ w21 ⟨g5,Gx,Gy,rfl,Gp⟩;have k16:=(Gp.cU 0 2);refine xJ 13 Y Y k16<|Dn ⟨g5,Gx,Gy,Y,Gp⟩ Y
  refine O2 7 11 Y Y ?_ ?_
  ·refine gW Y (find_ok _ (H2.s s5) ((iF dh ns aG j5).aB) aj hk) ?_;rintro _ w22 ⟨Eb,Ec,rfl,h22⟩;have Fa:=H2.c1 h22;have k17:=(Fa.rm s0);refine aP k17<|kT 8 Y Y k17<|yj 9 Y (vs:=[.agg #[aD ((lg ks dh ns aG j5).ID),aD ((lg ks dh ns aG j5).aC),fT ((lg ks dh ns aG j5).Sum),.slice Eb (((lg ks dh ns aG j5).aF).length) Ec],.bool (gU ks ((iF dh ns aG j5).aB))]) Y Y k17<|yj 10 Y (vs:=[.agg #[aD ((lg ks dh ns aG j5).ID),aD ((lg ks dh ns aG j5).aC),fT ((lg ks dh ns aG j5).Sum),.slice Eb (((lg ks dh ns aG j5).aF).length) Ec],.bool (gU ks ((iF dh ns aG j5).aB))]) Y Y k17<|O1 11 Y<|al kZ Y Fa λg7 w23 Jk=>?_
   have k18:=(Jk.cU 0 2);refine aP k18<|O1 12 Y<|sty Y Jk s0 Y λw24 pG=>?_
   have k19:=(pG.cU 0 2);exact Kj hS2 k19 ⟨g7,Eb,Ec,Y,pG⟩ Y
  ·refine al kZ Y H2 λg8 w25 FT=>?_;have k20:=(FT.rm s0);refine aP k20<|O1 7 Y<|gW Y (find_ok _ (FT.s s6) ((iF dh ns aG j5).aB) aj hk) ?_
   rintro _ w26 ⟨Gz,GA,rfl,h26⟩;have Np:=FT.c1 h26;have k21:=(Np.cU 0 2);refine aP k21<|kT 8 Y Y k21<|yj 9 Y (vs:=[.agg #[aD ((lg ks dh ns aG j5).ID),aD ((lg ks dh ns aG j5).aC),fT ((lg ks dh ns aG j5).Sum),.slice Gz (((lg ks dh ns aG j5).aF).length) GA],.bool (gU ks ((iF dh ns aG j5).aB))]) Y Y k21<|yj 10 Y (vs:=[.agg #[aD ((lg ks dh ns aG j5).ID),aD ((lg ks dh ns aG j5).aC),fT ((lg ks dh ns aG j5).Sum),.slice Gz (((lg ks dh ns aG j5).aF).length) GA],.bool (gU ks ((iF dh ns aG j5).aB))]) Y Y k21<|O1 12 Y<|sty Y Np s1 Y λw27 N9=>?_
   have k22:=(N9.cU 0 2);exact Kj hS2 k22 ⟨g8,Gz,GA,Y,N9⟩ Y
 rintro _ w28 ⟨gj2,jE,jB,rfl,Ig⟩;refine bQ Y<|mv Y<|iG 2 42 ((moveB dh ns aG j5)&&(gU ks ((iF dh ns aG j5).aB))) ?_ ?_
 ·cases amc:(moveB dh ns aG j5) with
  | true=>
   refine bG Y (bA Y) Y<|ev (dY Y Y)<|dI Y
  | false=>
   refine eB<|ev (eG Y Y)<|dI Y
 refine dn<|bR Y (λQU=>?_) (λQU=>?_)
 ·refine jr<|mv Y<|ev (dK pU Y Y (Ig.x s0))<|jD rH 4 Vy Ig s2 Y<|jD rH 5 yA Ig s2 Y<|gW Y (Vw ((Ig.mV 0 3).mV 3 3) (lg ks dh ns aG j5) ((iF dh ns aG j5).jw) ((iF dh ns aG j5).To) aj aj aj) ?_
  rintro _ w29 ⟨rfl,Ae1,ce1,Af1,cf1,Ld⟩;refine jv<|qA (zD Y ?_)
  have H3:=(Ld.cU 3 3);exact⟨Y,_,_,_,_,by unfold QT Vx; first | (rw [aO (show OA ks dh ns aG j5=true from QU),aO (show OA ks dh ns aG j5=true from QU)]; exact H3) | (rw [aK (show ¬ OA ks dh ns aG j5=true by rw [show OA ks dh ns aG j5=false from QU]; decide),aK (show ¬ OA ks dh ns aG j5=true by rw [show OA ks dh ns aG j5=false from QU]; decide)]; exact H3)⟩
 refine xH (qA (zD Y ?_));have H4:=(Ig.cU 0 3);exact⟨Y,_,_,_,_,by unfold QT Vx; first | (rw [aO (show OA ks dh ns aG j5=true from QU),aO (show OA ks dh ns aG j5=true from QU)]; exact H4) | (rw [aK (show ¬ OA ks dh ns aG j5=true by rw [show OA ks dh ns aG j5=false from QU]; decide),aK (show ¬ OA ks dh ns aG j5=true by rw [show OA ks dh ns aG j5=false from QU]; decide)]; exact H4)⟩
def af5(c:aI)(id u:Int):aM:=⟨1,c.ID,c.aC,c.Sum,id,id,u⟩
def za(o:aM):gD:=⟨0,0,6,o.aB,o.jw,0⟩
def trE(ls:List bB)(ks:List aI)(ns:List aW)(aG:List Int)(bW:Int)(c:aI):Int × Bool:=ZI c ns aG (jS ks ns ls) bW
def af6(ls:List bB)(ks:List aI)(ns:List aW)(aG:List Int)(bW u:Int)(c:aI):List aM:=if 0<(jM ls c.ID).length then[] else if(trE ls ks ns aG bW c).2=true then[af5 c (trE ls ks ns aG bW c).1 u] else[]
def yB(ls:List bB)(ks:List aI)(ns:List aW)(aG:List Int)(bW u:Int)(M:List aI):List aM:=M.flatMap (af6 ls ks ns aG bW u)
theorem Yw{u:Int}{k:Nat}(hx:M[k]? = some x):yB ls ks ns aG bW u (M.take (k+1))=yB ls ks ns aG bW u (M.take k)++af6 ls ks ns aG bW u x:=by
  unfold yB; rw [fI hx,Z7]; simp
theorem Jw(ls:List bB)(ks:List aI)(ns:List aW)(aG:List Int)(bW u:Int):∀ M:List aI,(yB ls ks ns aG bW u M).length<=M.length
  | []=>kH _
  | c::M=>by
    have ih:=Jw ls ks ns aG bW u M;have h1:(af6 ls ks ns aG bW u c).length<=1:=by unfold af6; split; simp; split <;> simp
    show(af6 ls ks ns aG bW u c++yB ls ks ns aG bW u M).length<=_;rw [iO,oI]; omega
theorem ahA{u:Int}{k:Nat}(hx:M[k]? = some x)(h:0<(jM ls x.ID).length∨(trE ls ks ns aG bW x).2=false):yB ls ks ns aG bW u (M.take (k+1))=yB ls ks ns aG bW u (M.take k):=by
  rw [Yw hx]; unfold af6
  rcases h with h | h
  · rw [aO h,Ad]
  · rw [h]; simp
theorem amZ{u:Int}{k:Nat}(hx:M[k]? = some x)(h:¬ 0<(jM ls x.ID).length)(h2:(trE ls ks ns aG bW x).2=true):yB ls ks ns aG bW u (M.take (k+1))=yB ls ks ns aG bW u (M.take k)++[af5 x (trE ls ks ns aG bW x).1 u]:=by
  rw [Yw hx]; unfold af6; rw [aK h,aO h2]
theorem OB:dH prog 195 7 16:=ay
theorem wT(a0:Int)(a1:Int)(a2:Int):prog.built 120 [(2,aD a0),(3,aD a1),(4,aD a2)]=some #[aD 0,aD 0,aD a0,aD a1,aD a2,aD 0]:=ak
theorem wU(a0:Int)(a1:Int)(a2:Int)(a3:Int)(a4:Int)(a5:Int):∀ w,(Instr.buildSlice 138 1 (List.toArray [(0,.agg #[aD a0,aD a1,aD a2,aD a3,aD a4,aD a5])])).run prog w=.ok (.slice (some ⟨w.heap.size,0,none⟩) 1 1) (w.alloc (.cells (List.toArray [aD a0,aD a1,aD a2,aD a3,aD a4,aD a5]) 120)):=ay
theorem af7:kQ prog 120 6 48:=by
  obtain⟨i,h1,h2,h3,h4⟩:=rT (show(prog.info? 120).map (λi=>(i.zero,i.size,i.bytes))=some (some (.agg #[aD 0,aD 0,aD 0,aD 0,aD 0,aD 0]),6,48) by kernel_rfl);exact⟨i,_,h1,h2,h3,h4,Y⟩
set_option maxHeartbeats 2000000 in
theorem ajO{b w:World}{S:Nat->Prop}{F:List lC}{g:Nat}{v0 v5 v6 v7 v8 v11:Value}{AL:ah}{cL:Nat}{AD:ah}{cD:Nat}{ds:List aM}{AO:ah}{cO:Nat}{os:List aM}{AC:ah}{cC:Nat}{cs:List gD}{AN:ah}{cN:Nat}{AK:ah}{cK:Nat}{AV:ah}{cV:Nat}{AS:ah}{cS:Nat}{eH aN:Int}(H0:Hp b S w (dJ g 195 [v0,.slice AL ls.length cL,.slice AD ds.length cD,.slice AN ns.length cN,.slice AK ks.length cK,v5,v6,v7,v8,aD bW,aD eH,v11,aD aN,.slice AV aG.length cV,.slice AS dh.length cS,.slice AO os.length cO,.slice AC cs.length cC]::aR dB 117 AL cL ls::aR bF 112 AD cD ds::aR bF 112 AO cO os::aR yY 120 AC cC cs::dP bX AN cN ns::dP bH AK cK ks::dP dL AV cV aG::dP bH AS cS dh::F))(hl:ls.length<=100)(hd:ds.length<=100000)(ho:os.length<=100000)(hq:cs.length<=1000)(hn:ns.length<=1000)(hc:ks.length<=1000)(hs:dh.length<=1000)(hh:∀ x∈dh,x.aF.length<=100000)(hu:-1099511627776<=aN/\aN<=4398046511104/\-1099511627776<=eH/\eH<=1099511627776) :
    bO prog 156 #[fP g] w λv w'=>v=.tuple #[]/\∃ AD' cD' AO' cO' AC' cC',Hp b S w' (dJ g 195 [v0,.slice AL ls.length cL,.slice AD' ((ds++(yB ls ks ns aG bW (aN+eH) dh)).length) cD',.slice AN ns.length cN,.slice AK ks.length cK,v5,v6,v7,v8,aD bW,aD eH,v11,aD aN,.slice AV aG.length cV,.slice AS dh.length cS,.slice AO' ((os++(yB ls ks ns aG bW (aN+eH) dh)).length) cO',.slice AC' ((cs++(yB ls ks ns aG bW (aN+eH) dh).map za).length) cC']::aR dB 117 AL cL ls::aR bF 112 AD' cD' (ds++(yB ls ks ns aG bW (aN+eH) dh))::aR bF 112 AO' cO' (os++(yB ls ks ns aG bW (aN+eH) dh))::aR yY 120 AC' cC' (cs++(yB ls ks ns aG bW (aN+eH) dh).map za)::dP bX AN cN ns::dP bH AK cK ks::dP dL AV cV aG::dP bH AS cS dh::F):=by
 refine sF func156 ntmps156 Y<|bQ Y<|ev (dS Y)<|jD g 14 Jv H0 s0 Y<|ev (eY jf Y)<|mv Y<|dn<|cZ ?_
 have d9:(ds:List aM)=(ds++(yB ls ks ns aG bW (aN+eH) (dh.take 0))):=by rw [List.take_zero]; exact(Ad _).symm
 rw [d9] at H0;have fG:(os:List aM)=(os++(yB ls ks ns aG bW (aN+eH) (dh.take 0))):=by rw [List.take_zero]; exact(Ad _).symm
 rw [fG] at H0;have jQ:(cs:List gD)=(cs++(yB ls ks ns aG bW (aN+eH) (dh.take 0)).map za):=by rw [List.take_zero]; exact(Ad _).symm
 rw [jQ] at H0;refine rR (λmJ lJ wJ=>∃(k:Nat)(A2:ah)(c2:Nat)(SX:ah)(c15:Nat)(A16:ah)(c16:Nat),lJ=[(0,fP g),(10,.slice AS dh.length cS),(11,aD ((dh.length:Nat):Int)),(12,aD ((k:Nat):Int))]/\mJ=dh.length - k/\k<=dh.length/\Hp b S wJ (aR bF 112 A2 c2 (ds++(yB ls ks ns aG bW (aN+eH) (dh.take k)))::aR bF 112 SX c15 (os++(yB ls ks ns aG bW (aN+eH) (dh.take k)))::aR yY 120 A16 c16 (cs++(yB ls ks ns aG bW (aN+eH) (dh.take k)).map za)::dJ g 195 [v0,.slice AL ls.length cL,.slice A2 ((ds++(yB ls ks ns aG bW (aN+eH) (dh.take k))).length) c2,.slice AN ns.length cN,.slice AK ks.length cK,v5,v6,v7,v8,aD bW,aD eH,v11,aD aN,.slice AV aG.length cV,.slice AS dh.length cS,.slice SX ((os++(yB ls ks ns aG bW (aN+eH) (dh.take k))).length) c15,.slice A16 ((cs++(yB ls ks ns aG bW (aN+eH) (dh.take k)).map za).length) c16]::aR dB 117 AL cL ls::dP bX AN cN ns::dP bH AK cK ks::dP dL AV cV aG::dP bH AS cS dh::F)) ⟨0,AD,cD,AO,cO,AC,cC,Y,Y,fK _,((H0.mV 0 2).mV 2 3)⟩ Y ?_;rintro _ _ w1 ⟨k,A2,c2,SX,c15,A16,c16,rfl,rfl,hk,K1⟩;refine rg<|ev (fB Y Y)<|dn<|oC Y (λaDh=>?_) (λaDh=>?_)
 ·refine jh ?_;refine aZ<|cZ ?_
  obtain⟨x1,bP⟩:=bC (xs:=dh) (i:=k) aj;have hhx:=hh _ (dA bP);have htl:=Jw ls ks ns aG bW (aN+eH) (dh.take k)
  simp only [fE] at htl
  obtain⟨T,hT⟩:∃ y,yB ls ks ns aG bW (aN+eH) (dh.take k)=y:=⟨_,rfl⟩;obtain⟨E,hE⟩:∃ y,ZI x1 ns aG (jS ks ns ls) bW=y:=⟨_,rfl⟩;rw [hT] at K1 htl;refine rg<|ev (eU (i:=k) jf qG Y Y Y (aJ bP) ((K1.s s8).some_ bP)) ?_
  obtain⟨B1,d1,Ak,hi1⟩:=Aj (K1.is s8 bP);have H1:=K1.push hi1;refine ev (fV (cs:=[aD x1.ID,aD x1.aC,fT x1.Sum,.slice B1 x1.aF.length d1]) pU Y Y (Ib Ak))<|al kZ Y H1 λg1 w2 K2=>sty Y K2 s0 Y λw3 K3=>dn<|aZ<|bQ Y<|jD g1 0 qH K3 s0 Y<|gW Y (QS ((K3.mV 0 5).mV 5 2) aj x1.ID) ?_
  rintro _ w4 ⟨Le,Lh,rfl,K4⟩;refine ev (eY fq Y)<|ev (pJ Y Y)<|dn<|kX Y (λhc21=>?_) (λhc21=>?_)
  ·refine uU (oz (vK (gB ?_)));refine jr<|ev (dW Y Y)<|mv Y<|jv ?_
   have hT2:yB ls ks ns aG bW (aN+eH) (dh.take (k+1))=T:=(ahA bP (.inl aj)).trans hT;exact dQ ⟨(k+1),A2,c2,SX,c15,A16,c16,Y,Y,aj,by rw [hT2]; exact((((K4.cU 3 2).rm s0).mV 0 2).mV 2 3)⟩ rfl aj
  refine jh ?_;refine He K4 (λ_ K=>K) (λl0 rk lJ wJ=>lJ=(4,aD (E.1))::(5,.bool (E.2))::l0/\Hp b S wJ rk) (λhns H2=>?_) ?_
  ·refine lH 0 Y (λ_ hK=>dK pU Y Y (hK.x s3)) H2<|sw 1 g 3 Dk Y H2<|mD 4 5 g 3 nD s1 Y H2<|sw 6 g 13 Fv Y H2<|Ai 9 s1 Y H2<|kT 10 Y Y H2<|sw 12 g 6 zU Y H2<|mD 15 16 g 9 Ov s1 Y H2<|O1 11 Y<|gW Y (Yv (((H2.mV 3 5).sel s5).mV 6 4) aj aj aj) ?_
   rintro _ w5 ⟨Ad1,cd1,rfl,K5⟩;have k1:=(((((K5.rm s0).mV 2 2).mV 5 5).mV 7 2).sel s9);have hx9:=afQ _ x1 (K5.s s7).any (K5.s s3).any (K5.s s11).any (K5.o s0) bW hhx aj;rw [hE] at hx9;refine aP k1<|O1 17 Y<|lF K5 Y hx9 λw6 K6=>?_
   have k2:=(((((K6.rm s0).mV 2 2).mV 5 5).mV 7 2).sel s9);refine aP k2<|kT 18 Y Y k2<|yj 19 Y (vs:=[aD (E.1),.bool (E.2)]) Y Y k2<|yj 20 Y (vs:=[aD (E.1),.bool (E.2)]) Y Y k2<|xJ 21 Y Y k2<|xJ 22 Y Y k2<|Dn ⟨Y,(((((K6.rm s0).mV 2 2).mV 5 5).mV 7 2).sel s9)⟩ Y
  rintro _ w7 ⟨rfl,K7⟩;refine aZ<|bQ Y<|ev (gZ Y)<|dn<|bR Y (λVj=>?_) (λVj=>?_)
  ·try simp only [eO,dN,bK,dZ,eu,fC,bL,bU] at Vj
   refine uU (oz (vK (gB ?_)));refine jr<|ev (dW Y Y)<|mv Y<|jv ?_
   have hT2:yB ls ks ns aG bW (aN+eH) (dh.take (k+1))=T:=(ahA bP (.inr (by simpa [trE,hE] using Vj))).trans hT;exact dQ ⟨(k+1),A2,c2,SX,c15,A16,c16,Y,Y,aj,by rw [hT2]; exact((((K7.cU 3 2).rm s0).mV 0 2).mV 2 3)⟩ rfl aj
  try simp only [eO,dN,bK,dZ,eu,fC,bL,bU] at Vj
  refine jh ?_;refine He K7 (λ_ K=>K) (λl0 rk lJ wJ=>∃(rH:Nat),lJ=(6,fP rH)::l0/\Hp b S wJ (dJ rH 112 [aD 1,aD x1.ID,aD x1.aC,fT x1.Sum,aD (E.1),aD (E.1),aD (aN+eH)]::rk)) (λhns H3=>?_) ?_
  ·refine mD 0 1 g1 0 qH s3 Y H3<|mD 2 3 g1 1 tu s3 Y H3<|mD 4 5 g1 2 Kt s3 Y H3<|kT 6 Y Y H3<|kT 7 Y Y H3<|sw 8 g 12 ac3 Y H3<|Ai 11 s1 Y H3<|sw 12 g 6 zU Y H3<|mD 15 16 g 10 SQ s1 Y H3<|lH 17 Y (λ_ _=>dW Y Y) H3<|lH 18 Y (λ_ _=>iE (vs:=[(0,aD 1),(1,aD x1.ID),(2,aD x1.aC),(3,fT x1.Sum),(4,aD (E.1)),(5,aD (E.1)),(6,aD (aN+eH))]) (cs:=[aD 1,aD x1.ID,aD x1.aC,fT x1.Sum,aD (E.1),aD (E.1),aD (aN+eH)]) Y (by apply mY)) H3<|O1 19 rfl<|al zQ rfl H3 λg2 w8 K8=>?_
   have k3:=(K8.rm s0);refine aP k3<|O1 20 Y<|sty Y K8 s0 Y λw9 K9=>?_
   have k4:=(K9.rm s0);refine aP k4<|Dn ⟨g2,Y,K9⟩ Y
  rintro _ Nn ⟨rH,rfl,K10⟩;refine He K10 (λ_ K=>((K.cU 6 2).rm s2)) (λl0 rk lJ wJ=>∃(oQ:ah)(cj2:Nat)(wm:ah)(vD:Nat),lJ=l0/\Hp b S wJ (dJ g 195 [v0,.slice AL ls.length cL,.slice oQ (((ds++T)++([(⟨1,x1.ID,x1.aC,x1.Sum,E.1,E.1,aN+eH⟩:aM)]:List aM)).length) cj2,.slice AN ns.length cN,.slice AK ks.length cK,v5,v6,v7,v8,aD bW,aD eH,v11,aD aN,.slice AV aG.length cV,.slice AS dh.length cS,.slice wm (((os++T)++([(⟨1,x1.ID,x1.aC,x1.Sum,E.1,E.1,aN+eH⟩:aM)]:List aM)).length) vD,.slice A16 ((cs++T.map za).length) c16]::aR bF 112 oQ cj2 ((ds++T)++([(⟨1,x1.ID,x1.aC,x1.Sum,E.1,E.1,aN+eH⟩:aM)]:List aM))::aR bF 112 wm vD ((os++T)++([(⟨1,x1.ID,x1.aC,x1.Sum,E.1,E.1,aN+eH⟩:aM)]:List aM))::rk)) (λhns H4=>?_) ?_
  ·have k5:=((H4.cU 6 2).rm s2);refine kT 0 Y Y k5<|kT 1 Y Y k5<|sw 2 g 15 Fq Y k5<|lH 6 Y (λ_ hK=>dK vk Y Y (hK.x s0)) k5<|sw 9 g 0 qM Y k5<|Ko 12 g 2 Bz Y k5<|lH 14 Y (λ_ hK=>dK vk Y Y (hK.x s0)) k5<|Jn (H4.rm s7) (λl0 rk lJ wJ=>∃(g4:Nat)(nY:ah)(nZ g3:Nat),lJ=(72,.slice nY (((os++T)++([(⟨1,x1.ID,x1.aC,x1.Sum,E.1,E.1,aN+eH⟩:aM)]:List aM)).length) nZ)::(77,.slice A2 ((ds++T).length) c2)::(79,.slice (some ⟨g4,0,none⟩) (([(⟨1,x1.ID,x1.aC,x1.Sum,E.1,E.1,aN+eH⟩:aM)]:List aM).length) 1)::l0/\Hp b S wJ (aR bF 112 (some ⟨g4,0,none⟩) 1 ([(⟨1,x1.ID,x1.aC,x1.Sum,E.1,E.1,aN+eH⟩:aM)]:List aM)::aR bF 112 nY nZ ((os++T)++([(⟨1,x1.ID,x1.aC,x1.Sum,E.1,E.1,aN+eH⟩:aM)]:List aM))::aR bF 112 (some ⟨g3,0,none⟩) 1 ([(⟨1,x1.ID,x1.aC,x1.Sum,E.1,E.1,aN+eH⟩:aM)]:List aM)::rk)) 8 65535 ?_ λhS1=>?_
   ·rintro _ w36 ⟨g4,nY,nZ,g3,rfl,K36⟩;refine O1 16 Y<|ap (ys:=([(⟨1,x1.ID,x1.aC,x1.Sum,E.1,E.1,aN+eH⟩:aM)]:List aM)) K36 s9 Y Y (K36.o s0) kR Dj (by simp only [iO,jN]; omega) av rfl λAp6 cp6 w37 K37=>?_
    have k22:=((K37.rm s6).cU 0 4);refine aP k22<|Qk 17 g 15 Fq Y k22<|O1 19 Y<|wD Y K37 s6 Y λw38 K38=>?_
    have k23:=(K38.cU 0 5);refine aP k23<|Qk 20 g 0 qM Y k23<|Ko 22 g 2 Bz Y k23<|O1 23 Y<|wD Y K38 s0 Y λw39 K39=>?_
    have k24:=(K39.cU 0 5);refine aP k24<|Dn ⟨Ap6,cp6,nY,nZ,Y,((K39.rm s4).rm s2)⟩ Y
   refine Jn (H4.rm s7) (λl0 rk lJ wJ=>∃(nY:ah)(nZ g3:Nat),lJ=(72,.slice nY (((os++T)++([(⟨1,x1.ID,x1.aC,x1.Sum,E.1,E.1,aN+eH⟩:aM)]:List aM)).length) nZ)::(77,.slice A2 ((ds++T).length) c2)::l0/\Hp b S wJ (aR bF 112 nY nZ ((os++T)++([(⟨1,x1.ID,x1.aC,x1.Sum,E.1,E.1,aN+eH⟩:aM)]:List aM))::aR bF 112 (some ⟨g3,0,none⟩) 1 ([(⟨1,x1.ID,x1.aC,x1.Sum,E.1,E.1,aN+eH⟩:aM)]:List aM)::rk)) 9 32767 ?_ λhS2=>?_
   ·rintro _ w40 ⟨nY,nZ,g3,rfl,K40⟩;refine O1 15 Y<|yU (τ:=bF) (x:=(⟨1,x1.ID,x1.aC,x1.Sum,E.1,E.1,aN+eH⟩:aM)) Y (by intro _; apply fF) rfl K40 (λ_ _=>rfl) λg21 w41 K41=>?_
    have k25:=(((K41.rm s9).rm s5).cU 0 3);exact Kj hS1 k25 ⟨g21,nY,nZ,g3,Y,K41⟩ Y
   refine Jn (H4.rm s7) (λl0 rk lJ wJ=>∃(g5:Nat)(nY:ah)(nZ g3:Nat),lJ=(72,.slice nY (((os++T)++([(⟨1,x1.ID,x1.aC,x1.Sum,E.1,E.1,aN+eH⟩:aM)]:List aM)).length) nZ)::(79,.slice (some ⟨g5,0,none⟩) (([(⟨1,x1.ID,x1.aC,x1.Sum,E.1,E.1,aN+eH⟩:aM)]:List aM).length) 1)::l0/\Hp b S wJ (aR bF 112 (some ⟨g5,0,none⟩) 1 ([(⟨1,x1.ID,x1.aC,x1.Sum,E.1,E.1,aN+eH⟩:aM)]:List aM)::aR bF 112 nY nZ ((os++T)++([(⟨1,x1.ID,x1.aC,x1.Sum,E.1,E.1,aN+eH⟩:aM)]:List aM))::aR bF 112 (some ⟨g3,0,none⟩) 1 ([(⟨1,x1.ID,x1.aC,x1.Sum,E.1,E.1,aN+eH⟩:aM)]:List aM)::rk)) 9 57343 ?_ λhS3=>?_
   ·rintro _ w42 ⟨g5,nY,nZ,g3,rfl,K42⟩;refine O1 13 Y<|mK K42 s5 Y ?_
    have k26:=(((K42.rm s9).rm s5).cU 0 3);exact Kj hS1 k26 ⟨g5,nY,nZ,g3,Y,K42⟩ Y
   refine Jn H4 (λl0 rk lJ wJ=>∃(g6 g3:Nat),lJ=(69,.slice SX ((os++T).length) c15)::(71,.slice (some ⟨g3,0,none⟩) (([(⟨1,x1.ID,x1.aC,x1.Sum,E.1,E.1,aN+eH⟩:aM)]:List aM).length) 1)::(77,.slice A2 ((ds++T).length) c2)::(79,.slice (some ⟨g6,0,none⟩) (([(⟨1,x1.ID,x1.aC,x1.Sum,E.1,E.1,aN+eH⟩:aM)]:List aM).length) 1)::l0/\Hp b S wJ (aR bF 112 (some ⟨g6,0,none⟩) 1 ([(⟨1,x1.ID,x1.aC,x1.Sum,E.1,E.1,aN+eH⟩:aM)]:List aM)::aR bF 112 (some ⟨g3,0,none⟩) 1 ([(⟨1,x1.ID,x1.aC,x1.Sum,E.1,E.1,aN+eH⟩:aM)]:List aM)::rk)) 9 65279 ?_ λhS4=>?_
   ·rintro _ w43 ⟨g6,g3,rfl,K43⟩;refine O1 8 Y<|ap (ys:=([(⟨1,x1.ID,x1.aC,x1.Sum,E.1,E.1,aN+eH⟩:aM)]:List aM)) K43 s9 Y Y (K43.o s1) kR Dj (by simp only [iO,jN]; omega) av rfl λAp7 cp7 w44 K44=>?_
    have k27:=(((K44.rm s9).rm s5).cU 0 3);exact Kj hS1 k27 ⟨g6,Ap7,cp7,g3,Y,((K44.sel s0).sel s1)⟩ Y
   refine Jn H4 (λl0 rk lJ wJ=>∃(g3:Nat),lJ=(69,.slice SX ((os++T).length) c15)::(71,.slice (some ⟨g3,0,none⟩) (([(⟨1,x1.ID,x1.aC,x1.Sum,E.1,E.1,aN+eH⟩:aM)]:List aM).length) 1)::(77,.slice A2 ((ds++T).length) c2)::l0/\Hp b S wJ (aR bF 112 (some ⟨g3,0,none⟩) 1 ([(⟨1,x1.ID,x1.aC,x1.Sum,E.1,E.1,aN+eH⟩:aM)]:List aM)::rk)) 10 32511 ?_ λhS5=>?_
   ·rintro _ w45 ⟨g3,rfl,K45⟩;refine O2 8 15 Y Y ?_ ?_
    ·refine ap (ys:=([(⟨1,x1.ID,x1.aC,x1.Sum,E.1,E.1,aN+eH⟩:aM)]:List aM)) K45 s8 Y Y (K45.o s0) kR Dj (by simp only [iO,jN]; omega) av rfl λAp8 cp8 w46 K46=>?_;have k28:=(((K46.rm s8).rm s4).cU 0 2);exact Kj hS2 k28 ⟨Ap8,cp8,g3,Y,K46⟩ Y
    ·refine yU (τ:=bF) (x:=(⟨1,x1.ID,x1.aC,x1.Sum,E.1,E.1,aN+eH⟩:aM)) Y (by intro _; apply fF) rfl K45 (λ_ _=>rfl) λg22 w47 K47=>?_;have k29:=(((K47.cU 8 2).rm s4).cU 0 2);exact Kj hS4 k29 ⟨g22,g3,Y,K47⟩ Y
   refine Jn H4 (λl0 rk lJ wJ=>∃(g7 g3:Nat),lJ=(69,.slice SX ((os++T).length) c15)::(71,.slice (some ⟨g3,0,none⟩) (([(⟨1,x1.ID,x1.aC,x1.Sum,E.1,E.1,aN+eH⟩:aM)]:List aM).length) 1)::(79,.slice (some ⟨g7,0,none⟩) (([(⟨1,x1.ID,x1.aC,x1.Sum,E.1,E.1,aN+eH⟩:aM)]:List aM).length) 1)::l0/\Hp b S wJ (aR bF 112 (some ⟨g7,0,none⟩) 1 ([(⟨1,x1.ID,x1.aC,x1.Sum,E.1,E.1,aN+eH⟩:aM)]:List aM)::aR bF 112 (some ⟨g3,0,none⟩) 1 ([(⟨1,x1.ID,x1.aC,x1.Sum,E.1,E.1,aN+eH⟩:aM)]:List aM)::rk)) 10 57087 ?_ λhS6=>?_
   ·rintro _ w48 ⟨g7,g3,rfl,K48⟩;refine O2 8 13 Y Y ?_ ?_
    ·refine ap (ys:=([(⟨1,x1.ID,x1.aC,x1.Sum,E.1,E.1,aN+eH⟩:aM)]:List aM)) K48 s9 Y Y (K48.o s1) kR Dj (by simp only [iO,jN]; omega) av rfl λAp9 cp9 w49 K49=>?_;have k30:=(((K49.rm s9).rm s5).cU 0 3);exact Kj hS3 k30 ⟨g7,Ap9,cp9,g3,Y,((K49.sel s0).sel s1)⟩ Y
    ·refine mK K48 s4 Y ?_;have k31:=(((K48.cU 8 2).rm s4).cU 0 2);exact Kj hS4 k31 ⟨g7,g3,Y,K48⟩ Y
   refine Jn H4 (λl0 rk lJ wJ=>∃(g9:Nat),lJ=(69,.slice SX ((os++T).length) c15)::(77,.slice A2 ((ds++T).length) c2)::(79,.slice (some ⟨g9,0,none⟩) (([(⟨1,x1.ID,x1.aC,x1.Sum,E.1,E.1,aN+eH⟩:aM)]:List aM).length) 1)::l0/\Hp b S wJ (aR bF 112 (some ⟨g9,0,none⟩) 1 ([(⟨1,x1.ID,x1.aC,x1.Sum,E.1,E.1,aN+eH⟩:aM)]:List aM)::rk)) 10 65151 ?_ λhS7=>?_
   ·rintro _ w50 ⟨g9,rfl,K50⟩;refine O1 7 Y<|yU (τ:=bF) (x:=(⟨1,x1.ID,x1.aC,x1.Sum,E.1,E.1,aN+eH⟩:aM)) Y (by intro _; apply fF) rfl K50 (λ_ _=>rfl) λg23 w51 K51=>?_
    have k32:=(((K51.cU 8 2).rm s4).cU 0 2);exact Kj hS4 k32 ⟨g9,g23,Y,((K51.sel s0).sel s1)⟩ Y
   refine Jn H4 (λl0 rk lJ wJ=>∃(g14 g13:Nat),lJ=(71,.slice (some ⟨g13,0,none⟩) (([(⟨1,x1.ID,x1.aC,x1.Sum,E.1,E.1,aN+eH⟩:aM)]:List aM).length) 1)::(77,.slice A2 ((ds++T).length) c2)::(79,.slice (some ⟨g14,0,none⟩) (([(⟨1,x1.ID,x1.aC,x1.Sum,E.1,E.1,aN+eH⟩:aM)]:List aM).length) 1)::l0/\Hp b S wJ (aR bF 112 (some ⟨g14,0,none⟩) 1 ([(⟨1,x1.ID,x1.aC,x1.Sum,E.1,E.1,aN+eH⟩:aM)]:List aM)::aR bF 112 (some ⟨g13,0,none⟩) 1 ([(⟨1,x1.ID,x1.aC,x1.Sum,E.1,E.1,aN+eH⟩:aM)]:List aM)::rk)) 10 65247 ?_ λhS8=>?_
   ·rintro _ w52 ⟨g14,g13,rfl,K52⟩;refine O1 5 Y<|mK K52 s4 Y ?_
    have k33:=(((K52.cU 8 2).rm s4).cU 0 2);exact Kj hS4 k33 ⟨g14,g13,Y,K52⟩ Y
   refine Jn H4 (λl0 rk lJ wJ=>∃(g3:Nat),lJ=(69,.slice SX ((os++T).length) c15)::(71,.slice (some ⟨g3,0,none⟩) (([(⟨1,x1.ID,x1.aC,x1.Sum,E.1,E.1,aN+eH⟩:aM)]:List aM).length) 1)::l0/\Hp b S wJ (aR bF 112 (some ⟨g3,0,none⟩) 1 ([(⟨1,x1.ID,x1.aC,x1.Sum,E.1,E.1,aN+eH⟩:aM)]:List aM)::rk)) 11 24319 ?_ λhS9=>?_
   ·rintro _ w53 ⟨g3,rfl,K53⟩;refine xq (fuel:=10) (rs:=[8,13,15]) ak au ?_
    simp only [vV,kY,vW,vX,tq]
    refine⟨?_,?_,?_⟩
    ·refine⟨_,Y,?_⟩;refine ap (ys:=([(⟨1,x1.ID,x1.aC,x1.Sum,E.1,E.1,aN+eH⟩:aM)]:List aM)) K53 s8 Y Y (K53.o s0) kR Dj (by simp only [iO,jN]; omega) av rfl λayr ays w54 K54=>?_;have k34:=(((K54.rm s8).rm s4).cU 0 2);refine aP k34<|O2 13 15 Y Y ?_ ?_
     ·refine mK K54 s4 Y<|Kj hS2 k34 ⟨ayr,ays,g3,Y,K54⟩ Y
     ·refine yU (τ:=bF) (x:=(⟨1,x1.ID,x1.aC,x1.Sum,E.1,E.1,aN+eH⟩:aM)) Y (by intro _; apply fF) rfl K54 (λ_ _=>rfl) λg24 w55 K55=>?_;have k35:=(((K55.rm s9).rm s5).cU 0 3);exact Kj hS3 k35 ⟨g24,ayr,ays,g3,Y,K55⟩ Y
    ·refine⟨_,Y,?_⟩;refine mK K53 s3 Y ?_;have k36:=(((K53.cU 7 2).rm s3).rm s0);exact Kj hS5 k36 ⟨g3,Y,K53⟩ Y
    ·refine⟨_,Y,?_⟩;refine yU (τ:=bF) (x:=(⟨1,x1.ID,x1.aC,x1.Sum,E.1,E.1,aN+eH⟩:aM)) Y (by intro _; apply fF) rfl K53 (λ_ _=>rfl) λg25 w56 K56=>?_;have k37:=(((K56.cU 8 2).rm s4).cU 0 2);exact Kj hS6 k37 ⟨g25,g3,Y,K56⟩ Y
   refine Jn H4 (λl0 rk lJ wJ=>lJ=(69,.slice SX ((os++T).length) c15)::(77,.slice A2 ((ds++T).length) c2)::l0/\Hp b S wJ rk) 11 32383 ?_ λayu=>?_
   ·rintro _ w57 ⟨rfl,K57⟩;refine O2 7 15 Y Y ?_ ?_
    ·refine yU (τ:=bF) (x:=(⟨1,x1.ID,x1.aC,x1.Sum,E.1,E.1,aN+eH⟩:aM)) Y (by intro _; apply fF) rfl K57 (λ_ _=>rfl) λg26 w58 K58=>?_;have k38:=(((K58.cU 7 2).rm s3).rm s0);exact Kj hS5 k38 ⟨g26,Y,K58⟩ Y
    ·refine yU (τ:=bF) (x:=(⟨1,x1.ID,x1.aC,x1.Sum,E.1,E.1,aN+eH⟩:aM)) Y (by intro _; apply fF) rfl K57 (λ_ _=>rfl) λg27 w59 K59=>?_;have k39:=(((K59.cU 7 2).rm s3).rm s0);exact Kj hS7 k39 ⟨g27,Y,K59⟩ Y
   refine Jn H4 (λl0 rk lJ wJ=>∃(g11:Nat),lJ=(69,.slice SX ((os++T).length) c15)::(79,.slice (some ⟨g11,0,none⟩) (([(⟨1,x1.ID,x1.aC,x1.Sum,E.1,E.1,aN+eH⟩:aM)]:List aM).length) 1)::l0/\Hp b S wJ (aR bF 112 (some ⟨g11,0,none⟩) 1 ([(⟨1,x1.ID,x1.aC,x1.Sum,E.1,E.1,aN+eH⟩:aM)]:List aM)::rk)) 11 56959 ?_ λayv=>?_
   ·rintro _ w60 ⟨g11,rfl,K60⟩;refine O2 7 13 Y Y ?_ ?_
    ·refine yU (τ:=bF) (x:=(⟨1,x1.ID,x1.aC,x1.Sum,E.1,E.1,aN+eH⟩:aM)) Y (by intro _; apply fF) rfl K60 (λ_ _=>rfl) λg28 w61 K61=>?_;have k40:=(((K61.cU 8 2).rm s4).cU 0 2);exact Kj hS6 k40 ⟨g11,g28,Y,((K61.sel s0).sel s1)⟩ Y
    ·refine mK K60 s3 Y ?_;have k41:=(((K60.cU 7 2).rm s3).rm s0);exact Kj hS7 k41 ⟨g11,Y,K60⟩ Y
   refine Jn H4 (λl0 rk lJ wJ=>∃(g13:Nat),lJ=(71,.slice (some ⟨g13,0,none⟩) (([(⟨1,x1.ID,x1.aC,x1.Sum,E.1,E.1,aN+eH⟩:aM)]:List aM).length) 1)::(77,.slice A2 ((ds++T).length) c2)::l0/\Hp b S wJ (aR bF 112 (some ⟨g13,0,none⟩) 1 ([(⟨1,x1.ID,x1.aC,x1.Sum,E.1,E.1,aN+eH⟩:aM)]:List aM)::rk)) 11 32479 ?_ λayw=>?_
   ·rintro _ w62 ⟨g13,rfl,K62⟩;refine O2 5 15 Y Y ?_ ?_
    ·refine mK K62 s3 Y ?_;have k42:=(((K62.cU 7 2).rm s3).rm s0);exact Kj hS5 k42 ⟨g13,Y,K62⟩ Y
    ·refine yU (τ:=bF) (x:=(⟨1,x1.ID,x1.aC,x1.Sum,E.1,E.1,aN+eH⟩:aM)) Y (by intro _; apply fF) rfl K62 (λ_ _=>rfl) λg29 w63 K63=>?_;have k43:=(((K63.cU 8 2).rm s4).cU 0 2);exact Kj hS8 k43 ⟨g29,g13,Y,K63⟩ Y
   refine Jn H4 (λl0 rk lJ wJ=>∃(g15 g13:Nat),lJ=(71,.slice (some ⟨g13,0,none⟩) (([(⟨1,x1.ID,x1.aC,x1.Sum,E.1,E.1,aN+eH⟩:aM)]:List aM).length) 1)::(79,.slice (some ⟨g15,0,none⟩) (([(⟨1,x1.ID,x1.aC,x1.Sum,E.1,E.1,aN+eH⟩:aM)]:List aM).length) 1)::l0/\Hp b S wJ (aR bF 112 (some ⟨g15,0,none⟩) 1 ([(⟨1,x1.ID,x1.aC,x1.Sum,E.1,E.1,aN+eH⟩:aM)]:List aM)::aR bF 112 (some ⟨g13,0,none⟩) 1 ([(⟨1,x1.ID,x1.aC,x1.Sum,E.1,E.1,aN+eH⟩:aM)]:List aM)::rk)) 11 57055 ?_ λayx=>?_
   ·rintro _ w64 ⟨g15,g13,rfl,K64⟩;refine O2 5 13 Y Y ?_ ?_
    ·refine mK K64 s4 Y ?_;have k44:=(((K64.cU 8 2).rm s4).cU 0 2);exact Kj hS6 k44 ⟨g15,g13,Y,K64⟩ Y
    ·refine mK K64 s4 Y ?_;have k45:=(((K64.cU 8 2).rm s4).cU 0 2);exact Kj hS8 k45 ⟨g15,g13,Y,K64⟩ Y
   refine Jn H4 (λl0 rk lJ wJ=>∃(g17:Nat),lJ=(77,.slice A2 ((ds++T).length) c2)::(79,.slice (some ⟨g17,0,none⟩) (([(⟨1,x1.ID,x1.aC,x1.Sum,E.1,E.1,aN+eH⟩:aM)]:List aM).length) 1)::l0/\Hp b S wJ (aR bF 112 (some ⟨g17,0,none⟩) 1 ([(⟨1,x1.ID,x1.aC,x1.Sum,E.1,E.1,aN+eH⟩:aM)]:List aM)::rk)) 11 65119 ?_ λayy=>?_
   ·rintro _ w65 ⟨g17,rfl,K65⟩;refine O2 5 7 Y Y ?_ ?_
    ·refine mK K65 s3 Y ?_;have k46:=(((K65.cU 7 2).rm s3).rm s0);exact Kj hS7 k46 ⟨g17,Y,K65⟩ Y
    ·refine yU (τ:=bF) (x:=(⟨1,x1.ID,x1.aC,x1.Sum,E.1,E.1,aN+eH⟩:aM)) Y (by intro _; apply fF) rfl K65 (λ_ _=>rfl) λg30 w66 K66=>?_;have k47:=(((K66.cU 8 2).rm s4).cU 0 2);exact Kj hS8 k47 ⟨g17,g30,Y,((K66.sel s0).sel s1)⟩ Y
   refine xq (fuel:=12) (rs:=[5,7,13,15]) ak au ?_
   simp only [vV,kY,vW,vX,tq]
   refine⟨?_,?_,?_,?_⟩
   ·refine⟨_,Y,?_⟩;refine mK H4 s2 Y<|aP k5<|xq (fuel:=11) (rs:=[7,13,15]) ak au ?_
    simp only [vV,kY,vW,vX,tq]
    refine⟨?_,?_,?_⟩
    ·refine⟨_,Y,?_⟩;refine yU (τ:=bF) (x:=(⟨1,x1.ID,x1.aC,x1.Sum,E.1,E.1,aN+eH⟩:aM)) Y (by intro _; apply fF) rfl H4 (λ_ _=>rfl) λg31 w67 K67=>?_;have k48:=(((K67.cU 7 2).rm s3).rm s0);exact Kj hS9 k48 ⟨g31,Y,K67⟩ Y
    ·refine⟨_,Y,?_⟩;refine mK H4 s2 Y<|Kj ayu k5 ⟨Y,H4⟩ Y
    ·refine⟨_,Y,?_⟩;refine yU (τ:=bF) (x:=(⟨1,x1.ID,x1.aC,x1.Sum,E.1,E.1,aN+eH⟩:aM)) Y (by intro _; apply fF) rfl H4 (λ_ _=>rfl) λg32 w68 K68=>?_;have k49:=(((K68.cU 7 2).rm s3).rm s0);exact Kj ayv k49 ⟨g32,Y,K68⟩ Y
   ·refine⟨_,Y,?_⟩;refine yU (τ:=bF) (x:=(⟨1,x1.ID,x1.aC,x1.Sum,E.1,E.1,aN+eH⟩:aM)) Y (by intro _; apply fF) rfl H4 (λ_ _=>rfl) λg33 w69 K69=>?_;have k50:=(((K69.cU 7 2).rm s3).rm s0);refine aP k50<|xq (fuel:=11) (rs:=[5,13,15]) ak au ?_
    simp only [vV,kY,vW,vX,tq]
    refine⟨?_,?_,?_⟩
    ·refine⟨_,Y,?_⟩;refine mK K69 s3 Y<|Kj hS9 k50 ⟨g33,Y,K69⟩ Y
    ·refine⟨_,Y,?_⟩;refine mK K69 s3 Y<|Kj ayw k50 ⟨g33,Y,K69⟩ Y
    ·refine⟨_,Y,?_⟩;refine yU (τ:=bF) (x:=(⟨1,x1.ID,x1.aC,x1.Sum,E.1,E.1,aN+eH⟩:aM)) Y (by intro _; apply fF) rfl K69 (λ_ _=>rfl) λg34 w70 K70=>?_;have k51:=(((K70.cU 8 2).rm s4).cU 0 2);exact Kj ayx k51 ⟨g34,g33,Y,K70⟩ Y
   ·refine⟨_,Y,?_⟩;refine mK H4 s2 Y<|aP k5<|xq (fuel:=11) (rs:=[5,7,15]) ak au ?_
    simp only [vV,kY,vW,vX,tq]
    refine⟨?_,?_,?_⟩
    ·refine⟨_,Y,?_⟩;refine mK H4 s2 Y<|Kj ayu k5 ⟨Y,H4⟩ Y
    ·refine⟨_,Y,?_⟩;refine yU (τ:=bF) (x:=(⟨1,x1.ID,x1.aC,x1.Sum,E.1,E.1,aN+eH⟩:aM)) Y (by intro _; apply fF) rfl H4 (λ_ _=>rfl) λg35 w71 K71=>?_;have k52:=(((K71.cU 7 2).rm s3).rm s0);exact Kj ayw k52 ⟨g35,Y,K71⟩ Y
    ·refine⟨_,Y,?_⟩;refine yU (τ:=bF) (x:=(⟨1,x1.ID,x1.aC,x1.Sum,E.1,E.1,aN+eH⟩:aM)) Y (by intro _; apply fF) rfl H4 (λ_ _=>rfl) λg36 w72 K72=>?_;have k53:=(((K72.cU 7 2).rm s3).rm s0);exact Kj ayy k53 ⟨g36,Y,K72⟩ Y
   ·refine⟨_,Y,?_⟩;refine yU (τ:=bF) (x:=(⟨1,x1.ID,x1.aC,x1.Sum,E.1,E.1,aN+eH⟩:aM)) Y (by intro _; apply fF) rfl H4 (λ_ _=>rfl) λg37 w73 K73=>?_;have k54:=(((K73.cU 7 2).rm s3).rm s0);refine aP k54<|xq (fuel:=11) (rs:=[5,7,13]) ak au ?_
    simp only [vV,kY,vW,vX,tq]
    refine⟨?_,?_,?_⟩
    ·refine⟨_,Y,?_⟩;refine mK K73 s3 Y<|Kj ayv k54 ⟨g37,Y,K73⟩ Y
    ·refine⟨_,Y,?_⟩;refine yU (τ:=bF) (x:=(⟨1,x1.ID,x1.aC,x1.Sum,E.1,E.1,aN+eH⟩:aM)) Y (by intro _; apply fF) rfl K73 (λ_ _=>rfl) λg38 w74 K74=>?_;have k55:=(((K74.cU 8 2).rm s4).cU 0 2);exact Kj ayx k55 ⟨g37,g38,Y,((K74.sel s0).sel s1)⟩ Y
    ·refine⟨_,Y,?_⟩;refine mK K73 s3 Y<|Kj ayy k54 ⟨g37,Y,K73⟩ Y
  rintro _ w75 ⟨oQ,cj2,wm,vD,rfl,K75⟩;refine Hf K75 (λ_ K=>((K.rm s8).rm s0)) (λl0 rk lJ wJ=>∃(Au:ah)(Aw:Nat),lJ=l0/\Hp b S wJ (dJ g 195 [v0,.slice AL ls.length cL,.slice oQ (((ds++T)++([(⟨1,x1.ID,x1.aC,x1.Sum,E.1,E.1,aN+eH⟩:aM)]:List aM)).length) cj2,.slice AN ns.length cN,.slice AK ks.length cK,v5,v6,v7,v8,aD bW,aD eH,v11,aD aN,.slice AV aG.length cV,.slice AS dh.length cS,.slice wm (((os++T)++([(⟨1,x1.ID,x1.aC,x1.Sum,E.1,E.1,aN+eH⟩:aM)]:List aM)).length) vD,.slice Au (((cs++T.map za)++([(⟨0,0,6,x1.ID,E.1,0⟩:gD)]:List gD)).length) Aw]::aR yY 120 Au Aw ((cs++T.map za)++([(⟨0,0,6,x1.ID,E.1,0⟩:gD)]:List gD))::rk)) (λhns H5=>?_) ?_
  ·have k56:=((H5.rm s8).rm s0);refine kT 0 Y Y k56<|sw 1 g 16 OB Y k56<|mD 5 6 g1 0 qH s5 Y k56<|kT 7 Y Y k56<|lH 8 Y (λ_ _=>iE (vs:=[(2,aD 6),(3,aD x1.ID),(4,aD (E.1))]) (cs:=[aD 0,aD 0,aD 6,aD x1.ID,aD (E.1),aD 0]) Y (by apply wT)) k56<|Jn H5 (λl0 rk lJ wJ=>∃(g39:Nat),lJ=(90,.slice A16 ((cs++T.map za).length) c16)::(95,.slice (some ⟨g39,0,none⟩) (([(⟨0,0,6,x1.ID,E.1,0⟩:gD)]:List gD).length) 1)::l0/\Hp b S wJ (aR yY 120 (some ⟨g39,0,none⟩) 1 ([(⟨0,0,6,x1.ID,E.1,0⟩:gD)]:List gD)::rk)) 4 1023 ?_ λayz=>?_
   ·rintro _ w80 ⟨g39,rfl,K80⟩;refine O1 10 Y<|ap (ys:=([(⟨0,0,6,x1.ID,E.1,0⟩:gD)]:List gD)) K80 s9 Y Y (K80.o s0) MO af7 (by simp only [iO,jN]; omega) av rfl λaDp aDq w81 K81=>?_
    have k61:=(K81.cU 0 3);refine aP k61<|Qk 11 g 16 OB Y k61<|O1 13 Y<|wD Y K81 s2 Y λw82 K82=>?_
    have k62:=(K82.cU 0 3);refine aP k62<|Dn ⟨aDp,aDq,Y,(K82.rm s2)⟩ Y
   refine O2 4 9 Y Y ?_ ?_
   ·refine mK H5 s0 Y<|aP k56<|O1 9 Y<|yU (τ:=yY) (x:=(⟨0,0,6,x1.ID,E.1,0⟩:gD)) Y (by intro _; apply wU) rfl H5 (λ_ _=>rfl) λg41 w83 K83=>?_
    have k63:=((K83.rm s9).cU 0 2);exact Kj ayz k63 ⟨g41,Y,K83⟩ Y
   ·refine yU (τ:=yY) (x:=(⟨0,0,6,x1.ID,E.1,0⟩:gD)) Y (by intro _; apply wU) rfl H5 (λ_ _=>rfl) λg42 w84 K84=>?_;have k64:=((K84.rm s9).cU 0 2);refine aP k64<|O1 4 Y<|mK K84 s1 Y<|Kj ayz k64 ⟨g42,Y,K84⟩ Y
  rintro _ w85 ⟨Au,Aw,rfl,K85⟩;refine ig (gB ?_);refine jr<|ev (dW Y Y)<|mv Y<|jv ?_
  have hT2:yB ls ks ns aG bW (aN+eH) (dh.take (k+1))=T++[af5 x1 E.1 (aN+eH)]:=by rw [amZ bP aj (by simpa [trE,hE] using Vj),hT,show trE ls ks ns aG bW x1=E from hE]
  exact dQ ⟨(k+1),oQ,cj2,wm,vD,Au,Aw,Y,Y,aj,by rw [hT2]; simp only [pR,<- nU]; exact(((((K85.cU 7 2).cU 4 2).sel s0).sel s1).mV 2 2)⟩ rfl aj
 refine uU (oz (oz (vK (qA (zD Y ?_)))));have hfk:dh.take k=dh:=iD aj;rw [hfk] at K1;exact⟨Y,_,_,_,_,_,_,((K1.mV 0 3).mV 3 2)⟩
theorem ac5(w:World){jl:ah}{jg:Nat}{l:List aI}(iR:Sl bH S0 w jl jg l)(id:Int)(hn:l.length<=100000)(hh:∀ x∈l,x.aF.length<=100000) :
    bO prog 53 #[.slice jl l.length jg,aD id] w λv w'=>∃(uP:ah)(uQ:Nat),v=.tuple #[.agg #[aD ((aV l id).ID),aD ((aV l id).aC),fT ((aV l id).Sum),.slice uP (((aV l id).aF).length) uQ],.bool (gU l id)]/\Hp w S0 w' [aR dL 3 uP uQ ((aV l id).aF)]:=by
 refine j4 S0 func53 ntmps53 Y λH0=>?_;have hf:=BP l;refine rg<|al kZ Y H0 λg1 w1 K1=>bS Y<|bQ Y<|gW Y (UA (S0:=Rd w S0 [dJ g1 59 [aD 0,aD 0,fT 0,.slice none 0 0]] _) _ (K1.a iR) hn hh) ?_
 rintro _ w2 ⟨A,c,ks,rfl,hkc,h9⟩;have K2:=K1.c2 h9;have hkl:ks.length=(dG l).length:=by rw [<- hkc,jN]
 refine bS Y ?_;have hrd:=K2.rdK s0 s0;refine kP (t:=0) Y (aS (λz=>Value.slice A z c) (NK ks).symm)<|bQ Y<|mv Y<|lF K2 Y (EY _ hrd id (by rw [hkc]; exact zO l) (by rw [jN]; omega)) λw3 K3=>mv rfl<|xt rfl rfl<|xt rfl rfl<|iA rfl<|bS rfl<|aZ<|kP (t:=0) rfl (aS (λz=>Value.slice A z c) (NK ks))<|bQ rfl<|ev (gZ rfl)<|dn<|bR rfl (λhc17=>?_) (λhc17=>?_)
 ·try simp only [eO,dN,bK,dZ,eu,fC,bL,bU] at hc17
  refine rg<|ev (iE (vs:=[]) (cs:=[aD 0,aD 0,fT 0,.slice none 0 0]) Y (by apply alE))<|sty rfl K3 s2 rfl λw4 K4=>bS rfl<|je (gL (oW rfl ⟨_,_,rfl,⟨_,rfl,jm (cs:=[aD 0,aD 0,fT 0,.slice none 0 0]) pU rfl (K4.x s0)⟩,⟨_,_,rfl,rfl,rfl⟩⟩ ?_))
  have hnf:aV l id=⟨0,0,0,[]⟩:=UC (by rw [<- hkc]; simpa using hc17);have hnb:gU l id=false:=by unfold gU; rw [<- hkc]; simpa using hc17
  have d9:((⟨0,0,0,[]⟩:aI):aI)=(aV l id):=by exact hnf.symm
  have fG:(0:Int)=(aV l id).ID:=by rw [<- d9]
  have jQ:(0:Int)=(aV l id).aC:=by rw [<- d9]
  have lV:(0:Int)=(aV l id).Sum:=by rw [<- d9]
  have H1:=K4.nil dL 3;have qU:(([]:List Int):List Int)=((aV l id).aF):=by rw [<- d9]
  have vY:(false:Bool)=(gU l id):=by exact hnb.symm
  exact⟨none,0,by first | (rw [<- fG,<- jQ,<- lV,<- vY,<- qU] <;> rfl) | (rw [<- qU,<- fG,<- jQ,<- lV,<- vY] <;> rfl),by rw [<- qU]; exact(H1.cU 1 3)⟩
 try simp only [eO,dN,bK,dZ,eu,fC,bL,bU] at hc17
 have hc17:hits (fun(y:aI)=>bn y.ID id) (ks.map bE.c)=true:=by simpa using hc17
 obtain⟨xb,hxb,hkb⟩:=qE (key:=aI.ID) hc17;have UE:=aJ hxb;rw [jN] at UE;refine jh ?_;refine bQ Y<|mv Y ?_
 obtain⟨x1,bP⟩:=bC (xs:=ks) (i:=low (fun(y:aI)=>bn y.ID id) (ks.map bE.c)) aj;refine ev (eU (i:=low (fun(y:aI)=>bn y.ID id) (ks.map bE.c)) jf qG Y Y Y (aJ bP) ((K3.o s0).some_ bP))<|ev (fV pU Y Y ((K3.o s0).eX bP))<|sty Y K3 s2 Y λw5 K5=>bS Y<|je (oW Y ⟨_,_,Y,⟨_,Y,jm (cs:=[aD x1.c.ID,aD x1.c.aC,fT x1.c.Sum,.slice x1.B x1.c.aF.length x1.d]) pU Y (K5.x s0)⟩,⟨_,_,Y,Y,Y⟩⟩ ?_)
 have hrx:(ks.map qg)[low (fun(y:aI)=>bn y.ID id) (ks.map bE.c)]? = some (x1.B,x1.d,x1.c.aF):=by rw [kI,bP]; rfl
 have H2:=K5.zM s2 hrx;have hyf:aV l id=x1.c:=Qo (by rw [<- hkc]; exact hc17) (by rw [<- hkc,kI,bP]; rfl);have hyb:gU l id=true:=by unfold gU; rw [<- hkc]; exact hc17
 have xZ:(x1.c:aI)=(aV l id):=by exact hyf.symm
 have hq8:(x1.c.ID:Int)=(aV l id).ID:=by rw [<- xZ]
 have yT:(x1.c.aC:Int)=(aV l id).aC:=by rw [<- xZ]
 have qI:(x1.c.Sum:Int)=(aV l id).Sum:=by rw [<- xZ]
 have hq11:(x1.c.aF:List Int)=((aV l id).aF):=by rw [<- xZ]
 have hq12:(true:Bool)=(gU l id):=by exact hyb.symm
 exact⟨x1.B,x1.d,by first | (rw [hq8,yT,qI,hq11,<- hq12] <;> rfl) | (rw [hq11,hq8,yT,qI,<- hq12] <;> rfl),by rw [<- hq11]; exact(H2.cU 1 3)⟩
theorem ac6(w:World)(n:Nat)(hn:n<=1000000) :
    bO prog 330 #[.slice none 0 0,aD ((n:Nat):Int)] w λv w'=>∃(A0:ah)(c0:Nat),v=.slice A0 (([]:List Int).length) c0/\Hp w S0 w' [aR dL 3 A0 c0 ([]:List Int)]:=by
 refine j4 S0 func330 ntmps330 Y λH0=>iY Y<|aZ<|bQ Y<|ev (fB Y Y)<|dn<|kX Y (λhc6=>?_) (λhc6=>?_)
 ·omega
 refine jh ?_;refine aZ<|bQ Y<|mv Y<|ev (Ev.cap fq Y)<|mv Y<|ev (eY fq Y)<|ev (RA Y Y)<|ev (RA Y Y)<|bS Y<|bQ Y<|ev (pJ Y Y)<|dn<|kX Y (λhc16=>?_) (λhc16=>?_)
 ·refine jr<|mv Y<|mv Y<|ev (Ev.cap fq Y)<|ev (Ev.Sr fq sZ Y Y Y)<|mv Y<|apz dL (m:=n) Y Y fq iw KY aj aj Y H0 λg1 cz1 w1 K1=>mv Y<|ev (eY fq Y)<|ev (Ev.Sr fq sZ Y Y Y)<|iA Y<|jv<|gB<|bQ Y<|bS Y<|iI Y ?_
  exact⟨(some ⟨g1,0,none⟩),cz1,Y,K1⟩
 refine jh ?_;refine bQ Y<|bS Y<|iI Y ?_
 have H1:=H0.nil dL 3;exact⟨none,0,Y,H1⟩
theorem Z9(w:World){ac7:ah}{ac8:Nat}{xss:List (List Int)}(Jy:Sl (Ty.list dL) S0 w ac7 ac8 xss)(hn:(xss).flatten.length<=1000000) :
    bO prog 241 #[.slice ac7 xss.length ac8] w λv w'=>∃(A0:ah)(c0:Nat),v=.slice A0 (((xss).flatten).length) c0/\Hp w S0 w' [aR dL 3 A0 c0 ((xss).flatten)]:=by
 refine j4 S0 func241 ntmps241 Y λH0=>?_;have au5:=Jy.bN;refine iY Y<|iY Y<|aZ<|bQ Y<|ev (eY Z8 Y)<|mv Y<|dn<|cZ ?_
 have d9:(0:Int)=((zL xss 0:Nat):Int):=by rfl
 refine kP (t:=3) Y (aS (Value.int .i64) d9)<|Lp H0 (λl0 rk mJ lJ wJ=>∃(k:Nat),lJ=(3,aD ((zL xss k:Nat):Int))::(11,aD ((k:Nat):Int))::l0/\mJ=xss.length - k/\k<=xss.length/\Hp w S0 wJ rk) ⟨0,Y,Y,fK _,H0⟩ Y ?_
 rintro _ _ w1 ⟨k,rfl,rfl,hk,K1⟩;refine rg<|ev (fB Y Y)<|dn<|oC Y (λnQ=>?_) (λnQ=>?_)
 ·refine jh ?_;refine aZ<|cZ<|rg ?_
  obtain⟨x1,bP⟩:=bC (xs:=xss) (i:=k) aj;refine ev (eU (i:=k) Z8 NH Y Y Y (aJ bP) ((K1.a Jy).some_ bP)) ?_;obtain⟨B1,d1,Ak,hi1⟩:=Sz (Jy.row bP);refine ev (jq CQ Y (K1.ext.cell Ak))<|bS Y<|bQ Y<|mv Y<|ev (eY fq Y)<|ev (Ev.add Y Y (vM (by have:=uX bP; have:=wu xss (k+1); omega) (by have:=uX bP; have:=wu xss (k+1); omega)))<|bS rfl<|bQ rfl<|ev (fB rfl rfl)<|dn<|kX rfl (λkJ=>?_) (λkJ=>?_)
  ·omega
  refine zF ?_;refine jr<|ev (dW Y Y)<|mv Y<|jv ?_
  have fG:(((zL xss k+x1.length:Nat):Int):Int)=((zL xss (k+1):Nat):Int):=by have:=uX bP; omega
  refine ji (t:=3) Y (aS (Value.int .i64) fG)<|dQ ⟨(k+1),Y,Y,aj,K1⟩ rfl aj
 refine wQ ?_;refine bQ Y<|gW Y (ac6 (S0:=Any) _ (zL xss k) (by have:=wu xss k; omega)) ?_
 rintro _ w2 ⟨ni,nk,rfl,h2⟩;have K2:=K1.f1 h2;refine bS Y<|aZ<|bQ Y<|ev (eY Z8 Y)<|mv Y<|dn<|cZ ?_
 have jQ:(([]:List Int):List Int)=((xss.take 0).flatten):=by simp
 refine kP (t:=6) Y (aS (λz=>Value.slice ni (List.length z) nk) jQ) ?_;rw [jQ] at K2;refine Lp (K2.rm s0) (λl0 rk mJ lJ wJ=>∃(k:Nat)(A6:ah)(c6:Nat),lJ=(6,.slice A6 (((xss.take k).flatten).length) c6)::(27,aD ((k:Nat):Int))::l0/\mJ=xss.length - k/\k<=xss.length/\Hp w S0 wJ (aR dL 3 A6 c6 ((xss.take k).flatten)::rk)) ⟨0,ni,nk,Y,Y,fK _,K2⟩ Y ?_;rintro _ _ w3 ⟨k,A6,c6,rfl,rfl,hk,K3⟩;refine rg<|ev (fB Y Y)<|dn<|oC Y (λhc28=>?_) (λhc28=>?_)
 ·refine jh ?_;refine aZ<|cZ<|rg ?_
  obtain⟨x2,kK⟩:=bC (xs:=xss) (i:=k) aj;refine ev (eU (i:=k) Z8 NH Y Y Y (aJ kK) ((K3.a Jy).some_ kK)) ?_;obtain⟨B2,d2,alF,hi2⟩:=Sz (Jy.row kK);refine ev (jq CQ Y (K3.ext.cell alF))<|bS Y<|jr<|mv Y<|mv Y<|ap (ys:=x2) K3 s0 Y Y (K3.a hi2).any fq KY (by have:=wu xss k; simp only [zL] at this; omega) (by have:=uX kK; have:=wu xss (k+1); omega) rfl λnY nZ w4 K4=>iA rfl<|jv<|ig (gB ?_)
  refine jr<|ev (dW Y Y)<|mv Y<|jv ?_
  have lV:((((xss.take k).flatten)++x2):List Int)=((xss.take (k+1)).flatten):=by exact NC kK
  refine ji (t:=6) Y (aS (λz=>Value.slice nY (List.length z) nZ) lV) ?_;rw [lV] at K4;exact dQ ⟨(k+1),nY,nZ,Y,Y,aj,K4⟩ rfl aj
 refine wQ ?_;refine bQ Y<|bS Y<|iI Y ?_
 have qU:(((xss.take k).flatten):List Int)=((xss).flatten):=by rw [iD aj]
 rw [qU] at K3;exact⟨A6,c6,by rw [qU] <;> rfl,K3⟩
end Go.Proofs.YtlhnnmlenkahlaaGreat
