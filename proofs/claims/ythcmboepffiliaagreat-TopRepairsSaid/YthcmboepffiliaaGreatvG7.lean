/- Lemmas. -/
import Derived.Test.YthcmboepffiliaaGreatvG6
set_option maxRecDepth 4000
set_option linter.all false
namespace Go.Proofs.YthcmboepffiliaaGreat
open Go.RowKit Go.Proofs.Tryz
def ad1:=@List.flatMap_append
def U4:=@List.take_zero
def Qj:=@underlying89
def ad2:=@underlying35
def J5:=@underlying303
section
variable {ls:List bq}{ns:List aT}{ks dH aYc:List aH}{D:List Int}{bQ:Int}{x:aH}{S0:Nat->Prop}
def Ph(ks dH:List aH)(ns:List aT)(D:List Int)(lq:Int):Bool:=moveB dH ns D lq&&gQ ks (iV dH ns D lq).X
def RV(ls:List bq)(ks dH:List aH)(ns:List aT)(D:List Int)(lq dG all u:Int):List bq:=if Ph ks dH ns D lq=true then yL ls dG all (aV ks (iV dH ns D lq).X) (iV dH ns D lq).jm (iV dH ns D lq).To u else ls
def RX(ls:List bq)(os:List aL)(ks dH:List aH)(ns:List aT)(D:List Int)(lq dG all u:Int):List aL:=if Ph ks dH ns D lq=true then xV ls os dG all (aV ks (iV dH ns D lq).X) (iV dH ns D lq).jm (iV dH ns D lq).To u else os
def Nc:bU prog 169 5 14:=ay
def IW:bU prog 169 4 13:=ay
def Zr:bU prog 121 4 4:=ay
def aDe:bC prog 182:=ay
abbrev Ba(gX iP:List aH)(xE:List aT)(AU:List Int)(Gg:Int):=aV gX ((iV iP xE AU Gg).X)
set_option maxHeartbeats 1000000 in
def ayc{b w:World}{S:Nat->Prop}{F:V kF}{g:Nat}{v0 v2 v5 v6 v9 v16:Value}{AL:ah}{cL:Nat}{AO:ah}{cO:Nat}{os:V aL}{AN:ah}{cN:Nat}{AK:ah}{cK:Nat}{AV:ah}{cV:Nat}{AS:ah}{cS:Nat}{dG all dY lq Z:Int}(H0:Hp b S w (dJ g 169 [v0,.slice AL ls.length cL,v2,.slice AN ns.length cN,.slice AK ks.length cK,v5,v6,O dG,O all,v9,O dY,O lq,O Z,.slice AV D.length cV,.slice AS dH.length cS,.slice AO os.length cO,v16]::aR dB 165 AL cL ls::aR bA 121 AO cO os::dI bW AN cN ns::dI bD AK cK ks::dI dN AV cV D::dI bD AS cS dH::F))(hl:ls.length<=100)(ho:os.length<=100000)(hn:ns.length<=1000)(hc:ks.length<=1000)(hs:dH.length<=1000)(hk:∀ x∈ks,x.aD.length<=100000)(hh:∀ x∈dH,x.aD.length<=100000)(hu:-1099511627776<=Z/\Z<=4398046511104/\-1099511627776<=dY/\dY<=1099511627776):bM prog 102 #[fK g] w λv w'=>v=.tuple #[]/\∃ AL' cL' AO' cO',Hp b S w' (dJ g 169 [v0,.slice AL' ((RV ls ks dH ns D lq dG all (Z+dY)).length) cL',v2,.slice AN ns.length cN,.slice AK ks.length cK,v5,v6,O dG,O all,v9,O dY,O lq,O Z,.slice AV D.length cV,.slice AS dH.length cS,.slice AO' ((RX ls os ks dH ns D lq dG all (Z+dY)).length) cO',v16]::aR dB 165 AL' cL' (RV ls ks dH ns D lq dG all (Z+dY))::aR bA 121 AO' cO' (RX ls os ks dH ns D lq dG all (Z+dY))::dI bW AN cN ns::dI bD AK cK ks::dI dN AV cV D::dI bD AS cS dH::F):=by
 refine qN func102 ntmps102 Y<|He H0 (λ_ K=>K) (λl0 rk lJ wJ=>∃ qF,lJ=(2,fK qF)::(3,.bool (moveB dH ns D lq))::l0/\Hp b S wJ (dJ qF 121 [O ((iV dH ns D lq).Kind),O ((iV dH ns D lq).X),O ((iV dH ns D lq).E),gP ((iV dH ns D lq).Sum),O ((iV dH ns D lq).jm),O ((iV dH ns D lq).To),O ((iV dH ns D lq).iK)]::rk)) (λhns H1=>?_) ?_
 ·refine qp 0 g 14 Nc Y H1<|xS 3 U Y H1<|qp 4 g 3 FD Y H1<|mK 7 8 g 3 lQ U Y H1<|qp 9 g 13 IW Y H1<|xS 12 U Y H1<|qp 13 g 6 Dy Y H1<|Iy 16 g 11 adR Y H1<|xS 17 U Y H1<|Jn H1 (λl0 rk lJ wJ=>∃ g1,lJ=(2,fK g1)::(27,.bool (moveB dH ns D lq))::l0/\Hp b S wJ (dJ g1 121 [O ((iV dH ns D lq).Kind),O ((iV dH ns D lq).X),O ((iV dH ns D lq).E),gP ((iV dH ns D lq).Sum),O ((iV dH ns D lq).jm),O ((iV dH ns D lq).To),O ((iV dH ns D lq).iK)]::rk)) 1 16777215 ?_ λhS1=>?_
  ·rintro _ w7 ⟨g1,rfl,K7⟩;have k5:=(K7.rm U);refine xC 24 Y Y k5<|Dn ⟨g1,Y,K7⟩ Y
  refine O2 18 22 Y Y ?_ ?_
  ·refine mX H1 Y (alY _ (H1.s s6).any (H1.s s3).any (H1.s s5).any lq aj aj hh) λw8 K8=>aO K8<|lF 19 Y Y K8<|yj 20 Y Y Y K8<|yj 21 Y Y Y K8<|O1 22 Y<|al Dw Y K8 λg3 w9 K9=>?_
   have k6:=(K9.rm U);refine aO k6<|O1 23 Y<|sty Y K9 U Y λPE K10=>?_
   have k7:=(K10.rm U);exact Kj hS1 k7 ⟨g3,Y,K10⟩ Y
  ·refine al Dw Y H1 λg4 VY vF=>?_;have k8:=(vF.rm U);refine aO k8<|O1 18 Y<|mX vF Y (alY _ (vF.s s7).any (vF.s s4).any (vF.s s6).any lq aj aj hh) λUy uR=>?_
   have k9:=(uR.rm U);refine aO k9<|lF 19 Y Y k9<|yj 20 Y Y Y k9<|yj 21 Y Y Y k9<|O1 23 Y<|sty Y uR U Y λYX xk=>?_
   have k10:=(xk.rm U);exact Kj hS1 k10 ⟨g4,Y,xk⟩ Y
 rintro _ w14 ⟨qF,rfl,wF⟩;refine He wF (λ_ K=>K) (λl0 rk lJ wJ=>∃ gj2 jG jr,lJ=(4,fK gj2)::(5,.bool (gQ ks ((iV dH ns D lq).X)))::l0/\Hp b S wJ (dJ gj2 48 [O ((Ba ks dH ns D lq).ID),O ((Ba ks dH ns D lq).E),gP ((Ba ks dH ns D lq).Sum),.slice jG (((Ba ks dH ns D lq).aD).length) jr]::dI dN jG jr ((Ba ks dH ns D lq).aD)::rk)) (λhns H2=>?_) ?_
 ·refine qp 0 g 3 FD Y H2<|mK 3 4 g 4 jC s1 Y H2<|mK 5 6 qF 1 uF U Y H2<|Jn H2 (λl0 rk lJ wJ=>∃ g5 Xk Xl,lJ=(4,fK g5)::(38,.bool (gQ ks ((iV dH ns D lq).X)))::l0/\Hp b S wJ (dJ g5 48 [O ((Ba ks dH ns D lq).ID),O ((Ba ks dH ns D lq).E),gP ((Ba ks dH ns D lq).Sum),.slice Xk (((Ba ks dH ns D lq).aD).length) Xl]::dI dN Xk Xl ((Ba ks dH ns D lq).aD)::rk)) 1 8191 ?_ λhS2=>?_
  ·rintro _ w21 ⟨g5,Xk,Xl,rfl,IJ⟩;have k16:=(IJ.cU 0 2);refine xC 13 Y Y k16<|Dn ⟨g5,Xk,Xl,Y,IJ⟩ Y
  refine O2 7 11 Y Y ?_ ?_
  ·refine gu Y (find_ok _ (H2.s s5) ((iV dH ns D lq).X) aj hk) ?_;rintro _ w22 ⟨Oj,Ol,rfl,h22⟩;have Hy:=H2.c1 h22;have k17:=(Hy.rm U);refine aO k17<|lF 8 Y Y k17<|yj 9 Y Y Y k17<|yj 10 Y Y Y k17<|O1 11 Y<|al lX Y Hy λg7 w23 Le=>?_
   have k18:=(Le.cU 0 2);refine aO k18<|O1 12 Y<|sty Y Le U Y λw24 pz=>?_
   have k19:=(pz.cU 0 2);exact Kj hS2 k19 ⟨g7,Oj,Ol,Y,pz⟩ Y
  ·refine al lX Y H2 λg8 w25 DU=>?_;have k20:=(DU.rm U);refine aO k20<|O1 7 Y<|gu Y (find_ok _ (DU.s s6) ((iV dH ns D lq).X) aj hk) ?_
   rintro _ w26 ⟨RY,RZ,rfl,h26⟩;have JU:=DU.c1 h26;have k21:=(JU.cU 0 2);refine aO k21<|lF 8 Y Y k21<|yj 9 Y Y Y k21<|yj 10 Y Y Y k21<|O1 12 Y<|sty Y JU s1 Y λw27 LG=>?_
   have k22:=(LG.cU 0 2);exact Kj hS2 k22 ⟨g8,RY,RZ,Y,LG⟩ Y
 rintro _ w28 ⟨gj2,jG,jr,rfl,Fh⟩;refine pC 3 Y<|iJ 2 42 ((moveB dH ns D lq)&&(gQ ks ((iV dH ns D lq).X))) ?_ ?_
 ·cases aoJ:(moveB dH ns D lq) with
  | true=>
   refine pq 2 Y<|dK Y
  | false=>
   refine pq 2 Y<|dK Y
 refine dn<|bS Y (λU5=>?_) (λU5=>?_)
 ·refine jN<|mv Y<|ev (fA p8 Y Y (Fh.x U))<|jP qF 4 Zr Fh s2 Y<|jP qF 5 AY Fh s2 Y<|gu Y (Zq ((Fh.mV 0 3).mV 3 3) (Ba ks dH ns D lq) ((iV dH ns D lq).jm) ((iV dH ns D lq).To) aj aj aj) ?_
  rintro _ w29 ⟨rfl,Ae1,ce1,Af1,cf1,Fp⟩;refine jO<|o7 (uo Y ?_)
  have H3:=(Fp.cU 3 3);exact⟨Y,_,_,_,_,by unfold RV RX; first | (rw [aS (show Ph ks dH ns D lq=true from U5),aS (show Ph ks dH ns D lq=true from U5)]; exact H3) | (rw [aQ (show ¬ Ph ks dH ns D lq=true by rw [show Ph ks dH ns D lq=false from U5]; decide),aQ (show ¬ Ph ks dH ns D lq=true by rw [show Ph ks dH ns D lq=false from U5]; decide)]; exact H3)⟩
 refine yC (o7 (uo Y ?_));have H4:=(Fh.cU 0 3);exact⟨Y,_,_,_,_,by unfold RV RX; first | (rw [aS (show Ph ks dH ns D lq=true from U5),aS (show Ph ks dH ns D lq=true from U5)]; exact H4) | (rw [aQ (show ¬ Ph ks dH ns D lq=true by rw [show Ph ks dH ns D lq=false from U5]; decide),aQ (show ¬ Ph ks dH ns D lq=true by rw [show Ph ks dH ns D lq=false from U5]; decide)]; exact H4)⟩
def U6(c:aH)(id u:Int):aL:=⟨1,c.ID,c.E,c.Sum,id,id,u⟩
def wG(o:aL):eU:=⟨0,0,6,o.X,o.jm,0⟩
def trE(ls:List bq)(ks:List aH)(ns:List aT)(D:List Int)(bQ:Int)(c:aH):Int × Bool:=V4 c ns D (iQ ks ns ls) bQ
def Pj(ls:List bq)(ks:List aH)(ns:List aT)(D:List Int)(bQ u:Int)(c:aH):List aL:=if 0<(jB ls c.ID).length then[] else if(trE ls ks ns D bQ c).2=true then[U6 c (trE ls ks ns D bQ c).1 u] else[]
def xI(ls:List bq)(ks:List aH)(ns:List aT)(D:List Int)(bQ u:Int)(aYc:List aH):List aL:=aYc.flatMap (Pj ls ks ns D bQ u)
def ab8{u:Int}{k:Nat}(hx:aYc[k]? = some x):xI ls ks ns D bQ u (aYc.take (k+1))=xI ls ks ns D bQ u (aYc.take k)++Pj ls ks ns D bQ u x:=by
 unfold xI; rw [eO hx,ad1]; simp
def IX(ls:V bq)(ks:V aH)(ns:V aT)(D:V Int)(bQ u:Int):∀ aYc:V aH,(xI ls ks ns D bQ u aYc).length<=aYc.length
 | []=>j4 _
 | c::aYc=>by
  have ih:=IX ls ks ns D bQ u aYc;have h1:(Pj ls ks ns D bQ u c).length<=1:=by unfold Pj; split; simp; split <;> simp
  show(Pj ls ks ns D bQ u c++xI ls ks ns D bQ u aYc).length<=_;rw [jH,oO]; omega
def ami{u:Int}{k:Nat}(hx:aYc[k]? = some x)(h:0<(jB ls x.ID).length∨(trE ls ks ns D bQ x).2=false):xI ls ks ns D bQ u (aYc.take (k+1))=xI ls ks ns D bQ u (aYc.take k):=by
 rw [ab8 hx]; unfold Pj
 rcases h with h | h
 ·rw [aS h,Aj]
 ·rw [h]; simp
def as2{u:Int}{k:Nat}(hx:aYc[k]? = some x)(h:¬ 0<(jB ls x.ID).length)(h2:(trE ls ks ns D bQ x).2=true):xI ls ks ns D bQ u (aYc.take (k+1))=xI ls ks ns D bQ u (aYc.take k)++[U6 x (trE ls ks ns D bQ x).1 u]:=by
 rw [ab8 hx]; unfold Pj; rw [aQ h,aS h2]
def R3:bU prog 169 7 16:=ay
def y7(a0:Int)(a1:Int)(a2:Int):prog.built 118 [(2,O a0),(3,O a1),(4,O a2)]=some #[O 0,O 0,O a0,O a1,O a2,O 0]:=ak
def Bd(a0:Int)(a1:Int)(a2:Int)(a3:Int)(a4:Int)(a5:Int):∀ w,(Instr.buildSlice 89 1 (List.toArray [(0,.agg #[O a0,O a1,O a2,O a3,O a4,O a5])])).run prog w=.ok (.slice (some ⟨w.heap.size,0,none⟩) 1 1) (w.alloc (.cells (List.toArray [O a0,O a1,O a2,O a3,O a4,O a5]) 118)):=ay
def akt:kH prog 118 6 48:=by
 obtain⟨i,h1,h2,h3,h4⟩:=qo (show(prog.info? 118).map (λi=>(i.zero,i.size,i.bytes))=some (some (.agg #[O 0,O 0,O 0,O 0,O 0,O 0]),6,48) by kernel_rfl);exact⟨i,_,h1,h2,h3,h4,Y⟩
set_option maxHeartbeats 2000000 in
def ao1{b w:World}{S:Nat->Prop}{F:V kF}{g:Nat}{v0 v5 v6 v7 v8 v11:Value}{AL:ah}{cL:Nat}{AD:ah}{cD:Nat}{ds:V aL}{AO:ah}{cO:Nat}{os:V aL}{AC:ah}{cC:Nat}{cs:V eU}{AN:ah}{cN:Nat}{AK:ah}{cK:Nat}{AV:ah}{cV:Nat}{AS:ah}{cS:Nat}{dY Z:Int}(H0:Hp b S w (dJ g 169 [v0,.slice AL ls.length cL,.slice AD ds.length cD,.slice AN ns.length cN,.slice AK ks.length cK,v5,v6,v7,v8,O bQ,O dY,v11,O Z,.slice AV D.length cV,.slice AS dH.length cS,.slice AO os.length cO,.slice AC cs.length cC]::aR dB 165 AL cL ls::aR bA 121 AD cD ds::aR bA 121 AO cO os::aR BP 118 AC cC cs::dI bW AN cN ns::dI bD AK cK ks::dI dN AV cV D::dI bD AS cS dH::F))(hl:ls.length<=100)(hd:ds.length<=100000)(ho:os.length<=100000)(hq:cs.length<=1000)(hn:ns.length<=1000)(hc:ks.length<=1000)(hs:dH.length<=1000)(hh:∀ x∈dH,x.aD.length<=100000)(hu:-1099511627776<=Z/\Z<=4398046511104/\-1099511627776<=dY/\dY<=1099511627776):bM prog 101 #[fK g] w λv w'=>v=.tuple #[]/\∃ AD' cD' AO' cO' AC' cC',Hp b S w' (dJ g 169 [v0,.slice AL ls.length cL,.slice AD' ((ds++(xI ls ks ns D bQ (Z+dY) dH)).length) cD',.slice AN ns.length cN,.slice AK ks.length cK,v5,v6,v7,v8,O bQ,O dY,v11,O Z,.slice AV D.length cV,.slice AS dH.length cS,.slice AO' ((os++(xI ls ks ns D bQ (Z+dY) dH)).length) cO',.slice AC' ((cs++(xI ls ks ns D bQ (Z+dY) dH).map wG).length) cC']::aR dB 165 AL cL ls::aR bA 121 AD' cD' (ds++(xI ls ks ns D bQ (Z+dY) dH))::aR bA 121 AO' cO' (os++(xI ls ks ns D bQ (Z+dY) dH))::aR BP 118 AC' cC' (cs++(xI ls ks ns D bQ (Z+dY) dH).map wG)::dI bW AN cN ns::dI bD AK cK ks::dI dN AV cV D::dI bD AS cS dH::F):=by
 refine qN func101 ntmps101 Y<|pC 3 Y<|jP g 14 Nc H0 U Y<|pA 3 Y<|dF ?_
 have gy:(ds:V aL)=(ds++(xI ls ks ns D bQ (Z+dY) (dH.take 0))):=by rw [U4]; exact(Aj _).symm
 rw [gy] at H0;have gH:(os:V aL)=(os++(xI ls ks ns D bQ (Z+dY) (dH.take 0))):=by rw [U4]; exact(Aj _).symm
 rw [gH] at H0;have kN:(cs:V eU)=(cs++(xI ls ks ns D bQ (Z+dY) (dH.take 0)).map wG):=by rw [U4]; exact(Aj _).symm
 rw [kN] at H0;refine qh (λmJ lJ wJ=>∃ k A2 c2 Xm c15 A16 c16,lJ=[(0,fK g),(10,.slice AS dH.length cS),(11,O ((dH.length:Nat):Int)),(12,O ((k:Nat):Int))]/\mJ=dH.length - k/\k<=dH.length/\Hp b S wJ (aR bA 121 A2 c2 (ds++(xI ls ks ns D bQ (Z+dY) (dH.take k)))::aR bA 121 Xm c15 (os++(xI ls ks ns D bQ (Z+dY) (dH.take k)))::aR BP 118 A16 c16 (cs++(xI ls ks ns D bQ (Z+dY) (dH.take k)).map wG)::dJ g 169 [v0,.slice AL ls.length cL,.slice A2 ((ds++(xI ls ks ns D bQ (Z+dY) (dH.take k))).length) c2,.slice AN ns.length cN,.slice AK ks.length cK,v5,v6,v7,v8,O bQ,O dY,v11,O Z,.slice AV D.length cV,.slice AS dH.length cS,.slice Xm ((os++(xI ls ks ns D bQ (Z+dY) (dH.take k))).length) c15,.slice A16 ((cs++(xI ls ks ns D bQ (Z+dY) (dH.take k)).map wG).length) c16]::aR dB 165 AL cL ls::dI bW AN cN ns::dI bD AK cK ks::dI dN AV cV D::dI bD AS cS dH::F)) ⟨0,AD,cD,AO,cO,AC,cC,Y,Y,fI _,((H0.mV 0 2).mV 2 3)⟩ Y ?_;rintro _ _ w1 ⟨k,A2,c2,Xm,c15,A16,c16,rfl,rfl,hk,K1⟩;refine rg<|ev (iH Y Y)<|dn<|r9 Y (λaNJ=>?_) (λaNJ=>?_)
 ·refine jQ ?_;refine aZ<|dF ?_
  obtain⟨x1,bT⟩:=bH (xs:=dH) (i:=k) aj;have hhx:=hh _ (dz bT);have htl:=IX ls ks ns D bQ (Z+dY) (dH.take k)
  simp only [iX] at htl
  obtain⟨T,hT⟩:∃ y,xI ls ks ns D bQ (Z+dY) (dH.take k)=y:=⟨_,rfl⟩;obtain⟨aYe,hE⟩:∃ y,V4 x1 ns D (iQ ks ns ls) bQ=y:=⟨_,rfl⟩;rw [hT] at K1 htl;refine rg<|ev (d9 (i:=k) lT tH Y Y Y (aP bT) ((K1.s s8).some_ bT)) ?_
  obtain⟨B1,d1,yG,hi1⟩:=CG (K1.is s8 bT);have H1:=K1.push hi1;refine ev (iR (cs:=[O x1.ID,O x1.E,gP x1.Sum,.slice B1 x1.aD.length d1]) p8 Y Y (Gu yG))<|al lX Y H1 λg1 w2 K2=>sty Y K2 U Y λw3 K3=>dn<|aZ<|gD Y<|jP g1 0 pG K3 U Y<|gu Y (U3 ((K3.mV 0 5).mV 5 2) aj x1.ID) ?_
  rintro _ w4 ⟨Pm,Pn,rfl,K4⟩;refine pA 3 Y<|o8 Y (λhc21=>?_) (λhc21=>?_)
  ·refine tu (mG (tZ (fV ?_)));refine jN<|ev (eG Y Y)<|mv Y<|jO ?_
   have hT2:xI ls ks ns D bQ (Z+dY) (dH.take (k+1))=T:=(ami bT (.inl aj)).trans hT;exact dX ⟨(k+1),A2,c2,Xm,c15,A16,c16,Y,Y,aj,by rw [hT2]; exact((((K4.cU 3 2).rm U).mV 0 2).mV 2 3)⟩ rfl aj
  refine jQ ?_;refine He K4 (λ_ K=>K) (λl0 rk lJ wJ=>lJ=(4,O (aYe.1))::(5,.bool (aYe.2))::l0/\Hp b S wJ rk) (λhns H2=>?_) ?_
  ·refine kI 0 Y (λ_ hK=>fA p8 Y Y (hK.x s3)) H2<|qp 1 g 3 FD Y H2<|mK 4 5 g 3 lQ s1 Y H2<|qp 6 g 13 IW Y H2<|xS 9 s1 Y H2<|lF 10 Y Y H2<|qp 12 g 6 Dy Y H2<|mK 15 16 g 9 GI s1 Y H2<|O1 11 Y<|gu Y (ab7 (((H2.mV 3 5).sel s5).mV 6 4) aj aj aj) ?_
   rintro _ w5 ⟨Ad1,cd1,rfl,K5⟩;have k1:=(((((K5.rm U).mV 2 2).mV 5 5).mV 7 2).sel s9);have hx9:=aki _ x1 (K5.s s7).any (K5.s s3).any (K5.s s11).any (K5.o U) bQ hhx aj;rw [hE] at hx9;refine aO k1<|O1 17 Y<|mX K5 Y hx9 λw6 K6=>?_
   have k2:=(((((K6.rm U).mV 2 2).mV 5 5).mV 7 2).sel s9);refine aO k2<|lF 18 Y Y k2<|yj 19 Y (vs:=[O (aYe.1),.bool (aYe.2)]) Y Y k2<|yj 20 Y (vs:=[O (aYe.1),.bool (aYe.2)]) Y Y k2<|xC 21 Y Y k2<|xC 22 Y Y k2<|Dn ⟨Y,(((((K6.rm U).mV 2 2).mV 5 5).mV 7 2).sel s9)⟩ Y
  rintro _ w7 ⟨rfl,K7⟩;refine aZ<|gD Y<|ev (wC Y)<|dn<|bS Y (λZh=>?_) (λZh=>?_)
  ·try simp only [aA] at Zh
   refine tu (mG (tZ (fV ?_)));refine jN<|ev (eG Y Y)<|mv Y<|jO ?_
   have hT2:xI ls ks ns D bQ (Z+dY) (dH.take (k+1))=T:=(ami bT (.inr (by simpa [trE,hE] using Zh))).trans hT;exact dX ⟨(k+1),A2,c2,Xm,c15,A16,c16,Y,Y,aj,by rw [hT2]; exact((((K7.cU 3 2).rm U).mV 0 2).mV 2 3)⟩ rfl aj
  try simp only [aA] at Zh
  refine jQ ?_;refine He K7 (λ_ K=>K) (λl0 rk lJ wJ=>∃ qF,lJ=(6,fK qF)::l0/\Hp b S wJ (dJ qF 121 [O 1,O x1.ID,O x1.E,gP x1.Sum,O (aYe.1),O (aYe.1),O (Z+dY)]::rk)) (λhns H3=>?_) ?_
  ·refine mK 0 1 g1 0 pG s3 Y H3<|mK 2 3 g1 1 tO s3 Y H3<|mK 4 5 g1 2 JH s3 Y H3<|lF 6 Y Y H3<|lF 7 Y Y H3<|qp 8 g 12 ag5 Y H3<|xS 11 s1 Y H3<|qp 12 g 6 Dy Y H3<|mK 15 16 g 10 RQ s1 Y H3<|kI 17 Y (λ_ _=>eG Y Y) H3<|kI 18 Y (λ_ _=>iT (vs:=[(0,O 1),(1,O x1.ID),(2,O x1.E),(3,gP x1.Sum),(4,O (aYe.1)),(5,O (aYe.1)),(6,O (Z+dY))]) (cs:=[O 1,O x1.ID,O x1.E,gP x1.Sum,O (aYe.1),O (aYe.1),O (Z+dY)]) Y (by apply nN)) H3<|O1 19 rfl<|al Dw rfl H3 λg2 w8 K8=>?_
   have k3:=(K8.rm U);refine aO k3<|O1 20 Y<|sty Y K8 U Y λw9 K9=>?_
   have k4:=(K9.rm U);refine aO k4<|Dn ⟨g2,Y,K9⟩ Y
  rintro _ PE ⟨qF,rfl,K10⟩;refine He K10 (λ_ K=>((K.cU 6 2).rm s2)) (λl0 rk lJ wJ=>∃ oV cj2 wH vG,lJ=l0/\Hp b S wJ (dJ g 169 [v0,.slice AL ls.length cL,.slice oV (((ds++T)++([(⟨1,x1.ID,x1.E,x1.Sum,aYe.1,aYe.1,Z+dY⟩:aL)]:V aL)).length) cj2,.slice AN ns.length cN,.slice AK ks.length cK,v5,v6,v7,v8,O bQ,O dY,v11,O Z,.slice AV D.length cV,.slice AS dH.length cS,.slice wH (((os++T)++([(⟨1,x1.ID,x1.E,x1.Sum,aYe.1,aYe.1,Z+dY⟩:aL)]:V aL)).length) vG,.slice A16 ((cs++T.map wG).length) c16]::aR bA 121 oV cj2 ((ds++T)++([(⟨1,x1.ID,x1.E,x1.Sum,aYe.1,aYe.1,Z+dY⟩:aL)]:V aL))::aR bA 121 wH vG ((os++T)++([(⟨1,x1.ID,x1.E,x1.Sum,aYe.1,aYe.1,Z+dY⟩:aL)]:V aL))::rk)) (λhns H4=>?_) ?_
  ·have k5:=((H4.cU 6 2).rm s2);refine lF 0 Y Y k5<|lF 1 Y Y k5<|qp 2 g 15 IV Y k5<|kI 6 Y (λ_ hK=>fA zH Y Y (hK.x U)) k5<|qp 9 g 0 sI Y k5<|Iy 12 g 2 Eu Y k5<|kI 14 Y (λ_ hK=>fA zH Y Y (hK.x U)) k5<|Jn (H4.rm s7) (λl0 rk lJ wJ=>∃ g4 sQ sS g3,lJ=(72,.slice sQ (((os++T)++([(⟨1,x1.ID,x1.E,x1.Sum,aYe.1,aYe.1,Z+dY⟩:aL)]:V aL)).length) sS)::(77,.slice A2 ((ds++T).length) c2)::(79,.slice (some ⟨g4,0,none⟩) (([(⟨1,x1.ID,x1.E,x1.Sum,aYe.1,aYe.1,Z+dY⟩:aL)]:V aL).length) 1)::l0/\Hp b S wJ (aR bA 121 (some ⟨g4,0,none⟩) 1 ([(⟨1,x1.ID,x1.E,x1.Sum,aYe.1,aYe.1,Z+dY⟩:aL)]:V aL)::aR bA 121 sQ sS ((os++T)++([(⟨1,x1.ID,x1.E,x1.Sum,aYe.1,aYe.1,Z+dY⟩:aL)]:V aL))::aR bA 121 (some ⟨g3,0,none⟩) 1 ([(⟨1,x1.ID,x1.E,x1.Sum,aYe.1,aYe.1,Z+dY⟩:aL)]:V aL)::rk)) 8 65535 ?_ λhS1=>?_
   ·rintro _ w36 ⟨g4,sQ,sS,g3,rfl,K36⟩;refine O1 16 Y<|ap (ys:=([(⟨1,x1.ID,x1.E,x1.Sum,aYe.1,aYe.1,Z+dY⟩:aL)]:V aL)) K36 s9 Y Y (K36.o U) xq FC (by simp only [jH,jW]; omega) av rfl λAp6 cp6 w37 V8=>?_
    have k22:=((V8.rm s6).cU 0 4);refine aO k22<|JG 17 g 15 IV Y k22<|O1 19 Y<|xD Y V8 s6 Y λw38 K38=>?_
    have k23:=(K38.cU 0 5);refine aO k23<|JG 20 g 0 sI Y k23<|Iy 22 g 2 Eu Y k23<|O1 23 Y<|xD Y K38 U Y λw39 K39=>?_
    have k24:=(K39.cU 0 5);refine aO k24<|Dn ⟨Ap6,cp6,sQ,sS,Y,((K39.rm s4).rm s2)⟩ Y
   refine Jn (H4.rm s7) (λl0 rk lJ wJ=>∃ sQ sS g3,lJ=(72,.slice sQ (((os++T)++([(⟨1,x1.ID,x1.E,x1.Sum,aYe.1,aYe.1,Z+dY⟩:aL)]:V aL)).length) sS)::(77,.slice A2 ((ds++T).length) c2)::l0/\Hp b S wJ (aR bA 121 sQ sS ((os++T)++([(⟨1,x1.ID,x1.E,x1.Sum,aYe.1,aYe.1,Z+dY⟩:aL)]:V aL))::aR bA 121 (some ⟨g3,0,none⟩) 1 ([(⟨1,x1.ID,x1.E,x1.Sum,aYe.1,aYe.1,Z+dY⟩:aL)]:V aL)::rk)) 9 32767 ?_ λhS2=>?_
   ·rintro _ w40 ⟨sQ,sS,g3,rfl,K40⟩;refine O1 15 Y<|yV (τ:=bA) (x:=(⟨1,x1.ID,x1.E,x1.Sum,aYe.1,aYe.1,Z+dY⟩:aL)) Y (by intro _; apply fC) rfl K40 (λ_ _=>rfl) λg21 w41 K41=>?_
    have k25:=(((K41.rm s9).rm s5).cU 0 3);exact Kj hS1 k25 ⟨g21,sQ,sS,g3,Y,K41⟩ Y
   refine Jn (H4.rm s7) (λl0 rk lJ wJ=>∃ g5 sQ sS g3,lJ=(72,.slice sQ (((os++T)++([(⟨1,x1.ID,x1.E,x1.Sum,aYe.1,aYe.1,Z+dY⟩:aL)]:V aL)).length) sS)::(79,.slice (some ⟨g5,0,none⟩) (([(⟨1,x1.ID,x1.E,x1.Sum,aYe.1,aYe.1,Z+dY⟩:aL)]:V aL).length) 1)::l0/\Hp b S wJ (aR bA 121 (some ⟨g5,0,none⟩) 1 ([(⟨1,x1.ID,x1.E,x1.Sum,aYe.1,aYe.1,Z+dY⟩:aL)]:V aL)::aR bA 121 sQ sS ((os++T)++([(⟨1,x1.ID,x1.E,x1.Sum,aYe.1,aYe.1,Z+dY⟩:aL)]:V aL))::aR bA 121 (some ⟨g3,0,none⟩) 1 ([(⟨1,x1.ID,x1.E,x1.Sum,aYe.1,aYe.1,Z+dY⟩:aL)]:V aL)::rk)) 9 57343 ?_ λhS3=>?_
   ·rintro _ w42 ⟨g5,sQ,sS,g3,rfl,K42⟩;refine O1 13 Y<|lY K42 s5 Y ?_
    have k26:=(((K42.rm s9).rm s5).cU 0 3);exact Kj hS1 k26 ⟨g5,sQ,sS,g3,Y,K42⟩ Y
   refine Jn H4 (λl0 rk lJ wJ=>∃ g6 g3,lJ=(69,.slice Xm ((os++T).length) c15)::(71,.slice (some ⟨g3,0,none⟩) (([(⟨1,x1.ID,x1.E,x1.Sum,aYe.1,aYe.1,Z+dY⟩:aL)]:V aL).length) 1)::(77,.slice A2 ((ds++T).length) c2)::(79,.slice (some ⟨g6,0,none⟩) (([(⟨1,x1.ID,x1.E,x1.Sum,aYe.1,aYe.1,Z+dY⟩:aL)]:V aL).length) 1)::l0/\Hp b S wJ (aR bA 121 (some ⟨g6,0,none⟩) 1 ([(⟨1,x1.ID,x1.E,x1.Sum,aYe.1,aYe.1,Z+dY⟩:aL)]:V aL)::aR bA 121 (some ⟨g3,0,none⟩) 1 ([(⟨1,x1.ID,x1.E,x1.Sum,aYe.1,aYe.1,Z+dY⟩:aL)]:V aL)::rk)) 9 65279 ?_ λhS4=>?_
   ·rintro _ w43 ⟨g6,g3,rfl,K43⟩;refine O1 8 Y<|ap (ys:=([(⟨1,x1.ID,x1.E,x1.Sum,aYe.1,aYe.1,Z+dY⟩:aL)]:V aL)) K43 s9 Y Y (K43.o s1) xq FC (by simp only [jH,jW]; omega) av rfl λAp7 cp7 w44 K44=>?_
    have k27:=(((K44.rm s9).rm s5).cU 0 3);exact Kj hS1 k27 ⟨g6,Ap7,cp7,g3,Y,((K44.sel U).sel s1)⟩ Y
   refine Jn H4 (λl0 rk lJ wJ=>∃ g3,lJ=(69,.slice Xm ((os++T).length) c15)::(71,.slice (some ⟨g3,0,none⟩) (([(⟨1,x1.ID,x1.E,x1.Sum,aYe.1,aYe.1,Z+dY⟩:aL)]:V aL).length) 1)::(77,.slice A2 ((ds++T).length) c2)::l0/\Hp b S wJ (aR bA 121 (some ⟨g3,0,none⟩) 1 ([(⟨1,x1.ID,x1.E,x1.Sum,aYe.1,aYe.1,Z+dY⟩:aL)]:V aL)::rk)) 10 32511 ?_ λhS5=>?_
   ·rintro _ w45 ⟨g3,rfl,K45⟩;refine O2 8 15 Y Y ?_ ?_
    ·refine ap (ys:=([(⟨1,x1.ID,x1.E,x1.Sum,aYe.1,aYe.1,Z+dY⟩:aL)]:V aL)) K45 s8 Y Y (K45.o U) xq FC (by simp only [jH,jW]; omega) av rfl λAp8 cp8 w46 K46=>?_;have k28:=(((K46.rm s8).rm s4).cU 0 2);exact Kj hS2 k28 ⟨Ap8,cp8,g3,Y,K46⟩ Y
    ·refine yV (τ:=bA) (x:=(⟨1,x1.ID,x1.E,x1.Sum,aYe.1,aYe.1,Z+dY⟩:aL)) Y (by intro _; apply fC) rfl K45 (λ_ _=>rfl) λg22 w47 K47=>?_;have k29:=(((K47.cU 8 2).rm s4).cU 0 2);exact Kj hS4 k29 ⟨g22,g3,Y,K47⟩ Y
   refine Jn H4 (λl0 rk lJ wJ=>∃ g7 g3,lJ=(69,.slice Xm ((os++T).length) c15)::(71,.slice (some ⟨g3,0,none⟩) (([(⟨1,x1.ID,x1.E,x1.Sum,aYe.1,aYe.1,Z+dY⟩:aL)]:V aL).length) 1)::(79,.slice (some ⟨g7,0,none⟩) (([(⟨1,x1.ID,x1.E,x1.Sum,aYe.1,aYe.1,Z+dY⟩:aL)]:V aL).length) 1)::l0/\Hp b S wJ (aR bA 121 (some ⟨g7,0,none⟩) 1 ([(⟨1,x1.ID,x1.E,x1.Sum,aYe.1,aYe.1,Z+dY⟩:aL)]:V aL)::aR bA 121 (some ⟨g3,0,none⟩) 1 ([(⟨1,x1.ID,x1.E,x1.Sum,aYe.1,aYe.1,Z+dY⟩:aL)]:V aL)::rk)) 10 57087 ?_ λhS6=>?_
   ·rintro _ w48 ⟨g7,g3,rfl,K48⟩;refine O2 8 13 Y Y ?_ ?_
    ·refine ap (ys:=([(⟨1,x1.ID,x1.E,x1.Sum,aYe.1,aYe.1,Z+dY⟩:aL)]:V aL)) K48 s9 Y Y (K48.o s1) xq FC (by simp only [jH,jW]; omega) av rfl λAp9 cp9 w49 K49=>?_;have k30:=(((K49.rm s9).rm s5).cU 0 3);exact Kj hS3 k30 ⟨g7,Ap9,cp9,g3,Y,((K49.sel U).sel s1)⟩ Y
    ·refine lY K48 s4 Y ?_;have k31:=(((K48.cU 8 2).rm s4).cU 0 2);exact Kj hS4 k31 ⟨g7,g3,Y,K48⟩ Y
   refine Jn H4 (λl0 rk lJ wJ=>∃ g9,lJ=(69,.slice Xm ((os++T).length) c15)::(77,.slice A2 ((ds++T).length) c2)::(79,.slice (some ⟨g9,0,none⟩) (([(⟨1,x1.ID,x1.E,x1.Sum,aYe.1,aYe.1,Z+dY⟩:aL)]:V aL).length) 1)::l0/\Hp b S wJ (aR bA 121 (some ⟨g9,0,none⟩) 1 ([(⟨1,x1.ID,x1.E,x1.Sum,aYe.1,aYe.1,Z+dY⟩:aL)]:V aL)::rk)) 10 65151 ?_ λhS7=>?_
   ·rintro _ w50 ⟨g9,rfl,K50⟩;refine O1 7 Y<|yV (τ:=bA) (x:=(⟨1,x1.ID,x1.E,x1.Sum,aYe.1,aYe.1,Z+dY⟩:aL)) Y (by intro _; apply fC) rfl K50 (λ_ _=>rfl) λg23 w51 K51=>?_
    have k32:=(((K51.cU 8 2).rm s4).cU 0 2);exact Kj hS4 k32 ⟨g9,g23,Y,((K51.sel U).sel s1)⟩ Y
   refine Jn H4 (λl0 rk lJ wJ=>∃ g14 g13,lJ=(71,.slice (some ⟨g13,0,none⟩) (([(⟨1,x1.ID,x1.E,x1.Sum,aYe.1,aYe.1,Z+dY⟩:aL)]:V aL).length) 1)::(77,.slice A2 ((ds++T).length) c2)::(79,.slice (some ⟨g14,0,none⟩) (([(⟨1,x1.ID,x1.E,x1.Sum,aYe.1,aYe.1,Z+dY⟩:aL)]:V aL).length) 1)::l0/\Hp b S wJ (aR bA 121 (some ⟨g14,0,none⟩) 1 ([(⟨1,x1.ID,x1.E,x1.Sum,aYe.1,aYe.1,Z+dY⟩:aL)]:V aL)::aR bA 121 (some ⟨g13,0,none⟩) 1 ([(⟨1,x1.ID,x1.E,x1.Sum,aYe.1,aYe.1,Z+dY⟩:aL)]:V aL)::rk)) 10 65247 ?_ λhS8=>?_
   ·rintro _ w52 ⟨g14,g13,rfl,K52⟩;refine O1 5 Y<|lY K52 s4 Y ?_
    have k33:=(((K52.cU 8 2).rm s4).cU 0 2);exact Kj hS4 k33 ⟨g14,g13,Y,K52⟩ Y
   refine Jn H4 (λl0 rk lJ wJ=>∃ g3,lJ=(69,.slice Xm ((os++T).length) c15)::(71,.slice (some ⟨g3,0,none⟩) (([(⟨1,x1.ID,x1.E,x1.Sum,aYe.1,aYe.1,Z+dY⟩:aL)]:V aL).length) 1)::l0/\Hp b S wJ (aR bA 121 (some ⟨g3,0,none⟩) 1 ([(⟨1,x1.ID,x1.E,x1.Sum,aYe.1,aYe.1,Z+dY⟩:aL)]:V aL)::rk)) 11 24319 ?_ λhS9=>?_
   ·rintro _ w53 ⟨g3,rfl,K53⟩;refine xX (fuel:=10) (rs:=[8,13,15]) ak au ?_
    simp only [rP,lH,wU,wV,uw]
    refine⟨?_,?_,?_⟩
    ·refine⟨_,Y,?_⟩;refine ap (ys:=([(⟨1,x1.ID,x1.E,x1.Sum,aYe.1,aYe.1,Z+dY⟩:aL)]:V aL)) K53 s8 Y Y (K53.o U) xq FC (by simp only [jH,jW]; omega) av rfl λayl aym w54 K54=>?_;have k34:=(((K54.rm s8).rm s4).cU 0 2);refine aO k34<|O2 13 15 Y Y ?_ ?_
     ·refine lY K54 s4 Y<|Kj hS2 k34 ⟨ayl,aym,g3,Y,K54⟩ Y
     ·refine yV (τ:=bA) (x:=(⟨1,x1.ID,x1.E,x1.Sum,aYe.1,aYe.1,Z+dY⟩:aL)) Y (by intro _; apply fC) rfl K54 (λ_ _=>rfl) λg24 w55 K55=>?_;have k35:=(((K55.rm s9).rm s5).cU 0 3);exact Kj hS3 k35 ⟨g24,ayl,aym,g3,Y,K55⟩ Y
    ·refine⟨_,Y,?_⟩;refine lY K53 s3 Y ?_;have k36:=(((K53.cU 7 2).rm s3).rm U);exact Kj hS5 k36 ⟨g3,Y,K53⟩ Y
    ·refine⟨_,Y,?_⟩;refine yV (τ:=bA) (x:=(⟨1,x1.ID,x1.E,x1.Sum,aYe.1,aYe.1,Z+dY⟩:aL)) Y (by intro _; apply fC) rfl K53 (λ_ _=>rfl) λg25 w56 K56=>?_;have k37:=(((K56.cU 8 2).rm s4).cU 0 2);exact Kj hS6 k37 ⟨g25,g3,Y,K56⟩ Y
   refine Jn H4 (λl0 rk lJ wJ=>lJ=(69,.slice Xm ((os++T).length) c15)::(77,.slice A2 ((ds++T).length) c2)::l0/\Hp b S wJ rk) 11 32383 ?_ λaHr=>?_
   ·rintro _ w57 ⟨rfl,K57⟩;refine O2 7 15 Y Y ?_ ?_
    ·refine yV (τ:=bA) (x:=(⟨1,x1.ID,x1.E,x1.Sum,aYe.1,aYe.1,Z+dY⟩:aL)) Y (by intro _; apply fC) rfl K57 (λ_ _=>rfl) λg26 w58 K58=>?_;have k38:=(((K58.cU 7 2).rm s3).rm U);exact Kj hS5 k38 ⟨g26,Y,K58⟩ Y
    ·refine yV (τ:=bA) (x:=(⟨1,x1.ID,x1.E,x1.Sum,aYe.1,aYe.1,Z+dY⟩:aL)) Y (by intro _; apply fC) rfl K57 (λ_ _=>rfl) λg27 w59 K59=>?_;have k39:=(((K59.cU 7 2).rm s3).rm U);exact Kj hS7 k39 ⟨g27,Y,K59⟩ Y
   refine Jn H4 (λl0 rk lJ wJ=>∃ g11,lJ=(69,.slice Xm ((os++T).length) c15)::(79,.slice (some ⟨g11,0,none⟩) (([(⟨1,x1.ID,x1.E,x1.Sum,aYe.1,aYe.1,Z+dY⟩:aL)]:V aL).length) 1)::l0/\Hp b S wJ (aR bA 121 (some ⟨g11,0,none⟩) 1 ([(⟨1,x1.ID,x1.E,x1.Sum,aYe.1,aYe.1,Z+dY⟩:aL)]:V aL)::rk)) 11 56959 ?_ λaHv=>?_
   ·rintro _ w60 ⟨g11,rfl,K60⟩;refine O2 7 13 Y Y ?_ ?_
    ·refine yV (τ:=bA) (x:=(⟨1,x1.ID,x1.E,x1.Sum,aYe.1,aYe.1,Z+dY⟩:aL)) Y (by intro _; apply fC) rfl K60 (λ_ _=>rfl) λg28 w61 K61=>?_;have k40:=(((K61.cU 8 2).rm s4).cU 0 2);exact Kj hS6 k40 ⟨g11,g28,Y,((K61.sel U).sel s1)⟩ Y
    ·refine lY K60 s3 Y ?_;have k41:=(((K60.cU 7 2).rm s3).rm U);exact Kj hS7 k41 ⟨g11,Y,K60⟩ Y
   refine Jn H4 (λl0 rk lJ wJ=>∃ g13,lJ=(71,.slice (some ⟨g13,0,none⟩) (([(⟨1,x1.ID,x1.E,x1.Sum,aYe.1,aYe.1,Z+dY⟩:aL)]:V aL).length) 1)::(77,.slice A2 ((ds++T).length) c2)::l0/\Hp b S wJ (aR bA 121 (some ⟨g13,0,none⟩) 1 ([(⟨1,x1.ID,x1.E,x1.Sum,aYe.1,aYe.1,Z+dY⟩:aL)]:V aL)::rk)) 11 32479 ?_ λaHx=>?_
   ·rintro _ w62 ⟨g13,rfl,K62⟩;refine O2 5 15 Y Y ?_ ?_
    ·refine lY K62 s3 Y ?_;have k42:=(((K62.cU 7 2).rm s3).rm U);exact Kj hS5 k42 ⟨g13,Y,K62⟩ Y
    ·refine yV (τ:=bA) (x:=(⟨1,x1.ID,x1.E,x1.Sum,aYe.1,aYe.1,Z+dY⟩:aL)) Y (by intro _; apply fC) rfl K62 (λ_ _=>rfl) λg29 w63 K63=>?_;have k43:=(((K63.cU 8 2).rm s4).cU 0 2);exact Kj hS8 k43 ⟨g29,g13,Y,K63⟩ Y
   refine Jn H4 (λl0 rk lJ wJ=>∃ g15 g13,lJ=(71,.slice (some ⟨g13,0,none⟩) (([(⟨1,x1.ID,x1.E,x1.Sum,aYe.1,aYe.1,Z+dY⟩:aL)]:V aL).length) 1)::(79,.slice (some ⟨g15,0,none⟩) (([(⟨1,x1.ID,x1.E,x1.Sum,aYe.1,aYe.1,Z+dY⟩:aL)]:V aL).length) 1)::l0/\Hp b S wJ (aR bA 121 (some ⟨g15,0,none⟩) 1 ([(⟨1,x1.ID,x1.E,x1.Sum,aYe.1,aYe.1,Z+dY⟩:aL)]:V aL)::aR bA 121 (some ⟨g13,0,none⟩) 1 ([(⟨1,x1.ID,x1.E,x1.Sum,aYe.1,aYe.1,Z+dY⟩:aL)]:V aL)::rk)) 11 57055 ?_ λaHz=>?_
   ·rintro _ w64 ⟨g15,g13,rfl,K64⟩;refine O2 5 13 Y Y ?_ ?_
    ·refine lY K64 s4 Y ?_;have k44:=(((K64.cU 8 2).rm s4).cU 0 2);exact Kj hS6 k44 ⟨g15,g13,Y,K64⟩ Y
    ·refine lY K64 s4 Y ?_;have k45:=(((K64.cU 8 2).rm s4).cU 0 2);exact Kj hS8 k45 ⟨g15,g13,Y,K64⟩ Y
   refine Jn H4 (λl0 rk lJ wJ=>∃ g17,lJ=(77,.slice A2 ((ds++T).length) c2)::(79,.slice (some ⟨g17,0,none⟩) (([(⟨1,x1.ID,x1.E,x1.Sum,aYe.1,aYe.1,Z+dY⟩:aL)]:V aL).length) 1)::l0/\Hp b S wJ (aR bA 121 (some ⟨g17,0,none⟩) 1 ([(⟨1,x1.ID,x1.E,x1.Sum,aYe.1,aYe.1,Z+dY⟩:aL)]:V aL)::rk)) 11 65119 ?_ λaHA=>?_
   ·rintro _ w65 ⟨g17,rfl,K65⟩;refine O2 5 7 Y Y ?_ ?_
    ·refine lY K65 s3 Y ?_;have k46:=(((K65.cU 7 2).rm s3).rm U);exact Kj hS7 k46 ⟨g17,Y,K65⟩ Y
    ·refine yV (τ:=bA) (x:=(⟨1,x1.ID,x1.E,x1.Sum,aYe.1,aYe.1,Z+dY⟩:aL)) Y (by intro _; apply fC) rfl K65 (λ_ _=>rfl) λg30 w66 K66=>?_;have k47:=(((K66.cU 8 2).rm s4).cU 0 2);exact Kj hS8 k47 ⟨g17,g30,Y,((K66.sel U).sel s1)⟩ Y
   refine xX (fuel:=12) (rs:=[5,7,13,15]) ak au ?_
   simp only [rP,lH,wU,wV,uw]
   refine⟨?_,?_,?_,?_⟩
   ·refine⟨_,Y,?_⟩;refine lY H4 s2 Y<|aO k5<|xX (fuel:=11) (rs:=[7,13,15]) ak au ?_
    simp only [rP,lH,wU,wV,uw]
    refine⟨?_,?_,?_⟩
    ·refine⟨_,Y,?_⟩;refine yV (τ:=bA) (x:=(⟨1,x1.ID,x1.E,x1.Sum,aYe.1,aYe.1,Z+dY⟩:aL)) Y (by intro _; apply fC) rfl H4 (λ_ _=>rfl) λg31 w67 K67=>?_;have k48:=(((K67.cU 7 2).rm s3).rm U);exact Kj hS9 k48 ⟨g31,Y,K67⟩ Y
    ·refine⟨_,Y,?_⟩;refine lY H4 s2 Y<|Kj aHr k5 ⟨Y,H4⟩ Y
    ·refine⟨_,Y,?_⟩;refine yV (τ:=bA) (x:=(⟨1,x1.ID,x1.E,x1.Sum,aYe.1,aYe.1,Z+dY⟩:aL)) Y (by intro _; apply fC) rfl H4 (λ_ _=>rfl) λg32 w68 K68=>?_;have k49:=(((K68.cU 7 2).rm s3).rm U);exact Kj aHv k49 ⟨g32,Y,K68⟩ Y
   ·refine⟨_,Y,?_⟩;refine yV (τ:=bA) (x:=(⟨1,x1.ID,x1.E,x1.Sum,aYe.1,aYe.1,Z+dY⟩:aL)) Y (by intro _; apply fC) rfl H4 (λ_ _=>rfl) λg33 w69 K69=>?_;have k50:=(((K69.cU 7 2).rm s3).rm U);refine aO k50<|xX (fuel:=11) (rs:=[5,13,15]) ak au ?_
    simp only [rP,lH,wU,wV,uw]
    refine⟨?_,?_,?_⟩
    ·refine⟨_,Y,?_⟩;refine lY K69 s3 Y<|Kj hS9 k50 ⟨g33,Y,K69⟩ Y
    ·refine⟨_,Y,?_⟩;refine lY K69 s3 Y<|Kj aHx k50 ⟨g33,Y,K69⟩ Y
    ·refine⟨_,Y,?_⟩;refine yV (τ:=bA) (x:=(⟨1,x1.ID,x1.E,x1.Sum,aYe.1,aYe.1,Z+dY⟩:aL)) Y (by intro _; apply fC) rfl K69 (λ_ _=>rfl) λg34 w70 K70=>?_;have k51:=(((K70.cU 8 2).rm s4).cU 0 2);exact Kj aHz k51 ⟨g34,g33,Y,K70⟩ Y
   ·refine⟨_,Y,?_⟩;refine lY H4 s2 Y<|aO k5<|xX (fuel:=11) (rs:=[5,7,15]) ak au ?_
    simp only [rP,lH,wU,wV,uw]
    refine⟨?_,?_,?_⟩
    ·refine⟨_,Y,?_⟩;refine lY H4 s2 Y<|Kj aHr k5 ⟨Y,H4⟩ Y
    ·refine⟨_,Y,?_⟩;refine yV (τ:=bA) (x:=(⟨1,x1.ID,x1.E,x1.Sum,aYe.1,aYe.1,Z+dY⟩:aL)) Y (by intro _; apply fC) rfl H4 (λ_ _=>rfl) λg35 w71 K71=>?_;have k52:=(((K71.cU 7 2).rm s3).rm U);exact Kj aHx k52 ⟨g35,Y,K71⟩ Y
    ·refine⟨_,Y,?_⟩;refine yV (τ:=bA) (x:=(⟨1,x1.ID,x1.E,x1.Sum,aYe.1,aYe.1,Z+dY⟩:aL)) Y (by intro _; apply fC) rfl H4 (λ_ _=>rfl) λg36 w72 K72=>?_;have k53:=(((K72.cU 7 2).rm s3).rm U);exact Kj aHA k53 ⟨g36,Y,K72⟩ Y
   ·refine⟨_,Y,?_⟩;refine yV (τ:=bA) (x:=(⟨1,x1.ID,x1.E,x1.Sum,aYe.1,aYe.1,Z+dY⟩:aL)) Y (by intro _; apply fC) rfl H4 (λ_ _=>rfl) λg37 w73 K73=>?_;have k54:=(((K73.cU 7 2).rm s3).rm U);refine aO k54<|xX (fuel:=11) (rs:=[5,7,13]) ak au ?_
    simp only [rP,lH,wU,wV,uw]
    refine⟨?_,?_,?_⟩
    ·refine⟨_,Y,?_⟩;refine lY K73 s3 Y<|Kj aHv k54 ⟨g37,Y,K73⟩ Y
    ·refine⟨_,Y,?_⟩;refine yV (τ:=bA) (x:=(⟨1,x1.ID,x1.E,x1.Sum,aYe.1,aYe.1,Z+dY⟩:aL)) Y (by intro _; apply fC) rfl K73 (λ_ _=>rfl) λg38 w74 K74=>?_;have k55:=(((K74.cU 8 2).rm s4).cU 0 2);exact Kj aHz k55 ⟨g37,g38,Y,((K74.sel U).sel s1)⟩ Y
    ·refine⟨_,Y,?_⟩;refine lY K73 s3 Y<|Kj aHA k54 ⟨g37,Y,K73⟩ Y
  rintro _ w75 ⟨oV,cj2,wH,vG,rfl,K75⟩;refine Hf K75 (λ_ K=>((K.rm s8).rm U)) (λl0 rk lJ wJ=>∃ BL BM,lJ=l0/\Hp b S wJ (dJ g 169 [v0,.slice AL ls.length cL,.slice oV (((ds++T)++([(⟨1,x1.ID,x1.E,x1.Sum,aYe.1,aYe.1,Z+dY⟩:aL)]:V aL)).length) cj2,.slice AN ns.length cN,.slice AK ks.length cK,v5,v6,v7,v8,O bQ,O dY,v11,O Z,.slice AV D.length cV,.slice AS dH.length cS,.slice wH (((os++T)++([(⟨1,x1.ID,x1.E,x1.Sum,aYe.1,aYe.1,Z+dY⟩:aL)]:V aL)).length) vG,.slice BL (((cs++T.map wG)++([(⟨0,0,6,x1.ID,aYe.1,0⟩:eU)]:V eU)).length) BM]::aR BP 118 BL BM ((cs++T.map wG)++([(⟨0,0,6,x1.ID,aYe.1,0⟩:eU)]:V eU))::rk)) (λhns H5=>?_) ?_
  ·have k56:=((H5.rm s8).rm U);refine lF 0 Y Y k56<|qp 1 g 16 R3 Y k56<|mK 5 6 g1 0 pG s5 Y k56<|lF 7 Y Y k56<|kI 8 Y (λ_ _=>iT (vs:=[(2,O 6),(3,O x1.ID),(4,O (aYe.1))]) (cs:=[O 0,O 0,O 6,O x1.ID,O (aYe.1),O 0]) Y (by apply y7)) k56<|Jn H5 (λl0 rk lJ wJ=>∃ g39,lJ=(90,.slice A16 ((cs++T.map wG).length) c16)::(95,.slice (some ⟨g39,0,none⟩) (([(⟨0,0,6,x1.ID,aYe.1,0⟩:eU)]:V eU).length) 1)::l0/\Hp b S wJ (aR BP 118 (some ⟨g39,0,none⟩) 1 ([(⟨0,0,6,x1.ID,aYe.1,0⟩:eU)]:V eU)::rk)) 4 1023 ?_ λaHC=>?_
   ·rintro _ w80 ⟨g39,rfl,K80⟩;refine O1 10 Y<|ap (ys:=([(⟨0,0,6,x1.ID,aYe.1,0⟩:eU)]:V eU)) K80 s9 Y Y (K80.o U) Qj akt (by simp only [jH,jW]; omega) av rfl λaHD aHE w81 K81=>?_
    have k61:=(K81.cU 0 3);refine aO k61<|JG 11 g 16 R3 Y k61<|O1 13 Y<|xD Y K81 s2 Y λw82 K82=>?_
    have k62:=(K82.cU 0 3);refine aO k62<|Dn ⟨aHD,aHE,Y,(K82.rm s2)⟩ Y
   refine O2 4 9 Y Y ?_ ?_
   ·refine lY H5 U Y<|aO k56<|O1 9 Y<|yV (τ:=BP) (x:=(⟨0,0,6,x1.ID,aYe.1,0⟩:eU)) Y (by intro _; apply Bd) rfl H5 (λ_ _=>rfl) λg41 w83 K83=>?_
    have k63:=((K83.rm s9).cU 0 2);exact Kj aHC k63 ⟨g41,Y,K83⟩ Y
   ·refine yV (τ:=BP) (x:=(⟨0,0,6,x1.ID,aYe.1,0⟩:eU)) Y (by intro _; apply Bd) rfl H5 (λ_ _=>rfl) λg42 w84 K84=>?_;have k64:=((K84.rm s9).cU 0 2);refine aO k64<|O1 4 Y<|lY K84 s1 Y<|Kj aHC k64 ⟨g42,Y,K84⟩ Y
  rintro _ w85 ⟨BL,BM,rfl,K85⟩;refine iF (fV ?_);refine jN<|ev (eG Y Y)<|mv Y<|jO ?_
  have hT2:xI ls ks ns D bQ (Z+dY) (dH.take (k+1))=T++[U6 x1 aYe.1 (Z+dY)]:=by rw [as2 bT aj (by simpa [trE,hE] using Zh),hT,show trE ls ks ns D bQ x1=aYe from hE]
  exact dX ⟨(k+1),oV,cj2,wH,vG,BL,BM,Y,Y,aj,by rw [hT2]; simp only [sU,<- o9]; exact(((((K85.cU 7 2).cU 4 2).sel U).sel s1).mV 2 2)⟩ rfl aj
 refine tu (mG (mG (tZ (o7 (uo Y ?_)))));have hfk:dH.take k=dH:=gY aj;rw [hfk] at K1;exact⟨Y,_,_,_,_,_,_,((K1.mV 0 3).mV 3 2)⟩
def ag7(w:World){jL:ah}{jK:Nat}{l:V aH}(jq:Sl bD S0 w jL jK l)(id:Int)(hn:l.length<=100000)(hh:∀ x∈l,x.aD.length<=100000):bM prog 39 #[.slice jL l.length jK,O id] w λv w'=>∃ wM wN,v=.tuple #[.agg #[O ((aV l id).ID),O ((aV l id).E),gP ((aV l id).Sum),.slice wM (((aV l id).aD).length) wN],.bool (gQ l id)]/\Hp w S0 w' [aR dN 3 wM wN ((aV l id).aD)]:=by
 refine lg S0 func39 ntmps39 Y λH0=>?_;have hf:=EJ l;refine rg<|al lX Y H0 λg1 w1 K1=>pB 4 Y<|gu Y (YI (S0:=Rd w S0 [dJ g1 48 [O 0,O 0,gP 0,.slice none 0 0]] _) _ (K1.a jq) hn hh) ?_
 rintro _ w2 ⟨A,c,ks,rfl,hkc,h9⟩;have K2:=K1.c2 h9;have hkl:ks.length=(dV l).length:=by rw [<- hkc,jW]
 refine fE Y ?_;have hrd:=K2.rdK U U;refine mP (t:=0) Y (aY (λz=>Value.slice A z c) (QY ks).symm)<|pC 3 Y<|mX K2 Y (IG _ hrd id (by rw [hkc]; exact Dp l) (by rw [jW]; omega)) λw3 K3=>pA 6 rfl<|aZ<|mP (t:=0) rfl (aY (λz=>Value.slice A z c) (QY ks))<|gD rfl<|ev (wC rfl)<|dn<|bS rfl (λhc17=>?_) (λhc17=>?_)
 ·try simp only [aA] at hc17
  refine rg<|ev (iT (vs:=[]) Y (by apply arw))<|sty rfl K3 s2 rfl λw4 K4=>fE rfl<|jE (gG (qL rfl ⟨_,_,rfl,⟨_,rfl,jo p8 rfl (K4.x U)⟩,⟨_,_,rfl,rfl,rfl⟩⟩ ?_))
  have hnf:aV l id=⟨0,0,0,[]⟩:=YJ (by rw [<- hkc]; simpa using hc17);have hnb:gQ l id=false:=by unfold gQ; rw [<- hkc]; simpa using hc17
  have gy:((⟨0,0,0,[]⟩:aH):aH)=(aV l id):=by exact hnf.symm
  have gH:(0:Int)=(aV l id).ID:=by rw [<- gy]
  have kN:(0:Int)=(aV l id).E:=by rw [<- gy]
  have nM:(0:Int)=(aV l id).Sum:=by rw [<- gy]
  have H1:=K4.nil dN 3;have uO:(([]:V Int):V Int)=((aV l id).aD):=by rw [<- gy]
  have zC:(false:Bool)=(gQ l id):=by exact hnb.symm
  exact⟨none,0,by first | (rw [<- gH,<- kN,<- nM,<- zC,<- uO] <;> rfl) | (rw [<- uO,<- gH,<- kN,<- nM,<- zC] <;> rfl),by rw [<- uO]; exact(H1.cU 1 3)⟩
 try simp only [aA] at hc17
 have hc17:hits (fun(y:aH)=>bL y.ID id) (ks.map bE.c)=true:=by simpa using hc17
 obtain⟨xb,hxb,hkb⟩:=qc hc17;have adl:=aP hxb;rw [jW] at adl;refine jQ ?_;refine pC 3 Y ?_;obtain⟨x1,bT⟩:=bH aj;refine ev (d9 (i:=low (fun(y:aH)=>bL y.ID id) (ks.map bE.c)) lT tH Y Y Y (aP bT) ((K3.o U).some_ bT))<|ev (iR p8 Y Y ((K3.o U).fF bT))<|sty Y K3 s2 Y λw5 K5=>fE Y<|jE (qL Y ⟨_,_,Y,⟨_,Y,jo (cs:=[O x1.c.ID,O x1.c.E,gP x1.c.Sum,.slice x1.B x1.c.aD.length x1.d]) p8 Y (K5.x U)⟩,⟨_,_,Y,Y,Y⟩⟩ ?_)
 have hrx:(ks.map rQ)[low (fun(y:aH)=>bL y.ID id) (ks.map bE.c)]? = some (x1.B,x1.d,x1.c.aD):=by rw [rM,bT]; rfl
 have H2:=K5.Dm s2 hrx;have hyf:aV l id=x1.c:=Uw (by rw [<- hkc]; exact hc17) (by rw [<- hkc,rM,bT]; rfl);have hyb:gQ l id=true:=by unfold gQ; rw [<- hkc]; exact hc17
 have BO:(x1.c:aH)=(aV l id):=by exact hyf.symm
 have hq8:(x1.c.ID:Int)=(aV l id).ID:=by rw [<- BO]
 have Aa:(x1.c.E:Int)=(aV l id).E:=by rw [<- BO]
 have vL:(x1.c.Sum:Int)=(aV l id).Sum:=by rw [<- BO]
 have hq11:(x1.c.aD:V Int)=((aV l id).aD):=by rw [<- BO]
 have hq12:(true:Bool)=(gQ l id):=by exact hyb.symm
 exact⟨x1.B,x1.d,by first | (rw [hq8,Aa,vL,hq11,<- hq12] <;> rfl) | (rw [hq11,hq8,Aa,vL,<- hq12] <;> rfl),by rw [<- hq11]; exact(H2.cU 1 3)⟩
def ag8(w:World)(n:Nat)(hn:n<=1000000):bM prog 247 #[.slice none 0 0,O ((n:Nat):Int)] w λv w'=>∃ A0 c0,v=.slice A0 (([]:V Int).length) c0/\Hp w S0 w' [aR dN 3 A0 c0 ([]:V Int)]:=by
 refine lg S0 func247 ntmps247 Y λH0=>kX Y<|aZ<|gD Y<|ev (iH Y Y)<|dn<|o8 Y (λhc6=>?_) (λhc6=>?_)
 ·omega
 refine jQ ?_;refine aZ<|pC 3 Y<|ev (Ev.cap gq Y)<|pq 2 Y<|ev (VO Y Y)<|ev (VO Y Y)<|pA 6 Y<|o8 Y (λhc16=>?_) (λhc16=>?_)
 ·refine jN<|pq 2 Y<|ev (Ev.cap gq Y)<|ev (Ev.WY gq wX Y Y Y)<|mv Y<|apz dN Y Y gq ig LB aj aj Y H0 λg1 cz1 w1 K1=>pq 2 Y<|ev (Ev.WY gq wX Y Y Y)<|oJ Y<|jO<|fV<|gD Y<|fE Y<|iU Y ?_
  exact⟨(some ⟨g1,0,none⟩),cz1,Y,K1⟩
 refine jQ ?_;refine gD Y<|fE Y<|iU Y ?_
 have H1:=H0.nil dN 3;exact⟨none,0,Y,H1⟩
def ad5(w:World){ag9:ah}{aha:Nat}{xss:V (V Int)}(abG:Sl (Ty.list dN) S0 w ag9 aha xss)(hn:(xss).flatten.length<=1000000):bM prog 179 #[.slice ag9 xss.length aha] w λv w'=>∃ A0 c0,v=.slice A0 (((xss).flatten).length) c0/\Hp w S0 w' [aR dN 3 A0 c0 ((xss).flatten)]:=by
 refine lg S0 func179 ntmps179 Y λH0=>?_;have qU:=underlying336;have qU1:=gq;have qZ:=VU;have qG:=EX;have qI:=LB;have qW:=@ag8;exact mCC
end
section
variable {c d:aH}{l:List aH}{ls:List bq}{nZ:Int}{a b:Bool}{S0:Nat->Prop}
structure Ic where
  ds:List aL
  ns:List aT
  ks:List aH
  D:List Int
  dH:List aH
  dG:Int
  all:Int
  bQ:Int
  u:Int
def J6(D:List Int)(c:aH):List Int:=c.aD.filter fun(x9:Int)=>!(!(D.contains x9))
def J7(x:Ic)(c:aH)(ls:List bq):List Int:=([c.aD,jB ls c.ID,mQ x.ds c.ID]:List (List Int)).flatten
def tJ(x:Ic)(c:aH)(ls:List bq):Option aT:=vB x.ns x.D (iQ x.ks x.ns ls) (J7 x c ls) x.ns
def uX(x:Ic)(d:aH)(ls:List bq):Int:=Cc ls (J6 x.D d) x.dG
def xu(x:Ic)(c d:aH)(ls:List bq):Bool:=((tJ x c ls).isSome&&Fz ls (J6 x.D d) x.dG)&&Ea ls x.dG x.all c (uX x d ls) (yY (tJ x c ls)) x.u
def LK(x:Ic)(c d:aH)(have_:Int):Nat->List bq × List aL->List bq × List aL
  | 0,s=>s
  | f+1,s=>if have_+((jB s.1 c.ID).length:Int)<x.bQ/\xu x c d s.1=true then LK x c d have_ f (yL s.1 x.dG x.all c (uX x d s.1) (yY (tJ x c s.1)) x.u,xV s.1 s.2 x.dG x.all c (uX x d s.1) (yY (tJ x c s.1)) x.u) else s
def J8(x:Ic)(s:List bq × List aL)(n:dW):List bq × List aL:=LK x (aV x.ks n.X) (aV x.dH n.X) n.Have 100 s
def qH(x:Ic)(aYc:List dW)(s:List bq × List aL):List bq × List aL:=aYc.foldl (J8 x) s
def amj{x:Ic}{h:Int}{f:Nat}{l:V bq}{o:V aL}(hf:0<f)(h1:h+((jB l c.ID).length:Int)<x.bQ)(h2:xu x c d l=true):LK x c d h (f - 1) (yL l x.dG x.all c (uX x d l) (yY (tJ x c l)) x.u,xV l o x.dG x.all c (uX x d l) (yY (tJ x c l)) x.u)=LK x c d h f (l,o):=by
 cases f with
 | zero=>omega
 | succ f=>symm; exact aS ⟨h1,h2⟩
def Om{x:Ic}{h:Int}{l:V bq}{o:V aL}(hn:¬ (h+((jB l c.ID).length:Int)<x.bQ/\xu x c d l=true)):∀ f,LK x c d h f (l,o)=(l,o)
 | 0=>rfl
 | f+1=>aQ hn
def Nh{dG all:Int}{fr u:Int}(h:Ea ls dG all c fr nZ u=true):(jB (yL ls dG all c fr nZ u) c.ID).length=(jB ls c.ID).length+1/\(yL ls dG all c fr nZ u).length=ls.length+1/\∀ os,(xV ls os dG all c fr nZ u).length=os.length+1:=by
 have e:yL ls dG all c fr nZ u=ls++[AZ c fr nZ u]:=aS h;refine⟨?_,by rw [e]; simp,λos=>by unfold xV; rw [aS h]; simp⟩;rw [e]; unfold jB; rw [CB]; simp
def ahb{dG all:Int}{fr u:Int}(h:Ea ls dG all c fr nZ u=true):(ls.length:Int)<all:=by
 have h1:pO ls (AZ c fr nZ u) dG all=0:=iY h;unfold pO at h1
 split at h1
 ·cases h1
 ·split at h1
  ·cases h1
  ·split at h1
   ·cases h1
   ·rename_i h3; simp only [not_or] at h3; omega
def Ni{dG all:Int}{fr u:Int}(h:Ea ls dG all c fr nZ u=false):yL ls dG all c fr nZ u=ls/\∀ os,xV ls os dG all c fr nZ u=os:=
 ⟨aQ (by rw [h]; decide),λos=>aQ (by rw [h]; decide)⟩
def ad6{c:Bool}(h:(!a)=true):((a&&b)&&c)=false:=by cases a <;> simp_all
def ad7{c:Bool}(h:(!b)=true):((a&&b)&&c)=false:=by cases b <;> simp_all
def ad8{c:Bool}(h:c=false):((a&&b)&&c)=false:=by cases c <;> simp_all
def aHF{c:Bool}(h:(!c)=false):c=true:=by cases c <;> simp_all
def Lr{c:Bool}(h:(!c)=true):c=false:=by cases c <;> simp_all
def aDm{c:Bool}(h1:(!a)=false)(h2:(!b)=false)(h3:c=true):((a&&b)&&c)=true:=by cases a <;> cases b <;> simp_all
def ab9{m:Nat}(h:∀ x∈l,x.aD.length<=m)(id:Int):(aV l id).aD.length<=m:=by
 unfold aV; split
 ·rename_i c e
  split
  ·exact h c (by have:=dz e; unfold dV at this; split at this; exact this; simp at this)
  ·simp
 ·simp
def Oo{x:Ic}{aYc:V dW}{k:Nat}{n:dW}{s:V bq × V aL}(hn:aYc[k]? = some n):qH x (aYc.take (k+1)) s=J8 x (qH x (aYc.take k) s) n:=by
 unfold qH; rw [eO hn,AP]; rfl
def akv:kW prog 166:=ay
def aDn:bC prog 177:=ay
def ad9(a0:ah)(a0n a0c:Nat)(a1:ah)(a1n a1c:Nat)(a2:ah)(a2n a2c:Nat):∀ w,(Instr.buildSlice 336 3 (List.toArray [(0,.slice a0 a0n a0c),(1,.slice a1 a1n a1c),(2,.slice a2 a2n a2c)])).run prog w=.ok (.slice (some ⟨w.heap.size,0,none⟩) 3 3) (w.alloc (.cells (List.toArray [.slice a0 a0n a0c,.slice a1 a1n a1c,.slice a2 a2n a2c]) 46)):=ay
def aDo:bC prog 181:=ay
abbrev vC(gX:List Int)(iP:Int):=!(gX.contains iP)
def as4(w:World)(id:Int){g_d g_r:Nat}{v0 v1 v2 v3 v4 v5 v6 v7 v8 v9 v10 v11 v12 v14 v15 v16:Value}{AV:ah}{cV:Nat}{D:V Int}(h_d:Bx w g_d 166 [fK g_r])(h_r:Bx w g_r 169 [v0,v1,v2,v3,v4,v5,v6,v7,v8,v9,v10,v11,v12,.slice AV D.length cV,v14,v15,v16])(aN2:Sl dN S0 w AV cV D):bM prog 177 #[O id,fK g_d] w λv w'=>v=.bool (vC D id)/\Hp w S0 w' []:=by
 refine lg S0 func177 ntmps177 Y λH0=>kX Y<|rg<|ev (dU akv Y (h_d.ext H0.ext) Y)<|pq 1 Y<|zA g_r 13 IW Y<|ev (dU EX Y (h_r.ext H0.ext) Y)<|mv Y<|mX H0 Y (kJ _ (H0.a aN2).any id) λw1 K1=>pA 3 Y<|iU Y ?_
 exact⟨Y,K1⟩
abbrev iE(gX:List aL)(iP:List aT)(xE:List aH)(AU:List Int)(Gg:List aH)(R5 V9 y7z y8z y9z:Int):=(⟨gX,iP,xE,AU,Gg,R5,V9,y7z,y8z+y9z⟩:Ic)
set_option maxHeartbeats 4000000 in
def ayn{b w:World}{S:Nat->Prop}{F:V kF}{g:Nat}{v0 v5 v6 v11 v16:Value}{AL:ah}{cL:Nat}{AD:ah}{cD:Nat}{ds:V aL}{AO:ah}{cO:Nat}{os:V aL}{AN:ah}{cN:Nat}{ns:V aT}{AK:ah}{cK:Nat}{ks:V aH}{AV:ah}{cV:Nat}{D:V Int}{AS:ah}{cS:Nat}{dH:V aH}{dG all bQ dY Z:Int}{AQ:ah}{cQ:Nat}{needs:V dW}(H0:Hp b S w (dJ g 169 [v0,.slice AL ls.length cL,.slice AD ds.length cD,.slice AN ns.length cN,.slice AK ks.length cK,v5,v6,O dG,O all,O bQ,O dY,v11,O Z,.slice AV D.length cV,.slice AS dH.length cS,.slice AO os.length cO,v16]::aR dB 165 AL cL ls::aR bA 121 AD cD ds::aR bA 121 AO cO os::dI bW AN cN ns::dI bD AK cK ks::dI dN AV cV D::dI bD AS cS dH::dI p9 AQ cQ needs::F))(hl:ls.length<=64)(hd:ds.length<=100000)(ho:os.length<=1000)(hn:ns.length<=1000)(hc:ks.length<=1000)(hs:dH.length<=1000)(hkk:∀ x∈ks,x.aD.length<=1000)(hh:∀ x∈dH,x.aD.length<=1000)(he:0<=dG/\dG<=64/\all<=64/\bQ<=8)(hq:∀ x∈needs,0<=x.Have/\x.Have<=1000)(hnl:needs.length<=100000)(hu:-1099511627776<=Z/\Z<=4398046511104/\-1099511627776<=dY/\dY<=1099511627776):bM prog 100 #[fK g,.slice AQ needs.length cQ] w λv w'=>v=.tuple #[]/\∃ AL' cL' AO' cO',Hp b S w' (dJ g 169 [v0,.slice AL' (((qH (iE ds ns ks D dH dG all bQ Z dY) needs (ls,os)).1).length) cL',.slice AD ds.length cD,.slice AN ns.length cN,.slice AK ks.length cK,v5,v6,O dG,O all,O bQ,O dY,v11,O Z,.slice AV D.length cV,.slice AS dH.length cS,.slice AO' (((qH (iE ds ns ks D dH dG all bQ Z dY) needs (ls,os)).2).length) cO',v16]::aR dB 165 AL' cL' ((qH (iE ds ns ks D dH dG all bQ Z dY) needs (ls,os)).1)::aR bA 121 AD cD ds::aR bA 121 AO' cO' ((qH (iE ds ns ks D dH dG all bQ Z dY) needs (ls,os)).2)::dI bW AN cN ns::dI bD AK cK ks::dI dN AV cV D::dI bD AS cS dH::dI p9 AQ cQ needs::F):=by
 refine qN func100 ntmps100 Y<|rg<|bx Y Y H0 λg1 w1 K1=>dn<|WP.sc<|aZ (WP.lab (fV ?_))
 refine gD Y<|ev (jf sV Y)<|mv Y<|dn<|dF ?_
 have gy:(ls:V bq)=(qH (iE ds ns ks D dH dG all bQ Z dY) (needs.take 0) (ls,os)).1:=by rfl
 rw [gy] at K1;have gH:(os:V aL)=(qH (iE ds ns ks D dH dG all bQ Z dY) (needs.take 0) (ls,os)).2:=by rfl
 rw [gH] at K1;refine qh (λmJ lJ wJ=>∃ k A1 c1 Xm c15,lJ=[(2,fK g1),(16,.slice AQ needs.length cQ),(17,O ((needs.length:Nat):Int)),(18,O ((k:Nat):Int))]/\mJ=needs.length - k/\k<=needs.length/\((qH (iE ds ns ks D dH dG all bQ Z dY) (needs.take k) (ls,os)).2.length+ls.length=os.length+(qH (iE ds ns ks D dH dG all bQ Z dY) (needs.take k) (ls,os)).1.length/\(qH (iE ds ns ks D dH dG all bQ Z dY) (needs.take k) (ls,os)).1.length<=64)/\Hp b S wJ (aR dB 165 A1 c1 ((qH (iE ds ns ks D dH dG all bQ Z dY) (needs.take k) (ls,os)).1)::aR bA 121 Xm c15 ((qH (iE ds ns ks D dH dG all bQ Z dY) (needs.take k) (ls,os)).2)::dJ g 169 [v0,.slice A1 (((qH (iE ds ns ks D dH dG all bQ Z dY) (needs.take k) (ls,os)).1).length) c1,.slice AD ds.length cD,.slice AN ns.length cN,.slice AK ks.length cK,v5,v6,O dG,O all,O bQ,O dY,v11,O Z,.slice AV D.length cV,.slice AS dH.length cS,.slice Xm (((qH (iE ds ns ks D dH dG all bQ Z dY) (needs.take k) (ls,os)).2).length) c15,v16]::dJ g1 166 [fK g]::aR bA 121 AD cD ds::dI bW AN cN ns::dI bD AK cK ks::dI dN AV cV D::dI bD AS cS dH::dI p9 AQ cQ needs::F)) ⟨0,AL,cL,AO,cO,Y,Y,fI _,by exact⟨Nat.add_comm _ _▸rfl,hl⟩,((((K1.sel s3).sel s1).sel s2).mV 3 2)⟩ rfl ?_;rintro _ _ w2 ⟨k,A1,c1,Xm,c15,rfl,rfl,hk,hlo,K2⟩;refine rg<|ev (iH Y Y)<|dn<|r9 Y (λhc19=>?_) (λhc19=>?_)
 ·refine jQ ?_;refine aZ<|dF<|rg ?_
  obtain⟨x1,bT⟩:=bH (xs:=needs) (i:=k) aj;refine ev (d9 (i:=k) sV qQ Y Y Y (aP bT) ((K2.s s9).some_ bT))<|ev (iR qw Y Y ((K2.s s9).fF bT))<|al Dx Y K2 λg2 w3 K3=>sty Y K3 U Y λw4 K4=>dn<|He K4 (λ_ K=>K) (λl0 rk lJ wJ=>∃ qF jG jr,lJ=(6,fK qF)::l0/\Hp b S wJ (dJ qF 48 [O ((aV ks x1.X).ID),O ((aV ks x1.X).E),gP ((aV ks x1.X).Sum),.slice jG (((aV ks x1.X).aD).length) jr]::dI dN jG jr ((aV ks x1.X).aD)::rk)) (λhns H1=>?_) ?_
  ·refine xS 0 s4 Y H1<|JG 1 g 3 FD Y H1<|mK 3 4 g 4 jC s3 Y H1<|mK 5 6 g2 0 RH U Y H1<|Jn H1 (λl0 rk lJ wJ=>∃ g3 Zt Zu,lJ=(6,fK g3)::(32,.bool (gQ ks x1.X))::l0/\Hp b S wJ (dJ g3 48 [O ((aV ks x1.X).ID),O ((aV ks x1.X).E),gP ((aV ks x1.X).Sum),.slice Zt (((aV ks x1.X).aD).length) Zu]::dI dN Zt Zu ((aV ks x1.X).aD)::rk)) 1 8191 ?_ λhS1=>?_
   ·rintro _ VY ⟨g3,Zt,Zu,rfl,vF⟩;have k6:=(vF.cU 0 2);refine xC 13 Y Y k6<|Dn ⟨g3,Zt,Zu,Y,vF⟩ Y
   refine O2 7 11 Y Y ?_ ?_
   ·refine gu Y (find_ok _ (H1.s s7) x1.X aj (λx hx=>by first | (have:=hkk x hx; omega) | (have:=hh x hx; omega))) ?_;rintro _ Uy ⟨aea,aeb,rfl,h12⟩;have uR:=H1.c1 h12;have aN3:=(uR.s U).bI;have k7:=(uR.rm U);refine aO k7<|lF 8 Y Y k7<|yj 9 Y (vs:=[.agg #[O ((aV ks x1.X).ID),O ((aV ks x1.X).E),gP ((aV ks x1.X).Sum),.slice aea (((aV ks x1.X).aD).length) aeb],.bool (gQ ks x1.X)]) Y Y k7<|yj 10 Y (vs:=[.agg #[O ((aV ks x1.X).ID),O ((aV ks x1.X).E),gP ((aV ks x1.X).Sum),.slice aea (((aV ks x1.X).aD).length) aeb],.bool (gQ ks x1.X)]) Y Y k7<|O1 11 Y<|al lX Y uR λg5 YX xk=>?_
    have k8:=(xk.cU 0 2);refine aO k8<|O1 12 Y<|sty Y xk U Y λw14 wF=>?_
    have k9:=(wF.cU 0 2);exact Kj hS1 k9 ⟨g5,aea,aeb,Y,wF⟩ Y
   ·refine al lX Y H1 λg6 w15 zI=>?_;have k10:=(zI.rm U);refine aO k10<|O1 7 Y<|gu Y (find_ok _ (zI.s s8) x1.X aj (λx hx=>by first | (have:=hkk x hx; omega) | (have:=hh x hx; omega))) ?_
    rintro _ w16 ⟨aec,aed,rfl,h16⟩;have BZ:=zI.c1 h16;have aDp:=(BZ.s U).bI;have k11:=(BZ.cU 0 2);refine aO k11<|lF 8 Y Y k11<|yj 9 Y (vs:=[.agg #[O ((aV ks x1.X).ID),O ((aV ks x1.X).E),gP ((aV ks x1.X).Sum),.slice aec (((aV ks x1.X).aD).length) aed],.bool (gQ ks x1.X)]) Y Y k11<|yj 10 Y (vs:=[.agg #[O ((aV ks x1.X).ID),O ((aV ks x1.X).E),gP ((aV ks x1.X).Sum),.slice aec (((aV ks x1.X).aD).length) aed],.bool (gQ ks x1.X)]) Y Y k11<|O1 12 Y<|sty Y BZ s1 Y λw17 zT=>?_
    have k12:=(zT.cU 0 2);exact Kj hS1 k12 ⟨g6,aec,aed,Y,zT⟩ Y
  rintro _ w18 ⟨qF,jG,jr,rfl,EL⟩;refine He EL (λ_ K=>K) (λl0 rk lJ wJ=>∃ gj2 oV cj2,lJ=(8,fK gj2)::l0/\Hp b S wJ (dJ gj2 48 [O ((aV dH x1.X).ID),O ((aV dH x1.X).E),gP ((aV dH x1.X).Sum),.slice oV (((aV dH x1.X).aD).length) cj2]::aR dN 3 oV cj2 ((aV dH x1.X).aD)::rk)) (λhns H2=>?_) ?_
  ·refine xS 0 s6 Y H2<|JG 1 g 14 Nc Y H2<|xS 3 s5 Y H2<|mK 4 5 g2 0 RH s2 Y H2<|Jn H2 (λl0 rk lJ wJ=>∃ g7 Xn Xo,lJ=(8,fK g7)::(42,.bool (gQ dH x1.X))::l0/\Hp b S wJ (dJ g7 48 [O ((aV dH x1.X).ID),O ((aV dH x1.X).E),gP ((aV dH x1.X).Sum),.slice Xn (((aV dH x1.X).aD).length) Xo]::aR dN 3 Xn Xo ((aV dH x1.X).aD)::rk)) 1 4095 ?_ λhS2=>?_
   ·rintro _ w25 ⟨g7,Xn,Xo,rfl,DU⟩;have k18:=(DU.cU 0 2);refine xC 12 Y Y k18<|Dn ⟨g7,Xn,Xo,Y,DU⟩ Y
   refine O2 6 10 Y Y ?_ ?_
   ·refine gu Y (ag7 _ (H2.s s11).any x1.X aj (λx hx=>by first | (have:=hkk x hx; omega) | (have:=hh x hx; omega))) ?_;rintro _ w26 ⟨RY,RZ,rfl,h26⟩;have JU:=H2.f1 h26;have aDq:=(JU.o U).bI;have k19:=(JU.rm U);refine aO k19<|lF 7 Y Y k19<|yj 8 Y (vs:=[.agg #[O ((aV dH x1.X).ID),O ((aV dH x1.X).E),gP ((aV dH x1.X).Sum),.slice RY (((aV dH x1.X).aD).length) RZ],.bool (gQ dH x1.X)]) Y Y k19<|yj 9 Y (vs:=[.agg #[O ((aV dH x1.X).ID),O ((aV dH x1.X).E),gP ((aV dH x1.X).Sum),.slice RY (((aV dH x1.X).aD).length) RZ],.bool (gQ dH x1.X)]) Y Y k19<|O1 10 Y<|al lX Y JU λg9 w27 LG=>?_
    have k20:=(LG.cU 0 2);refine aO k20<|O1 11 Y<|sty Y LG U Y λw28 Fh=>?_
    have k21:=(Fh.cU 0 2);exact Kj hS2 k21 ⟨g9,RY,RZ,Y,Fh⟩ Y
   ·refine al lX Y H2 λg10 w29 Fp=>?_;have k22:=(Fp.rm U);refine aO k22<|O1 6 Y<|gu Y (ag7 _ (Fp.s s12).any x1.X aj (λx hx=>by first | (have:=hkk x hx; omega) | (have:=hh x hx; omega))) ?_
    rintro _ w30 ⟨aee,aef,rfl,h30⟩;have Fq:=Fp.f1 h30;have aDr:=(Fq.o U).bI;have k23:=(Fq.cU 0 2);refine aO k23<|lF 7 Y Y k23<|yj 8 Y (vs:=[.agg #[O ((aV dH x1.X).ID),O ((aV dH x1.X).E),gP ((aV dH x1.X).Sum),.slice aee (((aV dH x1.X).aD).length) aef],.bool (gQ dH x1.X)]) Y Y k23<|yj 9 Y (vs:=[.agg #[O ((aV dH x1.X).ID),O ((aV dH x1.X).E),gP ((aV dH x1.X).Sum),.slice aee (((aV dH x1.X).aD).length) aef],.bool (gQ dH x1.X)]) Y Y k23<|O1 11 Y<|sty Y Fq s1 Y λw31 Lh=>?_
    have k24:=(Lh.cU 0 2);exact Kj hS2 k24 ⟨g10,aee,aef,Y,Lh⟩ Y
  rintro _ w32 ⟨gj2,oV,cj2,rfl,M4⟩;have aUs:=ab9 hkk x1.X;have aUt:=ab9 hh x1.X;have hqx:=hq _ (dz bT);refine rg<|jP gj2 3 kr M4 U Y<|ev (rZ Y)<|gu Y (oN (kd:=[fK g1]) (M4.sel s1) aDn (λx9=>!(D.contains x9)) (λw9 ys x9 hl9 K9=>(as4 (S0:=Any) w9 x9 (K9.x s8) (K9.x s7) (K9.s s12).any).mono (by rintro _ w8 ⟨rfl,K8⟩; exact⟨rfl,K8.ext⟩)) aj) ?_
  rintro _ w33 ⟨rfl,P7⟩;refine fE Y<|dF<|qh (λmJ lJ wJ=>∃(A1:ah)(c1:Nat)(Xm:ah)(c15:Nat)(l:V bq)(o:V aL)(f:Nat),lJ=[(2,fK g1),(5,fK g2),(6,fK qF),(10,.slice oV ((((aV dH x1.X).aD).filter λx9=>!(vC D x9)).length) cj2),(16,.slice AQ needs.length cQ),(17,O ((needs.length:Nat):Int)),(18,O ((k:Nat):Int))]/\mJ=f+1/\(o.length+ls.length=os.length+l.length/\l.length<=64)/\(LK (iE ds ns ks D dH dG all bQ Z dY) (aV ks x1.X) (aV dH x1.X) x1.Have f (l,o)=J8 (iE ds ns ks D dH dG all bQ Z dY) (qH (iE ds ns ks D dH dG all bQ Z dY) (needs.take k) (ls,os)) x1)/\(bQ - x1.Have - ((jB l (aV ks x1.X).ID).length:Int)<(f:Int))/\Hp b S wJ (aR dB 165 A1 c1 l::aR bA 121 Xm c15 o::dJ g 169 [v0,.slice A1 l.length c1,.slice AD ds.length cD,.slice AN ns.length cN,.slice AK ks.length cK,v5,v6,O dG,O all,O bQ,O dY,v11,O Z,.slice AV D.length cV,.slice AS dH.length cS,.slice Xm o.length c15,v16]::aR dN 3 oV cj2 (((aV dH x1.X).aD).filter λx9=>!(vC D x9))::dJ gj2 48 [O ((aV dH x1.X).ID),O ((aV dH x1.X).E),gP ((aV dH x1.X).Sum),.slice oV (((aV dH x1.X).aD).length) cj2]::dJ qF 48 [O ((aV ks x1.X).ID),O ((aV ks x1.X).E),gP ((aV ks x1.X).Sum),.slice jG (((aV ks x1.X).aD).length) jr]::dI dN jG jr ((aV ks x1.X).aD)::dJ g2 251 [O x1.X,O x1.Have,O x1.Live]::dJ g1 166 [fK g]::aR bA 121 AD cD ds::dI bW AN cN ns::dI bD AK cK ks::dI dN AV cV D::dI bD AS cS dH::dI p9 AQ cQ needs::F)) ⟨A1,c1,Xm,c15,((qH (iE ds ns ks D dH dG all bQ Z dY) (needs.take k) (ls,os)).1),((qH (iE ds ns ks D dH dG all bQ Z dY) (needs.take k) (ls,os)).2),100,Y,Y,by exact hlo,by rfl,by have:=hq _ (dz bT); omega,((P7.mV 0 5).mV 5 3)⟩ rfl ?_
  rintro _ _ w34 ⟨A1,c1,Xm,c15,l,o,f,rfl,rfl,hlo2,hrep,hff,Xd⟩;refine aZ ?_;have hcl:=ag3 l (aV ks x1.X).ID;refine He Xd (λ_ K=>K) (λl0 rk lJ wJ=>lJ=(60,.bool (decide (x1.Have+(((jB l ((aV ks x1.X).ID)).length:Nat):Int)<bQ)))::l0/\Hp b S wJ rk) (λhns H3=>?_) ?_
  ·refine mK 0 1 g2 1 RG s7 Y H3<|xS 2 s8 Y H3<|mK 3 4 qF 0 pG s5 Y H3<|xS 8 s8 Y H3<|JG 9 g 6 Dy Y H3<|mK 11 12 g 9 GI s2 Y H3<|O1 5 Y<|gu Y (U3 ((H3.mV 0 2).sel s2) aj ((aV ks x1.X).ID)) ?_
   rintro _ w35 ⟨Pm,Pn,rfl,K35⟩;have k25:=(((K35.rm U).sel U).mV 1 2);refine aO k25<|kI 6 Y (λ_ _=>jf gq Y) k25<|kI 7 Y (λ_ _=>eG Y Y) k25<|kI 13 Y (λ_ _=>iH Y Y) k25<|Dn ⟨Y,(((K35.rm U).sel U).mV 1 2)⟩ Y
  rintro _ w36 ⟨rfl,K36⟩;refine o8 Y (λas5=>?_) (λas5=>?_)
  ·refine jQ ?_;refine dF ?_;have hgl:=aoY ds (aV ks x1.X).ID;refine He K36 (λ_ K=>K) (λl0 rk lJ wJ=>∃ BL BM,lJ=(11,.slice BL (((([((aV ks x1.X).aD),(jB l ((aV ks x1.X).ID)),(mQ ds ((aV ks x1.X).ID))]:V (V Int))).flatten).length) BM)::l0/\Hp b S wJ (aR dN 3 BL BM ((([((aV ks x1.X).aD),(jB l ((aV ks x1.X).ID)),(mQ ds ((aV ks x1.X).ID))]:V (V Int))).flatten)::rk)) (λhns H4=>?_) ?_
   ·refine mK 0 1 qF 3 kr s5 Y H4<|xS 2 s8 Y H4<|mK 3 4 qF 0 pG s5 Y H4<|xS 6 s8 Y H4<|JG 7 g 0 sI Y H4<|mK 9 10 g 2 Eu s2 Y H4<|mK 11 12 qF 0 pG s5 Y H4<|O1 5 Y<|gu Y (U3 ((H4.mV 0 2).sel s2) aj ((aV ks x1.X).ID)) ?_
    rintro _ w37 ⟨Ac2,cc2,rfl,V8⟩;have k26:=(((V8.rm U).sel U).mV 1 2);refine aO k26<|O1 13 Y<|gu Y (ag1 _ (V8.o s10) ((aV ks x1.X).ID) aj) ?_
    rintro _ w38 ⟨Wh,Wi,rfl,h38⟩;have K38:=V8.f1 h38;have aN6:=(K38.o U).bI;have k27:=(((K38.cU 0 2).sel U).mV 1 2);refine aO k27<|O1 14 Y ?_
    have H5:=K38.fz s1;have H6:=H5.fz s1;refine bsn (τ:=(Ty.list dN)) (xs:=([((aV ks x1.X).aD),(jB l ((aV ks x1.X).ID)),(mQ ds ((aV ks x1.X).ID))]:V (V Int))) (vs:=[(0,.slice jG (((aV ks x1.X).aD).length) jr),(1,.slice Ac2 ((jB l ((aV ks x1.X).ID)).length) cc2),(2,.slice Wh ((mQ ds ((aV ks x1.X).ID)).length) Wi)]) (css:=[[.slice jG (((aV ks x1.X).aD).length) jr],[.slice Ac2 ((jB l ((aV ks x1.X).ID)).length) cc2],[.slice Wh ((mQ ds ((aV ks x1.X).ID)).length) Wi]]) Y (by intro _; apply ad9) rfl rfl H6 (λ_ e=>⟨⟨_,_,rfl,(H6.s s8).ext e⟩,⟨_,_,rfl,(H6.s s1).ext e⟩,⟨_,_,rfl,(H6.s U).ext e⟩,trivial⟩) λg11 w39 K39=>?_;have k28:=(((K39.cU 0 3).sel U).mV 1 2);refine aO k28<|O1 15 Y<|gu Y (ad5 _ (K39.o U) (by simp only [VH,List.flatten_nil,Aj,jH]; omega)) ?_
    rintro _ w40 ⟨as6,as7,rfl,h40⟩;have K40:=K39.f1 h40;have k29:=(((K40.cU 0 4).sel U).mV 1 2);refine aO k29<|xC 16 Y Y k29<|Dn ⟨as6,as7,Y,(((K40.cU 1 3).sel s1).mV 1 3)⟩ Y
   rintro _ w41 ⟨BL,BM,rfl,K41⟩;refine He K41 (λ_ K=>K) (λl0 rk lJ wJ=>lJ=(12,O (yY (vB ns D (iQ ks ns l) ((([((aV ks x1.X).aD),(jB l ((aV ks x1.X).ID)),(mQ ds ((aV ks x1.X).ID))]:V (V Int))).flatten) ns)))::(13,.bool ((vB ns D (iQ ks ns l) ((([((aV ks x1.X).aD),(jB l ((aV ks x1.X).ID)),(mQ ds ((aV ks x1.X).ID))]:V (V Int))).flatten) ns).isSome))::l0/\Hp b S wJ rk) (λhns H7=>?_) ?_
   ·refine xS 0 s9 Y H7<|JG 1 g 3 FD Y H7<|mK 3 4 g 3 lQ s3 Y H7<|xS 5 s9 Y H7<|JG 6 g 13 IW Y H7<|xS 8 s3 Y H7<|xS 9 s9 Y H7<|lF 11 Y Y H7<|O1 10 Y<|gu Y (ab7 ((((((H7.mV 4 7).sel s9).sel s8).mV 11 2).sel s11).sel s12) aj aj aj) ?_
    rintro _ w42 ⟨Ad1,cd1,rfl,K42⟩;have k30:=(((((((K42.rm U).mV 2 2).mV 6 7).sel s9).sel s12).sel s11).sel s12);refine aO k30<|O1 12 Y<|mX K42 Y (abX _ (K42.s s3).any (K42.s s14).any (K42.o U) (K42.o s5) aj (λx hx=>((U2 _ _ _).1 x hx).1)) λw43 K43=>?_
    have k31:=(((((((K43.rm U).mV 2 2).mV 6 7).sel s9).sel s12).sel s11).sel s12);refine aO k31<|lF 13 Y Y k31<|kI 14 Y (λ_ _=>yE (vs:=[O (yY (vB ns D (iQ ks ns l) ((([((aV ks x1.X).aD),(jB l ((aV ks x1.X).ID)),(mQ ds ((aV ks x1.X).ID))]:V (V Int))).flatten) ns)),.bool ((vB ns D (iQ ks ns l) ((([((aV ks x1.X).aD),(jB l ((aV ks x1.X).ID)),(mQ ds ((aV ks x1.X).ID))]:V (V Int))).flatten) ns).isSome)]) Y Y) k31<|kI 15 Y (λ_ _=>yE (vs:=[O (yY (vB ns D (iQ ks ns l) ((([((aV ks x1.X).aD),(jB l ((aV ks x1.X).ID)),(mQ ds ((aV ks x1.X).ID))]:V (V Int))).flatten) ns)),.bool ((vB ns D (iQ ks ns l) ((([((aV ks x1.X).aD),(jB l ((aV ks x1.X).ID)),(mQ ds ((aV ks x1.X).ID))]:V (V Int))).flatten) ns).isSome)]) Y Y) k31<|xC 16 Y Y k31<|xC 17 Y Y k31<|Dn ⟨Y,(((((((K43.rm U).mV 2 2).mV 6 7).sel s9).sel s12).sel s11).sel s12)⟩ Y
   rintro _ w44 ⟨rfl,K44⟩;refine pW ak ak<|bf (dU akv Y (K44.x s9) Y) Y<|bf (nH Y) Y<|bf (fq (q:=⟨g,0,none⟩) sI Y Y) Y<|bf (fq (q:=⟨g,1,none⟩) yZ Y Y) Y<|bf (dU aAO Y (K44.x s3) Y) Y<|bf (dP Y) Y<|bf (dU akv Y (K44.x s9) Y) Y<|bf (nH Y) Y<|bf (fq (q:=⟨g,6,none⟩) Dy Y Y) Y<|bf (fq (q:=⟨g,7,none⟩) adQ Y Y) Y<|bf (dU jF Y (K44.x s3) Y) Y<|LZ (v:=.tuple #[O (Cc l (((aV dH x1.X).aD).filter λx9=>!(vC D x9)) dG),.bool (Fz l (((aV dH x1.X).aD).filter λx9=>!(vC D x9)) dG)]) Y Y Y aDo (λwq eq=>(aoF wq ((K44.o s1).ext eq) ((K44.o s4).ext eq) dG aj aj aj).mono (by rintro _ _ ⟨rfl,gH⟩; exact⟨rfl,gH.ext⟩)) rfl<|bf (dP rfl) rfl<|bf (yE (vs:=[O (Cc l (((aV dH x1.X).aD).filter λx9=>!(vC D x9)) dG),.bool (Fz l (((aV dH x1.X).aD).filter λx9=>!(vC D x9)) dG)]) rfl rfl) rfl<|bf (yE (vs:=[O (Cc l (((aV dH x1.X).aD).filter λx9=>!(vC D x9)) dG),.bool (Fz l (((aV dH x1.X).aD).filter λx9=>!(vC D x9)) dG)]) rfl rfl) rfl<|bf (tF rfl) rfl<|bf (tF rfl) rfl<|pX λw45 e45=>?_
   have K45:=K44.grow e45;refine pC 4 Y ?_
   cases ahe:(!((vB ns D (iQ ks ns l) ((([((aV ks x1.X).aD),(jB l ((aV ks x1.X).ID)),(mQ ds ((aV ks x1.X).ID))]:V (V Int))).flatten) ns).isSome)) with
   | true=>
    refine pA 12 Y<|bS Y (λ_h=>?_) nofun
    refine tu (LY Y (mG (LY Y (tZ (fV ?_)))));have hnx:(qH (iE ds ns ks D dH dG all bQ Z dY) (needs.take (k+1)) (ls,os))=(l,o):=by rw [Oo bT,<- hrep]; exact Om (x:=(iE ds ns ks D dH dG all bQ Z dY)) (by first | (rintro⟨hg1,hg⟩; exact absurd hg1 as5) | (rintro⟨_,hg⟩; first | (rw [show xu (iE ds ns ks D dH dG all bQ Z dY) (aV ks x1.X) (aV dH x1.X) l=false from ad6 ahe] at hg; cases hg) | (rw [show xu (iE ds ns ks D dH dG all bQ Z dY) (aV ks x1.X) (aV dH x1.X) l=false from ad7 ahf] at hg; cases hg) | (rw [show xu (iE ds ns ks D dH dG all bQ Z dY) (aV ks x1.X) (aV dH x1.X) l=false from ad8 (Lr GL)] at hg; cases hg))) f
    refine jN<|ev (eG Y Y)<|mv Y<|jO ?_
    have kN:(l:V bq)=(qH (iE ds ns ks D dH dG all bQ Z dY) (needs.take (k+1)) (ls,os)).1:=by first | (rw [hnx]; done) | (rw [hnx]; exact(Ni (Lr GL)).1)
    rw [kN] at K45;have nM:(o:V aL)=(qH (iE ds ns ks D dH dG all bQ Z dY) (needs.take (k+1)) (ls,os)).2:=by first | (rw [hnx]; done) | (rw [hnx]; exact(Ni (Lr GL)).2 _)
    rw [nM] at K45;exact dX ⟨(k+1),A1,c1,Xm,c15,Y,Y,aj,by rw [hnx]; exact hlo2,((K45.cU 4 5).rm U)⟩ rfl aj
   | false=>
    refine pq 4 Y ?_
    cases ahf:(!(Fz l (((aV dH x1.X).aD).filter λx9=>!(vC D x9)) dG)) with
    | true=>
     refine pA 8 Y<|bS Y (λ_h=>?_) nofun
     refine tu (LY Y (mG (LY Y (tZ (fV ?_)))));have hnx:(qH (iE ds ns ks D dH dG all bQ Z dY) (needs.take (k+1)) (ls,os))=(l,o):=by rw [Oo bT,<- hrep]; exact Om (x:=(iE ds ns ks D dH dG all bQ Z dY)) (by first | (rintro⟨hg1,hg⟩; exact absurd hg1 as5) | (rintro⟨_,hg⟩; first | (rw [show xu (iE ds ns ks D dH dG all bQ Z dY) (aV ks x1.X) (aV dH x1.X) l=false from ad6 ahe] at hg; cases hg) | (rw [show xu (iE ds ns ks D dH dG all bQ Z dY) (aV ks x1.X) (aV dH x1.X) l=false from ad7 ahf] at hg; cases hg) | (rw [show xu (iE ds ns ks D dH dG all bQ Z dY) (aV ks x1.X) (aV dH x1.X) l=false from ad8 (Lr GL)] at hg; cases hg))) f
     refine jN<|ev (eG Y Y)<|mv Y<|jO ?_
     have uO:(l:V bq)=(qH (iE ds ns ks D dH dG all bQ Z dY) (needs.take (k+1)) (ls,os)).1:=by first | (rw [hnx]; done) | (rw [hnx]; exact(Ni (Lr GL)).1)
     rw [uO] at K45;have zC:(o:V aL)=(qH (iE ds ns ks D dH dG all bQ Z dY) (needs.take (k+1)) (ls,os)).2:=by first | (rw [hnx]; done) | (rw [hnx]; exact(Ni (Lr GL)).2 _)
     rw [zC] at K45;exact dX ⟨(k+1),A1,c1,Xm,c15,Y,Y,aj,by rw [hnx]; exact hlo2,((K45.cU 4 5).rm U)⟩ rfl aj
    | false=>
     refine gby K45 s9 Y<|uf Y (fA p8 Y Y (K45.x s6)) Y<|pq 2 Y<|om Y Y Y Y aDe (Zq (((K45.sel U).mV 1 2).sel s3) (aV ks x1.X) (Cc l (((aV dH x1.X).aD).filter λx9=>!(vC D x9)) dG) (yY (vB ns D (iQ ks ns l) ((([((aV ks x1.X).aD),(jB l ((aV ks x1.X).ID)),(mQ ds ((aV ks x1.X).ID))]:V (V Int))).flatten) ns)) aj aj aj) Y ?_
     rintro _ w46 ⟨rfl,Ae1,ce1,Af1,cf1,K46⟩;refine pA 3 Y<|bS Y (λGL=>?_) (λGL=>?_)
     ·refine tu (LY Y (mG (LY Y (tZ (fV ?_)))));have hnx:(qH (iE ds ns ks D dH dG all bQ Z dY) (needs.take (k+1)) (ls,os))=(l,o):=by rw [Oo bT,<- hrep]; exact Om (x:=(iE ds ns ks D dH dG all bQ Z dY)) (by first | (rintro⟨hg1,hg⟩; exact absurd hg1 as5) | (rintro⟨_,hg⟩; first | (rw [show xu (iE ds ns ks D dH dG all bQ Z dY) (aV ks x1.X) (aV dH x1.X) l=false from ad6 ahe] at hg; cases hg) | (rw [show xu (iE ds ns ks D dH dG all bQ Z dY) (aV ks x1.X) (aV dH x1.X) l=false from ad7 ahf] at hg; cases hg) | (rw [show xu (iE ds ns ks D dH dG all bQ Z dY) (aV ks x1.X) (aV dH x1.X) l=false from ad8 (Lr GL)] at hg; cases hg))) f
      refine jN<|ev (eG Y Y)<|mv Y<|jO ?_
      have BO:((yL l dG all (aV ks x1.X) (Cc l (((aV dH x1.X).aD).filter λx9=>!(vC D x9)) dG) (yY (vB ns D (iQ ks ns l) ((([((aV ks x1.X).aD),(jB l ((aV ks x1.X).ID)),(mQ ds ((aV ks x1.X).ID))]:V (V Int))).flatten) ns)) (Z+dY)):V bq)=(qH (iE ds ns ks D dH dG all bQ Z dY) (needs.take (k+1)) (ls,os)).1:=by first | (rw [hnx]; done) | (rw [hnx]; exact(Ni (Lr GL)).1)
      rw [BO] at K46;have hq8:((xV l o dG all (aV ks x1.X) (Cc l (((aV dH x1.X).aD).filter λx9=>!(vC D x9)) dG) (yY (vB ns D (iQ ks ns l) ((([((aV ks x1.X).aD),(jB l ((aV ks x1.X).ID)),(mQ ds ((aV ks x1.X).ID))]:V (V Int))).flatten) ns)) (Z+dY)):V aL)=(qH (iE ds ns ks D dH dG all bQ Z dY) (needs.take (k+1)) (ls,os)).2:=by first | (rw [hnx]; done) | (rw [hnx]; exact(Ni (Lr GL)).2 _)
      rw [hq8] at K46;exact dX ⟨(k+1),Ae1,ce1,Af1,cf1,Y,Y,aj,by rw [hnx]; exact hlo2,(((K46.cU 3 6).sel U).mV 1 2)⟩ rfl aj
     have ayo:=aHF GL;have hgo:xu (iE ds ns ks D dH dG all bQ Z dY) (aV ks x1.X) (aV dH x1.X) l=true:=aDm ahe ahf ayo;have aN8:x1.Have+((jB l (aV ks x1.X).ID).length:Int)<bQ:=aj;refine yC (iF ?_);exact dX ⟨Ae1,ce1,Af1,cf1,(yL l dG all (aV ks x1.X) (Cc l (((aV dH x1.X).aD).filter λx9=>!(vC D x9)) dG) (yY (vB ns D (iQ ks ns l) ((([((aV ks x1.X).aD),(jB l ((aV ks x1.X).ID)),(mQ ds ((aV ks x1.X).ID))]:V (V Int))).flatten) ns)) (Z+dY)),(xV l o dG all (aV ks x1.X) (Cc l (((aV dH x1.X).aD).filter λx9=>!(vC D x9)) dG) (yY (vB ns D (iQ ks ns l) ((([((aV ks x1.X).aD),(jB l ((aV ks x1.X).ID)),(mQ ds ((aV ks x1.X).ID))]:V (V Int))).flatten) ns)) (Z+dY)),(f - 1),Y,Y,by have hcb:=Nh ayo; have hca:=ahb ayo; rw [hcb.2.1,hcb.2.2]; omega,by exact(amj (x:=(iE ds ns ks D dH dG all bQ Z dY)) aj aN8 hgo).trans hrep,by have hcb:=Nh ayo; rw [hcb.1]; omega,(((K46.rm s3).sel U).mV 1 2)⟩ rfl aj
  refine tu (mG (mG (tZ (iF (fV ?_)))));have hnx:(qH (iE ds ns ks D dH dG all bQ Z dY) (needs.take (k+1)) (ls,os))=(l,o):=by rw [Oo bT,<- hrep]; exact Om (x:=(iE ds ns ks D dH dG all bQ Z dY)) (by first | (rintro⟨hg1,hg⟩; exact absurd hg1 as5) | (rintro⟨_,hg⟩; first | (rw [show xu (iE ds ns ks D dH dG all bQ Z dY) (aV ks x1.X) (aV dH x1.X) l=false from ad6 ahe] at hg; cases hg) | (rw [show xu (iE ds ns ks D dH dG all bQ Z dY) (aV ks x1.X) (aV dH x1.X) l=false from ad7 ahf] at hg; cases hg) | (rw [show xu (iE ds ns ks D dH dG all bQ Z dY) (aV ks x1.X) (aV dH x1.X) l=false from ad8 (Lr GL)] at hg; cases hg))) f
  refine jN<|ev (eG Y Y)<|mv Y<|jO ?_
  have Aa:(l:V bq)=(qH (iE ds ns ks D dH dG all bQ Z dY) (needs.take (k+1)) (ls,os)).1:=by first | (rw [hnx]; done) | (rw [hnx]; exact(Ni (Lr GL)).1)
  rw [Aa] at K36;have vL:(o:V aL)=(qH (iE ds ns ks D dH dG all bQ Z dY) (needs.take (k+1)) (ls,os)).2:=by first | (rw [hnx]; done) | (rw [hnx]; exact(Ni (Lr GL)).2 _)
  rw [vL] at K36;exact dX ⟨(k+1),A1,c1,Xm,c15,Y,Y,aj,by rw [hnx]; exact hlo2,(K36.cU 3 5)⟩ rfl aj
 refine tu (mG (mG (tZ (l7.axv (o7 (uo Y ?_))))));have hfk:needs.take k=needs:=gY aj;rw [hfk] at K2;have H8:=(K2.rm s3);exact⟨Y,_,_,_,_,((((H8.sel s1).sel s3).sel s2).sel s3)⟩
def vV(s:fQ)(r:ARules)(Z:Int):List Int:=(Lj (eT s Z).bZ Z r.lD).map eP.Node
def FE(m:bY)(s:fQ)(Z:Int):List aH:=zV m.J (eT s Z).bn
def TY(m:bY)(s:fQ)(r:ARules)(Z:Int):List dW:=Ib (FE m s Z) m.aM (vV s r Z) r.je
abbrev Eb(m:bY)(s:fQ)(r:ARules)(Z:Int):Ic:=⟨(eT s Z).bn,m.aM,m.J,vV s r Z,FE m s Z,r.l9,r.All,r.je,Z+r.gV⟩
def uH(m:bY)(s:fQ)(r:ARules)(Z:Int):List bq × List aL:=qH (Eb m s r Z) (TY m s r Z) ((eT s Z).bG,[])
def uY(m:bY)(s:fQ)(r:ARules)(Z:Int):List aL:=xI (uH m s r Z).1 m.J m.aM (vV s r Z) r.je (Z+r.gV) (FE m s Z)
def rdQ(m:bY)(s:fQ)(r:ARules)(Z:Int):Bool:=(decide (((TY m s r Z).length:Int)=0)&&decide (((uH m s r Z).1.length:Int)=0))&&decide ((((eT s Z).bn++uY m s r Z).length:Int)=0)
def rdL(m:bY)(s:fQ)(r:ARules)(Z:Int):List bq:=if rdQ m s r Z=true then RV (uH m s r Z).1 m.J (FE m s Z) m.aM (vV s r Z) r.eF r.l9 r.All (Z+r.gV) else(uH m s r Z).1
def rdO(m:bY)(s:fQ)(r:ARules)(Z:Int):List aL:=if rdQ m s r Z=true then RX (uH m s r Z).1 ((uH m s r Z).2++uY m s r Z) m.J (FE m s Z) m.aM (vV s r Z) r.eF r.l9 r.All (Z+r.gV) else(uH m s r Z).2++uY m s r Z
def rdB(m:bY)(r:ARules):Bool:=l5 r&&ku m.J
def iM(m:bY)(s:fQ)(r:ARules)(Z:Int):fQ:=if rdB m r=true then⟨(eT s Z).bZ,rdL m s r Z,(eT s Z).bn++uY m s r Z⟩ else s
def pF(m:bY)(s:fQ)(r:ARules)(Z:Int):List aL:=if rdB m r=true then rdO m s r Z else[]
def mM(m:bY)(s:fQ)(r:ARules)(Z:Int):List eU:=if rdB m r=true then(uY m s r Z).map wG else[]
def aeg(h:oF c=true):c.aD.length<=16:=by
 rcases JI _ _ (rU h).2.2 with h1 | h1
 ·rw [h1]; simp
 ·omega
def ahg(ds:V aL)(c:aH):(oo ds c).aD.length<=c.aD.length:=mW _ _
def ahh{x:Ic}{c d:aH}{h:Int}(ha:x.all<=64):∀(f:Nat)(l:V bq)(o:V aL),l.length<=64->(LK x c d h f (l,o)).1.length<=64/\(LK x c d h f (l,o)).2.length+l.length=o.length+(LK x c d h f (l,o)).1.length
 | 0,l,o,hl=>⟨hl,by show o.length+l.length=o.length+l.length; rfl⟩
 | f+1,l,o,hl=>by
  unfold LK
  split
  ·rename_i hc
   have hg:Ea l x.dG x.all c (uX x d l) (yY (tJ x c l)) x.u=true:=by
    have:=hc.2; unfold xu at this; simp only [bK] at this; exact this.2
   have h1:=Nh hg;have h2:=ahb hg;have ih:=ahh (c:=c) (d:=d) (h:=h) ha f (yL l x.dG x.all c (uX x d l) (yY (tJ x c l)) x.u) (xV l o x.dG x.all c (uX x d l) (yY (tJ x c l)) x.u) (by rw [h1.2.1]; omega);rw [h1.2.1,h1.2.2] at ih;have key:∀ r:V bq × V aL,r.2.length+(l.length+1)=o.length+1+r.1.length->r.2.length+l.length=o.length+r.1.length:=by intro r h; omega
   exact⟨ih.1,key _ ih.2⟩
  ·exact⟨hl,rfl⟩
def R6{x:Ic}(ha:x.all<=64):∀(aYc:V dW)(s:V bq × V aL),s.1.length<=64->(qH x aYc s).1.length<=64/\(qH x aYc s).2.length+s.1.length=s.2.length+(qH x aYc s).1.length
 | [],s,hs=>⟨hs,rfl⟩
 | n::aYc,s,hs=>by
  have h1:=ahh (c:=aV x.ks n.X) (d:=aV x.dH n.X) (h:=n.Have) ha 100 s.1 s.2 hs;have h2:=R6 ha aYc (J8 x s n) h1.1;refine⟨h2.1,?_⟩;have h3:(J8 x s n).2.length+s.1.length=s.2.length+(J8 x s n).1.length:=h1.2;have h4:=h2.2;show(qH x aYc (J8 x s n)).2.length+s.1.length=s.2.length+(qH x aYc (J8 x s n)).1.length;omega
theorem EO(s:fQ)(Z:Int):(eT s Z).bG.length<=s.bG.length/\(eT s Z).bn.length<=s.bn.length:=⟨mW _ _,mW _ _⟩
def aDs{m:bY}(hm:ku m.J=true)(s:fQ)(r:ARules)(Z:Int):∀ x∈TY m s r Z,0<=x.Have/\x.Have<=1000:=by
 intro x hx;obtain⟨c,hc,_,rfl⟩:=Qf.1 hx;obtain⟨c0,h0,rfl⟩:=eX.1 hc;have h1:=aeg ((kK.1 hm).1 c0 h0);have h2:=ahg (eT s Z).bn c0;have h3:(iW (oo (eT s Z).bn c0) m.aM (vV s r Z)).length<=(oo (eT s Z).bn c0).aD.length:=lG (mW _ _) (mW _ _)
 simp only [Nb]; omega
def aeh(hm:ku l=true)(k:Nat)(hk:16<=k):∀ x∈l,x.aD.length<=k:=λx hx=>by have:=aeg ((kK.1 hm).1 x hx); omega
def Xp(hm:ku l=true)(ds:V aL)(k:Nat)(hk:16<=k):∀ x∈zV l ds,x.aD.length<=k:=λx hx=>by
 obtain⟨c,hc,rfl⟩:=eX.1 hx;have:=aeg ((kK.1 hm).1 c hc); have:=ahg ds c; omega
theorem CU(l:V aH)(ds:V aL):(zV l ds).length=l.length:=jW ..
def og{r:ARules}(h:l5 r=true):(1<=r.lD/\r.lD<=1048576)/\(1<=r.gV/\r.gV<=1048576)/\(1<=r.l9/\r.l9<=64)/\(1<=r.All/\r.All<=64)/\(1<=r.je/\r.je<=8)/\1<=r.eF/\r.eF<=16:=by
 simp only [l5,sW,bK,bN] at h; omega
def aHI:Size prog 23 6:=ay
def Ls:WC prog 23 6:=⟨λ_=>by kernel_rfl,aHI⟩
def Nj(a0:ah)(a0n a0c:Nat)(a1:ah)(a1n a1c:Nat)(a2:ah)(a2n a2c:Nat):prog.built 64 [(0,.slice a0 a0n a0c),(1,.slice a1 a1n a1c),(2,.slice a2 a2n a2c)]=some #[.slice a0 a0n a0c,.slice a1 a1n a1c,.slice a2 a2n a2c]:=ak
def as8:Size prog 37 3:=ay
def xW:WC prog 37 3:=⟨λ_=>by kernel_rfl,as8⟩
def Qk(RJ:ah)(V5 V6:Nat)(Zv:ah)(ahi ahj:Nat)(ahk:ah)(ahl ahm:Nat)(ahn:ah)(aA5 aA6:Nat)(aho:ah)(aA7 aA8:Nat)(as9:ah)(aA9 aBa:Nat)(ata:Int)(atb:Int)(atc:Int)(aHJ:Int)(aHK:Int)(aHL:Int)(a3:Int):prog.built 169 [(0,.agg #[.slice RJ V5 V6,.slice Zv ahi ahj,.slice ahk ahl ahm]),(1,.agg #[.slice ahn aA5 aA6,.slice aho aA7 aA8,.slice as9 aA9 aBa]),(2,.agg #[O ata,O atb,O atc,O aHJ,O aHK,O aHL]),(3,O a3)]=some #[.slice RJ V5 V6,.slice Zv ahi ahj,.slice ahk ahl ahm,.slice ahn aA5 aA6,.slice aho aA7 aA8,.slice as9 aA9 aBa,O ata,O atb,O atc,O aHJ,O aHK,O aHL,O a3,.slice none 0 0,.slice none 0 0,.slice none 0 0,.slice none 0 0]:=ak
set_option maxHeartbeats 2000000 in
def R7(w:World)(m:bY){xw:ah}{wO:Nat}(CV:Sl bW S0 w xw wO m.aM){wm:ah}{vO:Nat}(IY:Sl bD S0 w wm vO m.J){uS:ah}{uI:Nat}(Ql:Sl cB S0 w uS uI m.aU)(s:fQ){adT:ah}{adU:Nat}(ax7:Sl iG S0 w adT adU s.bZ){adV:ah}{adW:Nat}(ax8:Sl dB S0 w adV adW s.bG){adX:ah}{adY:Nat}(ax9:Sl bA S0 w adX adY s.bn)(r:ARules)(Z:Int)(hb:s.bZ.length<=1000)(hl:s.bG.length<=64)(hd:s.bn.length<=50000)(hn:m.aM.length<=1000)(hc:m.J.length<=1000)(hu:0<=Z/\Z<=1099511627776):bM prog 43 #[.agg #[.slice xw m.aM.length wO,.slice wm m.J.length vO,.slice uS m.aU.length uI],.agg #[.slice adT s.bZ.length adU,.slice adV s.bG.length adW,.slice adX s.bn.length adY],.agg #[O r.lD,O r.l9,O r.All,O r.je,O r.gV,O r.eF],O Z] w λv w'=>∃ wM wN Ab Ad Ae Af A1 c1 A2 c2,v=.tuple #[.agg #[.slice wM (((iM m s r Z).bZ).length) wN,.slice Ab (((iM m s r Z).bG).length) Ad,.slice Ae (((iM m s r Z).bn).length) Af],.slice A1 ((pF m s r Z).length) c1,.slice A2 ((mM m s r Z).length) c2]/\Hp w S0 w' [aR iG 162 wM wN ((iM m s r Z).bZ),aR dB 165 Ab Ad ((iM m s r Z).bG),aR bA 121 Ae Af ((iM m s r Z).bn),aR bA 121 A1 c1 (pF m s r Z),aR BP 118 A2 c2 (mM m s r Z)]:=by
 refine lg S0 func43 ntmps43 Y λH0=>rg<|bx Y Y H0 λg1 w1 K1=>bx Y Y K1 λg2 w2 K2=>bx Y Y K2 λg3 w3 K3=>al Et Y K3 λg4 w4 K4=>pA 3 Y<|aZ<|rg<|ev (fA Ls Y Y (K4.x s1))<|mX K4 Y (adS (S0:=Any) _ r) λw5 K5=>pq 2 Y<|qg 5 21 ((!(l5 r))||(!(ku m.J))) ?_ ?_
 ·cases YQ:(!(l5 r)) with
  | true=>
   refine pq 5 Y<|jI Y (oW _)
  | false=>
   refine wW g1 1 jC K5 s3 Y<|om Y Y Y Y aAB (Oa _ (K5.a IY).any aj) Y ?_
   rintro _ w6 ⟨rfl,h6⟩;refine pq 2 Y<|jI Y h6.ext
 intro w7 e7;have K7:=K5.grow e7;refine dn<|bS Y (λhc21=>?_) (λhc21=>?_)
 ·have hrb:rdB m r=false:=by unfold rdB; revert hc21; cases l5 r <;> cases ku m.J <;> simp
  refine He K7 (λ_ K=>(K.rm U)) (λl0 rk lJ wJ=>∃ jG jr oV cj2 wH vG,lJ=l0/\Hp w S0 wJ (dJ g4 64 [.slice wH s.bZ.length vG,.slice oV s.bG.length cj2,.slice jG s.bn.length jr]::aR bA 121 jG jr s.bn::aR dB 165 oV cj2 s.bG::aR iG 162 wH vG s.bZ::rk)) (λhns H1=>?_) ?_
  ·have k1:=(H1.rm U);refine mK 0 1 g2 0 GJ s1 Y k1<|mK 3 4 g2 1 yZ s1 Y k1<|mK 6 7 g2 2 Eu s1 Y k1<|O1 2 Y<|gu Y (Es _ (H1.a ax7).any aj) ?_
   rintro _ w8 ⟨JQ,JR,rfl,h8⟩;have K8:=H1.f1 h8;have k2:=(K8.cU 0 2);refine aO k2<|O1 5 Y<|gu Y (Da _ (K8.a ax8).any aj) ?_
   rintro _ w9 ⟨ayp,ayq,rfl,h9⟩;have K9:=K8.f1 h9;have k3:=(K9.cU 0 3);refine aO k3<|O1 8 Y<|gu Y (Db _ (K9.a ax9).any aj) ?_
   rintro _ PE ⟨RL,RO,rfl,h10⟩;have K10:=K9.f1 h10;have k4:=(K10.cU 0 4);refine aO k4<|kI 9 Y (λ_ _=>iT (vs:=[(0,.slice JQ s.bZ.length JR),(1,.slice ayp s.bG.length ayq),(2,.slice RL s.bn.length RO)]) (cs:=[.slice JQ s.bZ.length JR,.slice ayp s.bG.length ayq,.slice RL s.bn.length RO]) Y (by apply Nj)) k4<|O1 10 rfl<|sty rfl K10 s3 rfl λVY vF=>?_
   have k5:=(vF.cU 0 4);refine aO k5<|xC 11 Y Y k5<|xC 12 Y Y k5<|Dn ⟨RL,RO,ayp,ayq,JQ,JR,Y,vF⟩ Y
  rintro _ Uy ⟨jG,jr,oV,cj2,wH,vG,rfl,uR⟩;refine jE (gG (qL Y ⟨_,_,Y,⟨_,Y,jo Lm Y (uR.x U)⟩,⟨_,_,Y,Y,⟨_,_,Y,Y,Y⟩⟩⟩ ?_));have gy:((⟨s.bZ,s.bG,s.bn⟩:fQ):fQ)=(iM m s r Z):=by unfold iM; rw [aQ (by rw [hrb]; decide)]
  have gH:(s.bZ:V eP)=((iM m s r Z).bZ):=by rw [<- gy]
  have kN:(s.bG:V bq)=((iM m s r Z).bG):=by rw [<- gy]
  have nM:(s.bn:V aL)=((iM m s r Z).bn):=by rw [<- gy]
  have H2:=uR.nil bA 121;have uO:(([]:V aL):V aL)=(pF m s r Z):=by unfold pF; rw [aQ (by rw [hrb]; decide)]
  have H3:=(uO▸H2:Hp w S0 Uy (aR bA 121 none 0 (pF m s r Z)::[dJ g4 64 [.slice wH s.bZ.length vG,.slice oV s.bG.length cj2,.slice jG s.bn.length jr],aR bA 121 jG jr s.bn,aR dB 165 oV cj2 s.bG,aR iG 162 wH vG s.bZ,dJ g3 23 [O r.lD,O r.l9,O r.All,O r.je,O r.gV,O r.eF],dJ g2 64 [.slice adT s.bZ.length adU,.slice adV s.bG.length adW,.slice adX s.bn.length adY],dJ g1 37 [.slice xw m.aM.length wO,.slice wm m.J.length vO,.slice uS m.aU.length uI]]));have H4:=H3.nil BP 118;have zC:(([]:V eU):V eU)=(mM m s r Z):=by unfold mM; rw [aQ (by rw [hrb]; decide)]
  have H5:=(zC▸H4:Hp w S0 Uy (aR BP 118 none 0 (mM m s r Z)::[aR bA 121 none 0 (pF m s r Z),dJ g4 64 [.slice wH s.bZ.length vG,.slice oV s.bG.length cj2,.slice jG s.bn.length jr],aR bA 121 jG jr s.bn,aR dB 165 oV cj2 s.bG,aR iG 162 wH vG s.bZ,dJ g3 23 [O r.lD,O r.l9,O r.All,O r.je,O r.gV,O r.eF],dJ g2 64 [.slice adT s.bZ.length adU,.slice adV s.bG.length adW,.slice adX s.bn.length adY],dJ g1 37 [.slice xw m.aM.length wO,.slice wm m.J.length vO,.slice uS m.aU.length uI]]));exact⟨wH,vG,oV,cj2,jG,jr,none,0,none,0,by first | (rw [gH,kN,nM,<- uO,<- zC] <;> rfl) | (rw [gH,kN,nM,<- uO,<- zC] <;> rfl),by rw [<- gH,<- kN,<- nM]; exact(((((((H5.cU 6 3).rm s2).sel U).sel s1).sel s2).sel s3).sel s4)⟩
 have hrb:l5 r=true/\ku m.J=true:=by revert hc21; cases l5 r <;> cases ku m.J <;> simp
 refine jQ ?_;refine He K7 (λ_ K=>K) (λl0 rk lJ wJ=>∃ qF BL BM Aj5 cj5 Aj6 cj6,lJ=(11,fK qF)::l0/\Hp w S0 wJ (dJ qF 169 [.slice BL (((eT s Z).bZ).length) BM,.slice Aj5 (((eT s Z).bG).length) cj5,.slice Aj6 (((eT s Z).bn).length) cj6,.slice xw m.aM.length wO,.slice wm m.J.length vO,.slice uS m.aU.length uI,O r.lD,O r.l9,O r.All,O r.je,O r.gV,O r.eF,O Z,.slice none 0 0,.slice none 0 0,.slice none 0 0,.slice none 0 0]::aR iG 162 BL BM ((eT s Z).bZ)::aR dB 165 Aj5 cj5 ((eT s Z).bG)::aR bA 121 Aj6 cj6 ((eT s Z).bn)::rk)) (λhns H6=>?_) ?_
 ·refine kI 0 Y (λ_ hK=>fA Lm Y Y (hK.x s2)) H6<|lF 1 Y Y H6<|kI 3 Y (λ_ hK=>fA xW Y Y (hK.x s3)) H6<|kI 4 Y (λ_ hK=>fA Ls Y Y (hK.x s1)) H6<|lF 5 Y Y H6<|O1 2 Y<|gu Y (ag2 _ s (H6.a ax7).any (H6.a ax8).any (H6.a ax9).any Z aj aj aj) ?_
  rintro _ YX ⟨tV,tX,y8,za,ze,zf,rfl,h13⟩;have xk:=H6.f3 h13;have k6:=(xk.cU 0 3);refine aO k6<|kI 6 Y (λ_ _=>iT Y (by apply Qk)) k6<|O1 7 rfl<|bx rfl rfl xk λg5 w14 wF=>?_
  have k7:=(wF.cU 0 4);refine aO k7<|xC 8 Y Y k7<|Dn ⟨g5,tV,tX,y8,za,ze,zf,Y,wF⟩ Y
 rintro _ w15 ⟨qF,BL,BM,Aj5,cj5,Aj6,cj6,rfl,zI⟩;refine He zI (λ_ K=>(K.rm U)) (λl0 rk lJ wJ=>∃ Aj7 cj7,lJ=l0/\Hp w S0 wJ (dJ qF 169 [.slice BL (((eT s Z).bZ).length) BM,.slice Aj5 (((eT s Z).bG).length) cj5,.slice Aj6 (((eT s Z).bn).length) cj6,.slice xw m.aM.length wO,.slice wm m.J.length vO,.slice uS m.aU.length uI,O r.lD,O r.l9,O r.All,O r.je,O r.gV,O r.eF,O Z,.slice Aj7 ((vV s r Z).length) cj7,.slice none 0 0,.slice none 0 0,.slice none 0 0]::aR dN 3 Aj7 cj7 (vV s r Z)::rk)) (λhns H7=>?_) ?_
 ·have k8:=(H7.rm U);refine lF 0 Y Y k8<|qp 1 qF 0 sI Y k8<|Iy 4 qF 0 GJ Y k8<|lF 6 Y Y k8<|mK 7 8 g3 0 adP s4 Y k8<|O1 5 Y<|lY H7 U Y<|aO k8<|O1 9 Y<|gu Y (PI _ (H7.o s1) Z r.lD (lG hb au)) ?_
  rintro _ w16 ⟨Y3,Y4,rfl,h16⟩;have BZ:=H7.f1 h16;have aDp:=(BZ.o U).bI;have k9:=(BZ.cU 0 2);refine aO k9<|JG 10 qF 13 IW Y k9<|O1 12 Y<|xD Y BZ s1 Y λw17 zT=>?_
  have k10:=(zT.cU 0 2);refine aO k10<|Dn ⟨Y3,Y4,Y,zT⟩ Y
 rintro _ w18 ⟨Aj7,cj7,rfl,EL⟩;refine He EL (λ_ K=>(K.rm U)) (λl0 rk lJ wJ=>∃ Aj8 cj8,lJ=l0/\Hp w S0 wJ (dJ qF 169 [.slice BL (((eT s Z).bZ).length) BM,.slice Aj5 (((eT s Z).bG).length) cj5,.slice Aj6 (((eT s Z).bn).length) cj6,.slice xw m.aM.length wO,.slice wm m.J.length vO,.slice uS m.aU.length uI,O r.lD,O r.l9,O r.All,O r.je,O r.gV,O r.eF,O Z,.slice Aj7 ((vV s r Z).length) cj7,.slice Aj8 ((FE m s Z).length) cj8,.slice none 0 0,.slice none 0 0]::aR bD 48 Aj8 cj8 (FE m s Z)::rk)) (λhns H8=>?_) ?_
 ·have k11:=(H8.rm U);refine lF 0 Y Y k11<|mK 1 2 g1 1 jC s7 Y k11<|qp 3 qF 0 sI Y k11<|Iy 6 qF 2 Eu Y k11<|O1 7 Y<|lY H8 U Y<|aO k11<|O1 8 Y<|gu Y (asX _ (H8.a IY) (H8.o s4) aj (by have:=(EO s Z).2; omega) (aeh hrb.2 _ au)) ?_
  rintro _ w19 ⟨atd,ate,rfl,h19⟩;have Ai:=H8.c1 h19;have aN9:=(Ai.o U).bI;have k12:=(Ai.cU 0 2);refine aO k12<|JG 9 qF 14 Nc Y k12<|O1 11 Y<|xD Y Ai s1 Y λw20 Fg=>?_
  have k13:=(Fg.cU 0 2);refine aO k13<|Dn ⟨atd,ate,Y,Fg⟩ Y
 rintro _ w21 ⟨Aj8,cj8,rfl,IJ⟩;refine He IJ (λ_ K=>K) (λl0 rk lJ wJ=>∃ Aj9 cj9,lJ=(12,.slice Aj9 ((TY m s r Z).length) cj9)::l0/\Hp w S0 wJ (aR p9 251 Aj9 cj9 (TY m s r Z)::rk)) (λhns H9=>?_) ?_
 ·refine qp 0 qF 14 Nc Y H9<|xS 3 U Y H9<|mK 4 5 g1 0 lQ s9 Y H9<|qp 6 qF 13 IW Y H9<|xS 9 U Y H9<|mK 10 11 g3 3 GI s7 Y H9<|O1 12 Y<|gu Y (asL _ (H9.o s1) (H9.a CV).any (H9.o s2) r.je (by have:=CU m.J (eT s Z).bn; show(zV m.J (eT s Z).bn).length<=_; omega) (Xp hrb.2 _ _ au) aj) ?_
  rintro _ w22 ⟨agT,agU,rfl,h22⟩;have Hy:=H9.f1 h22;have aC4:=(Hy.o U).bI;have k14:=(Hy.rm U);refine aO k14<|xC 13 Y Y k14<|Dn ⟨agT,agU,Y,Hy⟩ Y
 rintro _ w23 ⟨Aj9,cj9,rfl,Le⟩;have H10:=Le.fz s3;have H11:=H10.fz s3;have H12:=H11.fz s2;have Wj:=H12.push (H12.a CV);have H14:=Wj.push (Wj.a IY);have H15:=H14.nil bA 121;have H16:=H15.nil BP 118;have hmay:l5 r=true/\ku m.J=true:=hrb;have hbd:=og hmay.1;have hpl:=EO s Z;have hsl:(FE m s Z).length=m.J.length:=CU _ _;have hnl:(TY m s r Z).length<=(FE m s Z).length:=akr _ _ _ _;have hrl:=R6 (x:=Eb m s r Z) hbd.2.2.2.1.2 (TY m s r Z) ((eT s Z).bG,[]) (lG hpl.1 hl);have aHM:(uH m s r Z).1.length<=64:=hrl.1;have hrl2:(uH m s r Z).2.length<=64:=by have h2:=hrl.2; have h3:(uH m s r Z).1.length<=64:=hrl.1; simp only [u6] at h2; show(qH (Eb m s r Z) (TY m s r Z) ((eT s Z).bG,[])).2.length<=64; have h4:(qH (Eb m s r Z) (TY m s r Z) ((eT s Z).bG,[])).1.length<=64:=hrl.1; omega
 have htl:(uY m s r Z).length<=(FE m s Z).length:=IX _ _ _ _ _ _ _;have hcl:=(kK.1 hmay.2).2.1;have hol:((uH m s r Z).2++uY m s r Z).length<=100000:=by rw [jH]; omega
 refine pC 3 Y<|gu Y (ayn (os:=[]) (AO:=none) (cO:=0) ((((((((H16.sel s8).sel s1).sel s5).sel s6).sel s7).sel s6).mV 6 2).mV 8 3) aj aj av aj aj aj (aeh hmay.2 _ au) (Xp hmay.2 _ _ au) aj (aDs hmay.2 s r Z) aj aj) ?_
 rintro _ w24 ⟨rfl,Ag1,cg1,Ag2,cg2,pz⟩;refine dn<|gD Y<|gu Y (ao1 (cs:=[]) ((pz.mV 4 5).mV 5 5) (lG aHM au) aj (lG hrl2 au) av aj aj aj (Xp hmay.2 _ _ au) aj) ?_
 rintro _ w25 ⟨rfl,Ag3,cg3,Ag4,cg4,Ag5,cg5,DU⟩;refine dn<|aZ<|pC 5 Y<|iJ 8 92 ((decide ((((TY m s r Z).length:Nat):Int)=0))&&(decide (((((uH m s r Z).1).length:Nat):Int)=0))) ?_ ?_
 ·cases aUw:decide ((((TY m s r Z).length:Nat):Int)=0) with
  | true=>
   refine pq 2 Y<|gfy qF 0 sI Y<|wW qF 1 yZ DU U Y<|pq 3 Y<|dK Y
  | false=>
   refine pq 8 Y<|dK Y
 refine mv Y<|iJ 8 101 (((decide ((((TY m s r Z).length:Nat):Int)=0))&&(decide (((((uH m s r Z).1).length:Nat):Int)=0)))&&(decide (((((eT s Z).bn++uY m s r Z).length:Nat):Int)=0))) ?_ ?_
 ·cases aOa:((decide ((((TY m s r Z).length:Nat):Int)=0))&&(decide (((((uH m s r Z).1).length:Nat):Int)=0))) with
  | true=>
   have aHP:=aOa
   try simp only [aA] at aHP
   refine pq 2 Y<|gfy qF 0 sI Y<|wW qF 2 Eu DU U Y<|pq 3 Y<|dK Y
  | false=>
   refine pq 8 Y<|dK Y
 refine dn<|bS Y (λhc101=>?_) (λhc101=>?_)
 ·refine jN<|mv Y<|gu Y (ayc (((DU.sel s4).sel s3).mV 2 7) (lG aHM au) hol aj aj aj (aeh hmay.2 _ au) (Xp hmay.2 _ _ au) aj) ?_
  rintro _ w26 ⟨rfl,Ae1,ce1,Af1,cf1,JU⟩;refine jO<|fV ?_
  refine He JU (λ_ K=>(K.rm s11)) (λl0 rk lJ wJ=>lJ=(9,.slice Af1 ((RX (uH m s r Z).1 ((uH m s r Z).2++uY m s r Z) m.J (FE m s Z) m.aM (vV s r Z) r.eF r.l9 r.All (Z+r.gV)).length) cf1)::(10,.slice Ag5 (((uY m s r Z).map wG).length) cg5)::l0/\Hp w S0 wJ [dJ g4 64 [.slice BL (((eT s Z).bZ).length) BM,.slice Ae1 ((RV (uH m s r Z).1 m.J (FE m s Z) m.aM (vV s r Z) r.eF r.l9 r.All (Z+r.gV)).length) ce1,.slice Ag3 (((eT s Z).bn++uY m s r Z).length) cg3],dJ qF 169 [.slice BL (((eT s Z).bZ).length) BM,.slice Ae1 ((RV (uH m s r Z).1 m.J (FE m s Z) m.aM (vV s r Z) r.eF r.l9 r.All (Z+r.gV)).length) ce1,.slice Ag3 (((eT s Z).bn++uY m s r Z).length) cg3,.slice xw m.aM.length wO,.slice wm m.J.length vO,.slice uS m.aU.length uI,O r.lD,O r.l9,O r.All,O r.je,O r.gV,O r.eF,O Z,.slice Aj7 ((vV s r Z).length) cj7,.slice Aj8 ((FE m s Z).length) cj8,.slice Af1 ((RX (uH m s r Z).1 ((uH m s r Z).2++uY m s r Z) m.J (FE m s Z) m.aM (vV s r Z) r.eF r.l9 r.All (Z+r.gV)).length) cf1,.slice Ag5 (((uY m s r Z).map wG).length) cg5],aR dB 165 Ae1 ce1 (RV (uH m s r Z).1 m.J (FE m s Z) m.aM (vV s r Z) r.eF r.l9 r.All (Z+r.gV)),aR bA 121 Af1 cf1 (RX (uH m s r Z).1 ((uH m s r Z).2++uY m s r Z) m.J (FE m s Z) m.aM (vV s r Z) r.eF r.l9 r.All (Z+r.gV)),dI bW xw wO m.aM,dI bD wm vO m.J,dI dN Aj7 cj7 (vV s r Z),dI bD Aj8 cj8 (FE m s Z),aR bA 121 Ag3 cg3 ((eT s Z).bn++uY m s r Z),aR BP 118 Ag5 cg5 ((uY m s r Z).map wG),dI p9 Aj9 cj9 (TY m s r Z),aR iG 162 BL BM ((eT s Z).bZ),dJ g3 23 [O r.lD,O r.l9,O r.All,O r.je,O r.gV,O r.eF],dJ g2 64 [.slice adT s.bZ.length adU,.slice adV s.bG.length adW,.slice adX s.bn.length adY],dJ g1 37 [.slice xw m.aM.length wO,.slice wm m.J.length vO,.slice uS m.aU.length uI]]) (λhns H17=>?_) ?_
  ·have k15:=(H17.rm s11);refine qp 0 qF 0 sI Y k15<|kI 3 Y (λ_ hK=>wD (cs':=[.slice BL (((eT s Z).bZ).length) BM,.slice Ae1 ((RV (uH m s r Z).1 m.J (FE m s Z) m.aM (vV s r Z) r.eF r.l9 r.All (Z+r.gV)).length) ce1,.slice Ag3 (((eT s Z).bn++uY m s r Z).length) cg3]) Lm Y Y (hK.x U) Y) k15<|qp 4 qF 15 IV Y k15<|xS 7 U Y k15<|qp 8 qF 16 R3 Y k15<|xS 11 U Y k15<|O1 12 Y<|sty Y H17 s11 Y λw27 LG=>?_
   have k16:=(LG.rm U);refine aO k16<|xC 13 Y Y k16<|xC 14 Y Y k16<|Dn ⟨Y,LG⟩ Y
  rintro _ w28 ⟨rfl,Fh⟩;refine jE (qL Y ⟨_,_,Y,⟨_,Y,jo Lm Y (Fh.x U)⟩,⟨_,_,Y,Y,⟨_,_,Y,Y,Y⟩⟩⟩ ?_);have akw:rdB m r=true:=by unfold rdB; rw [hmay.1,hmay.2]; rfl
  have hrq:rdQ m s r Z=true:=by unfold rdQ; first | exact hc101 | (simpa using hc101)
  have BO:((⟨(eT s Z).bZ,(RV (uH m s r Z).1 m.J (FE m s Z) m.aM (vV s r Z) r.eF r.l9 r.All (Z+r.gV)),((eT s Z).bn++uY m s r Z)⟩:fQ):fQ)=(iM m s r Z):=by unfold iM rdL; rw [aS akw,aS hrq]
  have hq8:((eT s Z).bZ:V eP)=((iM m s r Z).bZ):=by rw [<- BO]
  have Aa:((RV (uH m s r Z).1 m.J (FE m s Z) m.aM (vV s r Z) r.eF r.l9 r.All (Z+r.gV)):V bq)=((iM m s r Z).bG):=by rw [<- BO]
  have vL:(((eT s Z).bn++uY m s r Z):V aL)=((iM m s r Z).bn):=by rw [<- BO]
  have hq11:((RX (uH m s r Z).1 ((uH m s r Z).2++uY m s r Z) m.J (FE m s Z) m.aM (vV s r Z) r.eF r.l9 r.All (Z+r.gV)):V aL)=(pF m s r Z):=by unfold pF rdO; rw [aS akw,aS hrq]
  rw [hq11] at Fh;have hq12:(((uY m s r Z).map wG):V eU)=(mM m s r Z):=by unfold mM; rw [aS akw]
  rw [hq12] at Fh;exact⟨BL,BM,Ae1,ce1,Ag3,cg3,Af1,cf1,Ag5,cg5,by first | (rw [hq11,hq12,hq8,Aa,vL] <;> rfl) | (rw [hq8,Aa,vL,hq11,hq12] <;> rfl),by rw [<- hq8,<- Aa,<- vL]; exact((((((((Fh.cU 12 3).rm s10).cU 4 4).cU 0 2).sel s3).sel s2).mV 2 2).sel s4)⟩
 refine jQ ?_;refine He DU (λ_ K=>(K.rm s11)) (λl0 rk lJ wJ=>lJ=(9,.slice Ag4 (((uH m s r Z).2++uY m s r Z).length) cg4)::(10,.slice Ag5 (((uY m s r Z).map wG).length) cg5)::l0/\Hp w S0 wJ [dJ g4 64 [.slice BL (((eT s Z).bZ).length) BM,.slice Ag1 (((uH m s r Z).1).length) cg1,.slice Ag3 (((eT s Z).bn++uY m s r Z).length) cg3],dJ qF 169 [.slice BL (((eT s Z).bZ).length) BM,.slice Ag1 (((uH m s r Z).1).length) cg1,.slice Ag3 (((eT s Z).bn++uY m s r Z).length) cg3,.slice xw m.aM.length wO,.slice wm m.J.length vO,.slice uS m.aU.length uI,O r.lD,O r.l9,O r.All,O r.je,O r.gV,O r.eF,O Z,.slice Aj7 ((vV s r Z).length) cj7,.slice Aj8 ((FE m s Z).length) cj8,.slice Ag4 (((uH m s r Z).2++uY m s r Z).length) cg4,.slice Ag5 (((uY m s r Z).map wG).length) cg5],aR dB 165 Ag1 cg1 ((uH m s r Z).1),aR bA 121 Ag3 cg3 ((eT s Z).bn++uY m s r Z),aR bA 121 Ag4 cg4 ((uH m s r Z).2++uY m s r Z),aR BP 118 Ag5 cg5 ((uY m s r Z).map wG),dI bW xw wO m.aM,dI bD wm vO m.J,dI dN Aj7 cj7 (vV s r Z),dI bD Aj8 cj8 (FE m s Z),dI p9 Aj9 cj9 (TY m s r Z),aR iG 162 BL BM ((eT s Z).bZ),dJ g3 23 [O r.lD,O r.l9,O r.All,O r.je,O r.gV,O r.eF],dJ g2 64 [.slice adT s.bZ.length adU,.slice adV s.bG.length adW,.slice adX s.bn.length adY],dJ g1 37 [.slice xw m.aM.length wO,.slice wm m.J.length vO,.slice uS m.aU.length uI]]) (λhns H18=>?_) ?_
 ·have k17:=(H18.rm s11);refine qp 0 qF 0 sI Y k17<|kI 3 Y (λ_ hK=>wD (cs':=[.slice BL (((eT s Z).bZ).length) BM,.slice Ag1 (((uH m s r Z).1).length) cg1,.slice Ag3 (((eT s Z).bn++uY m s r Z).length) cg3]) Lm Y Y (hK.x U) Y) k17<|qp 4 qF 15 IV Y k17<|xS 7 U Y k17<|qp 8 qF 16 R3 Y k17<|xS 11 U Y k17<|O1 12 Y<|sty Y H18 s11 Y λw29 Fp=>?_
  have k18:=(Fp.rm U);refine aO k18<|xC 13 Y Y k18<|xC 14 Y Y k18<|Dn ⟨Y,Fp⟩ Y
 rintro _ w30 ⟨rfl,Fq⟩;refine jE (qL Y ⟨_,_,Y,⟨_,Y,jo Lm Y (Fq.x U)⟩,⟨_,_,Y,Y,⟨_,_,Y,Y,Y⟩⟩⟩ ?_);have akw:rdB m r=true:=by unfold rdB; rw [hmay.1,hmay.2]; rfl
 have hrq:rdQ m s r Z=false:=by unfold rdQ; first | exact hc101 | (simpa using hc101)
 have aj8:((⟨(eT s Z).bZ,(uH m s r Z).1,((eT s Z).bn++uY m s r Z)⟩:fQ):fQ)=(iM m s r Z):=by unfold iM rdL; rw [aS akw,aQ (by rw [hrq]; decide)]
 have aj9:((eT s Z).bZ:V eP)=((iM m s r Z).bZ):=by rw [<- aj8]
 have ar4:((uH m s r Z).1:V bq)=((iM m s r Z).bG):=by rw [<- aj8]
 have ar5:(((eT s Z).bn++uY m s r Z):V aL)=((iM m s r Z).bn):=by rw [<- aj8]
 have ar6:(((uH m s r Z).2++uY m s r Z):V aL)=(pF m s r Z):=by unfold pF rdO; rw [aS akw,aQ (by rw [hrq]; decide)]
 rw [ar6] at Fq;have ar7:(((uY m s r Z).map wG):V eU)=(mM m s r Z):=by unfold mM; rw [aS akw]
 rw [ar7] at Fq;exact⟨BL,BM,Ag1,cg1,Ag3,cg3,Ag4,cg4,Ag5,cg5,by first | (rw [ar6,ar7,aj9,ar4,ar5] <;> rfl) | (rw [aj9,ar4,ar5,ar6,ar7] <;> rfl),by rw [<- aj9,<- ar4,<- ar5]; exact(((((Fq.cU 12 3).cU 6 5).cU 0 2).mV 0 4).sel s4)⟩
end
section
variable {l:List fB}{α:Type}{iw:Int}{S0:Nat->Prop}{jL wP xw wm uS:ah}{jK vk wO vO uI:Nat}{CK:FuncId}{Hr:List Value}{g:α->Int}{s:List α}
def Qm(s:fB):Bool:=((decide (1<=s.Client)&&decide (s.Client<=1048576))&&decide (1<=s.Seq))&&decide (s.Seq<=1099511627776)
def IZ:Int->List fB->Bool
  | _,[]=>true
  | z,n::l=>!(!Qm n||decide (n.Client<=z))&&IZ n.Client l
def LP(l:List fB):Bool:=IZ 0 l&&decide (l.length<=16)
def Zw{z:Int}{k:Nat}{x:fB}(hx:l[k]? = some x):IZ z (l.drop k)=(!(!Qm x||decide (x.Client<=z))&&IZ x.Client (l.drop (k+1))):=by
 rw [CF (aP hx),(rG.1 hx).2]; rfl
def Zx:∀(l:V fB)(z:Int),IZ z l=true->∀ n∈l,z<n.Client/\Qm n=true
 | [],_,_,n,hn=>by simp at hn
 | m::l,z,h,n,hn=>by
  simp only [IZ,bK,dZ,dQ,fG,bV] at h
  rcases gW.1 hn with rfl | hn
  ·exact⟨aj,h.1.1⟩
  ·have:=Zx l _ h.2 n hn; exact⟨aj,this.2⟩
def ahr:∀(l:V fB)(z:Int),IZ z l=true->Up fB.Client l
 | [],_,_=>List.Pairwise.nil
 | m::l,z,h=>by
  simp only [IZ,bK,dZ,dQ,fG,bV] at h
  exact nT.2 ⟨λx hx=>(Zx l _ h.2 x hx).1,ahr l _ h.2⟩
def bsG{α:Type}(g:α->Int)(s:List α):Nat->Nat->Nat->Nat
  | 0,i,_=>i
  | f+1,i,j=>if i<j then(match s[(i+j) / 2]? with | some x=>if g x<0 then bsG g s f ((i+j) / 2+1) j else bsG g s f i ((i+j) / 2) | none=>i) else i
def bsW{α:Type}(g:α->Int)(s:List α):Nat:=bsG g s (s.length+1) 0 s.length
def J9{α:Type}(g:α->Int)(s:List α):Bool:=match s[bsW g s]? with | some x=>decide (g x=0) | none=>false
def R8(g:α->Int)(s:V α):∀(f f' i j:Nat),j - i<f->j - i<f'->bsG g s f i j=bsG g s f' i j
 | 0,_,_,_,h,_=>by omega
 | _+1,0,_,_,_,h=>by omega
 | f+1,f'+1,i,j,h,h'=>by
  unfold bsG
  split
  ·split
   ·split
    ·exact R8 g s f f' _ _ aj aj
    ·exact R8 g s f f' _ _ aj aj
   ·rfl
  ·rfl
def atf{i j:Nat}{x:α}(hij:i<j)(hx:s[(i+j) / 2]? = some x)(h:g x<0):bsG g s (j - i+1) i j=bsG g s (j - ((i+j) / 2+1)+1) ((i+j) / 2+1) j:=by
 rw [bsG,aS hij,hx]
 simp only [aS h]
 exact R8 g s _ _ _ _ aj aj
def atg{i j:Nat}{x:α}(hij:i<j)(hx:s[(i+j) / 2]? = some x)(h:¬ g x<0):bsG g s (j - i+1) i j=bsG g s ((i+j) / 2 - i+1) i ((i+j) / 2):=by
 rw [bsG,aS hij,hx]
 simp only [aQ h]
 exact R8 g s _ _ _ _ aj aj
def ael{i j:Nat}(hij:¬ i<j):bsG g s (j - i+1) i j=i:=by rw [bsG,aQ hij]
def aem(hm:ac1 g s):∀(f i j:Nat),j - i<f->i<=j->j<=s.length->(∀(a:Nat)(y:α),a<i->s[a]? = some y->g y<0)->(∀(a:Nat)(y:α),j<=a->s[a]? = some y->¬ g y<0)->bsG g s f i j=low g s
 | 0,_,_,h,_,_,_,_=>by omega
 | f+1,i,j,hf,hij,hj,h1,h2=>by
  unfold bsG
  split
  ·rename_i hlt
   obtain⟨x,hx⟩:=bH (xs:=s) (i:=(i+j) / 2) aj;rw [hx]; simp only
   split
   ·rename_i hg
    exact aem hm f _ _ aj aj hj (λa y ha hy=>hm a _ y x aj hy hx hg) h2
   ·rename_i hg
    exact aem hm f _ _ aj aj aj h1 (λa y ha hy hlt'=>hg (hm _ a x y ha hx hy hlt'))
  ·rename_i hlt
   exact(G9 aj h1 (λa y ha=>h2 a y aj)).symm
def Xq(hm:ac1 g s):bsW g s=low g s:=aem hm _ _ _ aj (fI _) (j4 _) (λa y ha=>by omega) (λa y ha hy=>by have:=aP hy; omega)
def U7(hm:ac1 g s):J9 g s=hits g s:=by unfold J9 hits; rw [Xq hm]; cases s[low g s]? <;> rfl
def akx:∀(f i j:Nat),i<=j->bsG g s f i j<=j
 | 0,i,j,h=>h
 | f+1,i,j,h=>by
  unfold bsG
  split
  ·split
   ·split
    ·exact akx f _ _ aj
    ·exact lG (akx f _ _ aj) aj
   ·exact h
  ·exact h
def aDu(g:α->Int)(s:V α):bsW g s<=s.length:=akx _ _ _ (fI _)
def GN(h:J9 g s=true):∃ x,s[bsW g s]? = some x/\g x=0:=by
 unfold J9 at h
 split at h
 ·rename_i x hx; exact⟨x,hx,iY h⟩
 ·cases h
def Wm(l:List fB)(iw:Int):fB:=match l[bsW (fun(y:fB)=>bL y.Client iw) l]? with | some s=>if J9 (fun(y:fB)=>bL y.Client iw) l then s else⟨0,0,0⟩ | none=>⟨0,0,0⟩
def ao4{x:fB}(h:J9 (fun(y:fB)=>bL y.Client iw) l=true)(hx:l[bsW (fun(y:fB)=>bL y.Client iw) l]? = some x):Wm l iw=x:=by
 unfold Wm; rw [hx]; simp only [h,if_true]
def Gz(l:List fB)(iw seq:Int):Int × Bool × Int:=if(!LP l||!Qm ⟨iw,seq,0⟩)=true then(0,false,1) else if seq<(Wm l iw).Seq then(0,false,9) else if seq=(Wm l iw).Seq then((Wm l iw).Answer,true,0) else if(Wm l iw).Seq+1<seq then(0,false,10) else(0,false,0)
def Nk(l:List fB)(iw seq answer:Int):List fB × Int:=if(Gz l iw seq).2.2≠0 then([],(Gz l iw seq).2.2) else if(Gz l iw seq).2.1=true then([],6) else if J9 (fun(y:fB)=>bL y.Client iw) l=false/\16<=l.length then([],7) else
  ((if J9 (fun(y:fB)=>bL y.Client iw) l=true then l else l.take (bsW (fun(y:fB)=>bL y.Client iw) l)++[⟨0,0,0⟩]++l.drop (bsW (fun(y:fB)=>bL y.Client iw) l)).set (bsW (fun(y:fB)=>bL y.Client iw) l) ⟨iw,seq,answer⟩,0)
def Xr:bU prog 75 0 0:=ay
def amm:bU prog 75 1 1:=ay
def aBh:Size prog 75 3:=ay
def aBi:WC prog 75 3:=⟨λ_=>by kernel_rfl,aBh⟩
abbrev amn:Value:=.agg #[O 0,O 0,O 0]
def ays:∀ w,(zeroValue 75).run prog w=.ok amn w:=ay
def ath  : ∀ w,(Instr.buildSlice 35 0 (List.toArray [])).run prog w=.ok (.slice (some ⟨w.heap.size,0,none⟩) 0 0) (w.alloc (.cells (List.toArray []) 75)):=ay
def aHR:kH prog 75 3 24:=by
 obtain⟨i,h1,h2,h3,h4⟩:=qo (show(prog.info? 75).map (λi=>(i.zero,i.size,i.bytes))=some (some amn,3,24) by kernel_rfl);exact⟨i,_,h1,h2,h3,h4,Y⟩
def aDv:bC prog 211:=ay
def ayt(w:World)(s:fB):bM prog 215 #[.agg #[O s.Client,O s.Seq,O s.Answer]] w λv w'=>v=.bool (Qm s)/\Hp w S0 w' []:=by
 refine lg S0 func215 ntmps215 Y λH0=>rg<|bx Y Y H0 λg1 w1 K1=>fE Y<|rg<|jP g1 0 Xr K1 U Y<|pq 2 Y<|iJ 4 10 ((decide (1<=s.Client))&&(decide (s.Client<=1048576))) ?_ ?_
 ·cases hb6:decide (1<=s.Client) with
  | true=>
   refine wW g1 0 Xr K1 U Y<|pq 2 Y<|dK Y
  | false=>
   refine pq 4 Y<|dK Y
 refine mv Y<|iJ 4 15 (((decide (1<=s.Client))&&(decide (s.Client<=1048576)))&&(decide (1<=s.Seq))) ?_ ?_
 ·cases UD:((decide (1<=s.Client))&&(decide (s.Client<=1048576))) with
  | true=>
   have MW:=UD
   try simp only [aA] at MW
   refine wW g1 1 amm K1 U Y<|pq 2 Y<|dK Y
  | false=>
   refine pq 4 Y<|dK Y
 refine mv Y<|iJ 4 20 ((((decide (1<=s.Client))&&(decide (s.Client<=1048576)))&&(decide (1<=s.Seq)))&&(decide (s.Seq<=1099511627776))) ?_ ?_
 ·cases YQ:(((decide (1<=s.Client))&&(decide (s.Client<=1048576)))&&(decide (1<=s.Seq))) with
  | true=>
   have Rf:=YQ
   try simp only [aA] at Rf
   refine wW g1 1 amm K1 U Y<|pq 2 Y<|dK Y
  | false=>
   refine pq 4 Y<|dK Y
 refine fE Y<|iU Y ?_
 exact⟨by skip <;> rfl,(K1.rm U)⟩
def ayu(w:World)(jq:Sl cB S0 w jL jK l):bM prog 211 #[.slice jL l.length jK] w λv w'=>v=.bool (LP l)/\Hp w S0 w' []:=by
 refine lg S0 func211 ntmps211 Y λH0=>?_;have Iz:=jq.bI;refine kX Y<|kX Y<|aZ<|gD Y<|ev (jf ad2 Y)<|mv Y<|dn<|dF<|Lp H0 (λl0 rk mJ lJ wJ=>∃(k:Nat)(z:Int),lJ=(3,O z)::(8,O ((k:Nat):Int))::l0/\mJ=l.length - k/\k<=l.length/\(IZ 0 l=IZ z (l.drop k))/\Hp w S0 wJ rk) ⟨0,0,Y,Y,fI _,av,H0⟩ rfl ?_
 rintro _ _ w1 ⟨k,z,rfl,rfl,hk,hz,K1⟩;refine rg<|ev (iH Y Y)<|dn<|r9 Y (λN8=>?_) (λN8=>?_)
 ·refine jQ ?_;refine aZ<|dF<|rg ?_
  obtain⟨x1,bT⟩:=bH (xs:=l) (i:=k) aj;refine ev (d9 ad2 aBh Y Y Y (aP bT) ((K1.a jq).some_ bT))<|ev (iR aBi Y Y ((K1.a jq).fF bT))<|al ays Y K1 λg1 w2 K2=>sty Y K2 U Y λw3 K3=>dn<|aZ<|rg<|ev (fA aBi Y Y (K3.x U))<|mX K3 Y (ayt (S0:=Any) _ x1) λw4 K4=>pq 2 Y<|iJ 5 20 ((!(Qm x1))||(decide (x1.Client<=z))) ?_ ?_
  ·cases WJ:(!(Qm x1)) with
   | true=>
    refine pq 5 Y<|dK Y
   | false=>
    refine wW g1 0 Xr K4 U Y<|pq 3 Y<|dK Y
  refine dn<|bS Y (λl8=>?_) (λl8=>?_)
  ·refine kX Y<|jE (gG (jM (gG (gG (jM (gG (uo Y ?_)))))))
   have gy:(false:Bool)=(LP l):=by symm; unfold LP; rw [hz,Zw bT,l8]; rfl
   exact⟨by rw [<- gy] <;> rfl,(K4.rm U)⟩
  refine jQ ?_;refine jN<|jP g1 0 Xr K4 U Y<|oJ Y<|jO<|iF (fV ?_)
  refine jN<|ev (eG Y Y)<|mv Y<|jO<|dX ⟨(k+1),x1.Client,Y,Y,aj,by rw [hz,Zw bT,l8]; rfl,(K4.rm U)⟩ rfl aj
 refine BU ?_;refine gD Y<|ev (jf ad2 Y)<|ev (Ev.leq Y Y)<|fE Y<|iU Y ?_
 have gH:(decide (((l.length:Nat):Int)<=16):Bool)=(LP l):=by symm; unfold LP; rw [hz,Hg aj]; simp [IZ]; omega
 exact⟨by rw [gH] <;> rfl,K1⟩
def Ey(w:World){s:V fB}(sP:Sl cB S0 w wP vk s)(hn:s.length<=1000000):bM prog 35 #[.slice wP s.length vk] w λv w'=>∃ A0 c0,v=.slice A0 s.length c0/\Hp w S0 w' [aR cB 75 A0 c0 s]:=by
 refine lg S0 func35 ntmps35 Y λH0=>?_;have qU:=ad2;have qI:=aHR;have qB:=@ath;exact mCL
def iZ(l:List aT)(id:Int):Bool:=jY l id&&!decide ((gJ l id).fT=2)
def lU(m:bY):Bool:=((tN m.aM&&ku m.J)&&LP m.aU)&&!m.J.any (fun(c:aH)=>c.aD.any (fun(id:Int)=>!iZ m.aM id))
def Xt(f:α->Bool)(s:V α):decide (0<=idxOf f s)=s.any f:=by
 rw [ac9]
 simp only [bN,MN]
 rcases wS f s with ⟨h1,h2⟩ | ⟨k,x,h1,h2,h3,h4⟩
 ·rw [h1]
  constructor
  ·intro h; omega
  ·rintro⟨x,hx,hf⟩; rw [h2 x hx] at hf; cases hf
 ·rw [h1]
  constructor
  ·intro _; exact⟨x,dz h2,h3⟩
  ·intro _; omega
def aDw:bC prog 208:=ay
def aDx:bC prog 207:=ay
def R9:bU prog 37 2 2:=ay
def aDy:bC prog 209:=ay
def aDz:bC prog 212:=ay
def acd(w:World){l:V aT}(jq:Sl bW S0 w jL jK l)(id:Int)(hn:l.length<=100000):bM prog 208 #[.slice jL l.length jK,O id] w λv w'=>v=.bool (iZ l id)/\Hp w S0 w' []:=by
 refine lg S0 func208 ntmps208 Y λH0=>pC 6 Y<|mX H0 Y (Fb _ (H0.a jq).any id aj) λw1 K1=>pq 3 Y<|al tT Y K1 λg1 w2 K2=>sty Y K2 U Y λw3 K3=>pB 5 Y<|iJ 4 18 ((jY l id)&&(!decide ((gJ l id).fT=2))) ?_ ?_
 ·cases aNA:jY l id with
  | true=>
   refine wW g1 3 yX K3 U Y<|pq 2 Y<|dK Y
  | false=>
   refine pq 4 Y<|dK Y
 refine fE Y<|iU Y ?_
 exact⟨by skip <;> rfl,(K3.rm U)⟩
def Qn(w:World){s:V Int}(sP:Sl dN S0 w wP vk s)(VR:bC prog CK)(f:Int->Bool)(VT:∀(w':World)(x:Int),Ext w w'->x∈s->bM prog CK (([O x]:V Value)++Hr).toArray w' λv w''=>v=.bool (f x)/\Ext w' w''):bM prog 210 #[.slice wP s.length vk,.func (.func CK) #[] Hr.toArray] w λv w'=>v=.bool (s.any f)/\Hp w S0 w' []:=by
 refine lg S0 func210 ntmps210 Y λH0=>pC 6 Y<|mX H0 Y (Ld _ (H0.a sP).any VR f (λw' x e hm=>VT w' x (H0.ext.trans e) hm)) λw1 K1=>pA 3 Y<|iU Y ?_
 exact⟨by rw [Xt f s] <;> rfl,K1⟩
def ati(w:World)(id:Int){g_m:Nat}(m:bY)(h_m:Bx w g_m 37 [.slice xw m.aM.length wO,.slice wm m.J.length vO,.slice uS m.aU.length uI])(CV:Sl bW S0 w xw wO m.aM)(IY:Sl bD S0 w wm vO m.J)(Ql:Sl cB S0 w uS uI m.aU)(hn:m.aM.length<=100000):bM prog 207 #[O id,fK g_m] w λv w'=>v=.bool (!iZ m.aM id)/\Hp w S0 w' []:=by
 refine lg S0 func207 ntmps207 Y λH0=>kX Y<|rg<|zA g_m 0 lQ Y<|ev (dU abT Y (h_m.ext H0.ext) Y)<|mv Y<|mX H0 Y (acd _ (H0.a CV).any id aj) λw1 K1=>pA 3 Y<|iU Y ?_
 have gy:((!(iZ m.aM id)):Bool)=(!iZ m.aM id):=by first | with_reducible rfl | (simp; done) | omega
 exact⟨by rw [gy] <;> rfl,K1⟩
def atj(w:World)(c:aH){Dq:ah}{CO:Nat}(IE:Sl dN S0 w Dq CO c.aD){g_m:Nat}(m:bY)(h_m:Bx w g_m 37 [.slice xw m.aM.length wO,.slice wm m.J.length vO,.slice uS m.aU.length uI])(CV:Sl bW S0 w xw wO m.aM)(IY:Sl bD S0 w wm vO m.J)(Ql:Sl cB S0 w uS uI m.aU){atl:Nat}(aDA:Bx w atl 55 [.func (.func 207) #[] #[fK g_m]])(hn:m.aM.length<=100000):bM prog 209 #[.agg #[O c.ID,O c.E,gP c.Sum,.slice Dq c.aD.length CO],fK atl] w λv w'=>v=.bool (c.aD.any (fun(id:Int)=>!iZ m.aM id))/\Hp w S0 w' []:=by
 refine lg S0 func209 ntmps209 Y λH0=>rg<|bx Y Y H0 λg1 w1 K1=>fE Y<|rg<|jP g1 3 kr K1 U Y<|ev (dU abZ Y (aDA.ext K1.ext) Y)<|mX K1 Y (Qn _ (K1.a IE).any aDx (fun(x:Int)=>!iZ m.aM x) (λw' x e hm=>(ati w' x m ((h_m.ext K1.ext).ext e) ((K1.a CV).any.ext e) ((K1.a IY).any.ext e) ((K1.a Ql).any.ext e) aj).mono (by rintro _ _ ⟨rfl,gH⟩; exact⟨rfl,gH.ext⟩))) λw2 K2=>fE rfl<|iU rfl ?_
 have gy:(c.aD.any (fun(x:Int)=>!iZ m.aM x):Bool)=(c.aD.any (fun(id:Int)=>!iZ m.aM id)):=by first | with_reducible rfl | (simp; done) | omega
 exact⟨by rw [gy] <;> rfl,(K2.rm U)⟩
def Sd(w:World){s:V aH}(sP:Sl bD S0 w wP vk s)(VR:bC prog CK)(f:aH->Bool)(VT:∀(w':World)(x:aH){agp:ah}{agq:Nat}(agr:Sl dN Any w' agp agq x.aD),Ext w w'->x∈s->bM prog CK (([.agg #[O x.ID,O x.E,gP x.Sum,.slice agp x.aD.length agq]]:V Value)++Hr).toArray w' λv w''=>v=.bool (f x)/\Ext w' w''):bM prog 276 #[.slice wP s.length vk,.func (.func CK) #[] Hr.toArray] w λv w'=>v=O (idxOf f s)/\Hp w S0 w' []:=by
 refine lg S0 func276 ntmps276 Y λH0=>?_;have qU:=lT;have qZ:=tH;have qG:=p8;exact mIF
def Nl(w:World){s:V aH}(sP:Sl bD S0 w wP vk s)(VR:bC prog CK)(f:aH->Bool)(VT:∀(w':World)(x:aH){agp:ah}{agq:Nat}(agr:Sl dN Any w' agp agq x.aD),Ext w w'->x∈s->bM prog CK (([.agg #[O x.ID,O x.E,gP x.Sum,.slice agp x.aD.length agq]]:V Value)++Hr).toArray w' λv w''=>v=.bool (f x)/\Ext w' w''):bM prog 212 #[.slice wP s.length vk,.func (.func CK) #[] Hr.toArray] w λv w'=>v=.bool (s.any f)/\Hp w S0 w' []:=by
 refine lg S0 func212 ntmps212 Y λH0=>pC 6 Y<|mX H0 Y (Sd _ (H0.a sP).any VR f (λw' x=>λagr e hm=>VT w' x agr (H0.ext.trans e) hm)) λw1 K1=>pA 3 Y<|iU Y ?_
 exact⟨by rw [Xt f s] <;> rfl,K1⟩
def ayv(w:World)(m:bY)(CV:Sl bW S0 w xw wO m.aM)(IY:Sl bD S0 w wm vO m.J)(Ql:Sl cB S0 w uS uI m.aU)(hn:m.aM.length<=100000)(hc:m.J.length<=100000):bM prog 133 #[.agg #[.slice xw m.aM.length wO,.slice wm m.J.length vO,.slice uS m.aU.length uI]] w λv w'=>v=.bool (lU m)/\Hp w S0 w' []:=by
 refine lg S0 func133 ntmps133 Y λH0=>rg<|bx Y Y H0 λg1 w1 K1=>fE Y<|rg<|ev (rZ Y)<|al amb Y K1 λg2 w2 K2=>xD Y K2 U Y λw3 K3=>dn<|rg<|ev (rZ Y)<|fE Y<|rg<|jP g1 0 lQ K3 s1 Y<|mX K3 Y (Xc _ (K3.a CV).any) λw4 K4=>mv Y<|qg 4 14 ((tN m.aM)&&(ku m.J)) ?_ ?_
 ·cases aGJ:tN m.aM with
  | true=>
   refine wW g1 1 jC K4 s1 Y<|om Y Y Y Y aAB (Oa _ (K4.a IY).any aj) Y ?_
   rintro _ w5 ⟨rfl,h5⟩;refine pq 1 Y<|jI Y h5.ext
  | false=>
   refine pq 4 Y<|jI Y (oW _)
 intro w6 e6;have K6:=K4.grow e6;refine mv Y<|qg 4 19 (((tN m.aM)&&(ku m.J))&&(LP m.aU)) ?_ ?_
 ·cases WJ:((tN m.aM)&&(ku m.J)) with
  | true=>
   have ame:=WJ
   try simp only [aA] at ame
   refine wW g1 2 R9 K6 s1 Y<|om Y Y Y Y aDv (ayu _ (K6.a Ql).any) Y ?_
   rintro _ w7 ⟨rfl,h7⟩;refine pq 1 Y<|jI Y h7.ext
  | false=>
   refine pq 4 Y<|jI Y (oW _)
 intro w8 e8;have K8:=K6.grow e8;refine mv Y<|qg 6 26 ((((tN m.aM)&&(ku m.J))&&(LP m.aU))&&(!(m.J.any (fun(x:aH)=>x.aD.any (fun(id:Int)=>!iZ m.aM id))))) ?_ ?_
 ·cases adk:(((tN m.aM)&&(ku m.J))&&(LP m.aU)) with
  | true=>
   have agm:=adk
   try simp only [aA] at agm
   refine wW g1 1 jC K8 s1 Y<|pq 1 Y<|om Y Y Y Y aDz (Nl _ (K8.a IY).any aDy (fun(x:aH)=>x.aD.any (fun(id:Int)=>!iZ m.aM id)) (λw' x=>λagr e hm=>(atj w' x agr m ((K8.x s1).ext e) ((K8.a CV).any.ext e) ((K8.a IY).any.ext e) ((K8.a Ql).any.ext e) ((K8.x U).ext e) aj).mono (by rintro _ _ ⟨rfl,gH⟩; exact⟨rfl,gH.ext⟩))) rfl ?_
   rintro _ w9 ⟨rfl,h9⟩;refine pq 2 Y<|jI Y h9.ext
  | false=>
   refine pq 6 Y<|jI Y (oW _)
 intro PE e10;have K10:=K8.grow e10;refine fE Y<|iU Y ?_
 exact⟨by skip <;> rfl,K10.z⟩
def ahs(w:World)  : bM prog 213 #[] w λv w'=>∃ g0,v=.map (some g0)/\Hp w S0 w' [nK g0 (.map (Array.push (Array.push (Array.push (Array.push (Array.push (Array.push (Array.push (Array.push (#[]:Array MapEntry) ⟨O 0,.func (.func 277) #[] #[],0⟩) ⟨O 1,.func (.func 278) #[] #[],1⟩) ⟨O 2,.func (.func 281) #[] #[],2⟩) ⟨O 3,.func (.func 284) #[] #[],3⟩) ⟨O 4,.func (.func 287) #[] #[],4⟩) ⟨O 5,.func (.func 289) #[] #[],5⟩) ⟨O 6,.func (.func 292) #[] #[],6⟩) ⟨O 7,.func (.func 294) #[] #[],7⟩) 8)]:=by
 refine lg S0 func213 ntmps213 Y λH0=>kX Y<|rg<|mkm H0 Y λg1 w1 K1=>ins K1 U Y Y Y J5 ig Y λw2 K2=>ins K2 U Y Y Y J5 ig Y λw3 K3=>ins K3 U Y Y Y J5 ig Y λw4 K4=>ins K4 U Y Y Y J5 ig Y λw5 K5=>ins K5 U Y Y Y J5 ig Y λw6 K6=>ins K6 U Y Y Y J5 ig Y λw7 K7=>ins K7 U Y Y Y J5 ig Y λw8 K8=>ins K8 U Y Y Y J5 ig Y λw9 K9=>pA 3 Y<|iU Y ?_
 exact⟨g1,Y,K9⟩
end
end Go.Proofs.YthcmboepffiliaaGreat
