/- Lemmas. -/
import Derived.Test.YthcmboepffiliaaGreatvG11
set_option maxRecDepth 4000
set_option linter.all false
namespace Go.Proofs.YthcmboepffiliaaGreat
open Go.RowKit Go.Proofs.Tryz
def nI:=@underlying69
def yx:=@underlying30
def Ii:=@Decidable.not_not
def aEz:=@List.length_singleton
def mO:=@List.mem_cons_self
section
variable {b w:World}{S:Nat->Prop}{F:List kF}{iy:Nat}{A1 A2 A3 A4 A5 A6 A7:ah}{r:ARules}{Z:Int}{I:List aL}{hs:kg}{x:aH}{l:List Int}
abbrev afg(gX:Nat)(iP:ah)(xE:Nat)(AU:ah)(Gg:Nat)(R5:ah)(V9:Nat)(y7z:ah)(y8z:Nat)(y9z:ah)(Tc:Nat)(Td:ah)(Tf:Nat)(Ti:ah)(Tj:Nat)(EB:bY)(EC:fQ)(aeP:ARules)(aeQ:Int)(Tn:Nat)(Tq:List aL)(aeR:kg)(aeS:List kF):=Io gX iP xE AU Gg R5 V9 y7z y8z y9z Tc Td Tf Ti Tj EB EC aeP aeQ Tn Tq::dI bW iP xE EB.aM::dI bD AU Gg EB.J::dI cB R5 V9 EB.aU::dI iG y7z y8z EC.bZ::dI dB y9z Tc EC.bG::dI bA Td Tf EC.bn::aR bA 121 Ti Tj Tq::jD Tn aeR::aeS
def ava{c1 c2 c3 c4 c5 c6 c7 gm:Nat}{m:bY}{s:fQ}(H0:Hp b S w (afg iy A1 c1 A2 c2 A3 c3 A4 c4 A5 c5 A6 c6 A7 c7 m s r Z gm I hs F))(hb:s.bZ.length<=1000)(hl:s.bG.length<=1000)(hd:s.bn.length<=100000):bM prog 44 #[fK iy] w λv w'=>∃ wM wN Ab Ad Ae Af,v=.agg #[.slice wM s.bZ.length wN,.slice Ab s.bG.length Ad,.slice Ae s.bn.length Af]/\Hp b S w' (aR iG 162 wM wN s.bZ::aR dB 165 Ab Ad s.bG::aR bA 121 Ae Af s.bn::Io iy A1 c1 A2 c2 A3 c3 A4 c4 A5 c5 A6 c6 A7 c7 m s r Z gm I::dI bW A1 c1 m.aM::dI bD A2 c2 m.J::dI cB A3 c3 m.aU::dI iG A4 c4 s.bZ::dI dB A5 c5 s.bG::dI bA A6 c6 s.bn::aR bA 121 A7 c7 I::jD gm hs::F):=by
 refine qN func44 ntmps44 Y<|rg<|al Et Y H0 λg1 w1 K1=>dn<|He K1 (λ_ K=>(K.rm U)) (λl0 rk lJ wJ=>∃ jG jr oV cj2 wH vG,lJ=l0/\Hp b S wJ (dJ g1 64 [.slice wH s.bZ.length vG,.slice oV s.bG.length cj2,.slice jG s.bn.length jr]::aR bA 121 jG jr s.bn::aR dB 165 oV cj2 s.bG::aR iG 162 wH vG s.bZ::rk)) (λhns H1=>?_) ?_
 ·have k1:=(H1.rm U);refine qp 0 iy 3 Bw Y k1<|mK 3 4 iy 3 GJ U Y k1<|qp 6 iy 3 Bw Y k1<|mK 9 10 iy 4 yZ U Y k1<|qp 12 iy 3 Bw Y k1<|mK 15 16 iy 5 Eu U Y k1<|O1 5 Y<|gu Y (Es _ (H1.s s5).any aj) ?_
  rintro _ w2 ⟨qj,ql,rfl,h2⟩;have K2:=H1.f1 h2;have k2:=(K2.cU 0 2);refine aO k2<|O1 11 Y<|gu Y (Da _ (K2.s s7).any aj) ?_
  rintro _ w3 ⟨rE,rF,rfl,h3⟩;have K3:=K2.f1 h3;have k3:=(K3.cU 0 3);refine aO k3<|O1 17 Y<|gu Y (Db _ (K3.s s9).any aj) ?_
  rintro _ w4 ⟨sG,sH,rfl,h4⟩;have K4:=K3.f1 h4;have k4:=(K4.cU 0 4);refine aO k4<|kI 18 Y (λ_ _=>iT (cs:=[.slice qj s.bZ.length ql,.slice rE s.bG.length rF,.slice sG s.bn.length sH]) Y (by apply Nj)) k4<|O1 19 rfl<|sty rfl K4 s3 rfl λw5 K5=>?_
  have k5:=(K5.cU 0 4);refine aO k5<|Dn ⟨sG,sH,rE,rF,qj,ql,Y,K5⟩ Y
 rintro _ w6 ⟨jG,jr,oV,cj2,wH,vG,rfl,K6⟩;refine jE (qL Y ⟨_,_,Y,⟨_,Y,jo Lm Y (K6.x U)⟩,Y⟩ ?_);exact⟨wH,vG,oV,cj2,jG,jr,Y,((((K6.rm U).sel U).sel s1).sel s2)⟩
def aEA{z n:Int}{k:Nat}{H:l6}(h:l[k]? = some n)(hg:cZ n hs=some H)(hb:¬ ((qC H.l H.es z).2.2=0/\(qC H.l H.es z).2.1=x.E/\((gI (qC H.l H.es z).1).toNat:Int)=x.Sum)):BR (kR hs) x z (l.drop k)=BR (kR hs) x z (l.drop (k+1)):=by
 have e:rT H.pl.l H.pl.d z=qC H.l H.es z:=ah9 _ _ _;rw [aam h,jg,hg]; simp only [ac8];exact aQ (λh9=>hb (by rw [e] at h9; exact h9.2))
def avb{z n:Int}{k:Nat}(h:l[k]? = some n)(hu:(!uP (kR hs) n)=true):BR (kR hs) x z (l.drop k)=BR (kR hs) x z (l.drop (k+1)):=by
 rw [aam h]; unfold uP at hu
 cases hg:cZ n (kR hs) with
 | none=>rfl
 | some g=>rw [hg] at hu; have h8:(!g.up)=true:=hu; exact aQ (λh9=>by rw [h9.1] at h8; exact Bool.noConfusion h8)
def ap1{z n:Int}{k:Nat}{H:l6}(h:l[k]? = some n)(hg:cZ n hs=some H)(hu:H.up=true)(hb:(qC H.l H.es z).2.2=0/\(qC H.l H.es z).2.1=x.E/\((gI (qC H.l H.es z).1).toNat:Int)=x.Sum):BR (kR hs) x z (l.drop k)=((qC H.l H.es z).1,0):=by
 have e:rT H.pl.l H.pl.d z=qC H.l H.es z:=ah9 _ _ _;rw [aam h,jg,hg]; simp only [ac8];rw [aS (by rw [e]; exact⟨hu,hb⟩),e]
def avc{c1 c2 c3 c4 c5 c6 c7 gm:Nat}{m:bY}{s:fQ}(H0:Hp b S w (afg iy A1 c1 A2 c2 A3 c3 A4 c4 A5 c5 A6 c6 A7 c7 m s r Z gm I hs F))(aN:Int)(hm:lU m=true)(hz:hSz hs):bM prog 11 #[fK iy,O aN] w λv w'=>∃ A0 c0,v=.tuple #[.slice A0 (((uW (⟨m,s,r,Z,I,kR hs⟩:PC) aN).1).length) c0,O ((uW (⟨m,s,r,Z,I,kR hs⟩:PC) aN).2)]/\Hp b S w' (aR fP 5 A0 c0 ((uW (⟨m,s,r,Z,I,kR hs⟩:PC) aN).1)::Io iy A1 c1 A2 c2 A3 c3 A4 c4 A5 c5 A6 c6 A7 c7 m s r Z gm I::dI bW A1 c1 m.aM::dI bD A2 c2 m.J::dI cB A3 c3 m.aU::dI iG A4 c4 s.bZ::dI dB A5 c5 s.bG::dI bA A6 c6 s.bn::aR bA 121 A7 c7 I::jD gm hs::F):=by
 refine qN func11 ntmps11 Y ?_;have hzs:=GU hm;refine pC 7 Y<|zA iy 0 Bv Y<|jP iy 1 jC H0 U Y<|mv Y<|gu Y (find_ok _ (H0.s s2) aN hzs.2.1 hzs.2.2.1) ?_
 rintro _ w1 ⟨KG,KH,rfl,h1⟩;have K1:=H0.c1 h1;have La:=(K1.s U).bI;refine pq 3 Y<|al lX Y K1 λg1 w2 K2=>sty Y K2 U Y λw3 K3=>fE Y<|aZ<|gD Y<|ev (wC Y)<|dn<|bS Y (λhc24=>?_) (λhc24=>?_)
 ·refine rg<|oJ Y<|fE Y<|Aw Y ?_
  have hop:(uW (⟨m,s,r,Z,I,kR hs⟩:PC) aN)=([],5):=by unfold uW; rw [aS (show gQ m.J aN=false from by simpa using hc24)]
  rw [show(uW (⟨m,s,r,Z,I,kR hs⟩:PC) aN).1=([]:V (BitVec 8)) from by rw [hop]];rw [show(uW (⟨m,s,r,Z,I,kR hs⟩:PC) aN).2=5 from by rw [hop]];have H1:=K3.nil fP 5;exact⟨none,0,Y,(H1.cU 1 2)⟩
 refine jQ ?_;refine aZ<|rg<|jP g1 3 kr K3 U Y<|pA 3 Y<|dF<|qh (λmJ lJ wJ=>∃ k,lJ=[(0,fK iy),(1,O aN),(6,fK g1),(26,.slice KG (((aV m.J aN).aD).length) KH),(27,O ((((aV m.J aN).aD).length:Nat):Int)),(28,O ((k:Nat):Int))]/\mJ=((aV m.J aN).aD).length - k/\k<=((aV m.J aN).aD).length/\(BR (kR hs) (aV m.J aN) aN (aV m.J aN).aD=BR (kR hs) (aV m.J aN) aN ((aV m.J aN).aD.drop k))/\Hp b S wJ (dJ g1 48 [O ((aV m.J aN).ID),O ((aV m.J aN).E),gP ((aV m.J aN).Sum),.slice KG (((aV m.J aN).aD).length) KH]::dI dN KG KH ((aV m.J aN).aD)::Io iy A1 c1 A2 c2 A3 c3 A4 c4 A5 c5 A6 c6 A7 c7 m s r Z gm I::dI bW A1 c1 m.aM::dI bD A2 c2 m.J::dI cB A3 c3 m.aU::dI iG A4 c4 s.bZ::dI dB A5 c5 s.bG::dI bA A6 c6 s.bn::aR bA 121 A7 c7 I::jD gm hs::F)) ⟨0,Y,Y,fI _,by rfl,K3⟩ rfl ?_
 rintro _ _ w4 ⟨k,rfl,rfl,hk,azr,K4⟩;refine rg<|ev (iH Y Y)<|dn<|r9 Y (λhc29=>?_) (λhc29=>?_)
 ·refine jQ ?_;refine aZ<|dF<|rg ?_
  obtain⟨x1,bT⟩:=bH (xs:=(aV m.J aN).aD) (i:=k) aj;refine ev (d9 (i:=k) gq wX Y Y Y (aP bT) ((K4.s s1).some_ bT))<|ev (kG jF Y ((K4.s s1).eZ (j:=0) bT Y))<|fE Y<|aZ<|pC 3 Y<|gu Y (auA ((K4.mV 0 2).mV 2 9) x1) ?_
  rintro _ w5 ⟨rfl,K5⟩;have aSb:=(K5.s s1).bI;have aSc:=(K5.s s2).bI;have aSd:=(K5.s s3).bI;have aSe:=(K5.s s4).bI;have aSf:=(K5.s s5).bI;have aSg:=(K5.s s6).bI;refine pA 2 Y<|bS Y (λIa=>?_) (λIa=>?_)
  ·refine tu (mG (tZ (fV ?_)));refine jN<|ev (eG Y Y)<|mv Y<|jO<|dX ⟨(k+1),Y,Y,aj,by rw [azr]; exact avb bT (by first | exact Ia | (rw [Ia]; rfl)),((K5.mV 0 9).mV 9 2)⟩ rfl aj
  refine jQ ?_
  rcases hg1:cZ x1 hs with _ | ⟨gh1,gs1,gm1,Ah1,ch1,up1,rm1,l1,es1⟩
  ·have h7:=Ia; unfold uP at h7; rw [jg,hg1] at h7; exact Bool.noConfusion (show true=false from h7)
  ·have hzf:=hz _ _ hg1;have hup:up1=true:=by have h7:=Ia; unfold uP at h7; rw [jg,hg1] at h7; have h8:(!up1)=false:=h7; simpa using h8
   refine pC 3 Y<|jP iy 13 vE K5 U Y<|mv Y<|ev (Ev.hS K5 s8 hg1 FV zM wI Y Y)<|pq 1 Y<|zA gh1 0 zk Y<|ev (dU Wp Y (K5.FW s8 hg1) Y)<|mv Y ?_
   have H2:=K5.xM s8 hg1;refine gu Y (ah0 ((H2.sel U).mV 1 4) aN (lG hzf.1 au) (hzf.2 _)) ?_;rintro _ w6 ⟨Gi,Gj,rfl,K6⟩;have H3:=Z7 hg1 ((((K6.sel U).sel s6).mV 2 4).sel s6);refine pA 8 Y<|pW ak ak<|bf (dP Y) Y<|bf (wQ Y Y) Y<|bf (dP Y) Y<|rO 5 58 ((decide ((qC l1 es1 aN).2.2=0))&&(decide ((qC l1 es1 aN).2.1=(aV m.J aN).E))) ?_ ?_
   ·cases aUU:decide ((qC l1 es1 aN).2.2=0) with
    | true=>
     refine dM Y (dP Y) Y<|dM Y (fq tO Y Y) Y<|dM Y (dU jF Y (H3.x s10) Y) Y<|dM Y (wQ Y Y) Y<|bf (oP Y Y) Y<|jR Y
    | false=>
     refine dw Y Y Y<|dw Y Y Y<|dw Y Y Y<|dw Y Y Y<|bf (oU Y Y) Y<|jR Y
   refine bf (dP Y) Y<|rO 6 65 (((decide ((qC l1 es1 aN).2.2=0))&&(decide ((qC l1 es1 aN).2.1=(aV m.J aN).E)))&&(decide (((gI ((qC l1 es1 aN).1)).toNat:Int)=(aV m.J aN).Sum))) ?_ ?_
   ·cases aPh:((decide ((qC l1 es1 aN).2.2=0))&&(decide ((qC l1 es1 aN).2.1=(aV m.J aN).E))) with
    | true=>
     have aI8:=aPh
     try simp only [aA] at aI8
     refine dM Y (dP Y) Y<|QS Y Y Y Y auc (λwq eq=>(Qv wq ((H3.o s1).ext eq)).mono (by rintro _ _ ⟨rfl,gH⟩; exact⟨rfl,gH.ext⟩)) rfl<|dM rfl (fq (q:=⟨g1,2,none⟩) JH rfl rfl) rfl<|dM rfl (dU YN rfl (H3.x s10) rfl) rfl<|dM rfl (wQ rfl rfl) rfl<|bf (oP rfl rfl) rfl<|jR rfl
    | false=>
     refine dw Y Y Y<|dw Y Y Y<|dw Y Y Y<|dw Y Y Y<|dw Y Y Y<|bf (oU Y Y) Y<|jR Y
   refine pX λw7 e7=>?_;have K7:=H3.grow e7;refine bS Y (λaj7=>?_) (λaj7=>?_)
   ·refine gD Y<|oJ Y<|fE Y<|jE (jM (gG (gG (jM (gG (uo Y ?_))))))
    have hfd:BR (kR hs) (aV m.J aN) aN (aV m.J aN).aD=((qC l1 es1 aN).1,0):=by rw [azr]; exact ap1 (H:=⟨gh1,gs1,gm1,Ah1,ch1,up1,rm1,l1,es1⟩) bT hg1 hup (by simpa [and_assoc] using aj7)
    have hop:(uW (⟨m,s,r,Z,I,kR hs⟩:PC) aN)=((qC l1 es1 aN).1,0):=by unfold uW; rw [aQ (by rw [show gQ m.J aN=true from by simpa using hc24]; decide)]; exact hfd
    rw [show(uW (⟨m,s,r,Z,I,kR hs⟩:PC) aN).1=(qC l1 es1 aN).1 from by rw [hop]];rw [show(uW (⟨m,s,r,Z,I,kR hs⟩:PC) aN).2=0 from by rw [hop]];exact⟨Gi,Gj,Y,(((K7.cU 10 2).sel U).mV 1 9)⟩
   refine Gw ?_;refine jN<|ev (eG Y Y)<|mv Y<|jO<|dX ⟨(k+1),Y,Y,aj,by rw [azr]; exact aEA bT hg1 (λh9=>by obtain⟨h10,h11,h12⟩:=h9; simp [h10,h11,h12] at aj7),((((K7.rm s1).sel U).mV 1 8).mV 9 2)⟩ rfl aj
 refine BU ?_;refine rg<|oJ Y<|fE Y<|iU Y ?_
 have hop:(uW (⟨m,s,r,Z,I,kR hs⟩:PC) aN)=([],8):=by unfold uW; rw [aQ (by rw [show gQ m.J aN=true from by simpa using hc24]; decide)]; show BR (kR hs) _ aN _=_; rw [azr,Hg aj]; rfl
 rw [show(uW (⟨m,s,r,Z,I,kR hs⟩:PC) aN).1=([]:V (BitVec 8)) from by rw [hop]];rw [show(uW (⟨m,s,r,Z,I,kR hs⟩:PC) aN).2=8 from by rw [hop]];have H4:=K4.nil fP 5;exact⟨none,0,Y,(H4.cU 1 2)⟩
def azs (H0:Hp b S w F)(r:ARules)(hr:l5 r=false):bM prog 5 #[.agg #[O r.lD,O r.l9,O r.All,O r.je,O r.gV,O r.eF]] w λv w'=>v=.tuple #[.pointer none,O 1]/\Hp b S w' F:=by
 refine qN func5 ntmps5 Y<|rg<|bx Y Y H0 λg1 w1 K1=>pA 3 Y<|aZ<|rg<|ev (fA Ls Y Y (K1.x U))<|mX K1 Y (adS (S0:=Any) _ r) λw2 K2=>?_
 have gy:(l5 r:Bool)=false:=by exact hr
 refine gZ (t:=5) Y (aY Value.bool gy)<|pA 2 Y<|bS Y (λ_h=>?_) nofun
 refine rg<|oJ Y<|fE Y<|Aw Y ?_
 exact⟨Y,(K2.rm U)⟩
def aiu(RJ:Int)(Zv:Int)(ahk:Int)(aI9:Int)(aJa:Int)(aJb:Int)(a1:Option Nat):prog.built 66 [(2,.agg #[O RJ,O Zv,O ahk,O aI9,O aJa,O aJb]),(4,.map a1)]=some #[.slice none 0 0,.slice none 0 0,.slice none 0 0,.slice none 0 0,.slice none 0 0,.slice none 0 0,O RJ,O Zv,O ahk,O aI9,O aJa,O aJb,O 0,.map a1,.slice none 0 0]:=ak
def mE:bY:=⟨[],[],[]⟩
def sE:fQ:=⟨[],[],[]⟩
def avd (H0:Hp b S w F)(r:ARules)(hr:l5 r=true):bM prog 5 #[.agg #[O r.lD,O r.l9,O r.All,O r.je,O r.gV,O r.eF]] w λv w'=>∃ gc gm B1 d1 B2 d2 B3 d3 B4 d4 B5 d5 B6 d6 B7 d7,v=.tuple #[fK gc,O 0]/\Hp b S w' (Io gc B1 d1 B2 d2 B3 d3 B4 d4 B5 d5 B6 d6 B7 d7 mE sE r 0 gm ([]:V aL)::dI bW B1 d1 mE.aM::dI bD B2 d2 mE.J::dI cB B3 d3 mE.aU::dI iG B4 d4 sE.bZ::dI dB B5 d5 sE.bG::dI bA B6 d6 sE.bn::aR bA 121 B7 d7 ([]:V aL)::jD gm ([]:kg)::F):=by
 refine qN func5 ntmps5 Y<|rg<|bx Y Y H0 λg1 w1 K1=>pA 3 Y<|aZ<|rg<|ev (fA Ls Y Y (K1.x U))<|mX K1 Y (adS (S0:=Any) _ r) λw2 K2=>?_
 have gy:(l5 r:Bool)=true:=by exact hr
 refine gZ (t:=5) Y (aY Value.bool gy)<|pA 2 Y<|bS Y nofun (λ_h=>?_)
 refine jQ ?_;refine rg<|ev (fA Ls Y Y (K2.x U))<|mkA ekZ evH K2 λg2 w3 K3=>?_
 have H1:=K3.aEi;refine ev (iT Y (by apply aiu))<|bx rfl rfl H1 λg3 w4 K4=>pA 3 rfl<|iU rfl ?_
 have H2:=K4.push (O8 bW _ _);have gH:(([]:V aT):V aT)=mE.aM:=by rfl
 have H3:=H2.push (O8 bD _ _);have kN:(([]:V aH):V aH)=mE.J:=by rfl
 have H4:=H3.push (O8 cB _ _);have nM:(([]:V fB):V fB)=mE.aU:=by rfl
 have H5:=H4.push (O8 iG _ _);have uO:(([]:V eP):V eP)=sE.bZ:=by rfl
 have H6:=H5.push (O8 dB _ _);have H7:=H6.push (O8 bA _ _);have H8:=H7.nil bA 121;exact⟨g3,g2,none,0,none,0,none,0,none,0,none,0,none,0,none,0,Y,by rw [<- gH,<- kN,<- nM,<- uO]; exact(((((((((H8.rm s9).sel U).sel s1).sel s2).sel s3).sel s4).sel s5).sel s6).sel s7)⟩
set_option maxHeartbeats 1000000 in
def ave{c1 c2 c3 c4 c5 c6 c7 gm:Nat}{m:bY}{s:fQ}(H0:Hp b S w (afg iy A1 c1 A2 c2 A3 c3 A4 c4 A5 c5 A6 c6 A7 c7 m s r Z gm I hs F))(hm:lU m=true):bM prog 7 #[fK iy] w λv w'=>∃ wM wN Ab Ad Ae Af,v=.agg #[.slice wM m.aM.length wN,.slice Ab m.J.length Ad,.slice Ae m.aU.length Af]/\Hp b S w' (dI bW wM wN m.aM::dI bD Ab Ad m.J::dI cB Ae Af m.aU::Io iy A1 c1 A2 c2 A3 c3 A4 c4 A5 c5 A6 c6 A7 c7 m s r Z gm I::dI bW A1 c1 m.aM::dI bD A2 c2 m.J::dI cB A3 c3 m.aU::dI iG A4 c4 s.bZ::dI dB A5 c5 s.bG::dI bA A6 c6 s.bn::aR bA 121 A7 c7 I::jD gm hs::F):=by
 refine qN func7 ntmps7 Y ?_;have hzs:=GU hm;have hn:=hzs.1;have hc:=hzs.2.1;have hh:=hzs.2.2.1;have hsz:=hzs.2.2.2;refine rg<|al xK Y H0 λg1 w1 K1=>pB 4 Y<|zA iy 0 Bv Y<|ev (wD (cs':=[.slice A1 m.aM.length c1,.slice A2 m.J.length c2,.slice A3 m.aU.length c3]) xW Y Y (K1.x s1) Y)<|al xK Y K1 λg2 w2 K2=>sty Y K2 U Y λw3 K3=>dn<|He K3 (λ_ K=>(K.cU 0 2)) (λl0 rk lJ wJ=>∃ jG jr oV cj2 wH vG,lJ=l0/\Hp b S wJ (dJ g2 37 [.slice wH m.aM.length vG,.slice jG m.J.length jr,.slice oV m.aU.length cj2]::aR bD 48 jG jr m.J::aR cB 75 oV cj2 m.aU::aR bW 72 wH vG m.aM::dJ g1 37 [.slice none 0 0,.slice none 0 0,.slice none 0 0]::rk)) (λhns H1=>?_) ?_
 ·have k1:=(H1.cU 0 2);refine Iy 0 g2 0 lQ Y k1<|Iy 3 g2 2 R9 Y k1<|Iy 6 g2 1 jC Y k1<|Jn H1 (λl0 rk lJ wJ=>∃ Gi Gj Du Dv sG sH,lJ=(12,.slice sG m.aM.length sH)::(15,.slice Du m.aU.length Dv)::(18,.slice Gi m.J.length Gj)::(19,fK g2)::l0/\Hp b S wJ (aR bD 48 Gi Gj m.J::aR cB 75 Du Dv m.aU::aR bW 72 sG sH m.aM::rk)) 5 1023 ?_ λhS1=>?_
  ·rintro _ w15 ⟨Gi,Gj,Du,Dv,sG,sH,rfl,zI⟩;refine O1 10 Y<|xD Y zI s3 Y λw16 BZ=>?_
   have k9:=(BZ.cU 0 5);refine aO k9<|Iy 11 g2 2 R9 Y k9<|O1 12 Y<|xD Y BZ U Y λw17 zT=>?_
   have k10:=(zT.cU 0 5);refine aO k10<|Iy 13 g2 1 jC Y k10<|O1 14 Y<|xD Y zT U Y λw18 EL=>?_
   have k11:=(EL.cU 0 5);refine aO k11<|Dn ⟨Gi,Gj,Du,Dv,sG,sH,Y,EL⟩ Y
  refine Jn H1 (λl0 rk lJ wJ=>∃ sG sH,lJ=(12,.slice sG m.aM.length sH)::(14,.slice A3 m.aU.length c3)::(17,.slice A2 m.J.length c2)::l0/\Hp b S wJ (aR bW 72 sG sH m.aM::rk)) 8 223 ?_ λhS2=>?_
  ·rintro _ w19 ⟨sG,sH,rfl,Ai⟩;have k12:=(Ai.cU 0 3);refine Iy 9 g2 0 lQ Y k12<|O1 5 Y<|gu Y (Ey _ (Ai.s s6).any aj) ?_
   rintro _ w20 ⟨atH,atI,rfl,h20⟩;have Fg:=Ai.f1 h20;have aPi:=(Fg.o U).bI;have k13:=(Fg.cU 0 4);refine aO k13<|O1 8 Y<|gu Y (vS _ (Fg.s s6) aj) ?_
   rintro _ w21 ⟨aJc,aJd,rfl,h21⟩;have IJ:=Fg.c1 h21;have aPj:=(IJ.o U).bI;have k14:=(IJ.cU 0 5);exact Kj hS1 k14 ⟨aJc,aJd,atH,atI,sG,sH,Y,IJ⟩ Y
  refine Jn H1 (λl0 rk lJ wJ=>∃ sG sH,lJ=(12,.slice sG m.aM.length sH)::(14,.slice A3 m.aU.length c3)::l0/\Hp b S wJ (aR bW 72 sG sH m.aM::rk)) 9 95 ?_ λhS3=>?_
  ·rintro _ w22 ⟨sG,sH,rfl,Hy⟩;refine O2 5 7 Y Y ?_ ?_
   ·refine gu Y (Ey _ (Hy.s s6).any aj) ?_;rintro _ w23 ⟨atJ,atK,rfl,h23⟩;have Le:=Hy.f1 h23;have aPk:=(Le.o U).bI;have k15:=(Le.cU 0 4);refine aO k15<|O1 7 Y<|lY Le s2 Y<|aO k15<|Iy 9 g2 0 lQ Y k15<|O1 8 Y<|gu Y (vS _ (Le.s s6) aj) ?_
    rintro _ w24 ⟨asO,asP,rfl,h24⟩;have pz:=Le.c1 h24;have aC5:=(pz.o U).bI;have k16:=(pz.cU 0 5);exact Kj hS1 k16 ⟨asO,asP,atJ,atK,sG,sH,Y,pz⟩ Y
   ·refine lY Hy s1 Y ?_;have k17:=(Hy.cU 0 3);exact Kj hS2 k17 ⟨sG,sH,Y,Hy⟩ Y
  refine Jn H1 (λl0 rk lJ wJ=>∃ sG sH,lJ=(12,.slice sG m.aM.length sH)::(17,.slice A2 m.J.length c2)::l0/\Hp b S wJ (aR bW 72 sG sH m.aM::rk)) 9 207 ?_ λhS4=>?_
  ·rintro _ w25 ⟨sG,sH,rfl,DU⟩;refine O1 4 Y<|lY DU s1 Y ?_
   have k18:=(DU.cU 0 3);exact Kj hS2 k18 ⟨sG,sH,Y,DU⟩ Y
  refine Jn H1 (λl0 rk lJ wJ=>lJ=(11,.slice A1 m.aM.length c1)::(14,.slice A3 m.aU.length c3)::(17,.slice A2 m.J.length c2)::l0/\Hp b S wJ rk) 9 219 ?_ λhS5=>?_
  ·rintro _ w26 ⟨rfl,JU⟩;refine O1 2 Y<|gu Y (ni _ (JU.s s3).any aj) ?_
   rintro _ w27 ⟨aJe,aJf,rfl,h27⟩;have LG:=JU.f1 h27;have aPl:=(LG.o U).bI;have k19:=(LG.cU 0 3);exact Kj hS2 k19 ⟨aJe,aJf,Y,LG⟩ Y
  refine Jn H1 (λl0 rk lJ wJ=>lJ=(11,.slice A1 m.aM.length c1)::(14,.slice A3 m.aU.length c3)::l0/\Hp b S wJ rk) 10 91 ?_ λhS6=>?_
  ·rintro _ w28 ⟨rfl,Fh⟩;refine O2 2 7 Y Y ?_ ?_
   ·refine gu Y (ni _ (Fh.s s3).any aj) ?_;rintro _ w29 ⟨aJg,aJh,rfl,h29⟩;have Fp:=Fh.f1 h29;have au8:=(Fp.o U).bI;have k20:=(Fp.cU 0 3);exact Kj hS3 k20 ⟨aJg,aJh,Y,Fp⟩ Y
   ·refine lY Fh U Y ?_;have k21:=(Fh.cU 0 2);exact Kj hS5 k21 ⟨Y,Fh⟩ Y
  refine Jn H1 (λl0 rk lJ wJ=>lJ=(11,.slice A1 m.aM.length c1)::(17,.slice A2 m.J.length c2)::l0/\Hp b S wJ rk) 10 203 ?_ λhS7=>?_
  ·rintro _ w30 ⟨rfl,Fq⟩;refine O2 2 4 Y Y ?_ ?_
   ·refine gu Y (ni _ (Fq.s s3).any aj) ?_;rintro _ w31 ⟨aJi,aJj,rfl,h31⟩;have Lh:=Fq.f1 h31;have aEB:=(Lh.o U).bI;have k22:=(Lh.cU 0 3);exact Kj hS4 k22 ⟨aJi,aJj,Y,Lh⟩ Y
   ·refine lY Fq U Y ?_;have k23:=(Fq.cU 0 2);exact Kj hS5 k23 ⟨Y,Fq⟩ Y
  refine Jn H1 (λl0 rk lJ wJ=>lJ=(14,.slice A3 m.aU.length c3)::(17,.slice A2 m.J.length c2)::l0/\Hp b S wJ rk) 10 217 ?_ λhS8=>?_
  ·rintro _ w32 ⟨rfl,M4⟩;refine O1 1 Y<|lY M4 U Y ?_
   have k24:=(M4.cU 0 2);exact Kj hS5 k24 ⟨Y,M4⟩ Y
  refine xX (fuel:=11) (rs:=[1,4,7]) ak au ?_
  simp only [rP,lH,wU,wV,uw]
  refine⟨?_,?_,?_⟩
  ·refine⟨_,Y,?_⟩;refine lY H1 U Y<|aO k1<|xX (fuel:=10) (rs:=[2,4,7]) ak au ?_
   simp only [rP,lH,wU,wV,uw]
   refine⟨?_,?_,?_⟩
   ·refine⟨_,Y,?_⟩;refine gu Y (ni _ (H1.s s3).any aj) ?_;rintro _ w33 ⟨aBu,aBv,rfl,h33⟩;have P7:=H1.f1 h33;have aEy:=(P7.o U).bI;have k25:=(P7.cU 0 3);refine aO k25<|O2 4 7 Y Y ?_ ?_
    ·refine lY P7 s1 Y<|Kj hS3 k25 ⟨aBu,aBv,Y,P7⟩ Y
    ·refine lY P7 s1 Y<|Kj hS4 k25 ⟨aBu,aBv,Y,P7⟩ Y
   ·refine⟨_,Y,?_⟩;refine lY H1 U Y<|Kj hS6 k1 ⟨Y,H1⟩ Y
   ·refine⟨_,Y,?_⟩;refine lY H1 U Y<|Kj hS7 k1 ⟨Y,H1⟩ Y
  ·refine⟨_,Y,?_⟩;refine lY H1 U Y<|aO k1<|O2 1 7 Y Y ?_ ?_
   ·refine lY H1 U Y<|Kj hS6 k1 ⟨Y,H1⟩ Y
   ·refine lY H1 U Y<|Kj hS8 k1 ⟨Y,H1⟩ Y
  ·refine⟨_,Y,?_⟩;refine lY H1 U Y<|aO k1<|O2 1 4 Y Y ?_ ?_
   ·refine lY H1 U Y<|Kj hS7 k1 ⟨Y,H1⟩ Y
   ·refine lY H1 U Y<|Kj hS8 k1 ⟨Y,H1⟩ Y
 rintro _ w34 ⟨jG,jr,oV,cj2,wH,vG,rfl,Xd⟩;refine aZ ?_;obtain⟨QX,agn,HK1⟩:=Hp.toK Xd s1;have HK2:=HK1.af8 dN 3;have ajM:QX.length=m.J.length:=by rw [<- agn,jW]
 have HK3:=HK2;rw [<- ajM] at HK3;refine rg<|jP g2 1 jC HK3 s3 Y<|pA 3 Y<|dF ?_
 have gy:[]=((QX.take 0).map rQ):=by rfl
 rw [gy] at HK3;refine qh (λmJ lJ wJ=>∃(k:Nat)(ks:V bE),lJ=[(2,fK g1),(3,fK g2),(23,.slice jG ks.length jr),(24,O ((QX.length:Nat):Int)),(25,O ((k:Nat):Int))]/\mJ=QX.length - k/\k<=QX.length/\(ks.length=QX.length)/\(ks.map bE.c=m.J)/\(∀ j,k<=j->ks[j]? = QX[j]?)/\Hp b S wJ (aR tK 48 jG jr ks::fH dN 3 ((ks.take k).map rQ)::WG dN (QX.map rQ)::dJ g2 37 [.slice wH m.aM.length vG,.slice jG QX.length jr,.slice oV m.aU.length cj2]::aR cB 75 oV cj2 m.aU::aR bW 72 wH vG m.aM::dJ g1 37 [.slice none 0 0,.slice none 0 0,.slice none 0 0]::Io iy A1 c1 A2 c2 A3 c3 A4 c4 A5 c5 A6 c6 A7 c7 m s r Z gm I::dI bW A1 c1 m.aM::dI bD A2 c2 m.J::dI cB A3 c3 m.aU::dI iG A4 c4 s.bZ::dI dB A5 c5 s.bG::dI bA A6 c6 s.bn::aR bA 121 A7 c7 I::jD gm hs::F)) ⟨0,QX,Y,Y,fI _,by rfl,by exact agn,by intro j _; rfl,((HK3.sel U).sel s1)⟩ rfl ?_;rintro _ _ w35 ⟨k,ks,rfl,rfl,hk,hkn,hka,hkb,K35⟩;refine rg<|ev (iH Y Y)<|dn<|r9 Y (λPg=>?_) (λPg=>?_)
 ·refine jQ ?_;refine aZ<|dF<|gD Y ?_
  obtain⟨x1,bT⟩:=bH (xs:=ks) (i:=k) aj;refine ev (d9 (i:=k) lT tH Y Y Y (aP bT) ((K35.o U).some_ bT))<|ev (iR p8 Y Y ((K35.o U).fF bT))<|al lX Y K35 λg3 w36 K36=>oJ Y<|sty Y K36 U Y λw37 V8=>dn ?_
  have hin:=V8.aB4 s3 (eX.2 ⟨x1,dz (by rw [<- hkb k (j4 _)]; exact bT),rfl⟩:(x1.B,x1.d,x1.c.aD)∈_);have hHl:x1.c.aD.length<=100000:=hh x1.c (by rw [<- hka]; exact eX.2 ⟨x1,dz bT,rfl⟩);have H2:=V8.push hin;refine Hf H2 (λ_ K=>(K.rm s2)) (λl0 rk lJ wJ=>∃ BL BM,lJ=(23,.slice jG ((ks.set k ({ x1 with B:=BL,d:=BM }:bE)).length) jr)::l0/\Hp b S wJ (aR tK 48 jG jr (ks.set k ({ x1 with B:=BL,d:=BM }:bE))::aR dN 3 BL BM x1.c.aD::rk)) (λhns H3=>?_) ?_
  ·have k26:=(H3.rm s2);refine Iy 0 g2 1 jC Y k26<|kI 1 Y (λ_ hK=>show Ev _ _ _ _ _ (.slice jG ks.length jr) from by rw [hkn]; exact(dU alX rfl (hK.x s4) rfl)) k26<|lF 2 rfl rfl k26<|mK 3 4 g3 3 kr s1 rfl k26<|O1 5 rfl<|gu rfl (sw _ (H3.s U).any aj) ?_
   rintro _ w38 ⟨Wh,Wi,rfl,h38⟩;have K38:=H3.f1 h38;have k27:=((K38.rm s3).rm U);refine aO k27<|O1 6 Y<|ev (d9 (i:=k) lT tH Y Y Y (aP bT) ((K38.o s3).some_ bT))<|aO k27<|kI 7 Y (λ_ _=>fq kr Y (fD _ _ _)) k27<|O1 8 Y<|se (x':=({ x1 with B:=Wh,d:=Wi }:bE)) K38 s3 Y Y Y bT Y VU (nU Y) Y (by rintro _ _ _ ⟨⟩; rfl) λw39 K39=>?_
   have hl1:(ks.set k ({ x1 with B:=Wh,d:=Wi }:bE)).length=ks.length:=iC ..;refine gZ (t:=23) (u:=.slice jG ks.length jr) (v:=.slice jG ((ks.set k ({ x1 with B:=Wh,d:=Wi }:bE)).length) jr) Y (by rw [hl1])<|gZ (t:=31) (u:=.slice jG ks.length jr) (v:=.slice jG ((ks.set k ({ x1 with B:=Wh,d:=Wi }:bE)).length) jr) rfl (by rw [hl1]) ?_
   have k28:=(K39.cU 0 2);refine aO k28<|Dn ⟨Wh,Wi,Y,K39⟩ Y
  rintro _ w40 ⟨BL,BM,rfl,K40⟩;refine iF (fV ?_);have H4:=K40.QV s1 s3;refine jN<|ev (eG Y Y)<|mv Y<|jO ?_
  have gH:((ks.take k).map rQ)++[(BL,BM,x1.c.aD)]=(((ks.set k ({ x1 with B:=BL,d:=BM }:bE)).take (k+1)).map rQ):=by rw [Uu bT]; rfl
  rw [gH] at H4;exact dX ⟨(k+1),(ks.set k ({ x1 with B:=BL,d:=BM }:bE)),Y,Y,aj,by rw [iC]; exact hkn,by refine(YH bT ?_).trans hka; rfl,by intro j hj; rw [Jv aj]; exact hkb j aj,(((H4.cU 2 2).sel U).sel s1)⟩ rfl aj
 refine BU ?_;have hfin:ks.take k=ks:=gY aj;have H5:=K35;rw [hfin] at H5;have H6:=H5.Yu s1;have H7:=H6.ofK s1 U;rw [hka,ajM] at H7;refine rg<|ev (fA xW Y Y (H7.x s2))<|sty Y H7 s5 Y λw41 K41=>dn<|jE (qL Y ⟨_,_,Y,⟨_,Y,jo (cs:=[.slice wH m.aM.length vG,.slice jG m.J.length jr,.slice oV m.aU.length cj2]) xW Y (K41.x U)⟩,Y⟩ ?_)
 have H8:=K41.fz s5;have H9:=H8.fz s2;have H10:=H9.fz s5;exact⟨wH,vG,jG,jr,oV,cj2,Y,((((H10.cU 3 3).sel U).sel s1).sel s2)⟩
end
section
variable {c:PC}{it:AItem}{b w:World}{S:Nat->Prop}{F:List kF}{iy:Nat}{h:kV}
def aBw:Size prog 32 4:=ay
def DI:WC prog 32 4:=⟨λ_=>by kernel_rfl,aBw⟩
def aJk:bC prog 20:=ay
def aJl:bC prog 21:=ay
def aJm:bC prog 22:=ay
def aJn:bC prog 23:=ay
def avf:bC prog 24:=ay
def aJo:bC prog 25:=ay
def aJp:bC prog 27:=ay
def aJq:bC prog 28:=ay
def aJr:bC prog 29:=ay
def aJs:bC prog 30:=ay
def aJt:bC prog 31:=ay
def aJu:bC prog 32:=ay
def aJv:bC prog 33:=ay
def azt:∀ w,(zeroValue 30).run prog w=.ok (.nilFunc) w:=ay
structure GC where
  A1:Option Addr
  c1:Nat
  A2:Option Addr
  c2:Nat
  A3:Option Addr
  c3:Nat
  A4:Option Addr
  c4:Nat
  A5:Option Addr
  c5:Nat
  A6:Option Addr
  c6:Nat
  A7:Option Addr
  c7:Nat
  m:bY
  s:fQ
  r:ARules
  Z:Int
  gm:Nat
  I:List aL
  hs:kg
def GC.pl(G:GC):PC:=⟨G.m,G.s,G.r,G.Z,G.I,kR G.hs⟩
def GC.rs(G:GC)(iy:Nat):List kF:=[jD G.gm G.hs,Io iy G.A1 G.c1 G.A2 G.c2 G.A3 G.c3 G.A4 G.c4 G.A5 G.c5 G.A6 G.c6 G.A7 G.c7 G.m G.s G.r G.Z G.gm G.I,dI bW G.A1 G.c1 G.m.aM,dI bD G.A2 G.c2 G.m.J,dI cB G.A3 G.c3 G.m.aU,dI iG G.A4 G.c4 G.s.bZ,dI dB G.A5 G.c5 G.s.bG,dI bA G.A6 G.c6 G.s.bn,aR bA 121 G.A7 G.c7 G.I]
instance Ap.g{iy:Nat}{F:List kF}{A1:ah}{c1:Nat}{A2:ah}{c2:Nat}{A3:ah}{c3:Nat}{A4:ah}{c4:Nat}{A5:ah}{c5:Nat}{A6:ah}{c6:Nat}{A7:ah}{c7:Nat}{m:bY}{s:fQ}{r:ARules}{Z:Int}{gm:Nat}{I:List aL}{hs:kg}:Ap (GC.rs ⟨A1,c1,A2,c2,A3,c3,A4,c4,A5,c5,A6,c6,A7,c7,m,s,r,Z,gm,I,hs⟩ iy) F (jD gm hs::Io iy A1 c1 A2 c2 A3 c3 A4 c4 A5 c5 A6 c6 A7 c7 m s r Z gm I::dI bW A1 c1 m.aM::dI bD A2 c2 m.J::dI cB A3 c3 m.aU::dI iG A4 c4 s.bZ::dI dB A5 c5 s.bG::dI bA A6 c6 s.bn::aR bA 121 A7 c7 I::F):=⟨rfl⟩
structure Ok (c:PC):Prop where
  hm:lU c.m=true
  hr:l5 c.r=true
  hb:c.s.bZ.length<=1000
  hl:c.s.bG.length<=64
  hd:c.s.bn.length<=50000
  hu:0<=c.Z/\c.Z<=549755813888
  hw:c.I.length<=500000
  hz:∀ z h,cZ z c.hs=some h->h.l.length<=900/\∀ k,(oH k h.d).length<=1000
  hN:∀ n∈c.m.aM,(cZ n.ID c.hs).isSome=true
def avg{hs:kg}(h:∀ z h,cZ z (kR hs)=some h->h.l.length<=900/\∀ k,(oH k h.d).length<=1000):∀ z h,cZ z hs=some h->h.l.length<=900/\∀ k,(fU k h.es).2.2.length<=1000:=λz g hg=>by
 have h1:=h z g.pl (by rw [jg,hg]; rfl);exact⟨h1.1,λk=>by have:=h1.2 k; rwa [show g.pl.d=Nv g.es from rfl,OB] at this⟩
def aBx{hs:kg}(h:∀ z h,cZ z hs=some h->h.l.length<=900/\∀ k,(fU k h.es).2.2.length<=1000):hSz hs:=λz g hg=>⟨lG (h z g hg).1 au,(h z g hg).2⟩
def aJw{m:bY}{hs:kg}(h:∀ n∈m.aM,(cZ n.ID (kR hs)).isSome=true):∀ n∈m.aM,(cZ n.ID hs).isSome=true:=λn hn=>by
 have:=h n hn
 rwa [jg,Option.isSome_map] at this
def avh{r:ARules}{Z:Int}{hs:jc}(h1:r=c.r)(h2:Z=c.Z)(h3:hs=c.hs):(⟨c.m,c.s,r,Z,c.I,hs⟩:PC)=c:=by subst h1 h2 h3; rfl
def aEC{s:fQ}{r:ARules}{Z:Int}{I:V aL}{hs:jc}(h0:s=c.s)(h1:r=c.r)(h2:Z=c.Z)(h4:I=c.I)(h3:hs=c.hs):(⟨c.m,s,r,Z,I,hs⟩:PC)=c:=by subst h0 h1 h2 h4 h3; rfl
def Vj(c:PC)(it:AItem):(kM c it).1.r=c.r/\(kM c it).1.Z=c.Z:=by
 unfold kM
 split
 ·exact⟨rfl,rfl⟩
 ·split
  ·exact⟨rfl,rfl⟩
  ·split
   ·exact⟨rfl,rfl⟩
   ·split
    ·have h:=amS { c with I:=c.I.take it.A.toNat++c.I.drop (it.A.toNat+1) }
     exact⟨(h _).2.2,(h _).2.1⟩
    ·exact⟨rfl,rfl⟩
def afh(c:PC)(it:AItem):(rz c it).1.s=c.s/\(rz c it).1.r=c.r/\(rz c it).1.Z=c.Z/\(rz c it).1.I=c.I:=by
 unfold rz
 split
 ·exact⟨rfl,rfl,rfl,rfl⟩
 ·split <;> exact⟨rfl,rfl,rfl,rfl⟩
def aPm(h:it.Kind=0):nJ c it=({ c with Z:=if it.A<0∨100<it.A then c.Z else c.Z+it.A },if it.A<0∨100<it.A then 1 else 0):=by
 unfold nJ; rw [aS h]; split <;> rfl
def aPn(h:it.Kind=1):nJ c it=apB c it:=by unfold nJ; rw [h]; rfl
def aPo(h:it.Kind=2):nJ c it=({ c with m:=rJ c.m ⟨0,0,2,it.A,it.B,0⟩ },knE c.m ⟨0,0,2,it.A,it.B,0⟩):=by unfold nJ; rw [h]; rfl
def aPp(h:it.Kind=5):nJ c it=(tq c,0):=by unfold nJ; rw [h]; rfl
def ak0(h:it.Kind=6∨it.Kind=7∨it.Kind=8):nJ c it=kM c it:=by
 unfold nJ; rw [aQ aj,aQ aj,aQ aj,aQ aj,aS h]
def aJx(h:it.Kind=11):nJ c it=rz c it:=by unfold nJ; rw [h]; rfl
def aJy(h:it.Kind<0∨14<it.Kind):nJ c it=(c,1):=by
 unfold nJ; rw [aQ aj,aQ aj,aQ aj,aQ aj,aQ aj,aQ aj,aS h]
def avi(h:it.Kind=3∨it.Kind=4∨it.Kind=9∨it.Kind=10∨it.Kind=12∨it.Kind=13∨it.Kind=14):nJ c it=match cZ it.A c.hs with
  | none=>(c,5)
  | some h=>if vD it.Kind=some (!h.up) then(c,8) else Il c it h:=by
 unfold nJ; rw [aQ aj,aQ aj,aQ aj,aQ aj,aQ aj,aQ aj,aQ aj]; rfl
def KI(h:it.Kind=3∨it.Kind=4∨it.Kind=9∨it.Kind=10∨it.Kind=12∨it.Kind=13∨it.Kind=14)(hg:cZ it.A c.hs=none):nJ c it=(c,5):=by rw [avi h,hg]
def QC(h:it.Kind=3∨it.Kind=4∨it.Kind=9∨it.Kind=10∨it.Kind=12∨it.Kind=13∨it.Kind=14){g:kV}(hg:cZ it.A c.hs=some g)(hn:vD it.Kind=some (!g.up)):nJ c it=(c,8):=by rw [avi h,hg]; exact aS hn
def aao(h:it.Kind=3∨it.Kind=4∨it.Kind=9∨it.Kind=10∨it.Kind=12∨it.Kind=13∨it.Kind=14){g:kV}(hg:cZ it.A c.hs=some g)(hn:¬ vD it.Kind=some (!g.up)):nJ c it=Il c it g:=by rw [avi h,hg]; exact aQ hn
def QD{fd:FuncId}{pa qa:Array Value}{gv:Nat}(H0:Hp b S w F)(needs:Bool)(up:Bool):bM prog 26 #[fK gv,.bool needs,.bool up,.func (.func fd) pa qa] w λv w'=>∃ ga gb gd ge,v=.func (.func 75) #[] #[fK ga,fK gb,fK gd,fK ge]/\Hp b S w' (dJ ga 26 [fK gv]::dJ gb 4 [.bool needs]::dJ gd 4 [.bool up]::dJ ge 68 [.func (.func fd) pa qa]::F):=by
 refine qN func26 ntmps26 Y<|rg<|bx Y Y H0 λg1 w1 K1=>bx Y Y K1 λg2 w2 K2=>bx Y Y K2 λg3 w3 K3=>bx Y Y K3 λg4 w4 K4=>fE Y<|rg<|ev (rZ Y)<|fE Y<|iU Y ?_
 exact⟨g1,g2,g3,g4,Y,((((K4.sel U).sel s1).sel s2).sel s3)⟩
abbrev afi(gX:Nat)(iP:ah)(xE:Nat)(AU:ah)(Gg:Nat)(R5:ah)(V9:Nat)(y7z:ah)(y8z:Nat)(y9z:ah)(Tc:Nat)(Td:ah)(Tf:Nat)(Ti:ah)(Tj:Nat)(EB:bY)(EC:fQ)(aeP:ARules)(aeQ:Int)(Tn:Nat)(Tq:List aL)(aeR:kg)(aeS:List kF):=Io gX iP xE AU Gg R5 V9 y7z y8z y9z Tc Td Tf Ti Tj EB EC aeP aeQ Tn Tq::dI bW iP xE EB.aM::dI bD AU Gg EB.J::dI cB R5 V9 EB.aU::dI iG y7z y8z EC.bZ::dI dB y9z Tc EC.bG::dI bA Td Tf EC.bn::aR bA 121 Ti Tj Tq::jD Tn aeR::aeS
def KJ{fd:FuncId}{g4 g5 g6 g7:Nat}{needs up:Bool}{A1 A2 A3 A4 A5 A6 A7:ah}{c1 c2 c3 c4 c5 c6 c7 gm:Nat}{m:bY}{s:fQ}{r:ARules}{Z:Int}{I:V aL}{hs:kg}(H0:Hp b S w (dJ g4 26 [fK iy]::dJ g5 4 [.bool needs]::dJ g6 4 [.bool up]::dJ g7 68 [.func (.func fd) #[fK iy] #[]]::Io iy A1 c1 A2 c2 A3 c3 A4 c4 A5 c5 A6 c6 A7 c7 m s r Z gm I::dI bW A1 c1 m.aM::dI bD A2 c2 m.J::dI cB A3 c3 m.aU::dI iG A4 c4 s.bZ::dI dB A5 c5 s.bG::dI bA A6 c6 s.bn::aR bA 121 A7 c7 I::jD gm hs::F))(it:AItem)(qd:bC prog fd){R:Value->World->Prop}
    (h5:cZ it.A hs=none->∀ w',Hp b S w' (afi iy A1 c1 A2 c2 A3 c3 A4 c4 A5 c5 A6 c6 A7 c7 m s r Z gm I hs F)->R (O 5) w')
    (h8:∀ h,cZ it.A hs=some h->needs=true->(h.up == up)=false->∀ w',Hp b S w' (afi iy A1 c1 A2 c2 A3 c3 A4 c4 A5 c5 A6 c6 A7 c7 m s r Z gm I hs F)->R (O 8) w')
    (hd:∀ h,cZ it.A hs=some h->¬ (needs=true/\(h.up == up)=false)->∀ w',Hp b S w' (afi iy A1 c1 A2 c2 A3 c3 A4 c4 A5 c5 A6 c6 A7 c7 m s r Z gm I hs F)->bM prog fd #[fK iy,.agg #[O it.Kind,O it.A,O it.B,O it.C],fK h.gh] w' R) :
    bM prog 75 #[.agg #[O it.Kind,O it.A,O it.B,O it.C],fK g4,fK g5,fK g6,fK g7] w R:=by
 refine qN func75 ntmps75 Y<|rg<|bx Y Y H0 λg1 w1 K1=>fE Y ?_
 rcases hg1:cZ it.A hs with _ | ⟨gh1,gs1,gm1,Ah1,ch1,up1,rm1,l1,es1⟩
 ·refine pW ak ak<|bf (dU auV Y (K1.x s1) Y) Y<|bf (nH Y) Y<|bf (fq vE Y Y) Y<|bf (dU Wq Y (K1.x s5) Y) Y<|bf (fq nA Y Y) Y<|bf (dU jF Y (K1.x U) Y) Y<|bf (Ev.hN K1 s13 hg1 FV zM wI Y Y) Y<|bf (tF Y) Y<|pX λw2 e2=>?_
  have K2:=K1.grow e2;refine aZ<|dF<|gD Y<|ev (Ev.an9 DV Y Y)<|fE Y<|bS Y (λ_h=>?_) nofun
  refine kX Y<|YC Y ?_
  exact h5 hg1 _ (K2.cU 0 5)
 ·refine pW ak ak<|bf (dU auV Y (K1.x s1) Y) Y<|bf (nH Y) Y<|bf (fq vE Y Y) Y<|bf (dU Wq Y (K1.x s5) Y) Y<|bf (fq nA Y Y) Y<|bf (dU jF Y (K1.x U) Y) Y<|bf (Ev.hS K1 s13 hg1 FV zM wI Y Y) Y<|bf (tF Y) Y<|pX λw3 e3=>?_
  have K3:=K1.grow e3;refine aZ<|dF<|gD Y<|ev (Ev.an9 DV Y Y)<|fE Y<|bS Y nofun (λ_h=>?_)
  refine pW ak ak<|bf (dU akD Y (K3.x s2) Y) Y<|bf (dP Y) Y<|rO 7 27 (needs&&(!(up1 == up))) ?_ ?_
  ·cases adk:needs with
   | true=>
    refine dM Y (dP Y) Y<|dM Y (nH Y) Y<|dM Y (fq KD Y Y) Y<|dM Y (dU akD Y (K3.FW s13 hg1) Y) Y<|dM Y (dU akD Y (K3.x s3) Y) Y<|dM Y (Ev.neb Uo Y Y) Y<|bf (oP Y Y) Y<|jR Y
   | false=>
    refine dw Y Y Y<|dw Y Y Y<|dw Y Y Y<|dw Y Y Y<|dw Y Y Y<|dw Y Y Y<|bf (oU Y Y) Y<|jR Y
  refine bf (tF Y) Y<|pX λw4 e4=>?_
  have K4:=K3.grow e4;refine bS Y (λhc18=>?_) (λhc18=>?_)
  ·refine kX Y<|YC Y ?_
   exact h8 _ hg1 (by revert hc18; cases needs <;> simp) (by revert hc18; cases needs <;> simp) _ (K4.cU 0 5)
  refine Gw ?_;refine rg<|lY K4 s4 Y<|ev (fA DI Y Y (K4.x U))<|mv Y<|Hq Y Y Y qd (hd _ hg1 (λh9=>by obtain⟨h10,h11⟩:=h9; simp_all) _ (K4.cU 0 5)) rfl ?_
  intro v9 w5 Aa;refine fE Y<|iU Y ?_
  exact Aa
def azu(k:Int):k=0∨k=1∨k=2∨k=5∨k=6∨k=7∨k=8∨k=11∨k=3∨k=4∨k=9∨k=10∨k=12∨k=13∨k=14∨(k<0∨14<k):=aj
def DoR(b:World)(S:Nat->Prop)(F:List kF)(iy:Nat)(c:PC)(it:AItem)(v:Value)(w:World):Prop:=∃ G':GC,v=.int .i64 (nJ c it).2/\G'.pl=(nJ c it).1/\Hp b S w (G'.rs iy++F)
theorem DoR.mk{c':PC}{e:Int}(G':GC)(hd:nJ c it=(c',e))(hp:G'.pl=c')(H:Hp b S w (G'.rs iy++F)):DoR b S F iy c it (O e) w:=⟨G',by rw [hd],by rw [hd]; exact hp,H⟩
def nR:=@DoR.mk
def aJz(hk:it.Kind=3):Il c it h=({ c with s:=⟨uN c.s.bZ it.A c.Z,c.s.bG,c.s.bn⟩ },0):=by unfold Il; rw [hk]; rfl
def aJA(hk:it.Kind=4):Il c it h=(LU c it h,0):=by unfold Il; rw [hk]; rfl
def aJB(hk:it.Kind=9):Il c it h=({ c with hs:=fO it.A { h with up:=false } c.hs },0):=by unfold Il; rw [hk]; rfl
def aED(hk:it.Kind=10):Il c it h=({ c with hs:=fO it.A ⟨true,h.bB,(abt h.l h.d).1,(abt h.l h.d).2⟩ c.hs },0):=by unfold Il; rw [hk]; rfl
def aEE(hk:it.Kind=12):Il c it h=({ c with hs:=fO it.A ⟨h.up,h.bB,(Ih h.l h.d).1,(Ih h.l h.d).2⟩ c.hs },0):=by unfold Il; rw [hk]; rfl
def aEF(hk:it.Kind=13):Il c it h=({ c with hs:=fO it.A { h with d:=aeO it.B it.C h.d } c.hs },if(oH ⟨it.B,false⟩ h.d).length=0 then 5 else 0):=by unfold Il; rw [hk]; rfl
def aEG(hk:it.Kind=14):Il c it h=({ c with hs:=fO it.A ⟨h.up,h.bB,[],[]⟩ c.hs },0):=by unfold Il; rw [hk]; rfl
set_option maxHeartbeats 20000000 in
def aEH{G:GC}(H0:Hp b S w (G.rs iy++F))(it:AItem)(hok:Ok G.pl)(hC:vJ it.C):bM prog 6 #[fK iy,.agg #[O it.Kind,O it.A,O it.B,O it.C]] w (DoR b S F iy G.pl it):=by
 obtain⟨A1,c1,A2,c2,A3,c3,A4,c4,A5,c5,A6,c6,A7,c7,m,s,r,Z,gm,I,hs⟩:=G;have H1:Hp b S w (jD gm hs::Io iy A1 c1 A2 c2 A3 c3 A4 c4 A5 c5 A6 c6 A7 c7 m s r Z gm I::dI bW A1 c1 m.aM::dI bD A2 c2 m.J::dI cB A3 c3 m.aU::dI iG A4 c4 s.bZ::dI dB A5 c5 s.bG::dI bA A6 c6 s.bn::aR bA 121 A7 c7 I::F):=H0;have hm:lU m=true:=hok.hm;have hr:l5 r=true:=hok.hr;have hb:s.bZ.length<=1000:=hok.hb;have hl:s.bG.length<=64:=hok.hl;have hd:s.bn.length<=50000:=hok.hd;have hu:0<=Z/\Z<=549755813888:=hok.hu;have hw:I.length<=500000:=hok.hw;have hz:=avg hok.hz;have hz2:=aBx hz;have hz9:∀ z h,cZ z hs=some h->h.l.length<=900:=λz h hg=>(hz z h hg).1;have hN:=aJw hok.hN;refine qN func6 ntmps6 Y<|rg<|bx Y Y H1 λg1 w1 K1=>fE Y<|rg<|mkm K1 Y λg2 w2 K2=>mv Y<|ev (yg Y Y)<|ins K2 U Y Y Y nI ig Y λw3 K3=>mv Y<|ev (yg Y Y)<|ins K3 U Y Y Y nI ig Y λw4 K4=>mv Y<|ev (yg Y Y)<|ins K4 U Y Y Y nI ig Y λw5 K5=>mv Y<|ev (yg Y Y)<|ins K5 U Y Y Y nI ig Y λw6 K6=>mv Y<|ev (yg Y Y)<|ins K6 U Y Y Y nI ig Y λw7 K7=>mv Y<|ev (yg Y Y)<|ins K7 U Y Y Y nI ig Y λw8 K8=>mv Y<|ev (yg Y Y) ?_
 refine ins K8 U Y Y Y nI ig Y λw9 K9=>mv Y<|ev (yg Y Y)<|ins K9 U Y Y Y nI ig Y λPE K10=>pq 2 Y<|ev (yg Y Y)<|gu Y (QD K10 true true) ?_
 rintro _ VY ⟨aSh,aSi,aSj,aSk,rfl,vF⟩;refine ins vF s4 Y Y Y nI ig Y λUy uR=>pq 2 Y<|ev (yg Y Y)<|gu Y (QD uR true true) ?_
 rintro _ YX ⟨aSl,aSm,aSn,aSo,rfl,xk⟩;refine ins xk s4 Y Y Y nI ig Y λw14 wF=>pq 2 Y<|ev (yg Y Y)<|gu Y (QD wF true true) ?_
 rintro _ w15 ⟨aSp,aSq,aSr,aSs,rfl,zI⟩;refine ins zI s4 Y Y Y nI ig Y λw16 BZ=>pq 2 Y<|ev (yg Y Y)<|gu Y (QD BZ true false) ?_
 rintro _ w17 ⟨aSt,aSu,aSv,aSw,rfl,zT⟩;refine ins zT s4 Y Y Y nI ig Y λw18 EL=>pq 2 Y<|ev (yg Y Y)<|gu Y (QD EL true true) ?_
 rintro _ w19 ⟨aSx,aSy,aSz,aSA,rfl,Ai⟩;refine ins Ai s4 Y Y Y nI ig Y λw20 Fg=>pq 2 Y<|ev (yg Y Y)<|gu Y (QD Fg false false) ?_
 rintro _ w21 ⟨aSB,aSC,aSD,aSE,rfl,IJ⟩;refine ins IJ s4 Y Y Y nI ig Y λw22 Hy=>pq 2 Y<|ev (yg Y Y)<|gu Y (QD Hy false false) ?_
 rintro _ w23 ⟨aSF,aSG,aSH,aSI,rfl,Le⟩;refine ins Le s4 Y Y Y nI ig Y λw24 pz=>pA 3 Y<|WP.keep' [(3,fK g1),(5,.map (some g2))] Y ?_
 rcases azu it.Kind with hkd | hkd | hkd | hkd | hkd | hkd | hkd | hkd | hkd | hkd | hkd | hkd | hkd | hkd | hkd | hkd
 ·refine gD Y<|jP g1 0 qz pz (sx 29) Y<|ev (yc pz U Y Y nI ig (by rw [hkd]; rfl))<|fE rfl<|aZ<|gD rfl<|ev (zL yx rfl)<|dn<|bS rfl nofun (λ_h=>?_)
  refine jQ ?_;refine gD Y<|ev (fA DI Y Y (pz.x (sx 29)))<|Hq Y Y Y aJk (auB (((pz.mV 0 30).sel (sx 30)).mV 31 8) it hu) Y ?_
  rintro _ w25 ⟨rfl,DU⟩;refine fE Y<|iU Y ?_
  exact nR (⟨A1,c1,A2,c2,A3,c3,A4,c4,A5,c5,A6,c6,A7,c7,m,s,r,(if it.A<0∨100<it.A then Z else Z+it.A),gm,I,hs⟩:GC) (aPm hkd) Y (((DU.cU 9 30).mV 0 8).sel s8)
 ·refine gD Y<|jP g1 0 qz pz (sx 29) Y<|ev (yc pz U Y Y nI ig (by rw [hkd]; rfl))<|fE rfl<|aZ<|gD rfl<|ev (zL yx rfl)<|dn<|bS rfl nofun (λ_h=>?_)
  refine jQ ?_;refine gD Y<|ev (fA DI Y Y (pz.x (sx 29)))<|Hq Y Y Y aJl (azf (((pz.mV 0 30).sel (sx 30)).mV 31 8) it hm) Y ?_
  rintro _ w26 ⟨aJC,aJD,aJE,aJF,aJG,aJH,aEI,rfl,aJI,JU⟩;refine fE Y<|iU Y ?_
  exact nR (⟨aJC,aJD,aJE,aJF,aJG,aJH,A4,c4,A5,c5,A6,c6,A7,c7,(rJ m (⟨0,0,1,it.A,it.B,it.C⟩:eU)),s,r,Z,gm,I,aEI⟩:GC) (aPn hkd) (by show(⟨_,_,_,_,_,kR _⟩:PC)=_; rw [aJI]; rfl) (((JU.cU 9 30).mV 0 8).sel s8)
 ·refine gD Y<|jP g1 0 qz pz (sx 29) Y<|ev (yc pz U Y Y nI ig (by rw [hkd]; rfl))<|fE rfl<|aZ<|gD rfl<|ev (zL yx rfl)<|dn<|bS rfl nofun (λ_h=>?_)
  refine jQ ?_;refine gD Y<|ev (fA DI Y Y (pz.x (sx 29)))<|Hq Y Y Y aJm (aze (((pz.mV 0 30).sel (sx 30)).mV 31 8) it hm) Y ?_
  rintro _ w27 ⟨aJJ,aJK,aJL,aJM,aJN,aJO,rfl,LG⟩;refine fE Y<|iU Y ?_
  exact nR (⟨aJJ,aJK,aJL,aJM,aJN,aJO,A4,c4,A5,c5,A6,c6,A7,c7,(rJ m (⟨0,0,2,it.A,it.B,0⟩:eU)),s,r,Z,gm,I,hs⟩:GC) (aPo hkd) Y (((LG.cU 9 30).mV 0 8).sel s8)
 ·refine gD Y<|jP g1 0 qz pz (sx 29) Y<|ev (yc pz U Y Y nI ig (by rw [hkd]; rfl))<|fE rfl<|aZ<|gD rfl<|ev (zL yx rfl)<|dn<|bS rfl nofun (λ_h=>?_)
  refine jQ ?_;refine gD Y<|ev (fA DI Y Y (pz.x (sx 29)))<|Hq Y Y Y aJn (apO (((pz.mV 0 30).sel (sx 30)).mV 31 8) it hm hb hl hd hu hw) Y ?_
  rintro _ w28 ⟨aJP,aJQ,aJR,aJS,aJT,aJU,aJV,aJW,aJX,aJY,aJZ,aJ0,aJ1,aJ2,rfl,Fh⟩;refine fE Y<|iU Y ?_
  exact nR (⟨aJP,aJQ,aJR,aJS,aJT,aJU,aJV,aJW,aJX,aJY,aJZ,aJ0,aJ1,aJ2,(CW m (mM m s r Z)),(iM m s r Z),r,Z,gm,(I++pF m s r Z),hs⟩:GC) (aPp hkd) Y (((Fh.cU 9 30).mV 0 8).sel s8)
 ·refine gD Y<|jP g1 0 qz pz (sx 29) Y<|ev (yc pz U Y Y nI ig (by rw [hkd]; rfl))<|fE rfl<|aZ<|gD rfl<|ev (zL yx rfl)<|dn<|bS rfl nofun (λ_h=>?_)
  refine jQ ?_;refine gD Y<|ev (fA DI Y Y (pz.x (sx 29)))<|Hq Y Y Y avf (Vi (((pz.mV 0 30).sel (sx 30)).mV 31 8) it hm hb hl hd hz2 hw) Y ?_
  rintro _ w29 ⟨aJ3,aJ4,aJ5,aJ6,aJ7,aJ8,aJ9,aKa,aKb,aKc,aEJ,rfl,aKd,Fp⟩;refine fE Y<|iU Y ?_
  exact nR (⟨aJ3,aJ4,aJ5,aJ6,aJ7,aJ8,A4,c4,aJ9,aKa,A6,c6,aKb,aKc,((kM (⟨m,s,r,Z,I,kR hs⟩:PC) it).1.m),((kM (⟨m,s,r,Z,I,kR hs⟩:PC) it).1.s),r,Z,gm,(kM (⟨m,s,r,Z,I,kR hs⟩:PC) it).1.I,aEJ⟩:GC) (ak0 aj) (avh (Vj ⟨m,s,r,Z,I,kR hs⟩ it).1.symm (Vj ⟨m,s,r,Z,I,kR hs⟩ it).2.symm aKd) (((Fp.cU 9 30).mV 0 8).sel s8)
 ·refine gD Y<|jP g1 0 qz pz (sx 29) Y<|ev (yc pz U Y Y nI ig (by rw [hkd]; rfl))<|fE rfl<|aZ<|gD rfl<|ev (zL yx rfl)<|dn<|bS rfl nofun (λ_h=>?_)
  refine jQ ?_;refine gD Y<|ev (fA DI Y Y (pz.x (sx 29)))<|Hq Y Y Y avf (Vi (((pz.mV 0 30).sel (sx 30)).mV 31 8) it hm hb hl hd hz2 hw) Y ?_
  rintro _ w30 ⟨aKe,aKf,aKg,aKh,aKi,aKj,aKk,aKl,aKm,aKn,aEK,rfl,aKo,Fq⟩;refine fE Y<|iU Y ?_
  exact nR (⟨aKe,aKf,aKg,aKh,aKi,aKj,A4,c4,aKk,aKl,A6,c6,aKm,aKn,((kM (⟨m,s,r,Z,I,kR hs⟩:PC) it).1.m),((kM (⟨m,s,r,Z,I,kR hs⟩:PC) it).1.s),r,Z,gm,(kM (⟨m,s,r,Z,I,kR hs⟩:PC) it).1.I,aEK⟩:GC) (ak0 aj) (avh (Vj ⟨m,s,r,Z,I,kR hs⟩ it).1.symm (Vj ⟨m,s,r,Z,I,kR hs⟩ it).2.symm aKo) (((Fq.cU 9 30).mV 0 8).sel s8)
 ·refine gD Y<|jP g1 0 qz pz (sx 29) Y<|ev (yc pz U Y Y nI ig (by rw [hkd]; rfl))<|fE rfl<|aZ<|gD rfl<|ev (zL yx rfl)<|dn<|bS rfl nofun (λ_h=>?_)
  refine jQ ?_;refine gD Y<|ev (fA DI Y Y (pz.x (sx 29)))<|Hq Y Y Y avf (Vi (((pz.mV 0 30).sel (sx 30)).mV 31 8) it hm hb hl hd hz2 hw) Y ?_
  rintro _ w31 ⟨aKp,aKq,aKr,aKs,aKt,aKu,aKv,aKw,aKx,aKy,aEL,rfl,aKz,Lh⟩;refine fE Y<|iU Y ?_
  exact nR (⟨aKp,aKq,aKr,aKs,aKt,aKu,A4,c4,aKv,aKw,A6,c6,aKx,aKy,((kM (⟨m,s,r,Z,I,kR hs⟩:PC) it).1.m),((kM (⟨m,s,r,Z,I,kR hs⟩:PC) it).1.s),r,Z,gm,(kM (⟨m,s,r,Z,I,kR hs⟩:PC) it).1.I,aEL⟩:GC) (ak0 aj) (avh (Vj ⟨m,s,r,Z,I,kR hs⟩ it).1.symm (Vj ⟨m,s,r,Z,I,kR hs⟩ it).2.symm aKz) (((Lh.cU 9 30).mV 0 8).sel s8)
 ·refine gD Y<|jP g1 0 qz pz (sx 29) Y<|ev (yc pz U Y Y nI ig (by rw [hkd]; rfl))<|fE rfl<|aZ<|gD rfl<|ev (zL yx rfl)<|dn<|bS rfl nofun (λ_h=>?_)
  refine jQ ?_;refine gD Y<|ev (fA DI Y Y (pz.x (sx 29)))<|Hq Y Y Y aJo (ap0 (((pz.mV 0 30).sel (sx 30)).mV 31 8) it hm hu hb hr hz9 hN) Y ?_
  rintro _ w32 ⟨aKA,aKB,aKC,aKD,aKE,aKF,aEM,rfl,aKG,M4⟩;refine fE Y<|iU Y ?_
  exact nR (⟨aKA,aKB,aKC,aKD,aKE,aKF,A4,c4,A5,c5,A6,c6,A7,c7,((rz (⟨m,s,r,Z,I,kR hs⟩:PC) it).1.m),s,r,Z,gm,I,aEM⟩:GC) (aJx hkd) (aEC (afh (⟨m,s,r,Z,I,kR hs⟩:PC) it).1.symm (afh (⟨m,s,r,Z,I,kR hs⟩:PC) it).2.1.symm (afh (⟨m,s,r,Z,I,kR hs⟩:PC) it).2.2.1.symm (afh (⟨m,s,r,Z,I,kR hs⟩:PC) it).2.2.2.symm aKG) (((M4.cU 9 30).mV 0 8).sel s8)
 ·refine gD Y<|jP g1 0 qz pz (sx 29) Y<|ev (yc (i:=8) pz U Y Y nI ig (by rw [hkd]; rfl))<|fE rfl<|aZ<|gD rfl<|ev (zL yx rfl)<|dn<|bS rfl nofun (λ_h=>?_)
  refine jQ ?_;refine gD Y<|ev (fA DI Y Y (pz.x (sx 29)))<|gu Y (KJ (fd:=27) (R:=DoR b S F iy (⟨m,s,r,Z,I,kR hs⟩:PC) it) ((((pz.rm (sx 29)).cU 0 25).sel s4).mV 1 12) it aJp ?_ ?_ ?_) ?_
  ·exact λhg w9 K9=>nR (⟨A1,c1,A2,c2,A3,c3,A4,c4,A5,c5,A6,c6,A7,c7,m,s,r,Z,gm,I,hs⟩:GC) (KI aj (show cZ it.A (kR hs)=none from by rw [jg,hg]; rfl)) rfl (K9.sel s8)
  ·exact λh hg hn hu w9 K9=>nR (⟨A1,c1,A2,c2,A3,c3,A4,c4,A5,c5,A6,c6,A7,c7,m,s,r,Z,gm,I,hs⟩:GC) (QC aj (show cZ it.A (kR hs)=some h.pl from by rw [jg,hg]; rfl) (by rw [hkd]; revert hu; show _->vD 3=some (!h.up); cases h.up <;> decide)) rfl (K9.sel s8)
  ·intro h hg hun w9 K9;have hgo:=(aao (c:=(⟨m,s,r,Z,I,kR hs⟩:PC)) aj (show cZ it.A (kR hs)=some h.pl from by rw [jg,hg]; rfl) (by rw [hkd]; revert hun; show _->¬ vD 3=some (!h.up); cases h.up <;> decide)).trans (aJz hkd);refine(auF K9 it hb).mono ?_;rintro _ w8 ⟨B4,d4,rfl,K8⟩;exact nR (⟨A1,c1,A2,c2,A3,c3,B4,d4,A5,c5,A6,c6,A7,c7,m,⟨uN s.bZ it.A Z,s.bG,s.bn⟩,r,Z,gm,I,hs⟩:GC) hgo Y (K8.sel s8)
  intro v9 w33 Aa;refine fE Y<|iU Y ?_
  exact Aa
 ·refine gD Y<|jP g1 0 qz pz (sx 29) Y<|ev (yc (i:=9) pz U Y Y nI ig (by rw [hkd]; rfl))<|fE rfl<|aZ<|gD rfl<|ev (zL yx rfl)<|dn<|bS rfl nofun (λ_h=>?_)
  refine jQ ?_;refine gD Y<|ev (fA DI Y Y (pz.x (sx 29)))<|gu Y (KJ (fd:=28) (R:=DoR b S F iy (⟨m,s,r,Z,I,kR hs⟩:PC) it) ((((pz.cU 25 5).cU 0 21).sel s4).mV 1 12) it aJq ?_ ?_ ?_) ?_
  ·exact λhg w9 K9=>nR (⟨A1,c1,A2,c2,A3,c3,A4,c4,A5,c5,A6,c6,A7,c7,m,s,r,Z,gm,I,hs⟩:GC) (KI aj (show cZ it.A (kR hs)=none from by rw [jg,hg]; rfl)) rfl (K9.sel s8)
  ·exact λh hg hn hu w9 K9=>nR (⟨A1,c1,A2,c2,A3,c3,A4,c4,A5,c5,A6,c6,A7,c7,m,s,r,Z,gm,I,hs⟩:GC) (QC aj (show cZ it.A (kR hs)=some h.pl from by rw [jg,hg]; rfl) (by rw [hkd]; revert hu; show _->vD 4=some (!h.up); cases h.up <;> decide)) rfl (K9.sel s8)
  ·intro h hg hun w9 K9;have hgo:=(aao (c:=(⟨m,s,r,Z,I,kR hs⟩:PC)) aj (show cZ it.A (kR hs)=some h.pl from by rw [jg,hg]; rfl) (by rw [hkd]; revert hun; show _->¬ vD 4=some (!h.up); cases h.up <;> decide)).trans (aJA hkd);obtain⟨gh,gs,BN,A,c,up,bB,l,es⟩:=h;refine(akX K9 it hm hb hl hd hu hw hr hg (lG (hz9 _ _ hg) au)).mono ?_;rintro _ w8 ⟨B1,d1,B2,d2,B3,d3,B7,d7,rfl,K8⟩;exact nR (⟨B1,d1,B2,d2,B3,d3,A4,c4,A5,c5,A6,c6,B7,d7,(lM s Z it.A m (jS m.J it.A (dL l))),s,r,Z,gm,(I++uV (dL l) (lK (lM s Z it.A m (jS m.J it.A (dL l))).J (dL l)) it.A (Z+r.gV)),hs⟩:GC) hgo Y (K8.sel s8)
  intro v9 w34 Aa;refine fE Y<|iU Y ?_
  exact Aa
 ·refine gD Y<|jP g1 0 qz pz (sx 29) Y<|ev (yc (i:=10) pz U Y Y nI ig (by rw [hkd]; rfl))<|fE rfl<|aZ<|gD rfl<|ev (zL yx rfl)<|dn<|bS rfl nofun (λ_h=>?_)
  refine jQ ?_;refine gD Y<|ev (fA DI Y Y (pz.x (sx 29)))<|gu Y (KJ (fd:=29) (R:=DoR b S F iy (⟨m,s,r,Z,I,kR hs⟩:PC) it) ((((pz.cU 21 9).cU 0 17).sel s4).mV 1 12) it aJr ?_ ?_ ?_) ?_
  ·exact λhg w9 K9=>nR (⟨A1,c1,A2,c2,A3,c3,A4,c4,A5,c5,A6,c6,A7,c7,m,s,r,Z,gm,I,hs⟩:GC) (KI aj (show cZ it.A (kR hs)=none from by rw [jg,hg]; rfl)) rfl (K9.sel s8)
  ·exact λh hg hn hu w9 K9=>nR (⟨A1,c1,A2,c2,A3,c3,A4,c4,A5,c5,A6,c6,A7,c7,m,s,r,Z,gm,I,hs⟩:GC) (QC aj (show cZ it.A (kR hs)=some h.pl from by rw [jg,hg]; rfl) (by rw [hkd]; revert hu; show _->vD 9=some (!h.up); cases h.up <;> decide)) rfl (K9.sel s8)
  ·intro h hg hun w9 K9;have hgo:=(aao (c:=(⟨m,s,r,Z,I,kR hs⟩:PC)) aj (show cZ it.A (kR hs)=some h.pl from by rw [jg,hg]; rfl) (by rw [hkd]; revert hun; show _->¬ vD 9=some (!h.up); cases h.up <;> decide)).trans (aJB hkd);obtain⟨gh,gs,BN,A,c,up,bB,l,es⟩:=h;refine(auC (K9.xM s8 hg) it).mono ?_;rintro _ w8 ⟨rfl,K8⟩;exact nR (⟨A1,c1,A2,c2,A3,c3,A4,c4,A5,c5,A6,c6,A7,c7,m,s,r,Z,gm,I,(fO it.A ⟨gh,gs,BN,A,c,false,bB,l,es⟩ hs)⟩:GC) hgo (by show(⟨m,s,r,Z,I,kR (fO it.A (⟨gh,gs,BN,A,c,false,bB,l,es⟩:l6) hs)⟩:PC)=(⟨m,s,r,Z,I,fO it.A ⟨false,bB,l,Nv es⟩ (kR hs)⟩:PC); rw [Br]; rfl) (Kz hg K8)
  intro v9 w35 Aa;refine fE Y<|iU Y ?_
  exact Aa
 ·refine gD Y<|jP g1 0 qz pz (sx 29) Y<|ev (yc (i:=11) pz U Y Y nI ig (by rw [hkd]; rfl))<|fE rfl<|aZ<|gD rfl<|ev (zL yx rfl)<|dn<|bS rfl nofun (λ_h=>?_)
  refine jQ ?_;refine gD Y<|ev (fA DI Y Y (pz.x (sx 29)))<|gu Y (KJ (fd:=30) (R:=DoR b S F iy (⟨m,s,r,Z,I,kR hs⟩:PC) it) ((((pz.cU 17 13).cU 0 13).sel s4).mV 1 12) it aJs ?_ ?_ ?_) ?_
  ·exact λhg w9 K9=>nR (⟨A1,c1,A2,c2,A3,c3,A4,c4,A5,c5,A6,c6,A7,c7,m,s,r,Z,gm,I,hs⟩:GC) (KI aj (show cZ it.A (kR hs)=none from by rw [jg,hg]; rfl)) rfl (K9.sel s8)
  ·exact λh hg hn hu w9 K9=>nR (⟨A1,c1,A2,c2,A3,c3,A4,c4,A5,c5,A6,c6,A7,c7,m,s,r,Z,gm,I,hs⟩:GC) (QC aj (show cZ it.A (kR hs)=some h.pl from by rw [jg,hg]; rfl) (by rw [hkd]; revert hu; show _->vD 10=some (!h.up); cases h.up <;> decide)) rfl (K9.sel s8)
  ·intro h hg hun w9 K9;have hgo:=(aao (c:=(⟨m,s,r,Z,I,kR hs⟩:PC)) aj (show cZ it.A (kR hs)=some h.pl from by rw [jg,hg]; rfl) (by rw [hkd]; revert hun; show _->¬ vD 10=some (!h.up); cases h.up <;> decide)).trans (aED hkd);obtain⟨gh,gs,BN,A,c,up,bB,l,es⟩:=h;refine(auD (K9.xM s8 hg) it (lG (hz9 _ _ hg) au)).mono ?_;rintro _ w8 ⟨A9,c9,rfl,K8⟩;exact nR (⟨A1,c1,A2,c2,A3,c3,A4,c4,A5,c5,A6,c6,A7,c7,m,s,r,Z,gm,I,(fO it.A ⟨gh,gs,BN,A9,c9,true,bB,(qY l es l.length).1,(qY l es l.length).2⟩ hs)⟩:GC) hgo (by show(⟨m,s,r,Z,I,kR (fO it.A (⟨gh,gs,BN,A9,c9,true,bB,(qY l es l.length).1,(qY l es l.length).2⟩:l6) hs)⟩:PC)=(⟨m,s,r,Z,I,fO it.A ⟨true,bB,(abt l (Nv es)).1,(abt l (Nv es)).2⟩ (kR hs)⟩:PC); rw [Br]; rw [aEm]; rfl) (Kz hg K8)
  intro v9 w36 Aa;refine fE Y<|iU Y ?_
  exact Aa
 ·refine gD Y<|jP g1 0 qz pz (sx 29) Y<|ev (yc (i:=12) pz U Y Y nI ig (by rw [hkd]; rfl))<|fE rfl<|aZ<|gD rfl<|ev (zL yx rfl)<|dn<|bS rfl nofun (λ_h=>?_)
  refine jQ ?_;refine gD Y<|ev (fA DI Y Y (pz.x (sx 29)))<|gu Y (KJ (fd:=31) (R:=DoR b S F iy (⟨m,s,r,Z,I,kR hs⟩:PC) it) ((((pz.cU 13 17).cU 0 9).sel s4).mV 1 12) it aJt ?_ ?_ ?_) ?_
  ·exact λhg w9 K9=>nR (⟨A1,c1,A2,c2,A3,c3,A4,c4,A5,c5,A6,c6,A7,c7,m,s,r,Z,gm,I,hs⟩:GC) (KI aj (show cZ it.A (kR hs)=none from by rw [jg,hg]; rfl)) rfl (K9.sel s8)
  ·exact λh hg hn hu w9 K9=>nR (⟨A1,c1,A2,c2,A3,c3,A4,c4,A5,c5,A6,c6,A7,c7,m,s,r,Z,gm,I,hs⟩:GC) (QC aj (show cZ it.A (kR hs)=some h.pl from by rw [jg,hg]; rfl) (by rw [hkd]; revert hu; show _->vD 12=some (!h.up); cases h.up <;> decide)) rfl (K9.sel s8)
  ·intro h hg hun w9 K9;have hgo:=(aao (c:=(⟨m,s,r,Z,I,kR hs⟩:PC)) aj (show cZ it.A (kR hs)=some h.pl from by rw [jg,hg]; rfl) (by rw [hkd]; revert hun; show _->¬ vD 12=some (!h.up); cases h.up <;> decide)).trans (aEE hkd);obtain⟨gh,gs,BN,A,c,up,bB,l,es⟩:=h;refine(apM (K9.xM s8 hg) it (lG (hz9 _ _ hg) au)).mono ?_;rintro _ w8 ⟨A9,c9,rfl,K8⟩;exact nR (⟨A1,c1,A2,c2,A3,c3,A4,c4,A5,c5,A6,c6,A7,c7,m,s,r,Z,gm,I,(fO it.A ⟨gh,gs,BN,A9,c9,up,bB,(uU l es (FR l es).length).1,(uU l es (FR l es).length).2⟩ hs)⟩:GC) hgo (by show(⟨m,s,r,Z,I,kR (fO it.A (⟨gh,gs,BN,A9,c9,up,bB,(uU l es (FR l es).length).1,(uU l es (FR l es).length).2⟩:l6) hs)⟩:PC)=(⟨m,s,r,Z,I,fO it.A ⟨up,bB,(Ih l (Nv es)).1,(Ih l (Nv es)).2⟩ (kR hs)⟩:PC); rw [Br]; rw [aEn]; rfl) (Kz hg K8)
  intro v9 w37 Aa;refine fE Y<|iU Y ?_
  exact Aa
 ·refine gD Y<|jP g1 0 qz pz (sx 29) Y<|ev (yc (i:=13) pz U Y Y nI ig (by rw [hkd]; rfl))<|fE rfl<|aZ<|gD rfl<|ev (zL yx rfl)<|dn<|bS rfl nofun (λ_h=>?_)
  refine jQ ?_;refine gD Y<|ev (fA DI Y Y (pz.x (sx 29)))<|gu Y (KJ (fd:=32) (R:=DoR b S F iy (⟨m,s,r,Z,I,kR hs⟩:PC) it) ((((pz.cU 9 21).cU 0 5).sel s4).mV 1 12) it aJu ?_ ?_ ?_) ?_
  ·exact λhg w9 K9=>nR (⟨A1,c1,A2,c2,A3,c3,A4,c4,A5,c5,A6,c6,A7,c7,m,s,r,Z,gm,I,hs⟩:GC) (KI aj (show cZ it.A (kR hs)=none from by rw [jg,hg]; rfl)) rfl (K9.sel s8)
  ·exact λh hg hn hu w9 K9=>nR (⟨A1,c1,A2,c2,A3,c3,A4,c4,A5,c5,A6,c6,A7,c7,m,s,r,Z,gm,I,hs⟩:GC) (QC aj (show cZ it.A (kR hs)=some h.pl from by rw [jg,hg]; rfl) (by cases hn)) rfl (K9.sel s8)
  ·intro h hg hun w9 K9;have hgo:=(aao (c:=(⟨m,s,r,Z,I,kR hs⟩:PC)) aj (show cZ it.A (kR hs)=some h.pl from by rw [jg,hg]; rfl) (by rw [hkd]; revert hun; show _->¬ vD 13=some (!h.up); cases h.up <;> decide)).trans (aEF hkd);have hrd:=OB (⟨it.B,false⟩:bP) h.es;rw [show h.pl.d=Nv h.es from rfl,hrd] at hgo;obtain⟨gh,gs,BN,A,c,up,bB,l,es⟩:=h;refine(apN (K9.xM s8 hg) it ((hz _ _ hg).2 _) hC).mono ?_;rintro _ w8 ⟨rfl,K8⟩;exact nR (⟨A1,c1,A2,c2,A3,c3,A4,c4,A5,c5,A6,c6,A7,c7,m,s,r,Z,gm,I,(fO it.A ⟨gh,gs,BN,A,c,up,bB,l,SH it.B it.C es⟩ hs)⟩:GC) hgo (by show(⟨m,s,r,Z,I,kR (fO it.A (⟨gh,gs,BN,A,c,up,bB,l,SH it.B it.C es⟩:l6) hs)⟩:PC)=(⟨m,s,r,Z,I,fO it.A ⟨up,bB,l,aeO it.B it.C (Nv es)⟩ (kR hs)⟩:PC); rw [Br]; rw [<- aEl]; rfl) (Kz hg K8)
  intro v9 w38 Aa;refine fE Y<|iU Y ?_
  exact Aa
 ·refine gD Y<|jP g1 0 qz pz (sx 29) Y<|ev (yc (i:=14) pz U Y Y nI ig (by rw [hkd]; rfl))<|fE rfl<|aZ<|gD rfl<|ev (zL yx rfl)<|dn<|bS rfl nofun (λ_h=>?_)
  refine jQ ?_;refine gD Y<|ev (fA DI Y Y (pz.x (sx 29)))<|gu Y (KJ (fd:=33) (R:=DoR b S F iy (⟨m,s,r,Z,I,kR hs⟩:PC) it) ((((pz.cU 5 25).rm U).sel s4).mV 1 12) it aJv ?_ ?_ ?_) ?_
  ·exact λhg w9 K9=>nR (⟨A1,c1,A2,c2,A3,c3,A4,c4,A5,c5,A6,c6,A7,c7,m,s,r,Z,gm,I,hs⟩:GC) (KI aj (show cZ it.A (kR hs)=none from by rw [jg,hg]; rfl)) rfl (K9.sel s8)
  ·exact λh hg hn hu w9 K9=>nR (⟨A1,c1,A2,c2,A3,c3,A4,c4,A5,c5,A6,c6,A7,c7,m,s,r,Z,gm,I,hs⟩:GC) (QC aj (show cZ it.A (kR hs)=some h.pl from by rw [jg,hg]; rfl) (by cases hn)) rfl (K9.sel s8)
  ·intro h hg hun w9 K9;have hgo:=(aao (c:=(⟨m,s,r,Z,I,kR hs⟩:PC)) aj (show cZ it.A (kR hs)=some h.pl from by rw [jg,hg]; rfl) (by rw [hkd]; revert hun; show _->¬ vD 14=some (!h.up); cases h.up <;> decide)).trans (aEG hkd);obtain⟨gh,gs,BN,A,c,up,bB,l,es⟩:=h;refine(auE (K9.xM s8 hg) it).mono ?_;rintro _ w8 ⟨rfl,K8⟩;exact nR (⟨A1,c1,A2,c2,A3,c3,A4,c4,A5,c5,A6,c6,A7,c7,m,s,r,Z,gm,I,(fO it.A ⟨gh,gs,BN,none,0,up,bB,[],[]⟩ hs)⟩:GC) hgo (by show(⟨m,s,r,Z,I,kR (fO it.A (⟨gh,gs,BN,none,0,up,bB,[],[]⟩:l6) hs)⟩:PC)=(⟨m,s,r,Z,I,fO it.A ⟨up,bB,[],[]⟩ (kR hs)⟩:PC); rw [Br]; rfl) (Kz hg K8)
  intro v9 w39 Aa;refine fE Y<|iU Y ?_
  exact Aa
 ·refine gD Y<|jP g1 0 qz pz (sx 29) Y<|ev (Ev.aAv pz U Y Y nI ig azt (by have e0:(it.Kind == 0)=false:=(by simpa using (show it.Kind≠0 by omega)); have e1:(it.Kind == 1)=false:=(by simpa using (show it.Kind≠1 by omega)); have e2:(it.Kind == 2)=false:=(by simpa using (show it.Kind≠2 by omega)); have e3:(it.Kind == 3)=false:=(by simpa using (show it.Kind≠3 by omega)); have e4:(it.Kind == 4)=false:=(by simpa using (show it.Kind≠4 by omega)); have e5:(it.Kind == 5)=false:=(by simpa using (show it.Kind≠5 by omega)); have e6:(it.Kind == 6)=false:=(by simpa using (show it.Kind≠6 by omega)); have e7:(it.Kind == 7)=false:=(by simpa using (show it.Kind≠7 by omega)); have e8:(it.Kind == 8)=false:=(by simpa using (show it.Kind≠8 by omega)); have e9:(it.Kind == 9)=false:=(by simpa using (show it.Kind≠9 by omega)); have e10:(it.Kind == 10)=false:=(by simpa using (show it.Kind≠10 by omega)); have e11:(it.Kind == 11)=false:=(by simpa using (show it.Kind≠11 by omega)); have e12:(it.Kind == 12)=false:=(by simpa using (show it.Kind≠12 by omega)); have e13:(it.Kind == 13)=false:=(by simpa using (show it.Kind≠13 by omega)); have e14:(it.Kind == 14)=false:=(by simpa using (show it.Kind≠14 by omega)); simp [Instr.findNow,Instr.sameNow,e0,e1,e2,e3,e4,e5,e6,e7,e8,e9,e10,e11,e12,e13,e14]))<|fE rfl<|aZ<|gD rfl<|ev (Ev.aOo yx rfl)<|dn<|bS rfl (λ_h=>?_) nofun
  refine kX Y<|Aw Y ?_
  exact nR (⟨A1,c1,A2,c2,A3,c3,A4,c4,A5,c5,A6,c6,A7,c7,m,s,r,Z,gm,I,hs⟩:GC) (aJy hkd) Y (pz.cU 0 30)
end
section
variable {x y:aI}{κ ν:Type}{z dG all:Int}{c:PC}{m:bY}{hs:jc}{h:kV}{data:List (BitVec 8)}{k:Nat}
abbrev qJ(x:aI):Int:=2*x.X+Ec x.fZ
theorem Tv(y x:aI):LQ y x<0↔qJ y<qJ x:=by
 rcases y with ⟨c1,v1,s1,t1,b1⟩; rcases x with ⟨c2,v2,s2,t2,b2⟩
 unfold LQ VZ bL qJ Ec
 grind
theorem NG(y x:aI):LQ y x=0↔qJ y=qJ x:=by
 rcases y with ⟨c1,v1,s1,t1,b1⟩; rcases x with ⟨c2,v2,s2,t2,b2⟩
 unfold LQ VZ bL qJ Ec
 grind
def Wt(y x:aI):Prop:=qJ y<qJ x/\(y.X=x.X->y.E<x.E)
def acA(h:qJ x<qJ y):x.X<=y.X:=by
 grind
theorem aiv{z:aI}(h1:Wt x y)(h2:Wt y z):Wt x z:=by
 refine⟨by have:=h1.1; have:=h2.1; omega,λh=>?_⟩;have a:=acA h1.1; have b:=acA h2.1;have:=h1.2 aj; have:=h2.2 aj; omega
def avk(p:Option aI)(x:aI):(!aeu p x&&!Nq p x)=true↔∀ y,p=some y->Wt y x:=by
 cases p with
 | none=>simp [aeu,Nq]
 | some y=>
  unfold aeu Nq Wt
  grind [Tv]
def acB:∀(l:V aI)(p:Option aI),PO p l=true↔(∀ x∈l,ZL x=false)/\l.Pairwise Wt/\∀ y,p=some y->∀ x∈l,Wt y x
 | [],p=>by simp [PO]
 | a::l,p=>by
  have e:PO p (a::l)=((!ZL a)&&((!aeu p a&&!Nq p a)&&PO (some a) l)):=by grind [PO]
  rw [e,bK,bK,avk,acB l (some a)]
  simp only [gW,forall_eq_or_imp,nT,Yp,forall_eq',dZ]
  grind [aiv]
theorem DJ{l:V aI}:SA l=true↔(∀ x∈l,ZL x=false)/\l.Pairwise Wt:=by
 simp [SA,acB]
def amW{l:V aI}(h:SA l=true):Up qJ l:=(DJ.1 h).2.imp λh=>h.1
def aiw{l:V aI}(h:SA l=true):iI l=l:=by grind [iI]
section
variable {l:List aI}{c:Int}{t:Bool}
theorem get_of_mem{α:Type}{l:V α}{x:α}(h:x∈l):∃ k:Nat,l[k]? = some x:=by grind [List.mem_iff_getElem?]
theorem afj{α:Type}{key:α->Int}{l:V α}(h:Up key l){i j:Nat}{x y:α}(hx:l[i]? = some x)(hy:l[j]? = some y)(he:key x=key y):i=j:=by
 rcases adn i j with h1 | h1 | h1
 ·have:=(ER.1 h) i j (aP hx) (aP hy) h1
  grind
 ·exact h1
 ·have:=(ER.1 h) j i (aP hy) (aP hx) h1
  grind
def aBy(h:Up qJ l)(x:aI):ac1 (λy=>LQ y x) l:=by
 intro i j a b hij ha hb hlt;rw [Tv] at hlt ⊢
 rcases Nat.lt_or_eq_of_le hij with h1 | h1
 ·have:=(ER.1 h) i j (aP ha) (aP hb) h1
  grind
 grind
def KL(h:Up qJ l):T9 l c t=true↔∃ x∈l,x.X=c/\x.fZ=t:=by
 constructor
 ·intro h1; obtain⟨x,hx,hz⟩:=GN h1
  grind [NG]
 ·rintro⟨x,hx,h1,h2⟩
  obtain⟨k,hk,rfl⟩:=List.mem_iff_getElem.1 hx;have hz:LQ l[k] (SB c t)=0:=by grind [NG]
  have hl:low (λy=>LQ y (SB c t)) l=k:=by
   refine G9 (Nat.le_of_lt hk) (λa x ha hx=>?_) (λa x ha hx=>?_)
   ·have:=(ER.1 h) a k (aP hx) hk ha
    rw [Ip (aP hx)] at hx; simp_all [Tv,NG]
   ·rw [Tv,<- (NG _ _).1 hz]
    rcases Nat.lt_or_eq_of_le ha with h3 | h3
    ·have:=(ER.1 h) k a hk (aP hx) h3
     grind
    grind
  simp_all [J9,Xq,aBy,Ip,tY]
def Vk(h:Up qJ l)(hx:x∈l):Dz l x.X x.fZ=some x:=by
 have h1:T9 l x.X x.fZ=true:=(KL h).2 (by grind);obtain⟨y,hy,hz⟩:=GN h1;have:=(NG _ _).1 hz;rw [I6 h1 hy];have hu:=lI h (dz hy) hx (by rw [this]);rw [hu]
def acC(h:Up qJ l)(hn:∀ x∈l,¬ (x.X=c/\x.fZ=t)):Dz l c t=none:=by
 simp_all [SE,Cm,KL]
def avl(h:Up qJ l):(∀ x∈l.take (atR l c t),qJ x<qJ (SB c t))/\(∀ x∈l.drop (atR l c t),qJ (SB c t)<=qJ x):=by
 have e:atR l c t=low (λy=>LQ y (SB c t)) l:=Xq (aBy h _);rw [e]
 have e2:low (λy=>LQ y (SB c t)) l=low (λy=>bL (qJ y) (qJ (SB c t))) l:=by
  unfold low; refine List.countP_congr λx _=>?_
  simp only [bN]; rw [Tv]; unfold bL; split <;> simp_all
  grind
 rw [e2];exact⟨λx hx=>acg h hx,λx hx=>ach h hx⟩
theorem NH(h:Up qJ l)(x y:aI):y∈Bj l x↔y=x∨(y∈l/\qJ y≠qJ x):=by
 unfold Bj
 by_cases h1:T9 l x.X x.fZ=true
 ·rw [aS h1]
  obtain⟨z,hz,h2⟩:=GN h1;have hk:=(NG _ _).1 h2;have hk':qJ z=qJ x:=hk
  constructor
  ·grind [get_of_mem,dz,afj]
  ·rintro(rfl | ⟨hy,hne⟩)
   ·grind [List.getElem?_set_self]
   ·obtain⟨k,hk2⟩:=get_of_mem hy
    refine Va.2 ⟨k,?_⟩
    grind
 ·rw [aQ h1]
  have hn:∀ z∈l,qJ z≠qJ x:=λz hz he=>h1 ((KL h).2 (by grind))
  grind [List.take_append_drop]
def amX(h:Up qJ l)(x:aI):Up qJ (Bj l x):=by
 unfold Bj
 by_cases h1:T9 l x.X x.fZ=true
 ·rw [aS h1]
  obtain⟨z,hz,h2⟩:=GN h1;have hk:qJ z=qJ x:=(NG _ _).1 h2
  have e:(l.set (atR l x.X x.fZ) x).map qJ=l.map qJ:=by
   rw [MP,<- hk];refine Ho λi=>?_;rw [adI]; split
   ·grind
   ·rfl
  have:((l.set (atR l x.X x.fZ) x).map qJ).Pairwise (λa b=>a<b):=by rw [e]; exact JD.2 h
  exact JD.1 this
 ·rw [aQ h1]
  have hs:=avl (c:=x.X) (t:=x.fZ) h;have hx:qJ (SB x.X x.fZ)=qJ x:=rfl;rw [hx] at hs;have hn:∀ z∈l,qJ z≠qJ x:=λz hz he=>h1 ((KL h).2 (by grind));refine zO.2 ⟨zO.2 ⟨h.sublist (List.take_sublist _ _),Ui _ _,λa ha b hb=>?_⟩,h.sublist (List.drop_sublist _ _),λa ha b hb=>?_⟩
  all_goals grind
theorem Wu(x:aI):(Bj l x).length=if T9 l x.X x.fZ=true then l.length else l.length+1:=by
 unfold Bj; grind
end
def LA(l:List aI):Prop:=SA l=true/\∀ x∈l,x.fZ=false
def amY{l:V aI}(h1:∀ x∈l,ZL x=false)(h2:Up qJ l)(h3:∀ x∈l,∀ y∈l,x.X=y.X->x.fZ=false->y.fZ=true->x.E<y.E):SA l=true:=by
 refine DJ.2 ⟨h1,List.Pairwise.imp_of_mem (λ{a b} ha hb hab=>⟨hab,λhe=>?_⟩) h2⟩
 grind
section
variable {l:List aI}{c v sum bB:Int}{data:List (BitVec 8)}{d:qD}
def LA.up(h:LA l):Up qJ l:=amW h.1
def LA.fair(h:LA l):iI l=l:=aiw h.1
def LA.rest(h:LA l):dL l=l:=by
 unfold dL; rw [h.fair]; exact DT.2 λx hx=>by rw [h.2 x hx]; rfl
def LA.sub(h:LA l)(p:aI->Bool):LA (l.filter p):=
 ⟨DJ.2 ⟨λx hx=>(DJ.1 h.1).1 x (by grind),(DJ.1 h.1).2.sublist Vb⟩,λx hx=>h.2 x (by grind)⟩
def LA.no(h:LA l)(c:Int):T9 l c true=false:=Cm.2 λh1=>by
 obtain⟨x,hx,_,h2⟩:=(KL h.up).1 h1; rw [h.2 x hx] at h2; grind
theorem OT(h:LA l)(hz:(kU l x bB).2=0):Po x=true/\(∀ y∈l,y.X=x.X->y.E<x.E)/\(l.length:Int)<bB/\(kU l x bB).1=Bj l ⟨x.X,x.E,x.Sum,true,false⟩:=by
 unfold kU at hz ⊢; rw [h.fair] at hz ⊢
 by_cases h1:(!Po x)=true
 ·grind
 rw [aQ h1] at hz ⊢
 by_cases h2:SC (Dz l x.X false) x.E=true
 ·grind
 rw [aQ h2] at hz ⊢
 by_cases h3:SC (Dz l x.X true) x.E=true
 ·grind
 rw [aQ h3] at hz ⊢
 by_cases h4:(!T9 l x.X true&&decide (bB<=(l.length:Int)))=true
 ·grind
 rw [aQ h4];refine⟨by grind,λy hy he=>?_,?_,rfl⟩
 ·have h5:=Vk h.up hy
  rw [he,h.2 y hy] at h5; grind [SC]
 ·rw [h.no] at h4; grind
def aix(h:LA l)(h1:Po x=true)(h2:∀ y∈l,y.X=x.X->y.E<x.E)(h3:(l.length:Int)<bB):(kU l x bB).2=0:=by
 unfold kU; rw [h.fair,aQ (by grind)]
 have h4:SC (Dz l x.X false) x.E=false:=by
  by_cases hi:∃ y∈l,y.X=x.X
  ·obtain⟨y,hy,he⟩:=hi
   have h5:=Vk h.up hy;rw [he,h.2 y hy] at h5; grind [SC]
  ·rw [acC h.up (by grind)]; rfl
 have h5:SC (Dz l x.X true) x.E=false:=by rw [acC h.up (λy hy ⟨_,he⟩=>by rw [h.2 y hy] at he; grind)]; rfl
 rw [aQ (by rw [h4]; decide),aQ (by rw [h5]; decide),aQ (by rw [h.no]; simp; omega)]
theorem OU(h:LA l):rH l bB c v sum data=0↔data.length<=64/\((gI data).toNat:Int)=sum/\(kU l ⟨c,v,sum,false,false⟩ bB).2=0:=by
 grind [rH,absurd,gI]
def aEN(h:LA l)(h1:Po ⟨c,v,sum,false,false⟩=true)(h2:∀ y∈l,y.X=c->y.E<v):SA (Bj l ⟨c,v,sum,true,false⟩)=true:=by
 refine amY (λx hx=>?_) (amX h.up _) (λx hx y hy he ht hu=>?_)
 ·rcases(NH h.up _ _).1 hx with rfl | ⟨hx,_⟩
  ·grind [ZL,Po]
  ·exact(DJ.1 h.1).1 x hx
 ·rcases(NH h.up _ _).1 hx with rfl | ⟨hx,_⟩
  ·grind
  ·rcases(NH h.up _ _).1 hy with rfl | ⟨hy,_⟩
   ·grind
   ·rw [h.2 y hy] at hu; grind
theorem aap(h:LA l)(h1:Po ⟨c,v,sum,false,false⟩=true)(h2:∀ y∈l,y.X=c->y.E<v):∃ l2,mR (Bj l ⟨c,v,sum,true,false⟩) c v=(l2,0)/\LA l2/\(∀ y,y∈l2↔y=⟨c,v,sum,false,false⟩∨(y∈l/\y.X≠c))/\l2.length<=l.length+1:=by
 have hm:=aEN h h1 h2;have hmem:∀ y,y∈Bj l ⟨c,v,sum,true,false⟩↔y=⟨c,v,sum,true,false⟩∨(y∈l/\qJ y≠qJ ⟨c,v,sum,true,false⟩):=λy=>NH h.up _ _
 have e1:(Bj l ⟨c,v,sum,true,false⟩).length=l.length+1:=by
  rw [Wu,aQ]; intro h9; have:=h.no c; rw [show T9 l c true=true from h9] at this; exact Bool.noConfusion this
 revert hm hmem e1
 generalize Bj l ⟨c,v,sum,true,false⟩=q
 intro hm hmem e1;have hu:=amW hm;have hx:(⟨c,v,sum,true,false⟩:aI)∈q:=by grind
 have hg:=Vk hu hx
 dsimp only at hg
 have hi:T9 q c true=true:=by simp_all [KL]
 obtain⟨z,hz,h3⟩:=GN hi;have hzx:z=⟨c,v,sum,true,false⟩:=by grind [NG]
 have hz':q[atR q c true]? = some (⟨c,v,sum,true,false⟩:aI):=by grind
 have hcm:mR q c v=(Bj (q.eraseIdx (atR q c true)) ⟨c,v,sum,false,false⟩,0):=by simp_all [mR,atN,aiw,aQ,Uj]
 refine⟨_,hcm,?_⟩;have hlt:=ZM hi
 clear hcm
 generalize hw:q.eraseIdx (atR q c true)=w
 have hwu:Up qJ w:=by rw [<- hw]; exact hu.sublist (List.eraseIdx_sublist _ _)
 have hwm:∀ y,y∈w↔y∈l/\qJ y≠qJ ⟨c,v,sum,true,false⟩:=by grind [List.mem_eraseIdx_iff_getElem?,dz,afj,get_of_mem]
 have hlm:∀ y,y∈Bj w ⟨c,v,sum,false,false⟩↔y=⟨c,v,sum,false,false⟩∨(y∈l/\y.X≠c):=by grind [NH]
 refine⟨⟨amY (λx hx=>?_) (amX hwu _) (λx hx y hy he ht hu=>?_),λx hx=>?_⟩,hlm,?_⟩
 ·rcases(hlm x).1 hx with rfl | ⟨hx,_⟩
  all_goals grind [ZL,DJ]
 ·rcases(hlm y).1 hy with rfl | ⟨hy,_⟩
  ·grind
  ·rw [h.2 y hy] at hu; grind
 ·rcases(hlm x).1 hx with rfl | ⟨hx,_⟩
  ·rfl
  ·exact h.2 x hx
 grind [Wu]
theorem afk(h:LA l):SS l bB c v sum data=true↔data.length<=64/\((gI data).toNat:Int)=sum/\Po ⟨c,v,sum,false,false⟩=true/\(∀ y∈l,y.X=c->y.E<v)/\(l.length:Int)<bB:=by
 unfold SS; rw [bK,bN,bN,OU h]
 constructor
 ·rintro⟨⟨h1,h2,h3⟩,_⟩
  have h4:=OT h h3; grind
 ·rintro⟨h1,h2,h3,h4,h5⟩
  have h6:=aix h h3 h4 h5;refine⟨⟨h1,h2,h6⟩,?_⟩;unfold BQ; rw [aQ aj,aQ (not_not_intro h2),aS h6,(OT h h6).2.2.2]
  grind [aap]
def aiy(h:LA l)(hb:SS l bB c v sum data=false):Ig l bB c v sum data=l/\tkD l bB c v sum data d=d:=by
 have h0:¬ rH l bB c v sum data=0:=by grind [OU,OT,afk]
 unfold Ig tkD; rw [aQ h0,aQ h0];unfold BQ apA; grind [OU]
theorem Vl[DecidableEq κ](k:κ)(v:ν)(es:V (κ × ν)):cZ k (fO k v es)=some v:=by
 unfold fO; split
 ·rename_i h
  unfold cZ at h ⊢;rw [List.find?_map]
  cases hf:es.find? (λp=>decide (p.1=k)) with
  | none=>grind
  | some p=>
   have h2:=List.find?_some hf; simp at h2
   have e:es.find? ((fun(p:κ × ν)=>decide (p.1=k)) ∘ λp=>if p.1=k then(k,v) else p)=some p:=by
    rw [<- hf]; congr 1; funext q; simp only [Function.comp_apply]; split
    ·grind
    ·rfl
   grind
 ·rename_i h
  unfold cZ at h ⊢
  grind
theorem aaq(k k2:bP)(b:V (BitVec 8))(d:qD):oH k2 (fO k b d)=if k2=k then b else oH k2 d:=by
 grind [oH,Vl,GX]
theorem avm[DecidableEq κ](k k2:κ)(es:V (κ × ν)):cZ k2 (ou k es)=if k2=k then none else cZ k2 es:=by
 grind [cZ,ou]
theorem aiz(k k2:bP)(d:qD):oH k2 (ou k d)=if k2=k then[] else oH k2 d:=by
 grind [oH,avm]
def aar(h:LA l)(hb:SS l bB c v sum data=true):LA (Ig l bB c v sum data)/\(∀ y,y∈Ig l bB c v sum data↔y=⟨c,v,sum,false,false⟩∨(y∈l/\y.X≠c))/\((Ig l bB c v sum data).length:Int)<=bB/\
  (∀ k,oH k (tkD l bB c v sum data d)=if k=⟨c,true⟩ then[] else if k=⟨c,false⟩ then data else oH k d):=by
 obtain⟨h1,h2,h3,h4,h5⟩:=(afk h).1 hb;have h6:=aix h h3 h4 h5;have h0:rH l bB c v sum data=0:=(OU h).2 ⟨h1,h2,h6⟩;obtain⟨l2,hc,hc1,hc2,hc3⟩:=aap h h3 h4
 have e1:BQ l bB c v sum data=Bj l ⟨c,v,sum,true,false⟩:=by
  unfold BQ; rw [aQ aj,aQ (not_not_intro h2),aS h6,(OT h h6).2.2.2]
 have e2:Ig l bB c v sum data=l2:=by grind [Ig,Vg]
 have e3:tkD l bB c v sum data d=ou ⟨c,true⟩ (fO ⟨c,false⟩ data (fO ⟨c,true⟩ data d)):=by
  unfold tkD; rw [aS h0,e1]; unfold azd; rw [hc,aS rfl]; unfold apA; rw [aS h0,aaq,aS rfl]
 rw [e2,e3];refine⟨hc1,hc2,aj,λk=>?_⟩
 simp_all [aiz,aaq,aS,aQ]
def OV(h:LA l)(c:Int):LA (DC l c)/\(∀ y,y∈DC l c↔y∈l/\y.X≠c)/\(DC l c).length<=l.length/\∀ k:bP,oH k (WU l c d)=oH k d∨(k=⟨c,false⟩/\oH k (WU l c d)=[]):=by
 unfold DC WU oZ; rw [h.fair]
 by_cases h1:T9 l c false=true
 ·rw [aS h1]; simp only [if_true]
  refine⟨h.sub _,λy=>?_,mW _ _,λk=>?_⟩
  ·rw [jJ]
   constructor
   ·rintro⟨h2,h3⟩; rw [h.2 y h2] at h3; grind
   grind
  grind [aiz]
 ·rw [aQ h1]; simp only [aQ (show ¬ (5:Int)=0 by decide)]
  refine⟨h,λy=>⟨λhy=>⟨hy,λhe=>h1 ((KL h.up).2 ⟨y,hy,he,h.2 y hy⟩)⟩,λhy=>hy.1⟩,j4 _,λk=>.inl trivial⟩
theorem Tz(h:LA l)(d:qD):abt l d=(l,d):=by
 unfold abt
 have:∀(q:V aI),(∀ x∈q,x.fZ=false)->∀ s:V aI × qD,q.foldl aia s=s:=by
  intro q; induction q with
  | nil=>simp
  | cons a q ih=>
   grind [aia]
 exact this l h.2 (l,d)
def acD(h:LA l)(d:qD)(c:Int):(Nw l d).find? (λp=>decide (p.1.X=c))=(l.find? λx=>decide (x.X=c)).map λx=>(x,!decide (((gI (oH ⟨x.X,false⟩ d)).toNat:Int)=x.Sum)):=by
 unfold Nw; rw [h.rest,List.find?_map]; rfl
def aiA(h:LA l)(hz:(rT l d c).2.2=0):∃ x∈l,x.X=c/\((gI (oH ⟨c,false⟩ d)).toNat:Int)=x.Sum/\(rT l d c).1=oH ⟨c,false⟩ d/\(rT l d c).2.1=x.E:=by
 unfold rT at hz ⊢; rw [acD h] at hz ⊢
 cases hf:l.find? (λy=>decide (y.X=c)) with
 | none=>grind
 | some y=>
  grind
end
def lS{l:V aH}(h:ku l=true):Up aH.ID l:=by
 exact JD.1 (EK _ _ (kK.1 h).2.2)
theorem Dh{l:V aH}(h:ku l=true){j:Int}(hb:gQ l j=true):(aV l j).ID=j:=(yI h hb).2
def aiB{l:V aH}(h:ku l=true):dV l=l:=by grind [dV]
def XM{l:V aH}(hl:ku l=true){id:Int}{f:aH->aH × Int}(hf:Good f)(he:(gU l id f).2=0):gQ l id=true/\(f (aV l id)).2=0/\∀ y,y∈(gU l id f).1↔y=(f (aV l id)).1∨(y∈l/\y.ID≠id):=by
 by_cases hb:¬ gQ l id=true
 ·rw [ajP (by simpa using hb)] at he; exact absurd (show(5:Int)=0 from he) au
 replace hb:=Ii.1 hb;rw [adq hl hb] at he ⊢
 by_cases h0:¬ (f (aV l id)).2=0
 ·rw [aQ h0] at he; exact absurd he h0
 replace h0:=Ii.1 h0;rw [aS h0];refine⟨hb,h0,λy=>?_⟩;have hg:=(yI hl hb).1; have hi:=(yI hl hb).2;have hid:(f (aV l id)).1.ID=id:=by rw [(hf _ ((kK.1 hl).1 _ (dz hg)) h0).2]; exact hi
 show y∈l.set _ _↔_
 constructor
 ·intro hy
  obtain⟨k,hk⟩:=get_of_mem hy;rw [adI] at hk; split at hk
  ·split at hk
   ·injection hk with hk; exact .inl hk.symm
   ·exact absurd hk av
  ·rename_i hne
   refine .inr ⟨dz hk,λh=>hne (afj (lS hl) hg hk (by rw [hi,h]))⟩
 ·rintro(rfl | ⟨hy,hne⟩)
  ·exact Va.2 ⟨_,by rw [u7 (aP hg)]⟩
  ·obtain⟨k,hk⟩:=get_of_mem hy
   refine Va.2 ⟨k,?_⟩;rw [Jv]; exact hk;intro h; rw [<- h,hg] at hk; injection hk with hk; rw [<- hk] at hne; exact hne hi
inductive aas (m:bY) (x:eU) (l:List aH):Prop
  | same (h:l=m.J)
  | new (hk:x.Kind=3) (h1:∀ c∈m.J,c.ID≠x.A) (h2:1<=x.A/\x.A<=1048576) (h:∀ y,y∈l↔y=⟨x.A,1,x.B,[]⟩∨y∈m.J)
  | write (c:aH) (hk:x.Kind=4) (hc:c∈m.J) (hi:c.ID=x.A) (h:∀ y,y∈l↔y=⟨c.ID,c.E+1,x.B,[]⟩∨(y∈m.J/\y.ID≠x.A))
  | claim (c:aH) (H:List Int) (hk:x.Kind=5) (hc:c∈m.J) (hi:c.ID=x.A) (hv:x.C=c.E) (hs:iZ m.aM x.B=true) (hn:x.B∉c.aD) (hH:∀ n,n∈H↔n=x.B∨n∈c.aD) (hl:H.length=c.aD.length+1)
      (h:∀ y,y∈l↔y=⟨c.ID,c.E,c.Sum,H⟩∨(y∈m.J/\y.ID≠x.A))
  | azw (c:aH) (H:List Int) (hk:x.Kind=6) (hc:c∈m.J) (hi:c.ID=x.A) (hn:x.B∈c.aD) (hH:∀ n,n∈H↔n≠x.B/\n∈c.aD) (hl:H.length+1=c.aD.length)
      (h:∀ y,y∈l↔y=⟨c.ID,c.E,c.Sum,H⟩∨(y∈m.J/\y.ID≠x.A))
inductive avn (m:bY) (x:eU) (l:List aT):Prop
  | same (h:l=m.aM)
  | add (hk:x.Kind=1) (h1:∀ n∈m.aM,n.ID≠x.A) (h:∀ y,y∈l↔y=⟨x.A,x.B,x.C,0⟩∨y∈m.aM)
  | set (n:aT) (hk:x.Kind=2) (hn:n∈m.aM) (hi:n.ID=x.A) (hs:n.fT≠2) (hb:0<=x.B/\x.B<=2) (h:∀ y,y∈l↔y=⟨n.ID,n.mY,n.lV,x.B⟩∨(y∈m.aM/\y.ID≠x.A))
def XO(h:¬ (z<0∨4294967295<z)):IntKind.u32.wrap z=z:=by
 show z % (2 ^ 32:Int)=z;omega
def amZ{c:aH}(ho:oF c=true){n:Int}(hn:n∉c.aD):∀ x,x∈c.aD.take (low (fun(y:Int)=>bL y n) c.aD)++[n]++c.aD.drop (low (fun(y:Int)=>bL y n) c.aD)↔x=n∨x∈c.aD:=λx=>FH _
def F5{c:aH}(ho:oF c=true):c.aD.Pairwise (λx y=>x<y):=by
 grind [oF,EK]
def acE{c:aH}(ho:oF c=true){n:Int}(hn:n∈c.aD):∀ x,x∈c.aD.take (low (fun(y:Int)=>bL y n) c.aD)++c.aD.drop (low (fun(y:Int)=>bL y n) c.aD+1)↔x≠n/\x∈c.aD:=λx=>by
 have hu:Up (fun(y:Int)=>y) c.aD:=F5 ho;obtain⟨z,hz,h1⟩:=qc ((uh hu n).2 ⟨n,hn,rfl⟩);have h1:z=n:=h1;subst h1;rw [<- Uj,List.mem_eraseIdx_iff_getElem?]
 constructor
 ·rintro⟨i,hi,hx⟩
  exact⟨λh=>hi (afj hu hx hz h),dz hx⟩
 ·rintro⟨h2,h3⟩
  obtain⟨i,hi⟩:=get_of_mem h3;exact⟨i,λh=>h2 (by rw [h] at hi; have hz':c.aD[low (fun(y:Int)=>bL y z) c.aD]? = some z:=hz; rw [hz'] at hi; injection hi with hi; exact hi.symm),hi⟩
def aiC{c:aH}(ho:oF c=true){n:Int}(hn:n∈c.aD):(c.aD.take (low (fun(y:Int)=>bL y n) c.aD)++c.aD.drop (low (fun(y:Int)=>bL y n) c.aD+1)).length+1=c.aD.length:=by
 have hu:Up (fun(y:Int)=>y) c.aD:=F5 ho;obtain⟨z,hz,h1⟩:=qc ((uh hu n).2 ⟨n,hn,rfl⟩);have:=aP hz;rw [<- Uj,List.length_eraseIdx_of_lt this];have:low (fun(y:Int)=>bL y n) c.aD<c.aD.length:=this;omega
theorem aiD{l:V aT}(h:tN l=true){n:aT}(hx:∃ x∈l,x.ID=n.ID):(oG l n).2≠0:=by
 unfold oG; rw [xg h]
 split
 all_goals simp_all [aS,uh,qV]
def avo(hm:lU m=true)(x:eU)(h7:x.Kind≠7):aas m x (yN m x).2.1/\avn m x (yN m x).1:=by
 obtain⟨hn,hc,hs,hh⟩:=dD.1 hm;unfold yN
 by_cases h0:x.Kind=0
 ·rw [aS h0]; exact⟨.same rfl,.same rfl⟩
 rw [aQ h0]
 by_cases h1:x.Kind=1
 ·rw [aS h1]
  refine⟨.same Y,?_⟩
  rcases Qr hn ⟨x.A,x.B,x.C,0⟩ with h | ⟨h,hm',h2⟩
  ·rw [aQ h]; exact .same rfl
  ·rw [aS h]
   refine .add h1 (λn hn' he=>?_) h2;exact aiD hn ⟨n,hn',he⟩ h
 rw [aQ h1]
 by_cases h2:x.Kind=2
 ·rw [aS h2]
  refine⟨.same Y,?_⟩;show avn m x (if _ then _ else if _ then _ else _)
  split
  ·exact .same rfl
  rcases ZJ hn x.A x.B with h | ⟨h,hm',hb,hf,hst,ha,hb2,hc2⟩
  ·rw [aQ h]; exact .same rfl
  ·rw [aS h]
   have hat:=FI hn hf;refine .set (gJ m.aM x.A) h2 hat.1 hat.2 hst hb λy=>⟨λhy=>hc2 y hy,?_⟩;rintro(rfl | ⟨h3,h4⟩)
   ·exact ha
   ·exact hb2 y h3 h4
 rw [aQ h2]
 by_cases h3:x.Kind=3
 ·rw [aS h3]
  refine⟨?_,.same Y⟩;show aas m x (uT dO m.J x).1;unfold uT
  by_cases hr:x.B<0∨4294967295<x.B
  ·rw [aS hr]; exact .same rfl
  rw [aQ hr,XO hr]
  rcases Eo m.J x.A x.B with h | ⟨ha,hb,hf,hlen,h⟩
  ·rw [aQ h.2]; exact .same rfl
  ·rw [h,aS rfl]
   refine .new h3 (λc hc' he=>?_) ⟨ha,hb⟩ λy=>?_
   ·have:=(Dr hc).2 ⟨c,hc',he⟩; rw [hf] at this; exact absurd this au
   ·rw [aiB hc]; exact FH _
 rw [aQ h3]
 by_cases h4:x.Kind=4
 ·rw [aS h4]
  refine⟨?_,.same Y⟩;show aas m x (uT (λl id sum=>gU l id (eu sum)) m.J x).1;unfold uT
  by_cases hr:x.B<0∨4294967295<x.B
  ·rw [aS hr]; exact .same rfl
  rw [aQ hr,XO hr];show aas m x (if(gU m.J x.A (eu x.B)).2=0 then(gU m.J x.A (eu x.B)).1 else m.J)
  by_cases he:¬ (gU m.J x.A (eu x.B)).2=0
  ·rw [aQ he]; exact .same rfl
  replace he:=Ii.1 he;rw [aS he];obtain⟨hb,hz,hmem⟩:=XM hc (zD x.B) he;have hin:=vv hc hb;have hw:=Oe ((kK.1 hc).1 _ hin) hz;refine .write (aV m.J x.A) h4 hin (Dh hc hb) λy=>?_;rw [hmem,hw.1]
 rw [aQ h4]
 by_cases h5:x.Kind=5
 ·rw [aS h5]
  refine⟨?_,.same Y⟩;show aas m x (if _ then if _ then _ else _ else _)
  by_cases hst:¬ iZ m.aM x.B=true
  ·rw [aQ hst]; exact .same rfl
  replace hst:=Ii.1 hst;rw [aS hst]
  by_cases he:¬ (lu m.J x.A x.B x.C).2=0
  ·rw [aQ he]; exact .same rfl
  replace he:=Ii.1 he;rw [aS he];unfold lu at he ⊢
  by_cases hr:x.B<1∨16<x.B
  ·rw [aS hr] at he; exact absurd (show(1:Int)=0 from he) au
  rw [aQ hr] at he ⊢;obtain⟨hb,hz,hmem⟩:=XM hc (YO x.C aj aj) he;have hin:=vv hc hb;have ho:=(kK.1 hc).1 _ hin;have hw:=Og ho aj aj hz;refine .claim (aV m.J x.A) _ h5 hin (Dh hc hb) hw.1 hst hw.2.1 (amZ ho hw.2.1) ?_ λy=>?_
  ·rw [jH,jH,aEz,iX,uj]; omega
  ·rw [hmem,hw.2.2.1]
 rw [aQ h5]
 by_cases h6:x.Kind=6
 ·rw [aS h6]
  refine⟨?_,.same Y⟩;show aas m x (if _ then _ else _)
  by_cases he:¬ (gU m.J x.A (jk x.B)).2=0
  ·rw [aQ he]; exact .same rfl
  replace he:=Ii.1 he;rw [aS he];obtain⟨hb,hz,hmem⟩:=XM hc (Q7 x.B) he;have hin:=vv hc hb;have ho:=(kK.1 hc).1 _ hin;have hw:=GA ho hz;refine .azw (aV m.J x.A) _ h6 hin (Dh hc hb) hw.1 (acE ho hw.1) (aiC ho hw.1) λy=>?_;rw [hmem,hw.2.1]
 rw [aQ h6,aQ h7]; exact⟨.same rfl,.same rfl⟩
theorem wL(hm:lU m=true){x:eU}(h7:x.Kind≠7)(h0:x.Client=0):aas m x (rJ m x).J/\avn m x (rJ m x).aM:=by
 unfold rJ; split
 ·exact⟨.same rfl,.same rfl⟩
 ·unfold dS; rw [aQ (by grind),aS h0]; exact avo hm x h7
structure OKl (l:List bq) (dG:Int):Prop where
  one:∀ x∈l,P8 x=true/\(sends l x.jm:Int)<=dG/\(takes l x.To:Int)<=dG
  dif:l.Pairwise λx y=>¬ (x.X=y.X/\x.To=y.To)
theorem TA{l:V bq}{c t:Int}:(Cb l c t=-1/\∀ x∈l,¬ (x.X=c/\x.To=t))∨∃(k:Nat)(x:bq),Cb l c t=(k:Int)/\l[k]? = some x/\(x.X=c/\x.To=t)/\∀ y∈l.take k,¬ (y.X=c/\y.To=t):=by
 rcases wS (fun(x:bq)=>decide (x.X=c)&&decide (x.To=t)) l with ⟨h1,h2⟩ | ⟨k,x,h1,h2,h3,h4⟩
 ·exact .inl ⟨h1,by grind⟩
 ·exact .inr ⟨k,x,h1,h2,by simpa using h3,λy hy h=>by have:=h4 y hy; simp [h.1,h.2] at this⟩
def xA{l:V bq}:JX l dG all=true↔OKl l dG/\(l.length:Int)<=all:=by
 unfold JX;rw [bK,ajC,bN];refine and_congr ⟨λh=>⟨λx hx=>?_,?_⟩,λh i x hx=>?_⟩ Iff.rfl
 ·obtain⟨i,hi⟩:=uq hx
  grind [axW]
 ·rw [ER]
  intro i j hi hj hij he;have:=h j l[j] (Ip hj)
  simp only [axW,bK,bN] at this
  grind [TA,List.mem_take_iff_getElem]
 ·have hm:=h.one x (dz hx)
  simp only [axW,bK,bN]
  refine⟨⟨⟨hm.1,?_⟩,hm.2.1⟩,hm.2.2⟩;have hd:=ER.1 h.dif
  grind [TA]
def OKl.fil{l:V bq}(h:OKl l dG)(p:bq->Bool):OKl (l.filter p) dG:=
 ⟨λx hx=>by
  have h1:=h.one x (by grind);have h2:sends (l.filter p) x.jm<=sends l x.jm:=Vb.countP_le;have h3:takes (l.filter p) x.To<=takes l x.To:=Vb.countP_le
  grind,h.dif.filter _⟩
def acF{l:V bq}{x:bq}(h:pO l x dG all=0):P8 x=true/\(∀ y∈l,¬ (y.X=x.X/\y.To=x.To))/\(l.length:Int)<all/\(sends l x.jm:Int)<dG/\(takes l x.To:Int)<dG:=by
 unfold pO at h
 grind [TA]
def OKl.snoc{l:V bq}{x:bq}(h:OKl l dG)(hs:pO l x dG all=0):OKl (l++[x]) dG:=by
 obtain⟨h1,h2,_,h4,h5⟩:=acF hs;have es:∀ id,sends (l++[x]) id=sends l id+if x.jm=id then 1 else 0:=by simp [id,sends]
 have et:∀ id,takes (l++[x]) id=takes l id+if x.To=id then 1 else 0:=by simp [id,takes]
 refine⟨λy hy=>?_,zO.2 ⟨h.dif,Ui _ _,λy hy z hz=>by rw [mU.1 hz]; exact h2 y hy⟩⟩;rw [es,et]
 rcases j5.1 hy with hy | hy
 ·have hm:=h.one y hy
  grind
 grind
theorem aiE{l:V bq}{c:aH}{fr nZ u:Int}(h:JX l dG all=true):JX (yL l dG all c fr nZ u) dG all=true:=by
 unfold yL
 split
 ·rename_i hb
  have hs:pO l (AZ c fr nZ u) dG all=0:=iY hb;rw [xA] at h ⊢;refine⟨h.1.snoc hs,?_⟩;have:=(acF hs).2.2.1
  grind
 grind
def aiF{x:Ic}{c d:aH}{hv:Int}:∀(f:Nat)(l:V bq)(o:V aL),JX l x.dG x.all=true->JX (LK x c d hv f (l,o)).1 x.dG x.all=true
 | 0,_,_,h=>h
 | f+1,l,o,h=>by
  unfold LK
  split
  ·exact aiF f _ _ (aiE h)
  ·exact h
def aat{x:Ic}:∀(aYc:V dW)(s:V bq × V aL),JX s.1 x.dG x.all=true->JX (qH x aYc s).1 x.dG x.all=true
 | [],_,h=>h
 | n::aYc,s,h=>aat aYc (J8 x s n) (aiF 100 s.1 s.2 h)
def ak1(m:bY)(s:fQ)(r:ARules)(Z:Int)(h:JX s.bG r.l9 r.All=true):JX (iM m s r Z).bG r.l9 r.All=true:=by
 unfold iM
 split
 ·have h1:JX (eT s Z).bG r.l9 r.All=true:=by
   rw [xA] at h ⊢;exact⟨h.1.fil _,by grind [EO]⟩
  have h2:JX (uH m s r Z).1 r.l9 r.All=true:=aat _ _ h1
  grind [JX,rdL,RV,aiE]
 grind
structure HOk (h:kV):Prop where
  l:LA h.l
  n:(h.l.length:Int)<=h.bB
  r:h.bB<=16
  d:∀ k,(oH k h.d).length<=4
  w:∀ x∈h.l,(oH ⟨x.X,false⟩ h.d).length=4
theorem lC[DecidableEq κ](k k2:κ)(v:ν)(es:V (κ × ν)):cZ k2 (fO k v es)=if k2=k then some v else cZ k2 es:=by
 grind [Vl,GX]
def Je(hs:jc):Prop:=∀ z h,cZ z hs=some h->HOk h
def Pv(m:bY)(hs:jc):Prop:=∀ n∈m.aM,∃ h,cZ n.ID hs=some h/\h.bB=n.lV
def Je.put(H:Je hs)(hh:HOk h):Je (fO z h hs):=λz2 h2 hg=>by
 rw [lC] at hg; split at hg
 ·grind
 ·exact H z2 h2 hg
def Pv.put(H:Pv m hs){h0:kV}(hg:cZ z hs=some h0)(hr:h.bB=h0.bB):Pv m (fO z h hs):=λn hn=>by
 obtain⟨h1,h2,h3⟩:=H n hn
 grind [lC]
def HOk.take(H:HOk h)(c v sum:Int)(hd:data.length=4):HOk ⟨h.up,h.bB,Ig h.l h.bB c v sum data,tkD h.l h.bB c v sum data h.d⟩:=by
 cases hb:SS h.l h.bB c v sum data with
 | false=>obtain⟨h1,h2⟩:=aiy H.l hb (d:=h.d); simp [*]
 | true=>
  obtain⟨h1,h2,h3,h4⟩:=aar H.l hb;refine⟨h1,h3,H.r,λk=>?_,λx hx=>?_⟩
  ·show(oH k _).length<=4
   rw [h4]; split
   ·decide
   ·split
    ·omega
    ·exact H.d k
  ·show(oH _ _).length=4
   rw [h4,aQ av]
   rcases(h2 x).1 hx with rfl | ⟨hx,hc⟩
   ·grind
   ·rw [aQ (by grind)]; exact H.w x hx
def HOk.rmv(H:HOk h)(c:Int):HOk ⟨h.up,h.bB,DC h.l c,WU h.l c h.d⟩:=by
 obtain⟨h1,h2,h3,h4⟩:=OV H.l c;refine⟨h1,by have:=H.n; grind,H.r,λk=>?_,λx hx=>?_⟩
 ·rcases h4 k with e | ⟨_,e⟩
  ·show(oH k _).length<=4; rw [e]; exact H.d k
  grind
 ·have hx':=(h2 x).1 hx
  rcases h4 ⟨x.X,false⟩ with e | ⟨e,_⟩
  ·show(oH _ _).length=4; rw [e]; exact H.w x hx'.1
  grind
def avq:∀(q:V Int){h:kV},HOk h->HOk ⟨h.up,h.bB,(q.foldl SV (h.l,h.d)).1,(q.foldl SV (h.l,h.d)).2⟩
 | [],h,H=>⟨H.l,H.n,H.r,H.d,H.w⟩
 | c::q,h,H=>by
  have:=avq q (H.rmv c);exact this
def am0(c bit:Int)(d:qD)(k:bP):(oH k (aeO c bit d)).length=(oH k d).length:=by
 grind [aeO,ay3,aaq,List.length_set]
def HOk.nil{up:Bool}{bB:Int}(h0:0<=bB)(h1:bB<=16):HOk ⟨up,bB,[],[]⟩:=
 ⟨⟨rfl,av⟩,h0,h1,λk=>by show([]:V (BitVec 8)).length<=4; decide,av⟩
def aiG(r:Int):0<=Ja r/\Ja r<=16:=by grind [Ja]
def avr{r:Int}(h:1<=r/\r<=16):Ja r=r:=by
 grind [Ja]
structure Inv (c:PC) (k:Nat):Prop where
  hm:lU c.m=true
  hr:l5 c.r=true
  hb:c.s.bZ.length<=k
  hl:JX c.s.bG c.r.l9 c.r.All=true
  hd:c.s.bn.length<=32*k
  hu:0<=c.Z/\c.Z<=100*k
  hw:c.I.length<=300*k
  hz:Je c.hs
  hN:Pv c.m c.hs
def Inv.ok(H:Inv c k)(hk:k<=1000):Ok c:=by
 have hl:=(xA.1 H.hl).2; have hbd:=(og H.hr).2.2.2.1
 exact⟨H.hm,H.hr,by have:=H.hb; omega,aj,by have:=H.hd; omega,by have:=H.hu; omega,by have:=H.hw; omega,
  λz h hg=>⟨by have:=(H.hz z h hg).n; have:=(H.hz z h hg).r; omega,λk=>by have:=(H.hz z h hg).d k; omega⟩,
  λn hn=>by obtain⟨h,hg,_⟩:=H.hN n hn; grind⟩
def Inv.NI(H:Inv c k):c.s.bG.length<=64:=by
 have hl:=(xA.1 H.hl).2; have hbd:=(og H.hr).2.2.2.1; omega
def Inv.mono{k2:Nat}(H:Inv c k)(h:k<=k2):Inv c k2:=
 ⟨H.hm,H.hr,by have:=H.hb; omega,H.hl,by have:=H.hd; omega,by have:=H.hu; omega,by have:=H.hw; omega,H.hz,H.hN⟩
def OKl.sub{l q:V bq}(h:OKl l dG)(hs:q.Sublist l):OKl q dG:=
 ⟨λx hx=>by
  have h1:=h.one x (hs.mem hx)
  grind [sends,takes],h.dif.sublist hs⟩
def ap2{l q:V bq}(h:JX l dG all=true)(hs:q.Sublist l):JX q dG all=true:=by
 have h1:=xA.1 h;exact xA.2 ⟨h1.1.sub hs,by grind⟩
theorem acG(l:V bq)(c t:Int):(zX l c t).Sublist l:=by
 unfold zX; split
 ·simp
 ·rw [<- Uj]; grind
def NJ(hm:lU m=true){x:eU}(h7:x.Kind≠7)(h0:x.Client=0)(h1:x.Kind≠1)(H:Pv m hs):Pv (rJ m x) hs:=λn hn=>by
 rcases(wL hm h7 h0).2 with h | ⟨hk,_,_⟩ | ⟨n0,hk,hn0,hi,hs,hb,h⟩
 ·rw [h] at hn; exact H n hn
 ·omega
 ·rcases(h n).1 hn with rfl | ⟨hn,_⟩
  ·exact H n0 hn0
  ·exact H n hn
def Vm:∀(l:V eU){m:bY},lU m=true->(∀ x∈l,x.Kind≠7/\x.Client=0/\x.Kind≠1)->Pv m hs->Pv (CW m l) hs
 | [],m,_,_,H=>H
 | x::l,m,hm,hl,H=>by
  have hx:=hl x (mO);exact Vm l (nP hm x) (λy hy=>hl y (kL _ hy)) (NJ hm hx.1 hx.2.1 hx.2.2 H)
def QE{s:fQ}{Z n:Int}:∀(l:V eU){m:bY},lU m=true->(∀ x∈l,x.Kind≠7/\x.Client=0/\x.Kind≠1)->Pv m hs->Pv (lM s Z n m l) hs
 | [],m,_,_,H=>H
 | x::l,m,hm,hl,H=>by
  have hx:=hl x (mO);show Pv (lM s Z n (Gm s Z n m x) l) hs;unfold Gm; split
  ·exact QE l (nP hm x) (λy hy=>hl y (kL _ hy)) (NJ hm hx.1 hx.2.1 hx.2.2 H)
  ·exact QE l hm (λy hy=>hl y (kL _ hy)) H
def ap3{s:fQ}{r:ARules}{Z:Int}:∀ x∈mM m s r Z,x.Kind≠7/\x.Client=0/\x.Kind≠1:=by
 intro x hx; unfold mM at hx; split at hx
 ·obtain⟨o,_,rfl⟩:=eX.1 hx; exact⟨by show(6:Int)≠7; decide,rfl,by show(6:Int)≠1; decide⟩
 grind
def avs{cs:V aH}{n:Int}{l:V aI}:∀ x∈jS cs n l,x.Kind≠7/\x.Client=0/\x.Kind≠1:=by
 intro x hx; unfold jS at hx; split at hx
 ·obtain⟨c,_,hc⟩:=ML.1 hx
  unfold recC at hc
  grind
 grind
def azx(H:Inv c k)(o:aL):Inv (j6 c o) k:=by
 cases hf:cZ o.jm c.hs with
 | none=>rw [SX hf]; exact H
 | some f=>
 cases hb:(!f.up||wo c.s c.Z o.X o.To) with
 | true=>rw [Ny hf hb]; exact H
 | false=>
 by_cases hr:¬ ((rT f.l f.d o.X).2.2=0/\(rT f.l f.d o.X).2.1=o.E/\((gI (rT f.l f.d o.X).1).toNat:Int)=o.Sum)
 ·rw [XA hf hr]; exact H
 replace hr:=Ii.1 hr;have hF:=H.hz _ _ hf;obtain⟨x,hx,bT,_,nE,_⟩:=aiA hF.l hr.1;have hd:(rT f.l f.d o.X).1.length=4:=by rw [nE,<- bT]; exact hF.w x hx
 cases ht:cZ o.To c.hs with
 | none=>
  have e:j6 c o=c:=by unfold j6; rw [hf]; simp only; rw [aQ (by rw [hb]; decide),aQ (λh=>h hr),ht]
  rw [e]; exact H
 | some t=>
 have hT:=(H.hz _ _ ht).take o.X (rT f.l f.d o.X).2.1 o.Sum hd
 cases hk:SS t.l t.bB o.X (rT f.l f.d o.X).2.1 o.Sum (rT f.l f.d o.X).1 with
 | false=>rw [SY hf hb hr ht hk]; exact⟨H.hm,H.hr,H.hb,H.hl,H.hd,H.hu,H.hw,H.hz.put hT,H.hN.put ht rfl⟩
 | true=>
  rw [Nz hf hb hr ht hk];refine⟨nP H.hm _,H.hr,H.hb,?_,H.hd,H.hu,H.hw,H.hz.put hT,(NJ H.hm (by show(5:Int)≠7; decide) rfl (by show(5:Int)≠1; decide) H.hN).put ht rfl⟩;show JX (if _ then _ else _) _ _=true
  split
  ·exact ap2 H.hl (acG _ _ _)
  ·exact H.hl
def azy(H:Inv c k)(o:aL):Inv (mZ c o) k:=by
 by_cases h0:o.Kind=0
 ·simp_all [mZ,aS,azx]
 cases ht:cZ o.To c.hs with
 | none=>grind [mZ]
 | some t=>
 cases hb:(dL t.l).any (Z8 o) with
 | false=>grind [Z9]
 | true=>rw [NA h0 ht hb]; exact⟨H.hm,H.hr,H.hb,H.hl,H.hd,H.hu,H.hw,H.hz.put ((H.hz _ _ ht).rmv _),H.hN.put ht rfl⟩
def GZ(H:Inv c k){I:V aL}(h:I.length<=300*k):Inv { c with I:=I } k:=⟨H.hm,H.hr,H.hb,H.hl,H.hd,H.hu,h,H.hz,H.hN⟩
def azz(H:Inv c k)(it:AItem):Inv (kM c it).1 (k+1):=by
 have hw:=H.hw;unfold kM; split
 ·exact H.mono aj
 ·split
  ·grind
  ·split
   ·exact GZ (H.mono aj) (by grind)
   ·have hn:(c.I.take it.A.toNat++c.I.drop (it.A.toNat+1)).length<=300*k:=by grind
    show Inv (if _ then _ else _) _
    split
    ·exact(azy (GZ H hn) _).mono aj
    ·exact(GZ H hn).mono aj
def Vn{c v sum:Int}(hd:data.length=4):∀(l:V Int){q:jc × V Int},Je q.1->Pv m q.1->Je (l.foldl (sM c v sum data) q).1/\Pv m (l.foldl (sM c v sum data) q).1
 | [],q,h1,h2=>⟨h1,h2⟩
 | z::l,q,h1,h2=>by
  rw [vY]
  have:Je (sM c v sum data q z).1/\Pv m (sM c v sum data q z).1:=by
   unfold sM; split
   ·exact⟨h1,h2⟩
   ·rename_i h hg; exact⟨h1.put ((h1 _ _ hg).take c v sum hd),h2.put hg rfl⟩
  exact Vn hd l this.1 this.2
def avt{it:AItem}{v:Int}{l:V Int}:∀ x∈l.map (λz=>vR it.A z v),x.Kind≠7/\x.Client=0/\x.Kind≠1:=by
 simp
def Jg(m:bY)(it:AItem):(qy m it).Kind≠7/\(qy m it).Client=0/\(qy m it).Kind≠1:=by
 refine⟨?_,Y,?_⟩ <;> (show(if _ then(4:Int) else 3)≠_; grind)
def afl{x:eU}(h:¬ (dS m x).2<0):(dS m x).1=rJ m x:=by grind [rJ]
def azA(H:Inv c k)(it:AItem):Inv (rz c it).1 k:=by
 have hd:(nD it.A it.B).length=4:=rfl;have hw:=Jg c.m it;unfold rz; split
 ·exact H
 ·rename_i hp
  have hh:=Vn hd (c:=it.A) (v:=(dS c.m (qy c.m it)).2) (sum:=FX it.A it.B) (m:=c.m) (S9 c (dS c.m (qy c.m it)).1) (q:=(c.hs,[])) H.hz H.hN;have hh2:=Vn hd (c:=it.A) (v:=(dS c.m (qy c.m it)).2) (sum:=FX it.A it.B) (S9 c (dS c.m (qy c.m it)).1) (q:=(c.hs,[])) H.hz (NJ H.hm hw.1 hw.2.1 hw.2.2 H.hN)
  split
  ·exact⟨H.hm,H.hr,H.hb,H.hl,H.hd,H.hu,H.hw,hh.1,hh.2⟩
  ·have hN:Pv (CW (dS c.m (qy c.m it)).1 ((FY c it).2.map λz=>vR it.A z (dS c.m (qy c.m it)).2)) (FY c it).1:=by
    rw [afl hp]; exact Vm _ (nP H.hm _) avt hh2.2
   exact⟨by show lU (CW _ _)=true; rw [afl hp]; exact Ta (nP H.hm _) _,H.hr,H.hb,H.hl,H.hd,H.hu,H.hw,hh2.1,hN⟩
def avu(l:V eP)(n Z:Int):(uN l n Z).length<=l.length+1:=by
 grind [uN,IQ,List.length_set,List.length_append,List.length_singleton,List.length_take,List.length_drop]
def aiH(hm:lU m=true)(s:fQ)(r:ARules)(Z:Int):(iM m s r Z).bn.length<=s.bn.length+32:=by
 have h:=aif m s r Z; have hs:=(vo (dD.1 hm).2.1).1;unfold iM; unfold mM at h
 split
 ·rename_i hb; rw [aS hb,jW] at h
  show((eT s Z).bn++uY m s r Z).length<=_;have:(eT s Z).bn.length<=s.bn.length:=mW _ _;rw [jH]; omega
 ·omega
theorem Vo(m:bY)(s:fQ)(r:ARules)(Z:Int):(iM m s r Z).bZ=s.bZ:=by unfold iM; split <;> rfl
def azB(H:Inv c k):Inv (tq c) (k+1):=by
 have hs:=(vo (dD.1 H.hm).2.1).1;refine⟨Ta H.hm _,H.hr,?_,ak1 _ _ _ _ H.hl,?_,by have:=H.hu; exact⟨this.1,by show c.Z<=_; omega⟩,?_,H.hz,Vm _ H.hm ap3 H.hN⟩
 ·show(iM _ _ _ _).bZ.length<=_; rw [Vo]; have:=H.hb; omega
 ·have:=aiH H.hm c.s c.r c.Z; have:=H.hd; show(iM _ _ _ _).bn.length<=_; omega
 ·show(c.I++pF _ _ _ _).length<=_
  have:=aad (m:=c.m) (r:=c.r) (Z:=c.Z) H.NI; have:=H.hw
  grind
abbrev KM(gX:bY)(iP:AItem):=oG gX.aM ⟨iP.A,iP.B,iP.C,0⟩
def ak2(hm:lU m=true)(it:AItem):(knE m (DW it)=0/\(rJ m (DW it)).J=m.J/\(∀ y,y∈(rJ m (DW it)).aM↔y=⟨it.A,it.B,it.C,0⟩∨y∈m.aM)/\LC ⟨it.A,it.B,it.C,0⟩=true/\∀ n∈m.aM,n.ID≠it.A)∨(knE m (DW it)≠0/\rJ m (DW it)=m):=by
 have hn:=(dD.1 hm).1
 have e:dS m (DW it)=(⟨if(KM m it).2=0 then(KM m it).1 else m.aM,m.J,m.aU⟩,Ie (KM m it).2 0):=by
  unfold dS; rw [aQ (by grind),aS (by rfl)]; rfl
 unfold knE rJ; rw [e]
 by_cases h0:(KM m it).2=0
 ·rcases Qr hn ⟨it.A,it.B,it.C,0⟩ with h | ⟨h,hm',h2⟩
  ·grind
  ·left
   have e2:Ie (KM m it).2 0=0:=by rw [h0]; rfl
   simp only; rw [e2,aS h0,aQ au,aQ au]
   grind [qV,aiD]
 ·right
  have e2:Ie (KM m it).2 0<0:=by
   have:=(ams m (DW it)).1;have e3:(yN m (DW it)).2.2.1=(KM m it).2:=rfl;rw [e3] at this;unfold Ie; rw [aS h0]; omega
  grind
def azC(H:Inv c k)(it:AItem):Inv (apB c it).1 k:=by
 have hN:Pv (rJ c.m (DW it)) (if knE c.m (DW it)=0 then fO it.A ⟨true,Ja it.C,[],[]⟩ c.hs else c.hs):=by
  rcases ak2 H.hm it with ⟨h0,_,h2,h3,h4⟩ | ⟨h0,h1⟩
  ·rw [aS h0]
   intro n hn
   rcases(h2 n).1 hn with rfl | hn'
   ·simp_all [LC,Vl,bK,bN,avr]
   ·obtain⟨h,hg,hr⟩:=H.hN n hn'
    grind [lC]
  ·rw [aQ h0,h1]; exact H.hN
 refine⟨nP H.hm _,H.hr,H.hb,H.hl,H.hd,H.hu,H.hw,?_,hN⟩;show Je (if _ then _ else _)
 split
 ·exact H.hz.put (.nil (aiG _).1 (aiG _).2)
 ·exact H.hz
theorem azD(H:Inv c k)(it:AItem)(hg:cZ it.A c.hs=some h):Inv (LU c it h) (k+1):=by
 refine⟨FZ H.hm _,H.hr,by have:=H.hb; show c.s.bZ.length<=_; omega,H.hl,by have:=H.hd; show c.s.bn.length<=_; omega,by have:=H.hu; exact⟨this.1,by show c.Z<=_; omega⟩,?_,H.hz,QE _ H.hm avs H.hN⟩;show(c.I++uV _ _ _ _).length<=_;have h1:(uV (dL h.l) (lK (lM c.s c.Z it.A c.m (jS c.m.J it.A (dL h.l))).J (dL h.l)) it.A (c.Z+c.r.gV)).length<=h.l.length:=by grind [uV,List.length_map,Nat.le_trans,List.length_filter_le,EP]
 have:=(H.hz _ _ hg).n; have:=(H.hz _ _ hg).r; have:=H.hw
 grind
def aEO(H:Inv c k){h2:kV}(hg:cZ z c.hs=some h)(hh:HOk h2)(hr:h2.bB=h.bB):Inv { c with hs:=fO z h2 c.hs } k:=
 ⟨H.hm,H.hr,H.hb,H.hl,H.hd,H.hu,H.hw,H.hz.put hh,H.hN.put hg hr⟩
def TB(H:Inv c k){h2:kV}(hg:cZ z c.hs=some h)(hh:HOk h2)(hr:h2.bB=h.bB):Inv { c with hs:=fO z h2 c.hs } (k+1):=(aEO H hg hh hr).mono (acU k)
theorem aEP(H:Inv c k)(it:AItem)(hg:cZ it.A c.hs=some h):Inv (Il c it h).1 (k+1):=by
 have hh:=H.hz _ _ hg;unfold Il
 split
 ·exact⟨H.hm,H.hr,by have:=avu c.s.bZ it.A c.Z; have:=H.hb; show(uN _ _ _).length<=_; omega,H.hl,by have:=H.hd; show c.s.bn.length<=_; omega,by have:=H.hu; exact⟨this.1,by show c.Z<=_; omega⟩,by have:=H.hw; show c.I.length<=_; omega,H.hz,H.hN⟩
 split
 ·grind [azD]
 split
 ·exact TB H hg ⟨hh.l,hh.n,hh.r,hh.d,hh.w⟩ rfl
 split
 ·rw [Tz hh.l]; exact TB H hg ⟨hh.l,hh.n,hh.r,hh.d,hh.w⟩ rfl
 split
 ·exact TB H hg (avq _ hh) rfl
 split
 ·exact TB H hg ⟨hh.l,hh.n,hh.r,λk=>by show(oH _ (aeO _ _ _)).length<=4; rw [am0]; exact hh.d k,λx hx=>by show(oH _ (aeO _ _ _)).length=4; rw [am0]; exact hh.w x hx⟩ rfl
 ·exact TB H hg (.nil (by have:=hh.n; omega) hh.r) rfl
def xB(H:Inv c k)(it:AItem):Inv (nJ c it).1 (k+1):=by
 unfold nJ
 split
 ·split
  ·exact H.mono aj
  ·have:=H.mono (acU k)
   refine⟨this.hm,this.hr,this.hb,this.hl,this.hd,?_,this.hw,this.hz,this.hN⟩;have:=H.hu; grind
 split
 ·exact(azC H it).mono aj
 split
 ·exact((⟨nP H.hm _,H.hr,H.hb,H.hl,H.hd,H.hu,H.hw,H.hz,NJ H.hm av rfl av H.hN⟩:Inv { c with m:=rJ c.m ⟨0,0,2,it.A,it.B,0⟩ } k)).mono aj
 split
 ·exact azB H
 split
 ·exact azz H it
 split
 ·exact(azA H it).mono aj
 split
 ·exact H.mono aj
 split
 ·exact H.mono aj
 ·rename_i h hg
  split
  ·exact H.mono aj
  grind [aEP]
def xO(c:PC)(l:List AItem):PC:=l.foldl (λc it=>(nJ c it).1) c
def am1:∀(l:V AItem){c:PC}{k:Nat},Inv c k->Inv (xO c l) (k+l.length)
 | [],c,k,H=>H
 | it::l,c,k,H=>by
  have:=am1 l (xB H it);rw [show k+(it::l).length=k+1+l.length by rw [oO]; omega]; exact this
def OW(c:PC)(l:V AItem)(it:AItem):xO c (l++[it])=(nJ (xO c l) it).1:=by simp [xO]
def Jh(r:ARules):PC:=⟨⟨[],[],[]⟩,⟨[],[],[]⟩,r,0,[],[]⟩
def aBz{r:ARules}(h:l5 r=true):Inv (Jh r) 0:=by
 have hbd:=(og h).2.2.2.1;refine⟨atG,h,j4 _,?_,j4 _,⟨FB _,FB _⟩,j4 _,λz h hg=>?_,λn hn=>?_⟩
 ·refine xA.2 ⟨⟨by simp [absurd,Jh],List.Pairwise.nil⟩,?_⟩
  show(0:Int)<=r.All; omega
 all_goals grind [absurd,Jh,cZ]
theorem aKH(c:PC)(o:aL):(j6 c o).r=c.r:=by
 grind [j6]
theorem aKI(c:PC)(o:aL):(mZ c o).r=c.r:=by
 grind [mZ,aKH]
def ak3(c:PC)(it:AItem):(nJ c it).1.r=c.r:=by
 unfold nJ
 split
 ·grind
 split
 ·rfl
 split
 ·rfl
 split
 ·rfl
 split
 ·grind [kM,aKI]
 split
 ·grind [rz]
 split
 ·rfl
 split
 ·rfl
 split
 ·rfl
 ·unfold Il
  split
  ·rfl
  split
  ·rfl
  grind
def aBA:∀(l:V AItem)(c:PC),(xO c l).r=c.r
 | [],c=>rfl
 | it::l,c=>(aBA l (nJ c it).1).trans (ak3 c it)
def OX{r:ARules}(hr:l5 r=true){l:V AItem}(hk:k<=l.length):Inv (xO (Jh r) (l.take k)) k:=by
 have:=am1 (l.take k) (aBz hr)
 grind
end
section
variable {b w:World}{S:Nat->Prop}{F:List kF}{iy:Nat}{G:GC}{jL:ah}{l:List AItem}
def azE:∀ w,(zeroValue 23).run prog w=.ok (.agg #[O 0,O 0,O 0,O 0,O 0,O 0]) w:=ay
def Ji(a0:Int)(a1:Int)(a2:Int)(a3:Int)(a4:Int)(a5:Int):prog.built 23 [(0,O a0),(1,O a1),(2,O a2),(3,O a3),(4,O a4),(5,O a5)]=some #[O a0,O a1,O a2,O a3,O a4,O a5]:=ak
def TD(a0:Int)(a1:Int)(a2:Int)(a3:Int):prog.built 32 [(0,O a0),(1,O a1),(2,O a2),(3,O a3)]=some #[O a0,O a1,O a2,O a3]:=ak
def NK(a0:Int)(a1:Int):prog.built 32 [(0,O a0),(1,O a1)]=some #[O a0,O a1,O 0,O 0]:=ak
def wu(g:Nat)(G:GC):kF:=abn (G.rs g)
def Vp(H0:Hp b S w (wu iy G::F))(it:AItem)(hok:Ok G.pl)(hC:vJ it.C):bM prog 6 #[fK iy,.agg #[O it.Kind,O it.A,O it.B,O it.C]] w λv w'=>∃(G1:GC),v=O (nJ G.pl it).2/\G1.pl=(nJ G.pl it).1/\Hp b S w' (wu iy G1::F):=by
 refine(aEH H0.allOut it hok hC).mono ?_;rintro v w' ⟨G',rfl,h,K⟩;exact⟨G',Y,h,K.allIn⟩
def aEQ(H0:Hp b S w (wu iy G::F))(bF:Int)  : bM prog 17 #[fK iy,O bF] w λv w'=>v=.bool (uP G.pl.hs bF)/\Hp b S w' (wu iy G::F):=by
 obtain⟨A1,c1,A2,c2,A3,c3,A4,c4,A5,c5,A6,c6,A7,c7,m,s,r,Z,gm,I,hs⟩:=G;have H1:=H0.allOut;refine(auA (H1.mV 1 8) bF).mono ?_;rintro v w' ⟨rfl,K⟩;exact⟨Y,(FQ (K.sel s8))⟩
def ak4(H0:Hp b S w (wu iy G::F))(bF:Int)(hok:Ok G.pl):bM prog 104 #[fK iy,O bF] w λv w'=>∃ A0 c0,v=.slice A0 ((Pq G.pl.hs bF).length) c0/\Hp b S w' (aR bg 140 A0 c0 (Pq G.pl.hs bF)::wu iy G::F):=by
 obtain⟨A1,c1,A2,c2,A3,c3,A4,c4,A5,c5,A6,c6,A7,c7,m,s,r,Z,gm,I,hs⟩:=G;have H1:=H0.allOut;refine(akW (H1.mV 1 8) bF (λh hg=>lG (avg hok.hz _ _ hg).1 au)).mono ?_;rintro v w' ⟨A0,c0,rfl,K⟩;exact⟨A0,c0,Y,((FQ ((K.mV 1 8).sel s9)).sel s1)⟩
def aiI(H0:Hp b S w (wu iy G::F))(aN:Int)(hok:Ok G.pl):bM prog 11 #[fK iy,O aN] w λv w'=>∃ A0 c0,v=.tuple #[.slice A0 (((uW G.pl aN).1).length) c0,O ((uW G.pl aN).2)]/\Hp b S w' (aR fP 5 A0 c0 ((uW G.pl aN).1)::wu iy G::F):=by
 obtain⟨A1,c1,A2,c2,A3,c3,A4,c4,A5,c5,A6,c6,A7,c7,m,s,r,Z,gm,I,hs⟩:=G;have H1:=H0.allOut;refine(avc (H1.mV 1 8) aN hok.hm (aBx (avg hok.hz))).mono ?_;rintro v w' ⟨A0,c0,rfl,K⟩;exact⟨A0,c0,Y,((FQ ((K.mV 1 8).sel s9)).sel s1)⟩
def aiJ(H0:Hp b S w (wu iy G::F)) (hok:Ok G.pl):bM prog 44 #[fK iy] w λv w'=>∃ wM wN Ab Ad Ae Af,v=.agg #[.slice wM G.pl.s.bZ.length wN,.slice Ab G.pl.s.bG.length Ad,.slice Ae G.pl.s.bn.length Af]/\Hp b S w' (aR iG 162 wM wN G.pl.s.bZ::aR dB 165 Ab Ad G.pl.s.bG::aR bA 121 Ae Af G.pl.s.bn::wu iy G::F):=by
 obtain⟨A1,c1,A2,c2,A3,c3,A4,c4,A5,c5,A6,c6,A7,c7,m,s,r,Z,gm,I,hs⟩:=G;have H1:=H0.allOut;refine(ava (H1.mV 1 8) hok.hb (lG hok.hl au) (lG hok.hd au)).mono ?_;rintro v w' ⟨wM,wN,Ab,Ad,Ae,Af,rfl,K⟩;exact⟨wM,wN,Ab,Ad,Ae,Af,Y,((((FQ ((K.mV 3 8).sel s11)).sel s3).sel s3).sel s3)⟩
def TF(H0:Hp b S w (wu iy G::F)) (hok:Ok G.pl):bM prog 7 #[fK iy] w λv w'=>∃ wM wN Ab Ad Ae Af,v=.agg #[.slice wM G.pl.m.aM.length wN,.slice Ab G.pl.m.J.length Ad,.slice Ae G.pl.m.aU.length Af]/\Hp b S w' (dI bW wM wN G.pl.m.aM::dI bD Ab Ad G.pl.m.J::dI cB Ae Af G.pl.m.aU::wu iy G::F):=by
 obtain⟨A1,c1,A2,c2,A3,c3,A4,c4,A5,c5,A6,c6,A7,c7,m,s,r,Z,gm,I,hs⟩:=G;have H1:=H0.allOut;refine(ave (H1.mV 1 8) hok.hm).mono ?_;rintro v w' ⟨wM,wN,Ab,Ad,Ae,Af,rfl,K⟩;exact⟨wM,wN,Ab,Ad,Ae,Af,Y,((((FQ ((K.mV 3 8).sel s11)).sel s3).sel s3).sel s3)⟩
def am2(H0:Hp b S w F)(r:ARules)(hr:l5 r=true):bM prog 5 #[.agg #[O r.lD,O r.l9,O r.All,O r.je,O r.gV,O r.eF]] w λv w'=>∃(gc:Nat)(G1:GC),v=.tuple #[fK gc,O 0]/\G1.pl=Jh r/\Hp b S w' (wu gc G1::F):=by
 refine(avd H0 r hr).mono ?_;rintro v w' ⟨gc,gm,B1,d1,B2,d2,B3,d3,B4,d4,B5,d5,B6,d6,B7,d7,rfl,K⟩;exact⟨gc,⟨B1,d1,B2,d2,B3,d3,B4,d4,B5,d5,B6,d6,B7,d7,mE,sE,r,0,gm,[],[]⟩,Y,Y,FQ (K.sel s8)⟩
def TG(xs:List (BitVec 8)):ByteArray:=(xs.map λb=>(b.toNat:Int)).foldl (λr n=>r.push (UInt8.ofNat n.toNat)) ByteArray.empty
section
open Go
variable {P:Program}{n:Cx}{l:List (Nat × Value)}{w:World}{x y:Operand}
def Ev.b2s{A:ah}{c:Nat}{xs:V (BitVec 8)}{t d e:TypeId}(h:Sl fP S w A c xs)(hs:P.underlying t=some (.slice e))(he:P.underlying e=some (.int .u8))(hd:P.underlying d=some .string)(hx:fM l x=some (.slice A xs.length c)):Ev P n l w (.convert t d x) (.string (TG xs)):=λo ac w' ho ha hw=>by
 unfold execOp; rw [ho]
 cases A with
 | none=>
  have hz:xs=[]:=xY (by have:=h.cap; have:=h.nil rfl; omega);subst hz
  simp only [ha.eval hx,Go.run_convert_bytes_string w' t d e none _ _ hs he hd,jh]
  simp [Conv.bytesToString,TG]
 | some a=>
  have hc:∀ j u,((xs.map λb=>(b.toNat:Int)).map (Value.int .u8))[j]? = some u->w.cell? (a.add j)=some u:=by
   intro j u hu;rw [Qs,rM] at hu
   cases hb:xs[j]? with
   | none=>rw [hb] at hu; cases hu
   | some b=>
    rw [hb] at hu;obtain⟨_,cs,h1,h2⟩:=h.rows j b hb;have h3:cs=[.int .u8 (b.toNat:Int)]:=h1;have:=h2 0 u (by rw [h3]; exact hu)
    simpa [fP,Ty.flat,Gh] using this
  have hl:=alD (P:=P) w' a _ (λj u hu=>hw.cell (hc j u hu))
  simp only [jW] at hl
  have h2:=Go.run_bytesToString w' a xs.length c (xs.map λb=>(b.toNat:Int)) hl
  simp [ha.eval hx,Go.run_convert_bytes_string w' t d e (some a) _ _ hs he hd,h2,TG]
end
abbrev zB30x0z:=(⟨10,2,4,2,5,1⟩:ARules)
def avv (H0:Hp b S w F)  : bM prog 14 #[] w λv w'=>v=.agg #[O (zB30x0z.lD),O (zB30x0z.l9),O (zB30x0z.All),O (zB30x0z.je),O (zB30x0z.gV),O (zB30x0z.eF)]/\Hp b S w' F:=by
 refine qN func14 ntmps14 Y<|rg<|al azE Y H0 λg1 w1 K1=>dn<|rg<|ev (iT (cs:=[O 10,O 2,O 4,O 2,O 5,O 1]) Y (by apply Ji))<|sty rfl K1 U rfl λw2 K2=>dn<|jE (qL rfl ⟨_,_,rfl,⟨_,rfl,jo Ls rfl (K2.x U)⟩,rfl⟩ ?_)
 have gy:(10:Int)=(zB30x0z.lD):=by first | with_reducible rfl | (simp; done) | omega
 have gH:(2:Int)=(zB30x0z.l9):=by first | with_reducible rfl | (simp; done) | omega
 have kN:(4:Int)=(zB30x0z.All):=by first | with_reducible rfl | (simp; done) | omega
 have nM:(2:Int)=(zB30x0z.je):=by first | with_reducible rfl | (simp; done) | omega
 have uO:(5:Int)=(zB30x0z.gV):=by first | with_reducible rfl | (simp; done) | omega
 have zC:(1:Int)=(zB30x0z.eF):=by first | with_reducible rfl | (simp; done) | omega
 exact⟨by rw [<- gy,<- gH,<- kN,<- nM,<- uO,<- zC] <;> rfl,(K2.rm U)⟩
end
end Go.Proofs.YthcmboepffiliaaGreat
