/- Lemmas. -/
import Derived.Test.YtlhnnmlenkahlaaGreathG10
set_option maxRecDepth 4000
set_option linter.all false
namespace Go.Proofs.YtlhnnmlenkahlaaGreat
open Go.RowKit Go.Proofs.Tryz
def aiZ:=@List.flatMap_singleton
def zi:=@underlying82
def Dh:=@underlying91
section
variable {S0 S:Nat->Prop}{Cm jU EW A1 A2 A3 A4 A5 A6 A7:ah}{iI EX c1 c2 c3 c4 c5 c6 c7:Nat}{report:List aG}{t et kt:TypeId}{ky:Operand}{o:aK}{b w:World}{F:List lG}
theorem aAp:bJ prog 186:=λ_ _=>by rfl
theorem aAq:bJ prog 185:=λ_ _=>by rfl
theorem qK(a0:Int)(a1:Int)(a2:Int)(a3:Int):prog.built 120 [(2,aI a0),(3,aI a1),(4,aI a2),(5,aI a3)]=some #[aI 0,aI 0,aI a0,aI a1,aI a2,aI a3]:=ak
def Ar(x:aG)(c:aF):Bool:=((!x.gH&&decide (x.aD=c.ID))&&decide (x.aB=c.aB))&&decide (x.Sum=c.Sum)
def recC(bH:Int)(report:List aG)(c:aF):List fH:=
  if(report.any (fun(x:aG)=>Ar x c)&&!c.aC.contains bH)=true then[⟨0,0,5,c.ID,bH,c.aB⟩] else if(!report.any (fun(x:aG)=>Ar x c)&&c.aC.contains bH)=true then[⟨0,0,6,c.ID,bH,0⟩] else[]
def j5(l:List aF)(bH:Int)(report:List aG):List fH:=if kI l=true/\1<=bH/\bH<=16 then l.flatMap (recC bH report) else[]
theorem arA(bH:Int)(report:List aG)(c:aF):(recC bH report c).length<=1:=by grind [recC]
theorem YH(bH:Int)(report:List aG):∀(l:List aF),(l.flatMap (recC bH report)).length<=l.length
  | []=>by simp
  | c::l=>by
    have h1:=YH bH report l;have h2:=arA bH report c
    simp only [List.flatMap_cons,jG,oV]; omega
theorem arB(l:List aF)(bH:Int)(report:List aG):(j5 l bH report).length<=l.length:=by
  grind [j5,YH]
theorem aks(w:World)(x:aG)(c:aF){BG:Nat}(GK:Sl dQ S0 w Cm BG c.aC) :
    bO prog 186 #[.agg #[aI x.aD,aI x.aB,gP x.Sum,.bool x.gH,.bool x.Bad],.agg #[aI c.ID,aI c.aB,gP c.Sum,.slice Cm c.aC.length BG]] w λv w'=>v=.bool (Ar x c)/\Hp w S0 w' []:=by
 refine lg S0 func186 ntmps186 Y λH0=>rg<|bx Y Y H0 λg1 w1 K1=>bx Y Y K1 λg2 w2 K2=>bX Y<|rg<|j6 g1 3 tV K2 s1 Y<|ev (iG Y)<|mv Y<|iO 6 14 ((!x.gH)&&(decide (x.aD=c.ID))) ?_ ?_
 ·cases hb8:(!x.gH) with
  | true=>
   refine wB g1 0 mM K2 s1 Y<|wB g2 0 qN K2 s0 Y<|bE Y (iM Y Y) Y<|ev (dM Y Y)<|dJ Y
  | false=>
   refine dN<|dN<|dN<|dN<|dN<|ev (dS Y Y)<|dJ Y
 refine mv Y<|iO 6 21 (((!x.gH)&&(decide (x.aD=c.ID)))&&(decide (x.aB=c.aB))) ?_ ?_
 ·cases U7:((!x.gH)&&(decide (x.aD=c.ID))) with
  | true=>
   have aj1:=U7
   try simp only [eT,dO,bK,eu,dZ,fI,bM,bV] at aj1
   refine wB g1 1 rJ K2 s1 Y<|wB g2 1 sJ K2 s0 Y<|bE Y (iM Y Y) Y<|ev (dM Y Y)<|dJ Y
  | false=>
   refine dN<|dN<|dN<|dN<|dN<|ev (dS Y Y)<|dJ Y
 refine mv Y<|iO 6 28 ((((!x.gH)&&(decide (x.aD=c.ID)))&&(decide (x.aB=c.aB)))&&(decide (x.Sum=c.Sum))) ?_ ?_
 ·cases aJh:(((!x.gH)&&(decide (x.aD=c.ID)))&&(decide (x.aB=c.aB))) with
  | true=>
   have aDZ:=aJh
   try simp only [eT,dO,bK,eu,dZ,fI,bM,bV] at aDZ
   refine wB g1 2 QZ K2 s1 Y<|wB g2 2 Iz K2 s0 Y<|bE Y (iM Y Y) Y<|ev (dM Y Y)<|dJ Y
  | false=>
   refine dN<|dN<|dN<|dN<|dN<|ev (dS Y Y)<|dJ Y
 refine bX Y<|iP Y ?_
 exact⟨by skip <;> rfl,K2.z⟩
theorem avU(w:World)(x:aG)(c:aF){BG:Nat}(h_c:Bx w iI 59 [aI c.ID,aI c.aB,gP c.Sum,.slice Cm c.aC.length BG])(GK:Sl dQ S0 w Cm BG c.aC) :
    bO prog 185 #[.agg #[aI x.aD,aI x.aB,gP x.Sum,.bool x.gH,.bool x.Bad],gI iI] w λv w'=>v=.bool (Ar x c)/\Hp w S0 w' []:=by
 refine lg S0 func185 ntmps185 Y λH0=>rg<|bx Y Y H0 λg1 w1 K1=>bX Y<|rg<|ev (fK oU Y Y (K1.x s0))<|ev (fK pQ Y Y (h_c.ext K1.ext))<|nD K1 Y (aks _ x c (K1.a GK).any) λw2 K2=>bX Y<|iP Y ?_
 exact⟨Y,(K2.rm s0)⟩
theorem ac8(w:World){jR:Nat}{l:List aF}(jE:Sl bD S0 w jU jR l)(bH:Int)(CV:Sl aZ S0 w EW EX report)(hn:l.length<=100000) :
    bO prog 108 #[.slice jU l.length jR,aI bH,.slice EW report.length EX] w λv w'=>∃(A0:ah)(c0:Nat),v=.slice A0 ((j5 l bH report).length) c0/\Hp w S0 w' [aQ Ad 120 A0 c0 (j5 l bH report)]:=by
 refine lg S0 func108 ntmps108 Y λH0=>?_;have hq:=λk=>YH bH report (l.take k)
 simp only [iF] at hq
 refine iT Y<|aY<|bQ Y<|nD H0 Y (MP _ (H0.a jE).any aj) λw1 K1=>ev (iG Y)<|mv Y<|iO 3 18 ((!(kI l))||(decide (bH<1))) ?_ ?_
 ·cases U7:(!(kI l)) with
  | true=>
   refine dN<|dN<|ev (dM Y Y)<|dJ Y
  | false=>
   refine bE Y (bq Y) Y<|bE Y (fD Y Y) Y<|ev (dS Y Y)<|dJ Y
 refine mv Y<|iO 3 22 (((!(kI l))||(decide (bH<1)))||(decide (16<bH))) ?_ ?_
 ·cases ZC:((!(kI l))||(decide (bH<1))) with
  | true=>
   refine dN<|dN<|ev (dM Y Y)<|dJ Y
  | false=>
   have apN:=ZC
   try simp only [eT,dO,bK,eu,dZ,fI,bM,bV] at apN
   refine bE Y (bq Y) Y<|bE Y (sQ Y Y) Y<|ev (dS Y Y)<|dJ Y
 refine dn<|bP Y (λhc22=>?_) (λhc22=>?_)
 ·try simp only [eT,dO,bK,eu,dZ,fI,bM,bV] at hc22
  refine iT Y<|wO Y ?_
  have H1:=K1.nil Ad 120;have fT:(([]:List fH):List fH)=(j5 l bH report):=by unfold j5; rw [aP (by rcases hc22 with (h | h) | h; simp [h]; omega; omega)]
  have H2:=(fT▸H1:Hp w S0 w1 (aQ Ad 120 none 0 (j5 l bH report)::[]));exact⟨none,0,by rw [<- fT] <;> rfl,H2⟩
 try simp only [eT,dO,bK,eu,dZ,fI,bM,bV] at hc22
 refine jy ?_;refine iT Y<|aY<|bQ Y<|ev (eX iV Y)<|mv Y<|dn<|cB ?_
 have H3:=K1.nil Ad 120;have gu:(([]:List fH):List fH)=((l.take 0).flatMap (recC bH report)):=by rfl
 refine lF (t:=7) Y (aV (λz=>Value.slice none (List.length z) 0) gu) ?_;have H4:=H3.nil Ad 120;have H5:=(gu▸H4:Hp w S0 w1 (aQ Ad 120 none 0 ((l.take 0).flatMap (recC bH report))::[aQ Ad 120 none 0 []]));refine Lp (H5.cU 0 2) (λl0 rk mJ lJ wJ=>∃(k:Nat)(A7:ah)(c7:Nat),lJ=(7,.slice A7 (((l.take k).flatMap (recC bH report)).length) c7)::(25,aI ((k:Nat):Int))::l0/\mJ=l.length - k/\k<=l.length/\Hp w S0 wJ (aQ Ad 120 A7 c7 ((l.take k).flatMap (recC bH report))::rk)) ⟨0,none,0,Y,Y,fE _,(H5.rm s1)⟩ Y ?_;rintro _ _ w2 ⟨k,A7,c7,rfl,rfl,hk,K2⟩;refine rg<|ev (fD Y Y)<|dn<|pG Y (λNJ=>?_) (λNJ=>?_)
 ·refine jy ?_;refine aY<|cB<|rg ?_
  obtain⟨x1,bN⟩:=bn (xs:=l) (i:=k) aj;refine ev (eP (i:=k) iV qy Y Y Y (aM bN) ((K2.a jE).some_ bN)) ?_;obtain⟨B1,d1,zF,hi1⟩:=zW (jE.row bN);refine ev (iU pQ Y Y (FE (λj u hu=>K2.ext.cell (zF j u hu))))<|al lX Y K2 λg1 w3 K3=>sty Y K3 s0 Y λw4 K4=>dn<|bQ Y<|ev (rE Y)<|nD K4 Y (EP _ (K4.a CV).any aAq (fun(x:aG)=>Ar x x1) (λw' x e hm=>(avU w' x x1 ((K4.x s0).ext e) ((K4.a hi1).any.ext e)).mono (by rintro _ _ ⟨rfl,gu⟩; exact⟨rfl,gu.ext⟩))) λw5 K5=>bX rfl<|rg<|j6 g1 3 kH K5 s0 rfl<|mv rfl<|nD K5 rfl (kL _ (K5.a hi1).any bH) λw6 K6=>bX rfl<|cB<|bQ rfl<|mv rfl<|iO 3 41 ((report.any (fun(x:aG)=>Ar x x1))&&(!(x1.aC.contains bH))) ?_ ?_
  ·cases ayD:report.any (fun(x:aG)=>Ar x x1) with
   | true=>
    refine bE Y (bq Y) Y<|bE Y (iG Y) Y<|ev (dM Y Y)<|dJ Y
   | false=>
    refine dN<|dN<|ev (dS Y Y)<|dJ Y
  refine bX Y<|bP Y (λabZ=>?_) (λabZ=>?_)
  ·refine jC<|mv Y<|j6 g1 0 qN K6 s0 Y<|mv Y<|j6 g1 1 sJ K6 s0 Y<|ev (jX Y (by apply qK))<|Bh (τ:=Ad) (x:=(⟨0,0,5,x1.ID,bH,x1.aB⟩:fH)) rfl (by intro _; apply yI) rfl K6 (λ_ _=>rfl) λg2 w7 K7=>ap (ys:=([(⟨0,0,5,x1.ID,bH,x1.aB⟩:fH)]:List fH)) K7 s2 rfl rfl (K7.o s0) Lx aiB (by have:=hq k; omega) av rfl λpU pV w8 K8=>jk rfl<|jD<|iw (iw (gy ?_))
   refine jC<|ev (dP Y Y)<|mv Y<|jD ?_
   have kC:((((l.take k).flatMap (recC bH report))++([(⟨0,0,5,x1.ID,bH,x1.aB⟩:fH)]:List fH)):List fH)=((l.take (k+1)).flatMap (recC bH report)):=by rw [fC bN,acs,aiZ]; unfold recC; first | rw [aS abZ] | (rw [aP (by rw [abZ]; decide)]; first | rw [aS ai0] | (rw [aP (by rw [ai0]; decide)]; simp))
   refine jq (t:=7) Y (aV (λz=>Value.slice pU (List.length z) pV) kC) ?_;rw [kC] at K8;exact dG ⟨(k+1),pU,pV,Y,Y,aj,(K8.cU 1 2)⟩ rfl aj
  refine bQ Y<|ev (iG Y)<|mv Y<|iO 2 56 ((!(report.any (fun(x:aG)=>Ar x x1)))&&(x1.aC.contains bH)) ?_ ?_
  ·cases aOF:(!(report.any (fun(x:aG)=>Ar x x1))) with
   | true=>
    refine bE Y (bq Y) Y<|ev (dM Y Y)<|dJ Y
   | false=>
    refine dN<|ev (dS Y Y)<|dJ Y
  refine bX Y<|bP Y (λai0=>?_) (λai0=>?_)
  ·refine jC<|mv Y<|j6 g1 0 qN K6 s0 Y<|mv Y<|ev (jX Y (by apply yH))<|Bh rfl (by intro _; apply yI) rfl K6 (λ_ _=>rfl) λg3 w9 K9=>ap (ys:=([(⟨0,0,6,x1.ID,bH,0⟩:fH)]:List fH)) K9 s2 rfl rfl (K9.o s0) Lx aiB (by have:=hq k; omega) av rfl λXp cp2 Om K10=>jk rfl<|jD<|iw (iw (gy ?_))
   refine jC<|ev (dP Y Y)<|mv Y<|jD ?_
   have nC:((((l.take k).flatMap (recC bH report))++([(⟨0,0,6,x1.ID,bH,0⟩:fH)]:List fH)):List fH)=((l.take (k+1)).flatMap (recC bH report)):=by rw [fC bN,acs,aiZ]; unfold recC; first | rw [aS abZ] | (rw [aP (by rw [abZ]; decide)]; first | rw [aS ai0] | (rw [aP (by rw [ai0]; decide)]; simp))
   refine jq (t:=7) Y (aV (λz=>Value.slice Xp (List.length z) cp2) nC) ?_;rw [nC] at K10;exact dG ⟨(k+1),Xp,cp2,Y,Y,aj,(K10.cU 1 2)⟩ rfl aj
  refine zo (iw (iw (gy ?_)));refine jC<|ev (dP Y Y)<|mv Y<|jD ?_
  have rV:(((l.take k).flatMap (recC bH report)):List fH)=((l.take (k+1)).flatMap (recC bH report)):=by rw [fC bN,acs,aiZ]; unfold recC; first | rw [aS abZ] | (rw [aP (by rw [abZ]; decide)]; first | rw [aS ai0] | (rw [aP (by rw [ai0]; decide)]; simp))
  refine jq (t:=7) Y (aV (λz=>Value.slice A7 (List.length z) c7) rV) ?_;rw [rV] at K6;exact dG ⟨(k+1),A7,c7,Y,Y,aj,(K6.rm s0)⟩ rfl aj
 refine xq ?_;refine bQ Y<|bX Y<|iP Y ?_
 have xW:(((l.take k).flatMap (recC bH report)):List fH)=(j5 l bH report):=by unfold j5; rw [aS ⟨by first | exact hc22.1.1 | simp_all,aj,aj⟩,gV aj]
 rw [xW] at K2;exact⟨A7,c7,by rw [xW] <;> rfl,K2⟩
def rX(l:List aF)(x:aG):Bool:=!x.gH&&!(gZ l x.aD&&Ar x (aU l x.aD))
def ac9(l:List aF)(report:List aG):List Int:=(report.filter (rX l)).map aG.aD
def lT(l:List aF)(report:List aG):List Int:=if kI l=true then Lib.compact ((ac9 l report).mergeSort fun(x y:Int)=>decide (x<=y)) else[]
theorem arC(w:World){jR:Nat}{l:List aF}(jE:Sl bD S0 w jU jR l)(CV:Sl aZ S0 w EW EX report)(hn:l.length<=100000)(hh:∀ x∈l,x.aC.length<=100000)(hr:report.length<=100000) :
    bO prog 110 #[.slice jU l.length jR,.slice EW report.length EX] w λv w'=>∃(A0:ah)(c0:Nat),v=.slice A0 ((lT l report).length) c0/\Hp w S0 w' [aQ dQ 3 A0 c0 (lT l report)]:=by
 refine lg S0 func110 ntmps110 Y λH0=>?_;have hq:=λk=>ni (rX l) (report.take k)
 simp only [iF] at hq
 refine iT Y<|aY<|bQ Y<|nD H0 Y (MP _ (H0.a jE).any aj) λw1 K1=>ev (iG Y)<|dn<|bP Y (λnN=>?_) (λnN=>?_)
 ·try simp only [eT,dO,bK,eu,dZ,fI,bM,bV] at nN
  refine iT Y<|wO Y ?_
  have H1:=K1.nil dQ 3;have fT:(([]:List Int):List Int)=(lT l report):=by unfold lT; rw [aP (by simp_all)]
  have H2:=(fT▸H1:Hp w S0 w1 (aQ dQ 3 none 0 (lT l report)::[]));exact⟨none,0,by rw [<- fT] <;> rfl,H2⟩
 try simp only [eT,dO,bK,eu,dZ,fI,bM,bV] at nN
 refine jy ?_;refine iT Y<|aY<|bQ Y<|ev (eX jK Y)<|mv Y<|dn<|cB ?_
 have H3:=K1.nil dQ 3;have gu:(([]:List Int):List Int)=(((report.take 0).filter (rX l)).map aG.aD):=by rfl
 refine lF (t:=5) Y (aV (λz=>Value.slice none (List.length z) 0) gu) ?_;have H4:=H3.nil dQ 3;have H5:=(gu▸H4:Hp w S0 w1 (aQ dQ 3 none 0 (((report.take 0).filter (rX l)).map aG.aD)::[aQ dQ 3 none 0 []]));refine Lp (H5.cU 0 2) (λl0 rk mJ lJ wJ=>∃(k:Nat)(A5:ah)(c5:Nat),lJ=(5,.slice A5 ((((report.take k).filter (rX l)).map aG.aD).length) c5)::(15,aI ((k:Nat):Int))::l0/\mJ=report.length - k/\k<=report.length/\Hp w S0 wJ (aQ dQ 3 A5 c5 (((report.take k).filter (rX l)).map aG.aD)::rk)) ⟨0,none,0,Y,Y,fE _,(H5.rm s1)⟩ Y ?_;rintro _ _ w2 ⟨k,A5,c5,rfl,rfl,hk,K2⟩;refine rg<|ev (fD Y Y)<|dn<|pG Y (λhc16=>?_) (λhc16=>?_)
 ·refine jy ?_;refine aY<|cB<|rg ?_
  obtain⟨x1,bN⟩:=bn (xs:=report) (i:=k) aj;refine ev (eP (i:=k) jK mH Y Y Y (aM bN) ((K2.a CV).some_ bN))<|ev (iU oU Y Y ((K2.a CV).fF bN))<|al yu Y K2 λg1 w3 K3=>sty Y K3 s0 Y λw4 K4=>dn<|bQ Y<|j6 g1 0 mM K4 s0 Y<|gU Y (find_ok _ (K4.a jE) x1.aD aj hh) ?_
  rintro _ w5 ⟨X9,Ya,rfl,h5⟩;have K5:=K4.c1 h5;refine mv Y<|xt Y Y<|xt Y Y<|al lX Y K5 λg2 w6 K6=>sty Y K6 s0 Y λw7 K7=>bX Y<|rg<|j6 g1 3 tV K7 s2 Y<|ev (iG Y)<|mv Y<|pF 8 37 ((!x1.gH)&&(!((gZ l x1.aD)&&(Ar x1 (aU l x1.aD))))) ?_ ?_
  ·cases aOG:(!x1.gH) with
   | true=>
    refine bE Y (bq Y) Y<|bE Y (bq Y) Y<|pF 4 35 ((gZ l x1.aD)&&(Ar x1 (aU l x1.aD))) ?_ ?_
    ·cases aD0:gZ l x1.aD with
     | true=>
      refine bE Y (fK oU Y Y (K7.x s2)) Y<|bE Y (fK pQ Y Y (K7.x s0)) Y<|oD Y Y Y Y aAp (aks _ x1 (aU l x1.aD) (K7.s s1).any) Y ?_
      rintro _ w8 ⟨rfl,h8⟩;refine bE Y (dM Y Y) Y<|jo Y h8.ext
     | false=>
      refine dN<|dN<|dN<|bE Y (dS Y Y) Y<|jo Y (pW _)
    intro w9 e9;refine bE Y (iG Y) Y<|ev (dM Y Y)<|jo Y e9
   | false=>
    refine dN<|dN<|dN<|dN<|dN<|dN<|dN<|ev (dS Y Y)<|jo Y (pW _)
  intro Om e10;have K10:=K7.grow e10;refine dn<|bP Y (λaiQ=>?_) (λaiQ=>?_)
  ·refine jC<|mv Y<|j6 g1 0 mM K10 s2 Y<|Bh (τ:=dQ) (x:=x1.aD) Y (by intro _; apply pR) rfl K10 (λ_ _=>rfl) λg3 Va vM=>ap (ys:=([x1.aD]:List Int)) vM s4 rfl rfl (vM.o s0) fA KU (by have:=hq k; simp only [kF]; omega) av rfl λpU pV Vb vH=>jk rfl<|jD<|iw (gy ?_)
   refine jC<|ev (dP Y Y)<|mv Y<|jD ?_
   have kC:(((((report.take k).filter (rX l)).map aG.aD)++([x1.aD]:List Int)):List Int)=(((report.take (k+1)).filter (rX l)).map aG.aD):=by rw [nM bN,show rX l x1=_ from aiQ]; simp
   refine jq (t:=5) Y (aV (λz=>Value.slice pU (List.length z) pV) kC) ?_;rw [kC] at vH;exact dG ⟨(k+1),pU,pV,Y,Y,aj,(vH.cU 1 4)⟩ rfl aj
  refine Ci ?_;refine jC<|ev (dP Y Y)<|mv Y<|jD ?_
  have nC:((((report.take k).filter (rX l)).map aG.aD):List Int)=(((report.take (k+1)).filter (rX l)).map aG.aD):=by rw [nM bN,show rX l x1=_ from aiQ]; simp
  refine jq (t:=5) Y (aV (λz=>Value.slice A5 (List.length z) c5) nC) ?_;rw [nC] at K10;exact dG ⟨(k+1),A5,c5,Y,Y,aj,(K10.cU 0 3)⟩ rfl aj
 refine xq ?_;refine bQ Y<|gU Y (sorti Tryz.lays189 (K2.sel s0) (by have:=hq k; simp only [kF]; omega)) ?_
 rintro _ w13 ⟨rfl,Bf⟩;have hl1:((((report.take k).filter (rX l)).map aG.aD).mergeSort fun(x y:Int)=>decide (x<=y)).length=(((report.take k).filter (rX l)).map aG.aD).length:=KH _;refine gJ (t:=5) (u:=.slice A5 ((((report.take k).filter (rX l)).map aG.aD).length) c5) (v:=.slice A5 (((((report.take k).filter (rX l)).map aG.aD).mergeSort fun(x y:Int)=>decide (x<=y)).length) c5) Y (by rw [hl1])<|gJ (t:=44) (u:=.slice A5 ((((report.take k).filter (rX l)).map aG.aD).length) c5) (v:=.slice A5 (((((report.take k).filter (rX l)).map aG.aD).mergeSort fun(x y:Int)=>decide (x<=y)).length) c5) rfl (by rw [hl1])<|dn<|bQ rfl<|gU rfl (aB3 Tryz.laysNm220 (Bf.sel s0) (by rw [KH]; have:=hq k; simp only [kF]; omega)) ?_
 rintro _ w14 ⟨rfl,xM⟩;refine bX Y<|iP Y ?_
 have rV:((Lib.compact ((((report.take k).filter (rX l)).map aG.aD).mergeSort fun(x y:Int)=>decide (x<=y))):List Int)=(lT l report):=by unfold lT ac9; rw [aS (by simpa using nN),gV (show report.length<=k by omega)]
 rw [rV] at xM;exact⟨A5,c5,by rw [rV] <;> rfl,xM⟩
structure l6 where
  gh:Nat
  gs:Nat
  gm:Nat
  A:Option Addr
  c:Nat
  up:Bool
  bG:Int
  l:List aG
  es:oz
abbrev kG:=List (Int × l6)
abbrev ekZ(z:Int):Value:=.int .i64 z
abbrev evH(g:Nat):Value:=.pointer (some ⟨g,0,none⟩)
theorem EY:LV prog 3 ekZ:=by simp [avF]
def Au(h:l6):List lG:=[dW h.gh 95 [.pointer (some ⟨h.gs,0,none⟩),.bool h.up],dW h.gs 169 [.int .i64 h.bG,.slice h.A h.l.length h.c,.map (some h.gm)],dH aZ h.A h.c h.l,rA xA wI h.gm h.es,fU gQ 5 (h.es.map Prod.snd)]
def uz(hs:kG):List (Int × Nat):=hs.map λp=>(p.1,p.2.gh)
def rHk(g:Nat)(ks:List (Int × Nat))(hs:kG):lG:=ZO (rA ekZ evH g ks::hs.flatMap λp=>Au p.2)
abbrev jL(g:Nat)(hs:kG):lG:=rHk g (uz hs) hs
section
variable {b w:World}{S:Nat->Prop}{rs rest:List lG}{g:Nat}{ks:List (Int × Nat)}{hs:kG}{z:Int}{h:l6}
theorem Hp.agq(H:Hp b S w rs)(s:pq rs (rHk g ks hs) rest):Hp b S w (rA ekZ evH g ks::((hs.flatMap λp=>Au p.2)++rest)):=(H.sel s).allOut
theorem Hp.aku(H:Hp b S w rs)(s:pq rs (rHk g ks hs) rest):(ks.map Prod.fst).Nodup:=((H.agq s).mp .h).1
theorem Hu(hs:kG):(uz hs).map Prod.fst=hs.map Prod.fst:=by simp [uz]
theorem Hp.aJi(H:Hp b S w rs)(s:pq rs (jL g hs) rest):(hs.map Prod.fst).Nodup:=Hu hs▸H.aku s
theorem TK(z:Int)(hs:kG):dY z (uz hs)=(dY z hs).map l6.gh:=Q5 l6.gh z hs
theorem Ev.hN{n:Cx}{l:List (Nat × Value)}{m:Operand}(H:Hp b S w rs)(s:pq rs (jL g hs) rest)(hg:dY z hs=none)(hk:LV prog kt ekZ)(hm:prog.underlying t=some (.map kt et))(hz:∀ w,(zeroValue et).run prog w=.ok (.pointer none) w)(hx:gY l m=some (.map (some g)))(hkey:gY l ky=some (ekZ z)) :
    Ev prog n l w (.lookup t m ky false) (.pointer none):=by
  have h1:=Ev.aq7 (H.agq s) .h hk hm hz hx hkey (n:=n);rw [TK,hg] at h1; exact h1
theorem Ev.hS{gh gs gm:Nat}{A:ah}{c:Nat}{up:Bool}{bG:Int}{l':List aG}{es:oz}{n:Cx}{l:List (Nat × Value)}{m:Operand}(H:Hp b S w rs)(s:pq rs (jL g hs) rest)(hg:dY z hs=some ⟨gh,gs,gm,A,c,up,bG,l',es⟩)(hk:LV prog kt ekZ)(hm:prog.underlying t=some (.map kt et))(hz:∀ w,(zeroValue et).run prog w=.ok (.pointer none) w)(hx:gY l m=some (.map (some g)))(hkey:gY l ky=some (ekZ z)) :
    Ev prog n l w (.lookup t m ky false) (gI gh):=by
  have h1:=Ev.aq7 (H.agq s) .h hk hm hz hx hkey (n:=n);rw [TK,hg] at h1; exact h1
theorem ada(hn:(hs.map Prod.fst).Nodup)(hg:dY z hs=some h):(hs.flatMap λp=>Au p.2).Perm (Au h++(oJ z hs).flatMap λp=>Au p.2):=(am6 hn hg).flatMap_right _
theorem Hp.axQ(H:Hp b S w rs)(s:pq rs (jL g hs) rest)(hg:dY z hs=some h):Hp b S w (dW h.gh 95 [gI h.gs,.bool h.up]::dW h.gs 169 [aI h.bG,.slice h.A h.l.length h.c,.map (some h.gm)]::dH aZ h.A h.c h.l::rA xA wI h.gm h.es::fU gQ 5 (h.es.map Prod.snd)::rHk g (uz hs) (oJ z hs)::rest):=by
  have hn:=H.aJi s;have H1:=H.agq s
  have H2:Hp b S w (Au h++((rA ekZ evH g (uz hs)::(oJ z hs).flatMap λp=>Au p.2)++rest)):=H1.perm (by
    refine(((ada hn hg).append_right rest).cons _).trans ?_;rw [pE]
    exact Gs.symm)
  have H3:=uI H2;rw [pE] at H3
  exact(ET H3).perm (by
    refine((zQ).cons _).trans<|Gs.symm)
theorem Hp.xg{gh gs gm:Nat}{A:ah}{c:Nat}{up:Bool}{bG:Int}{l:List aG}{es:oz}(H:Hp b S w rs)(s:pq rs (jL g hs) rest)(hg:dY z hs=some ⟨gh,gs,gm,A,c,up,bG,l,es⟩) :
    Hp b S w (dW gh 95 [gI gs,.bool up]::dW gs 169 [aI bG,.slice A l.length c,.map (some gm)]::dH aZ A c l::rA xA wI gm es::fU gQ 5 (es.map Prod.snd)::rHk g (uz hs) (oJ z hs)::rest):=H.axQ s hg
theorem Hp.EZ(H:Hp b S w rs)(s:pq rs (jL g hs) rest)(hg:dY z hs=some h):Bx w h.gh 95 [gI h.gs,.bool h.up]:=(H.axQ s hg).x s0
theorem Hp.aAr{gs gm:Nat}{A:ah}{c:Nat}{up:Bool}{bG:Int}{l:List aG}{es:oz}(hg:dY z hs=some h)(H:Hp b S w (dW h.gh 95 [gI gs,.bool up]::dW gs 169 [aI bG,.slice A l.length c,.map (some gm)]::dH aZ A c l::rA xA wI gm es::fU gQ 5 (es.map Prod.snd)::rHk g (uz hs) (oJ z hs)::rest)) :
    Hp b S w (jL g (gK z ⟨h.gh,gs,gm,A,c,up,bG,l,es⟩ hs)::rest):=by
  have hn:(hs.map Prod.fst).Nodup:=Hu hs▸H.aku (.t (.t (.t (.t (.t .h)))));obtain⟨h',hh'⟩:∃ h':l6,h'=⟨h.gh,gs,gm,A,c,up,bG,l,es⟩:=⟨_,rfl⟩;have hgh:h'.gh=h.gh:=by rw [hh']
  have H1:Hp b S w (Au h'++(rHk g (uz hs) (oJ z hs)::rest)):=by rw [hh']; exact H
  rw [<- hh'];have hput:=agd (v':=h') (k:=z) hn;have hn2:((gK z h' hs).map Prod.fst).Nodup:=LW hn
  have hkeys:uz (gK z h' hs)=uz hs:=by
    unfold uz;rw [Q7 l6.gh z h' hs];have h2:=TK z hs;rw [hg] at h2;obtain⟨j,hj⟩:=zA (show dY z (uz hs)=some h.gh from h2);rw [hgh];show gK z h.gh (uz hs)=_;rw [Hq (by rw [Hu]; exact hn) hj];exact TH hj
  have H2:Hp b S w (rHk g (uz hs) (oJ z hs)::(Au h'++rest)):=H1.perm Gs;have H3:=H2.allOut;have hp:=ada hn2 hput;rw [agc hg] at hp
  have H4:Hp b S w ((rA ekZ evH g (uz (gK z h' hs))::(gK z h' hs).flatMap λp=>Au p.2)++rest):=by
    rw [hkeys];refine H3.perm ?_;show(rA ekZ evH g (uz hs)::(((oJ z hs).flatMap λp=>Au p.2)++(Au h'++rest))).Perm (rA ekZ evH g (uz hs)::(((gK z h' hs).flatMap λp=>Au p.2)++rest));refine List.Perm.cons _ ?_;rw [<- pE];exact(zQ.trans hp.symm).append_right rest
  exact H4.allIn
def Jr:=@Hp.aAr
theorem ane{κ ν:Type}[DecidableEq κ]{k:κ}{v:ν}{es:List (κ × ν)}(hn:(es.map Prod.fst).Nodup)(h:dY k es=some v):gK k v es=es:=by
  obtain⟨j,hj⟩:=zA h;rw [Hq hn hj]; exact TH hj
theorem Hp.arE{gh gs gm:Nat}{A:ah}{c:Nat}{up:Bool}{bG:Int}{l:List aG}{es:oz}(hg:dY z hs=some ⟨gh,gs,gm,A,c,up,bG,l,es⟩)(H:Hp b S w (dW gh 95 [gI gs,.bool up]::dW gs 169 [aI bG,.slice A l.length c,.map (some gm)]::dH aZ A c l::rA xA wI gm es::fU gQ 5 (es.map Prod.snd)::rHk g (uz hs) (oJ z hs)::rest)) :
    Hp b S w (jL g hs::rest):=by
  have hn:(hs.map Prod.fst).Nodup:=Hu hs▸H.aku (.t (.t (.t (.t (.t .h)))));have H1:=Jr hg H
  grind [ane]
def YI:=@Hp.arE
theorem Hp.aAs(H:Hp b S w (rA ekZ evH g ([]:List (Int × Nat))::rest)):Hp b S w (jL g []::rest):=ET H
theorem aJj{Q:Exit->Act->World->Prop}{K:Act->World->Prop}{bY:Array Oper}{os:List Oper}{n:Cx}{l:List (Nat × Value)}{ty:TypeId}{pos:String}{mO:Array Go.Edge}{m vy:Operand}{v:Nat}(H:Hp b S w rs)(s:pq rs (rHk g ks hs) rest)(hk:LV prog kt ekZ)(hm:prog.underlying t=some (.map kt et))(hx:gY l m=some (.map (some g)))(hkey:gY l ky=some (ekZ z))(hv:gY l vy=some (evH v))
    (k:∀ w',Hp b S w' (rHk g (gK z v ks) hs::rest)->WL prog n bY Q K os l w'):WL prog n bY Q K (⟨none,.mapUpdate t m ky vy,ty,pos,mO,none⟩::os) l w:=
  aAa (H.agq s) .h hk hm hx hkey hv λw' H'=>k w' (ET H')
theorem Hp.iW{L L':List lG}(h:L'.Sublist L):∀ {rs:List lG},Hp b S w (L++rs)->Hp b S w (L'++rs):=by
  induction h with
  | slnil=>simp
  | cons a _ ih=>exact λH=>ih (H.rm s0)
  | cons_cons a h ih=>
    intro rs H
    rename_i l1 l2
    have H1:Hp b S w (l2++(a::rs)):=H.perm Gs.symm;exact(ih H1).perm Gs
theorem akv{κ ν β:Type}[DecidableEq κ](f:κ × ν->List β)(k:κ):∀ es:List (κ × ν),((oJ k es).flatMap f).Sublist (es.flatMap f)
  | []=>List.Sublist.refl _
  | p::es=>by
    have ih:=akv f k es;unfold oJ at ih ⊢;rw [KQ,List.flatMap_cons]
    split
    · rw [List.flatMap_cons]; exact ih.append_left _
    · exact ih.trans (List.sublist_append_right _ _)
theorem Hp.avV(H:Hp b S w (dW h.gh 95 [gI h.gs,.bool h.up]::dW h.gs 169 [aI h.bG,.slice h.A h.l.length h.c,.map (some h.gm)]::dH aZ h.A h.c h.l::rA xA wI h.gm h.es::fU gQ 5 (h.es.map Prod.snd)::rHk g (gK z h.gh (uz hs)) hs::rest)):Hp b S w (jL g (gK z h hs)::rest):=by
  have hk:uz (gK z h hs)=gK z h.gh (uz hs):=Q7 l6.gh z h hs;have hn1:=H.aku (.t (.t (.t (.t (.t .h)))));rw [<- hk,Hu] at hn1;have hn:=Yx hn1;have H1:Hp b S w (Au h++(rHk g (gK z h.gh (uz hs)) hs::rest)):=H;rw [<- hk] at H1;have H2:Hp b S w (rHk g (uz (gK z h hs)) hs::(Au h++rest)):=H1.perm Gs;have H3:Hp b S w ((hs.flatMap λp=>Au p.2)++(rA ekZ evH g (uz (gK z h hs))::(Au h++rest))):=H2.allOut.perm Gs.symm;have H4:=Hp.iW (L':=(oJ z hs).flatMap λp=>Au p.2) (akv _ z hs) H3;have hp:=ada hn1 (agd (v':=h) hn)
  have hd:oJ z (gK z h hs)=oJ z hs:=by
    cases hg:dY z hs with
    | some h0=>exact agc hg
    | none=>
      grind [gK,oJ]
  rw [hd] at hp
  have H5:Hp b S w ((rA ekZ evH g (uz (gK z h hs))::(gK z h hs).flatMap λp=>Au p.2)++rest):=by
    refine H4.perm<|Gs.trans<|List.Perm.cons _ ?_
    rw [<- pE];exact(zQ.trans hp.symm).append_right rest
  exact H5.allIn
end
structure AItem where
  Kind:Int
  A:Int
  B:Int
  C:Int
  deriving DecidableEq
def AItem.enc(x:AItem):List Value:=[.int .i64 x.Kind,.int .i64 x.A,.int .i64 x.B,.int .i64 x.C]
theorem AItem.mD(x:AItem):∀ u∈x.enc,u.oneCell'=true:=by
  intro u hu
  simp only [AItem.enc,iR,mP,tq] at hu
  rcases hu with rfl | rfl | rfl | rfl <;> rfl
def AItem.wf(x:AItem):Prop:=qC x.Kind/\qC x.A/\qC x.B/\qC x.C
def tItem:Ty AItem:=Ty.flat 4 AItem.enc au (λ_=>rfl) AItem.mD
instance:Flat tItem:=⟨λh=>h⟩
structure oZ where
  up:Bool
  bG:Int
  l:List aG
  d:List (bT × List (BitVec 8))
abbrev qL:=List (bT × List (BitVec 8))
abbrev kN:=List (Int × oZ)
def LX(es:oz):qL:=es.map λp=>(p.1,p.2.2.2)
def l6.pl(h:l6):oZ:=⟨h.up,h.bG,h.l,LX h.es⟩
def kR(hs:kG):kN:=hs.map λp=>(p.1,p.2.pl)
theorem jA(z:Int)(hs:kG):dY z (kR hs)=(dY z hs).map l6.pl:=Q5 l6.pl z hs
theorem Aw(z:Int)(h:l6)(hs:kG):kR (gK z h hs)=gK z h.pl (kR hs):=Q7 l6.pl z h hs
def qA(k:bT)(d:qL):List (BitVec 8):=(dY k d).getD []
theorem Nh(k:bT)(es:oz):qA k (LX es)=(gD k es).2.2:=by
  unfold qA gD LX;rw [Q5 (fun(x:Option Addr × Nat × List (BitVec 8))=>x.2.2)]
  cases dY k es <;> rfl
theorem adb(k:bT)(v:Option Addr × Nat × List (BitVec 8))(es:oz):LX (gK k v es)=gK k v.2.2 (LX es):=Q7 (fun(x:Option Addr × Nat × List (BitVec 8))=>x.2.2) k v es
theorem ade(k:bT)(es:oz):LX (oJ k es)=oJ k (LX es):=arn (fun(x:Option Addr × Nat × List (BitVec 8))=>x.2.2) k es
def anf(l:List aG)(bG c v sum:Int)(fG:List (BitVec 8))(d:qL):qL:=if qX l bG c v sum fG=0 then gK ⟨c,true⟩ fG d else d
theorem aAt(l:List aG)(bG c v sum:Int)(fG:List (BitVec 8))(B:ah)(n:Nat)(es:oz):LX (Hr l bG c v sum fG B n es)=anf l bG c v sum fG (LX es):=by
  grind [Hr,anf,qX,iQ,kS,adb]
def avW(l:List aG)(c v:Int)(d:qL):qL:=if(mW l c v).2=0 then oJ ⟨c,true⟩ (gK ⟨c,false⟩ (qA ⟨c,true⟩ d) d) else d
theorem aAu(l:List aG)(c v:Int)(es:oz):LX (Vg l c v es)=avW l c v (LX es):=by
  grind [Vg,avW,ade,adb,Nh]
def YJ(l:List aG)(c:Int)(d:qL):qL:=if(o7 l c).2=0 then oJ ⟨c,false⟩ d else d
theorem arF(l:List aG)(c:Int)(es:oz):LX (OT l c es)=YJ l c (LX es):=by
  grind [OT,YJ,ade]
def TL(l:List aG)(bG c v sum:Int)(fG:List (BitVec 8)):Bool:=decide (qX l bG c v sum fG=0)&&decide ((mW (Bj l bG c v sum fG) c v).2=0)
def Hy(l:List aG)(bG c v sum:Int)(fG:List (BitVec 8)):List aG:=if qX l bG c v sum fG=0 then TJ (Bj l bG c v sum fG) c v else Bj l bG c v sum fG
def tkM(l:List aG)(bG c v sum:Int)(fG:List (BitVec 8))(B:ah)(n:Nat)(es:oz):oz:=if qX l bG c v sum fG=0 then Vg (Bj l bG c v sum fG) c v (Hr l bG c v sum fG B n es) else Hr l bG c v sum fG B n es
def tkD(l:List aG)(bG c v sum:Int)(fG:List (BitVec 8))(d:qL):qL:=if qX l bG c v sum fG=0 then avW (Bj l bG c v sum fG) c v (anf l bG c v sum fG d) else anf l bG c v sum fG d
theorem akw(l:List aG)(bG c v sum:Int)(fG:List (BitVec 8))(B:ah)(n:Nat)(es:oz):LX (tkM l bG c v sum fG B n es)=tkD l bG c v sum fG (LX es):=by
  grind [tkM,tkD,aAu,aAt]
def UO(l:List aG)(d:qL):List (aG × Bool):=(dK l).map λx=>(x,!decide (((iQ (qA (⟨x.aD,false⟩:bT) d)).toNat:Int)=x.Sum))
theorem akx(l:List aG)(es:oz):UO l (LX es)=Ao l es:=by
  simp [UO,Ao,UM,Yq,Nh]
def uD(l:List aG)(d:qL)(c:Int):List (BitVec 8) × Int × Int:=match (UO l d).find? (fun(p:aG × Bool)=>decide (p.1.aD=c)) with
  | none=>([],0,5)
  | some p=>if p.2=true then([],0,4) else(qA (⟨c,false⟩:bT) d,p.1.aB,0)
theorem agr(l:List aG)(es:oz)(c:Int):uD l (LX es) c=qx l es c:=by
  grind [uD,qx,akx,Nh]
def adf(c bit:Int)(d:qL):qL:=if(qA ⟨c,false⟩ d).length=0 then d else gK ⟨c,false⟩ (avM (qA ⟨c,false⟩ d) (vB bit (qA ⟨c,false⟩ d).length)) d
theorem aAv(c bit:Int)(es:oz):LX (QY c bit es)=adf c bit (LX es):=by
  grind [QY,adf,Nh,adb]
def ags(s:List aG × qL)(x:aG):List aG × qL:=if x.gH=true then(EO s.1 x.aD,oJ ⟨x.aD,true⟩ s.2) else s
def ZR(l:List aG)(d:qL):List aG × qL:=l.foldl ags (l,d)
theorem aAw(l:List aG)(es:oz):ZR l (LX es)=((qJ l es l.length).1,LX (qJ l es l.length).2):=by
  unfold ZR qJ;rw [OB]
  suffices h:∀(q:List aG)(s:List aG × oz),q.foldl ags (s.1,LX s.2)=((q.foldl af9 s).1,LX (q.foldl af9 s).2) from h l (l,es)
  intro q
  induction q <;> grind [ags,af9,ade]
def aaS(s:List aG × qL)(c:Int):List aG × qL:=(Df s.1 c,YJ s.1 c s.2)
def ZT(l:List aG)(d:qL):List aG × qL:=(vC (UO l d)).foldl aaS (l,d)
theorem aAx(l:List aG)(es:oz):ZT l (LX es)=((uj l es (EU l es).length).1,LX (uj l es (EU l es).length).2):=by
  unfold ZT uj;rw [OB,akx];show(EU l es).foldl aaS _=_
  suffices h:∀(q:List Int)(s:List aG × oz),q.foldl aaS (s.1,LX s.2)=((q.foldl avQ s).1,LX (q.foldl avQ s).2) from h _ (l,es)
  intro q
  induction q <;> grind [aaS,avQ,arF]
structure PC where
  m:dh
  s:gG
  r:ARules
  aJ:Int
  bR:List aK
  hs:kN
def wL(hs:kN)(z:Int):Bool:=match dY z hs with | some h=>h.up | none=>false
def Kw(hs:kN)(z:Int):List aG:=match dY z hs with | some h=>dK h.l | none=>[]
def knE(m:dh)(x:fH):Int:=if(eH m x).2<0 then -(eH m x).2 else 0
def tY(m:dh)(x:fH):dh:=if(eH m x).2<0 then m else(eH m x).1
def C9(m:dh)(l:List fH):dh:=l.foldl tY m
def vW(s:gG)(aJ c n:Int):Bool:=(fq s aJ).bA.any fun(o:aK)=>decide (o.aD=c)&&decide (o.To=n)
abbrev vX(c n v:Int):fH:=⟨0,0,5,c,n,v⟩
def Hz(s:gG)(aJ bH:Int)(m:dh)(x:fH):dh:=if(!decide (x.Kind=5)||!vW s aJ x.A bH)=true then tY m x else m
def lU(s:gG)(aJ bH:Int)(m:dh)(l:List fH):dh:=l.foldl (Hz s aJ bH) m
def vD(l:List aG)(st:List Int)(bH till:Int):List aK:=(l.filter fun(x:aG)=>st.contains x.aD).map fun(x:aG)=>⟨1,x.aD,x.aB,x.Sum,bH,bH,till⟩
def kU(c:PC)(o:aK):PC:=
  match dY o.jM c.hs with
  | none=>c
  | some f=>if(!f.up||vW c.s c.aJ o.aD o.To)=true then c else
    if ¬ ((uD f.l f.d o.aD).2.2=0/\(uD f.l f.d o.aD).2.1=o.aB/\((iQ (uD f.l f.d o.aD).1).toNat:Int)=o.Sum) then c else
    match dY o.To c.hs with
    | none=>c
    | some t=>if TL t.l t.bG o.aD (uD f.l f.d o.aD).2.1 o.Sum (uD f.l f.d o.aD).1=false then { c with hs:=gK o.To ⟨t.up,t.bG,Hy t.l t.bG o.aD (uD f.l f.d o.aD).2.1 o.Sum (uD f.l f.d o.aD).1,tkD t.l t.bG o.aD (uD f.l f.d o.aD).2.1 o.Sum (uD f.l f.d o.aD).1 t.d⟩ c.hs } else
      { c with m:=tY c.m (vX o.aD o.To (uD f.l f.d o.aD).2.1),s:=⟨c.s.cZ,if J5 c.s.bI o.aD o.To=0 then zB c.s.bI o.aD o.To else c.s.bI,c.s.bA⟩,hs:=gK o.To ⟨t.up,t.bG,Hy t.l t.bG o.aD (uD f.l f.d o.aD).2.1 o.Sum (uD f.l f.d o.aD).1,tkD t.l t.bG o.aD (uD f.l f.d o.aD).2.1 o.Sum (uD f.l f.d o.aD).1 t.d⟩ c.hs }
theorem YK{c:PC}(h:dY o.jM c.hs=none):kU c o=c:=by grind [kU]
theorem Rb{c:PC}{f:oZ}(h:dY o.jM c.hs=some f)(hb:(!f.up||vW c.s c.aJ o.aD o.To)=true):kU c o=c:=by grind [kU]
theorem adg{c:PC}{f:oZ}(h:dY o.jM c.hs=some f)(hr:¬ ((uD f.l f.d o.aD).2.2=0/\(uD f.l f.d o.aD).2.1=o.aB/\((iQ (uD f.l f.d o.aD).1).toNat:Int)=o.Sum)):kU c o=c:=by
  grind [vW,kU]
theorem YL{c:PC}{f t:oZ}(h:dY o.jM c.hs=some f)(hb:(!f.up||vW c.s c.aJ o.aD o.To)=false)(hr:(uD f.l f.d o.aD).2.2=0/\(uD f.l f.d o.aD).2.1=o.aB/\((iQ (uD f.l f.d o.aD).1).toNat:Int)=o.Sum)(ht:dY o.To c.hs=some t)(hk:TL t.l t.bG o.aD (uD f.l f.d o.aD).2.1 o.Sum (uD f.l f.d o.aD).1=false) :
    kU c o={ c with hs:=gK o.To ⟨t.up,t.bG,Hy t.l t.bG o.aD (uD f.l f.d o.aD).2.1 o.Sum (uD f.l f.d o.aD).1,tkD t.l t.bG o.aD (uD f.l f.d o.aD).2.1 o.Sum (uD f.l f.d o.aD).1 t.d⟩ c.hs }:=by
  grind [kU]
theorem Rf{c:PC}{f t:oZ}(h:dY o.jM c.hs=some f)(hb:(!f.up||vW c.s c.aJ o.aD o.To)=false)(hr:(uD f.l f.d o.aD).2.2=0/\(uD f.l f.d o.aD).2.1=o.aB/\((iQ (uD f.l f.d o.aD).1).toNat:Int)=o.Sum)(ht:dY o.To c.hs=some t)(hk:TL t.l t.bG o.aD (uD f.l f.d o.aD).2.1 o.Sum (uD f.l f.d o.aD).1=true) :
    kU c o={ c with m:=tY c.m (vX o.aD o.To (uD f.l f.d o.aD).2.1),s:=⟨c.s.cZ,if J5 c.s.bI o.aD o.To=0 then zB c.s.bI o.aD o.To else c.s.bI,c.s.bA⟩,hs:=gK o.To ⟨t.up,t.bG,Hy t.l t.bG o.aD (uD f.l f.d o.aD).2.1 o.Sum (uD f.l f.d o.aD).1,tkD t.l t.bG o.aD (uD f.l f.d o.aD).2.1 o.Sum (uD f.l f.d o.aD).1 t.d⟩ c.hs }:=by
  grind [kU]
def ZU(o:aK)(x:aG):Bool:=decide (x.aD=o.aD)&&decide (x.aB=o.aB)
def og(c:PC)(o:aK):PC:=
  if o.Kind=0 then kU c o else
  match dY o.To c.hs with
  | none=>c
  | some t=>if(dK t.l).any (ZU o)=true then { c with hs:=gK o.To ⟨t.up,t.bG,Df t.l o.aD,YJ t.l o.aD t.d⟩ c.hs } else c
theorem Ri{c:PC}{t:oZ}(h0:¬ o.Kind=0)(ht:dY o.To c.hs=some t)(hb:(dK t.l).any (ZU o)=true):og c o={ c with hs:=gK o.To ⟨t.up,t.bG,Df t.l o.aD,YJ t.l o.aD t.d⟩ c.hs }:=by
  grind [og]
theorem adh{c:PC}{t:oZ}(h0:¬ o.Kind=0)(ht:dY o.To c.hs=some t)(hb:(dK t.l).any (ZU o)=false):og c o=c:=by
  grind [og]
def lC(c:PC)(it:AItem):PC × Int:=
  if it.A<0∨(c.bR.length:Int)<=it.A then(c,5) else
  match c.bR[it.A.toNat]? with
  | none=>(c,5)
  | some o=>if it.Kind=8 then({ c with bR:=c.bR++[o] },0) else
    (if it.Kind=6/\c.aJ<=o.ji/\wL c.hs o.To=true then og { c with bR:=c.bR.take it.A.toNat++c.bR.drop (it.A.toNat+1) } o else { c with bR:=c.bR.take it.A.toNat++c.bR.drop (it.A.toNat+1) },0)
def oh(c n:Int):List (BitVec 8):=[BitVec.ofInt 8 c,BitVec.ofInt 8 (c / 2 ^ 8),BitVec.ofInt 8 n,BitVec.ofInt 8 (n / 2 ^ 8)]
def vQ(c v sum:Int)(fG:List (BitVec 8))(q:kN × List Int)(z:Int):kN × List Int:=
  match dY z q.1 with
  | none=>q
  | some h=>(gK z ⟨h.up,h.bG,Hy h.l h.bG c v sum fG,tkD h.l h.bG c v sum fG h.d⟩ q.1,if TL h.l h.bG c v sum fG=true then q.2++[z] else q.2)
def Js(c n:Int):Int:=((iQ (oh c n)).toNat:Int)
def vY(m:dh)(it:AItem):fH:=⟨0,0,if gZ m.aA it.A=true then 4 else 3,it.A,Js it.A it.B,0⟩
def aJk(c:PC):List Int:=((JV c.s.cZ c.aJ c.r.kY).map eY.Node).filter fun(x:Int)=>!(!wL c.hs x)
def YM(c:PC)(m:dh):List Int:=r9 m.aL (aJk c) c.r.jw.toNat (oH c.m.aA m.aL) []
def Jt(c:PC)(it:AItem):kN × List Int:=(YM c (eH c.m (vY c.m it)).1).foldl (vQ it.A (eH c.m (vY c.m it)).2 (Js it.A it.B) (oh it.A it.B)) (c.hs,[])
def sF(c:PC)(it:AItem):PC × Int:=
  if(eH c.m (vY c.m it)).2<0 then(c,-(eH c.m (vY c.m it)).2) else
  if(Jt c it).2=[] then({ c with hs:=(Jt c it).1 },7) else
  ({ c with m:=C9 (eH c.m (vY c.m it)).1 ((Jt c it).2.map λz=>vX it.A z (eH c.m (vY c.m it)).2),hs:=(Jt c it).1 },0)
def Ky(it:AItem):fH:=⟨0,0,1,it.A,it.B,it.C⟩
def avX(c:PC)(it:AItem):PC × Int:=({ c with m:=tY c.m (Ky it),hs:=if knE c.m (Ky it)=0 then gK it.A ⟨true,J4 it.C,[],[]⟩ c.hs else c.hs },knE c.m (Ky it))
def uY(c:PC):PC:={ c with m:=C9 c.m (mX c.m c.s c.r c.aJ),s:=jr c.m c.s c.r c.aJ,bR:=c.bR++qb c.m c.s c.r c.aJ }
def LY(c:PC)(it:AItem)(h:oZ):PC:=
  { c with m:=lU c.s c.aJ it.A c.m (j5 c.m.aA it.A (dK h.l)),bR:=c.bR++vD (dK h.l) (lT (lU c.s c.aJ it.A c.m (j5 c.m.aA it.A (dK h.l))).aA (dK h.l)) it.A (c.aJ+c.r.iD) }
def J6(c:PC)(it:AItem)(h:oZ):PC × Int:=
  if it.Kind=3 then({ c with s:=⟨tX c.s.cZ it.A c.aJ,c.s.bI,c.s.bA⟩ },0) else
  if it.Kind=4 then(LY c it h,0) else
  if it.Kind=9 then({ c with hs:=gK it.A { h with up:=false } c.hs },0) else
  if it.Kind=10 then({ c with hs:=gK it.A ⟨true,h.bG,(ZR h.l h.d).1,(ZR h.l h.d).2⟩ c.hs },0) else
  if it.Kind=12 then({ c with hs:=gK it.A ⟨h.up,h.bG,(ZT h.l h.d).1,(ZT h.l h.d).2⟩ c.hs },0) else
  if it.Kind=13 then({ c with hs:=gK it.A { h with d:=adf it.B it.C h.d } c.hs },if(qA ⟨it.B,false⟩ h.d).length=0 then 5 else 0) else
  ({ c with hs:=gK it.A ⟨h.up,h.bG,[],[]⟩ c.hs },0)
def uZ(k:Int):Option Bool:=if k=10 then some false else if k=13∨k=14 then none else some true
def oC(c:PC)(it:AItem):PC × Int:=
  if it.Kind=0 then(if it.A<0∨100<it.A then(c,1) else({ c with aJ:=c.aJ+it.A },0)) else
  if it.Kind=1 then avX c it else
  if it.Kind=2 then({ c with m:=tY c.m ⟨0,0,2,it.A,it.B,0⟩ },knE c.m ⟨0,0,2,it.A,it.B,0⟩) else
  if it.Kind=5 then(uY c,0) else
  if it.Kind=6∨it.Kind=7∨it.Kind=8 then lC c it else
  if it.Kind=11 then sF c it else
  if it.Kind<0∨14<it.Kind then(c,1) else
  match dY it.A c.hs with
  | none=>(c,5)
  | some h=>if uZ it.Kind=some (!h.up) then(c,8) else J6 c it h
def OY(hs:kN)(x:aF)(z:Int):List Int->List (BitVec 8) × Int
  | []=>([],8)
  | n::l=>match dY n hs with
    | none=>OY hs x z l
    | some h=>if h.up=true/\(uD h.l h.d z).2.2=0/\(uD h.l h.d z).2.1=x.aB/\((iQ (uD h.l h.d z).1).toNat:Int)=x.Sum then((uD h.l h.d z).1,0) else OY hs x z l
def HV(c:PC)(z:Int):List (BitVec 8) × Int:=if gZ c.m.aA z=false then([],5) else OY c.hs (aU c.m.aA z) z (aU c.m.aA z).aC
abbrev GA(iI:Nat)(A1:ah)(c1:Nat)(A2:ah)(c2:Nat)(A3:ah)(c3:Nat)(A4:ah)(c4:Nat)(A5:ah)(c5:Nat)(A6:ah)(c6:Nat)(A7:ah)(c7:Nat)(m:dh)(s:gG)(r:ARules)(aJ:Int)(gm:Nat)(bR:List aK):lG:=dW iI 84 [.slice A1 m.aL.length c1,.slice A2 m.aA.length c2,.slice A3 m.aT.length c3,.slice A4 s.cZ.length c4,.slice A5 s.bI.length c5,.slice A6 s.bA.length c6,.int .i64 r.kY,.int .i64 r.l7,.int .i64 r.All,.int .i64 r.jw,.int .i64 r.iD,.int .i64 r.eZ,.int .i64 aJ,.map (some gm),.slice A7 bR.length c7]
theorem ang{l:List aF}(h:kI l=true)(id:Int):0<=(aU l id).aB:=by
  cases hb:gZ l id with
  | false=>grind [aam]
  | true=>have:=rC (sK h _ (uO h hb)); omega
theorem aD1(m:dh)(c:fH):0<=(yt m c).2.2.1/\(yt m c).2.2.1<=10:=by
  rcases kinds c.Kind with h | h | h | h | h | h | h | h | h
  · grind [afM]
  · simp_all [afN,aqF]
  · grind [afO,aqG]
  · simp_all [aaJ,aqH]
  · simp_all [aaK,aqI]
  all_goals simp_all [Ym,aqJ,Yn,aqK,afP,aqL,afQ]
theorem aD2{m:dh}(hm:mG m=true)(c:fH):0<=(yt m c).2.2.2:=by
  have hc:kI (yt m c).2.1=true:=(dV.1 (TB hm c)).2.1
  have hw:∀ put,(yt m c).2.1=(uh put m.aA c).1->0<=(uh put m.aA c).2.2:=λput h=>by
    rw [h] at hc;unfold uh at hc ⊢
    split
    all_goals simp_all [Ls,aP,ang]
  rcases kinds c.Kind with h | h | h | h | h | h | h | h | h
  · grind [afM]
  · grind [afN]
  · grind [afO]
  · grind [aaJ]
  · grind [aaK]
  · grind [Ym]
  · grind [Yn]
  · grind [afP]
  grind [afQ]
theorem aky{m:dh}(hm:mG m=true){x:fH}(hx:x.Client=0):eH m x=tT m x:=by
  grind [eH]
theorem Ni{m:dh}(hm:mG m=true){x:fH}(hx:x.Client=0):-10<=(eH m x).2:=by
  rw [aky hm hx];have h1:=aD1 m x; have h2:=aD2 hm x;show -10<=Gw _ _
  grind [Gw]
theorem o8{m:dh}(hm:mG m=true)(x:fH):mG (tY m x)=true:=by
  grind [tY,Jh]
theorem Rj{m:dh}(hm:mG m=true)(l:List fH):mG (C9 m l)=true:=by
  unfold C9
  induction l generalizing m <;> grind [o8]
theorem arG{m:dh}{l:List fH}{k:Nat}{x:fH}(h:l[k]? = some x):C9 m (l.take (k+1))=tY (C9 m (l.take k)) x:=by
  simp_all [C9,fC,zY]
theorem BX:dL prog 84 3 12:=λ_ _=>by rfl
theorem Az:dL prog 84 5 14:=λ_ _=>by rfl
theorem u6:dL prog 84 4 13:=λ_ _=>by rfl
theorem UQ:mg prog 82:=λ_=>by rfl
theorem vS:∀ w,(zeroValue 91).run prog w=.ok (.pointer none) w:=by simp
theorem Ju:dL prog 95 1 1:=λ_ _=>by rfl
theorem yK:dL prog 95 0 0:=λ_ _=>by rfl
theorem AA:dL prog 84 0 0:=λ_ _=>by rfl
theorem AJ:dL prog 84 1 3:=λ_ _=>by rfl
theorem aAy:bJ prog 187:=λ_ _=>by rfl
theorem om:dL prog 32 1 1:=λ_ _=>by rfl
theorem VK:dL prog 32 2 2:=λ_ _=>by rfl
abbrev FY(iE:Nat)(je:ah)(wP:Nat)(zZ:ah)(Fh:Nat)(QA:ah)(UH:Nat)(ZI:ah)(y8z:Nat)(y9z:ah)(Rk:Nat)(Rl:ah)(Ro:Nat)(Rq:ah)(Rt:Nat)(DW:dh)(DX:gG)(adi:ARules)(adk:Int)(Ru:Nat)(Rw:List aK)(adl:kG)(adn:List lG):=GA iE je wP zZ Fh QA UH ZI y8z y9z Rk Rl Ro Rq Rt DW DX adi adk Ru Rw::dH bW je wP DW.aL::dH bD zZ Fh DW.aA::dH dw QA UH DW.aT::dH iK ZI y8z DX.cZ::dH dz y9z Rk DX.bI::dH bg Rl Ro DX.bA::aQ bg 112 Rq Rt Rw::jL Ru adl::adn
theorem arH{gm:Nat}{m:dh}{s:gG}{r:ARules}{aJ:Int}{bR:List aK}{hs:kG}(H0:Hp b S w (FY iI A1 c1 A2 c2 A3 c3 A4 c4 A5 c5 A6 c6 A7 c7 m s r aJ gm bR hs F))(bH:Int) :
    bO prog 37 #[gI iI,aI bH] w λv w'=>v=.bool (wL (kR hs) bH)/\Hp b S w' (FY iI A1 c1 A2 c2 A3 c3 A4 c4 A5 c5 A6 c6 A7 c7 m s r aJ gm bR hs F):=by
 refine rU func37 ntmps37 Y<|iT Y ?_
 rcases hg1:dY bH hs with _ | ⟨gh1,gs1,Zl,Ah1,ch1,YN,Zn,l1,es1⟩
 ·refine bQ Y<|ev (d9 Y)<|j6 iI 13 u6 H0 s0 Y<|mv Y<|ev (Ev.hN H0 s8 hg1 EY zi vS Y Y)<|bX Y<|bQ Y<|ev (Ev.pnn Dh Y Y)<|mv Y<|dN<|dN<|dN<|dN<|ev (dS Y Y)<|bX Y<|iP Y ?_
  have fT:(false:Bool)=(wL (kR hs) bH):=by grind [wL,jA]
  exact⟨by rw [<- fT] <;> rfl,H0⟩
 ·refine bQ Y<|ev (d9 Y)<|j6 iI 13 u6 H0 s0 Y<|mv Y<|ev (Ev.hS H0 s8 hg1 EY zi vS Y Y)<|bX Y<|bQ Y<|ev (Ev.pnn Dh Y Y)<|mv Y<|bE Y (bq Y) Y<|bE Y (d9 Y) Y<|gfy gh1 1 Ju Y<|bE Y (eF aiO Y (H0.EZ s8 hg1) Y) Y<|ev (dM Y Y)<|bX Y<|iP Y ?_
  have gu:(YN:Bool)=(wL (kR hs) bH):=by unfold wL; rw [jA,hg1]; rfl
  exact⟨by rw [<- gu] <;> rfl,H0⟩
theorem ai1{gm:Nat}{m:dh}{s:gG}{r:ARules}{aJ:Int}{bR:List aK}{hs:kG}(H0:Hp b S w (FY iI A1 c1 A2 c2 A3 c3 A4 c4 A5 c5 A6 c6 A7 c7 m s r aJ gm bR hs F))(bH:Int)(hL:∀ h,dY bH hs=some h->h.l.length<=1000) :
    bO prog 28 #[gI iI,aI bH] w λv w'=>∃(A0:ah)(c0:Nat),v=.slice A0 ((Kw (kR hs) bH).length) c0/\Hp b S w' (aQ aZ 132 A0 c0 (Kw (kR hs) bH)::GA iI A1 c1 A2 c2 A3 c3 A4 c4 A5 c5 A6 c6 A7 c7 m s r aJ gm bR::dH bW A1 c1 m.aL::dH bD A2 c2 m.aA::dH dw A3 c3 m.aT::dH iK A4 c4 s.cZ::dH dz A5 c5 s.bI::dH bg A6 c6 s.bA::aQ bg 112 A7 c7 bR::jL gm hs::F):=by
 refine rU func28 ntmps28 Y<|iT Y<|aY ?_
 rcases hg1:dY bH hs with _ | ⟨gh1,gs1,Zl,Ah1,ch1,YN,Zn,l1,es1⟩
 ·refine bQ Y<|ev (d9 Y)<|j6 iI 13 u6 H0 s0 Y<|mv Y<|ev (Ev.hN H0 s8 hg1 EY zi vS Y Y)<|bX Y<|bQ Y<|ev (Ev.pnn Dh Y Y)<|dn<|bP Y nofun (λ_h=>?_)
  refine jy ?_;refine iT Y<|iP Y ?_
  have H1:=H0.nil aZ 132;have fT:(([]:List aG):List aG)=(Kw (kR hs) bH):=by unfold Kw; rw [jA,hg1]; rfl
  exact⟨none,0,by rw [<- fT] <;> rfl,by rw [<- fT]; exact H1⟩
 ·have hlb:l1.length<=1000:=hL _ hg1;refine bQ Y<|ev (d9 Y)<|j6 iI 13 u6 H0 s0 Y<|mv Y<|ev (Ev.hS H0 s8 hg1 EY zi vS Y Y)<|bX Y<|bQ Y<|ev (Ev.pnn Dh Y Y)<|dn<|bP Y (λ_h=>?_) nofun
  refine bQ Y<|ev (d9 Y)<|yV gh1 0 yK Y<|ev (eF UN Y (H0.EZ s8 hg1) Y) ?_
  have H2:=H0.xg s8 hg1;refine gU Y (OU ((H2.sel s0).mV 1 4) aj) ?_;rintro _ w1 ⟨jZ,j3,rfl,K1⟩;have H3:=YI hg1 ((((K1.sel s0).sel s6).mV 2 4).sel s6);refine bX Y<|wO Y ?_
  have gu:(dK l1:List aG)=(Kw (kR hs) bH):=by unfold Kw; rw [jA,hg1]; rfl
  exact⟨jZ,j3,by rw [<- gu] <;> rfl,by rw [<- gu]; exact((H3.sel s0).mV 1 9)⟩
abbrev Nj(iE:dh)(je:fH):=(((eH iE je).1).aL).length
abbrev Nk(iE:dh)(je:fH):=(((eH iE je).1).aA).length
abbrev Nl(iE:dh)(je:fH):=(((eH iE je).1).aT).length
theorem zC{gm:Nat}{m:dh}{s:gG}{r:ARules}{aJ:Int}{bR:List aK}{hs:kG}(H0:Hp b S w (FY iI A1 c1 A2 c2 A3 c3 A4 c4 A5 c5 A6 c6 A7 c7 m s r aJ gm bR hs F))(x:fH)(hm:mG m=true)(hx:x.Client=0) :
    bO prog 95 #[gI iI,.agg #[aI x.Client,aI x.Seq,aI x.Kind,aI x.A,aI x.B,aI x.C]] w λv w'=>∃(B1:ah)(d1:Nat)(B2:ah)(d2:Nat)(B3:ah)(d3:Nat),v=aI (knE m x)/\Hp b S w' (GA iI B1 d1 B2 d2 B3 d3 A4 c4 A5 c5 A6 c6 A7 c7 (tY m x) s r aJ gm bR::dH bW B1 d1 ((tY m x).aL)::dH bD B2 d2 ((tY m x).aA)::dH dw B3 d3 ((tY m x).aT)::dH iK A4 c4 s.cZ::dH dz A5 c5 s.bI::dH bg A6 c6 s.bA::aQ bg 112 A7 c7 bR::jL gm hs::F):=by
 refine rU func95 ntmps95 Y<|rg<|bx Y Y H0 λg1 w1 K1=>bX Y<|He K1 (λ_ K=>K) (λl0 rk lJ wJ=>∃(su:Nat)(jW:ah)(jT:Nat)(pO:ah)(cj2:Nat)(wW:ah)(vV:Nat),lJ=(5,gI su)::(6,aI ((eH m x).2))::l0/\Hp b S wJ (dW su 45 [.slice jW (Nj m x) jT,.slice pO (Nk m x) cj2,.slice wW (Nl m x) vV]::dH bW jW jT (((eH m x).1).aL)::dH bD pO cj2 (((eH m x).1).aA)::dH dw wW vV (((eH m x).1).aT)::rk)) (λhns H1=>?_) ?_
 ·refine tZ 0 iI 0 AA Y H1<|l9 3 Y (λ_ hK=>KF (cs':=[.slice A1 m.aL.length c1,.slice A2 m.aA.length c2,.slice A3 m.aT.length c3]) yg Y Y (hK.x s1) Y) H1<|l9 4 Y (λ_ hK=>fK EK Y Y (hK.x s0)) H1<|Jn H1 (λl0 rk lJ wJ=>∃(g2:Nat)(AP:ah)(AU:Nat)(AX:ah)(AY:Nat)(AZ:ah)(Ba:Nat),lJ=(5,gI g2)::(15,aI ((eH m x).2))::l0/\Hp b S wJ (dW g2 45 [.slice AP (Nj m x) AU,.slice AX (Nk m x) AY,.slice AZ (Nl m x) Ba]::dH bW AP AU (((eH m x).1).aL)::dH bD AX AY (((eH m x).1).aA)::dH dw AZ Ba (((eH m x).1).aT)::rk)) 1 2047 ?_ λhS1=>?_
  ·rintro _ w8 ⟨g2,AP,AU,AX,AY,AZ,Ba,rfl,K8⟩;have k6:=(K8.cU 0 4);refine xL 11 Y Y k6<|Dn ⟨g2,AP,AU,AX,AY,AZ,Ba,Y,K8⟩ Y
  refine O2 5 9 Y Y ?_ ?_
  ·refine gU Y (QN _ m (H1.s s2) (H1.s s3) (H1.s s4) x (FV hm) hx) ?_;rintro _ w9 ⟨TM,TN,TP,TQ,TR,TS,rfl,h9⟩;have K9:=H1.c3 h9;have k7:=(K9.cU 0 3);refine aO k7<|lQ 6 Y Y k7<|xU 7 Y (vs:=[.agg #[.slice TM (Nj m x) TN,.slice TP (Nk m x) TQ,.slice TR (Nl m x) TS],aI ((eH m x).2)]) Y Y k7<|xU 8 Y (vs:=[.agg #[.slice TM (Nj m x) TN,.slice TP (Nk m x) TQ,.slice TR (Nl m x) TS],aI ((eH m x).2)]) Y Y k7<|O1 9 Y<|al yJ Y K9 λg4 Om K10=>?_
   have k8:=(K10.cU 0 4);refine aO k8<|O1 10 Y<|sty Y K10 s0 Y λVa vM=>?_
   have k9:=(vM.cU 0 4);exact Kj hS1 k9 ⟨g4,TM,TN,TP,TQ,TR,TS,Y,vM⟩ Y
  ·refine al yJ Y H1 λg5 Vb vH=>?_;have k10:=(vH.rm s0);refine aO k10<|O1 5 Y<|gU Y (QN _ m (vH.s s3) (vH.s s4) (vH.s s5) x (FV hm) hx) ?_
   rintro _ w13 ⟨qo,qp,uU,uV,uW,uX,rfl,h13⟩;have Bf:=vH.c3 h13;have k11:=(Bf.cU 0 4);refine aO k11<|lQ 6 Y Y k11<|xU 7 Y (vs:=[.agg #[.slice qo (Nj m x) qp,.slice uU (Nk m x) uV,.slice uW (Nl m x) uX],aI ((eH m x).2)]) Y Y k11<|xU 8 Y (vs:=[.agg #[.slice qo (Nj m x) qp,.slice uU (Nk m x) uV,.slice uW (Nl m x) uX],aI ((eH m x).2)]) Y Y k11<|O1 10 Y<|sty Y Bf s3 Y λw14 xM=>?_
   have k12:=(xM.cU 0 4);exact Kj hS1 k12 ⟨g5,qo,qp,uU,uV,uW,uX,Y,xM⟩ Y
 rintro _ w15 ⟨su,jW,jT,pO,cj2,wW,vV,rfl,BI⟩;refine aY<|bQ Y<|ev (fD Y Y)<|dn<|mZ Y (λhc17=>?_) (λhc17=>?_)
 ·refine bQ Y<|ev (Ev.neg Y (zP (by have hxx:=Ni hm hx; omega) (by have hxx:=Ni hm hx; omega)))<|bX rfl<|wO rfl ?_
  rw [show(tY m x)=m from by unfold tY; rw [aS hc17]];have fT:(-((eH m x).2):Int)=(knE m x):=by unfold knE; rw [aS hc17]
  exact⟨A1,c1,A2,c2,A3,c3,by rw [<- fT] <;> rfl,(BI.cU 0 5)⟩
 refine jy ?_;refine bQ Y<|ev (fK yg Y Y (BI.x s0))<|ev (d9 Y)<|yV iI 0 AA Y<|stp Y Y Y aqj BI s5 Y Y Y λw16 EB=>dn<|iT Y<|iP Y ?_
 rw [show(tY m x)=((eH m x).1) from by unfold tY; rw [aP hc17]];have gu:(0:Int)=(knE m x):=by unfold knE; rw [aP hc17]
 exact⟨jW,jT,pO,cj2,wW,vV,by rw [<- gu] <;> rfl,((EB.cU 5 4).rm s1)⟩
theorem LZ(w:World){wT:ah}{vF:Nat}{s:List aK}(nA:Sl bg S0 w wT vF s){BF:FuncId}{Fz:List Value}(NH:bJ prog BF)(f:aK->Bool)(NI:∀(w':World)(x:aK),Ext w w'->x∈s->bO prog BF (([.agg #[aI x.Kind,aI x.aD,aI x.aB,gP x.Sum,aI x.jM,aI x.To,aI x.ji]]:List Value)++Fz).toArray w' λv w''=>v=.bool (f x)/\Ext w' w'') :
    bO prog 188 #[.slice wT s.length vF,.func (.func BF) #[] Fz.toArray] w λv w'=>v=.bool (s.any f)/\Hp w S0 w' []:=by
 refine lg S0 func188 ntmps188 Y λH0=>iT Y<|bQ Y<|mv Y<|nD H0 Y (FQ _ (H0.a nA).any NH f (λw' x e hm=>NI w' x (H0.ext.trans e) hm)) λw1 K1=>ev (qD Y Y)<|bX Y<|iP Y ?_
 exact⟨by rw [VE f s] <;> rfl,K1⟩
theorem anh(w:World)(o:aK){Qg:Nat}(aN:Int)(abU:Bx w Qg 3 [aI aN]){Eu:Nat}(bH:Int)(KW:Bx w Eu 3 [aI bH]) :
    bO prog 187 #[.agg #[aI o.Kind,aI o.aD,aI o.aB,gP o.Sum,aI o.jM,aI o.To,aI o.ji],gI Qg,gI Eu] w λv w'=>v=.bool (decide (o.aD=aN)&&decide (o.To=bH))/\Hp w S0 w' []:=by
 refine lg S0 func187 ntmps187 Y λH0=>rg<|bx Y Y H0 λg1 w1 K1=>bX Y<|rg<|j6 g1 1 tL K1 s0 Y<|ev (eF jN Y (abU.ext K1.ext) Y)<|ev (iM Y Y)<|mv Y<|iO 5 14 ((decide (o.aD=aN))&&(decide (o.To=bH))) ?_ ?_
 ·cases hb9:decide (o.aD=aN) with
  | true=>
   refine wB g1 5 Ab K1 s0 Y<|bE Y (eF jN Y (KW.ext K1.ext) Y) Y<|bE Y (iM Y Y) Y<|ev (dM Y Y)<|dJ Y
  | false=>
   refine dN<|dN<|dN<|dN<|ev (dS Y Y)<|dJ Y
 refine bX Y<|iP Y ?_
 exact⟨by skip <;> rfl,(K1.rm s0)⟩
theorem agt{gm:Nat}{m:dh}{s:gG}{r:ARules}{aJ:Int}{bR:List aK}{hs:kG}(H0:Hp b S w (FY iI A1 c1 A2 c2 A3 c3 A4 c4 A5 c5 A6 c6 A7 c7 m s r aJ gm bR hs F))(aN:Int)(bH:Int)(hb:s.cZ.length<=1000)(hl:s.bI.length<=64)(hd:s.bA.length<=50000) :
    bO prog 109 #[gI iI,aI aN,aI bH] w λv w'=>v=.bool (vW s aJ aN bH)/\Hp b S w' (FY iI A1 c1 A2 c2 A3 c3 A4 c4 A5 c5 A6 c6 A7 c7 m s r aJ gm bR hs F):=by
 refine rU func109 ntmps109 Y<|rg<|bx Y Y H0 λg1 w1 K1=>bx Y Y K1 λg2 w2 K2=>bX Y<|rg<|ev (rE Y)<|bX Y<|He K2 (λ_ K=>K) (λl0 rk lJ wJ=>lJ=(6,.bool (((fq s aJ).bA).any (fun(x:aK)=>decide (x.aD=aN)&&decide (x.To=bH))))::l0/\Hp b S wJ rk) (λhns H1=>?_) ?_
 ·refine tZ 0 iI 3 AJ Y H1<|l9 3 Y (λ_ hK=>KF (cs':=[.slice A4 s.cZ.length c4,.slice A5 s.bI.length c5,.slice A6 s.bA.length c6]) JX Y Y (hK.x s2) Y) H1<|tZ 4 iI 12 BX Y H1<|Db 7 s2 Y H1<|lQ 10 Y Y H1<|O1 8 Y<|gU Y (afh _ s (H1.s s6).any (H1.s s7).any (H1.s s8).any aJ aj aj aj) ?_
  rintro _ w3 ⟨aJl,aJm,aJn,aJo,aJp,aJq,rfl,h3⟩;have K3:=H1.f3 h3;have k1:=(K3.cU 0 3);refine aO k1<|l9 9 Y (λ_ _=>Ev.fld underlying51 Y Y axg Y Y) k1<|O1 11 Y<|nD K3 Y (LZ _ (K3.o s2) aAy (fun(x:aK)=>decide (x.aD=aN)&&decide (x.To=bH)) (λw' x e hm=>(anh (S0:=Any) w' x aN ((K3.x s4).ext e) bH ((K3.x s3).ext e)).mono (by rintro _ _ ⟨rfl,gu⟩; exact⟨rfl,gu.ext⟩))) λw4 K4=>?_
  have k2:=(K4.cU 0 3);refine aO k2<|xL 12 Y Y k2<|Dn ⟨Y,(K4.cU 0 3)⟩ Y
 rintro _ w5 ⟨rfl,K5⟩;refine iP Y ?_;exact⟨by skip <;> rfl,(K5.cU 0 2)⟩
theorem arI{gm:Nat}{m:dh}{s:gG}{r:ARules}{aJ:Int}{bR:List aK}{hs:kG}(H0:Hp b S w (FY iI A1 c1 A2 c2 A3 c3 A4 c4 A5 c5 A6 c6 A7 c7 m s r aJ gm bR hs F))(it:AItem)(hu:0<=aJ/\aJ<=549755813888) :
    bO prog 39 #[gI iI,.agg #[aI it.Kind,aI it.A,aI it.B,aI it.C]] w λv w'=>v=aI (if it.A<0∨100<it.A then 1 else 0)/\Hp b S w' (GA iI A1 c1 A2 c2 A3 c3 A4 c4 A5 c5 A6 c6 A7 c7 m s r (if it.A<0∨100<it.A then aJ else aJ+it.A) gm bR::dH bW A1 c1 m.aL::dH bD A2 c2 m.aA::dH dw A3 c3 m.aT::dH iK A4 c4 s.cZ::dH dz A5 c5 s.bI::dH bg A6 c6 s.bA::aQ bg 112 A7 c7 bR::jL gm hs::F):=by
 refine rU func39 ntmps39 Y<|rg<|bx Y Y H0 λg1 w1 K1=>bX Y<|aY<|rg<|j6 g1 1 om K1 s0 Y<|ev (fD Y Y)<|mv Y<|iO 4 12 ((decide (it.A<0))||(decide (100<it.A))) ?_ ?_
 ·cases hb8:decide (it.A<0) with
  | true=>
   refine dN<|dN<|dN<|ev (dM Y Y)<|dJ Y
  | false=>
   refine wB g1 1 om K1 s0 Y<|bE Y (sQ Y Y) Y<|ev (dS Y Y)<|dJ Y
 refine dn<|bP Y (λnN=>?_) (λnN=>?_)
 ·try simp only [eT,dO,bM,bV] at nN
  refine iT Y<|wO Y ?_
  exact⟨by rw [aS aj] <;> rfl,by rw [aS aj]; exact(K1.rm s0)⟩
 try simp only [eT,dO,bM,bV] at nN
 refine jy ?_;refine He K1 (λ_ K=>(K.rm s1)) (λl0 rk lJ wJ=>lJ=l0/\Hp b S wJ (GA iI A1 c1 A2 c2 A3 c3 A4 c4 A5 c5 A6 c6 A7 c7 m s r (aJ+it.A) gm bR::rk)) (λhns H1=>?_) ?_
 ·have k1:=(H1.rm s1);refine tZ 0 iI 12 BX Y k1<|nJ 4 5 g1 1 om s0 Y k1<|O1 3 Y<|nL H1 s1 Y<|aO k1<|l9 6 Y (λ_ _=>dP Y Y) k1<|Sr 7 iI 12 BX Y k1<|O1 9 Y<|yD Y H1 s1 Y λw2 K2=>?_
  have k2:=(K2.rm s0);refine aO k2<|Dn ⟨Y,K2⟩ Y
 rintro _ w3 ⟨rfl,K3⟩;refine iT Y<|iP Y ?_
 exact⟨by rw [aP aj] <;> rfl,by rw [aP aj]; exact(K3.rm s1)⟩
abbrev Nn(iE:AItem):=(⟨0,0,2,iE.A,iE.B,0⟩:fH)
theorem avY{gm:Nat}{m:dh}{s:gG}{r:ARules}{aJ:Int}{bR:List aK}{hs:kG}(H0:Hp b S w (FY iI A1 c1 A2 c2 A3 c3 A4 c4 A5 c5 A6 c6 A7 c7 m s r aJ gm bR hs F))(it:AItem)(hm:mG m=true) :
    bO prog 41 #[gI iI,.agg #[aI it.Kind,aI it.A,aI it.B,aI it.C]] w λv w'=>∃(B1:ah)(d1:Nat)(B2:ah)(d2:Nat)(B3:ah)(d3:Nat),v=aI (knE m (Nn it))/\Hp b S w' (GA iI B1 d1 B2 d2 B3 d3 A4 c4 A5 c5 A6 c6 A7 c7 (tY m (Nn it)) s r aJ gm bR::dH bW B1 d1 ((tY m (Nn it)).aL)::dH bD B2 d2 ((tY m (Nn it)).aA)::dH dw B3 d3 ((tY m (Nn it)).aT)::dH iK A4 c4 s.cZ::dH dz A5 c5 s.bI::dH bg A6 c6 s.bA::aQ bg 112 A7 c7 bR::jL gm hs::F):=by
 refine rU func41 ntmps41 Y<|rg<|bx Y Y H0 λg1 w1 K1=>bX Y<|bQ Y<|j6 g1 1 om K1 s0 Y<|j6 g1 2 VK K1 s0 Y<|ev (jX Y (by apply yH))<|gU rfl (zC ((K1.sel s0).mV 1 9) (Nn it) aj rfl) ?_
 rintro _ w2 ⟨ani,anj,ank,anl,anm,ano,rfl,K2⟩;refine bX Y<|iP Y ?_
 exact⟨ani,anj,ank,anl,anm,ano,Y,(K2.rm s9)⟩
end
section
variable {b w:World}{S:Nat->Prop}{F:List lG}{UR gs Bg c iI c1 c2 c3 c4 c5 c6 c7 gm:Nat}{A A1 A2 A3 A4 A5 A6 A7:ah}{up:Bool}{bG aJ n:Int}{l:List aG}{es:List (bT × Option Addr × Nat × List (BitVec 8))}{cv:Value}{m:dh}{s:gG}{r:ARules}{bR:List aK}{hs:kG}
theorem aAz:bJ prog 180:=ay
theorem adp:dL prog 32 3 3:=ay
theorem agu(l:List aG)(bG c v sum:Int)(fG:List (BitVec 8)):(Bj l bG c v sum fG).length<=l.length+1:=by
  unfold Bj
  split
  · omega
  · split
    · omega
    · split
      · rename_i h
        unfold kS at h ⊢
        split
        · simp
        · split
          · simp
          · split
            · simp
            · split
              · simp
              · exact lI (afZ _ _) (by have:=wY l; omega)
      · omega
theorem aaT{YA:ah}{YB:Nat}{fG:List (BitVec 8)}(H0:Hp b S w (dW UR 95 [gI gs,.bool up]::dW gs 169 [aI bG,.slice A l.length c,.map (some Bg)]::dH aZ A c l::rA xA wI Bg es::fU gQ 5 (es.map Prod.snd)::dH gQ YA YB fG::F))(aN:Int)(bU:Int)(sum:Int)(hl:l.length<=1000) :
    bO prog 105 #[gI UR,aI aN,aI bU,gP sum,.slice YA fG.length YB] w λv w'=>∃(A1:ah)(c1:Nat)(B1:ah)(d1:Nat),v=.bool (TL l bG aN bU sum fG)/\Hp b S w' (dW UR 95 [gI gs,.bool up]::dW gs 169 [aI bG,.slice A1 ((Hy l bG aN bU sum fG).length) c1,.map (some Bg)]::dH aZ A1 c1 (Hy l bG aN bU sum fG)::rA xA wI Bg (tkM l bG aN bU sum fG B1 d1 es)::fU gQ 5 ((tkM l bG aN bU sum fG B1 d1 es).map Prod.snd)::F):=by
 refine rU func105 ntmps105 Y<|iT Y<|bQ Y<|ev (d9 Y)<|j6 UR 0 yK H0 s0 Y<|mv Y<|mv Y<|mv Y<|mv Y ?_
 have H1:=H0.push (H0.s s5);refine gU Y (am1 ((H1.mV 0 2).mV 2 4) aN bU sum (lI hl au)) ?_;rintro _ w1 ⟨aJr,aJs,anp,anq,rfl,K1⟩;have axR:=(K1.s s1).bC;refine ev (iM Y Y)<|mv Y ?_
 cases U9:decide (qX l bG aN bU sum fG=0) with
 | true=>
  have hd:=iY U9;have hbl:=agu l bG aN bU sum fG;refine bE Y (bq Y) Y<|bE Y (d9 Y) Y<|wB UR 0 yK K1 s4 Y<|bE Y (bq Y) Y<|bE Y (bq Y) Y<|oD Y Y Y Y aAz (aiU K1 aN bU aj) Y ?_
  rintro _ w2 ⟨ZV,ZW,rfl,K2⟩;refine bE Y (iM Y Y) Y<|ev (dM Y Y)<|bX Y<|iP Y ?_
  have gu:((TJ (Bj l bG aN bU sum fG) aN bU):List aG)=(Hy l bG aN bU sum fG):=by unfold Hy; rw [aS hd]
  have kC:((Vg (Bj l bG aN bU sum fG) aN bU (Hr l bG aN bU sum fG anp anq es)):List (bT × Option Addr × Nat × List (BitVec 8)))=(tkM l bG aN bU sum fG anp anq es):=by unfold tkM; rw [aS hd]
  exact⟨ZV,ZW,anp,anq,by unfold TL; rw [U9,Bool.true_and] <;> rfl,by rw [<- gu,<- kC]; exact(((K2.rm s5).mV 0 4).sel s4)⟩
 | false=>
  have hd:=jS U9;refine dN<|dN<|dN<|dN<|dN<|dN<|dN<|dN<|ev (dS Y Y)<|bX Y<|iP Y ?_
  have nC:(false:Bool)=(TL l bG aN bU sum fG):=by unfold TL; rw [U9,Bool.false_and]
  have rV:((Bj l bG aN bU sum fG):List aG)=(Hy l bG aN bU sum fG):=by unfold Hy; rw [aP hd]
  have xW:((Hr l bG aN bU sum fG anp anq es):List (bT × Option Addr × Nat × List (BitVec 8)))=(tkM l bG aN bU sum fG anp anq es):=by unfold tkM; rw [aP hd]
  exact⟨aJr,aJs,anp,anq,by rw [<- nC] <;> rfl,by rw [<- rV,<- xW]; exact(((K1.rm s5).mV 0 4).sel s4)⟩
theorem arJ(H0:Hp b S w (dW UR 95 [gI gs,.bool up]::dW gs 169 [aI bG,.slice A l.length c,.map (some Bg)]::dH aZ A c l::rA xA wI Bg es::fU gQ 5 (es.map Prod.snd)::F))(it:AItem) :
    bO prog 48 #[cv,.agg #[aI it.Kind,aI it.A,aI it.B,aI it.C],gI UR] w λv w'=>v=aI 0/\Hp b S w' (dW UR 95 [gI gs,.bool false]::dW gs 169 [aI bG,.slice A l.length c,.map (some Bg)]::dH aZ A c l::rA xA wI Bg es::fU gQ 5 (es.map Prod.snd)::F):=by
 refine rU func48 ntmps48 Y<|rg<|bx Y Y H0 λg1 w1 K1=>bX Y<|bQ Y<|ev (d9 Y)<|yV UR 1 Ju Y<|yD Y K1 s1 Y λw2 K2=>dn<|iT Y<|iP Y ?_
 exact⟨Y,(K2.rm s1)⟩
theorem arK(H0:Hp b S w (dW UR 95 [gI gs,.bool up]::dW gs 169 [aI bG,.slice A l.length c,.map (some Bg)]::dH aZ A c l::rA xA wI Bg es::fU gQ 5 (es.map Prod.snd)::F))(it:AItem)(hl:l.length<=1000) :
    bO prog 49 #[cv,.agg #[aI it.Kind,aI it.A,aI it.B,aI it.C],gI UR] w λv w'=>∃(A1:ah)(c1:Nat),v=aI 0/\Hp b S w' (dW UR 95 [gI gs,.bool true]::dW gs 169 [aI bG,.slice A1 (((qJ l es l.length).1).length) c1,.map (some Bg)]::dH aZ A1 c1 ((qJ l es l.length).1)::rA xA wI Bg ((qJ l es l.length).2)::fU gQ 5 (((qJ l es l.length).2).map Prod.snd)::F):=by
 refine rU func49 ntmps49 Y<|rg<|bx Y Y H0 λg1 w1 K1=>bX Y<|bQ Y<|ev (d9 Y)<|j6 UR 0 yK K1 s1 Y<|gU Y (agb ((K1.mV 0 2).mV 2 4) (lI hl au)) ?_
 rintro _ w2 ⟨ZV,ZW,rfl,K2⟩;refine dn<|bQ Y<|ev (d9 Y)<|yV UR 1 Ju Y<|yD Y K2 s5 Y λw3 K3=>dn<|iT Y<|iP Y ?_
 exact⟨ZV,ZW,Y,(K3.rm s5)⟩
theorem anr(H0:Hp b S w (dW UR 95 [gI gs,.bool up]::dW gs 169 [aI bG,.slice A l.length c,.map (some Bg)]::dH aZ A c l::rA xA wI Bg es::fU gQ 5 (es.map Prod.snd)::F))(it:AItem)(hl:l.length<=1000) :
    bO prog 50 #[cv,.agg #[aI it.Kind,aI it.A,aI it.B,aI it.C],gI UR] w λv w'=>∃(A1:ah)(c1:Nat),v=aI 0/\Hp b S w' (dW UR 95 [gI gs,.bool up]::dW gs 169 [aI bG,.slice A1 (((uj l es (EU l es).length).1).length) c1,.map (some Bg)]::dH aZ A1 c1 ((uj l es (EU l es).length).1)::rA xA wI Bg ((uj l es (EU l es).length).2)::fU gQ 5 (((uj l es (EU l es).length).2).map Prod.snd)::F):=by
 refine rU func50 ntmps50 Y<|rg<|bx Y Y H0 λg1 w1 K1=>bX Y<|bQ Y<|ev (d9 Y)<|j6 UR 0 yK K1 s1 Y<|gU Y (am8 ((K1.mV 0 2).mV 2 4) (lI hl au)) ?_
 rintro _ w2 ⟨pI,pJ,ZV,ZW,rfl,K2⟩;refine dn<|iT Y<|iP Y ?_
 exact⟨ZV,ZW,Y,((((K2.rm s5).rm s0).mV 0 4).sel s4)⟩
theorem ant(H0:Hp b S w (dW UR 95 [gI gs,.bool up]::dW gs 169 [aI bG,.slice A l.length c,.map (some Bg)]::dH aZ A c l::rA xA wI Bg es::fU gQ 5 (es.map Prod.snd)::F))(it:AItem)(hb:(gD ⟨it.B,false⟩ es).2.2.length<=1000)(hi:qC it.C) :
    bO prog 51 #[cv,.agg #[aI it.Kind,aI it.A,aI it.B,aI it.C],gI UR] w λv w'=>v=aI (if(gD ⟨it.B,false⟩ es).2.2.length=0 then 5 else 0)/\Hp b S w' (dW UR 95 [gI gs,.bool up]::dW gs 169 [aI bG,.slice A l.length c,.map (some Bg)]::dH aZ A c l::rA xA wI Bg (QY it.B it.C es)::fU gQ 5 ((QY it.B it.C es).map Prod.snd)::F):=by
 refine rU func51 ntmps51 Y<|rg<|bx Y Y H0 λg1 w1 K1=>bX Y<|He K1 (λ_ K=>((K.cU 4 2).rm s2)) (λl0 rk lJ wJ=>lJ=(6,aI (if(gD ⟨it.B,false⟩ es).2.2.length=0 then 5 else 0))::l0/\Hp b S wJ (rA xA wI Bg (QY it.B it.C es)::fU gQ 5 ((QY it.B it.C es).map Prod.snd)::dW gs 169 [aI bG,.slice A l.length c,.map (some Bg)]::rk)) (λhns H1=>?_) ?_
 ·have k1:=((H1.cU 4 2).rm s2);refine tZ 0 UR 0 yK Y k1<|Db 3 s1 Y k1<|nJ 4 5 g1 2 VK s0 Y k1<|nJ 6 7 g1 3 adp s0 Y k1<|O1 8 Y<|gU Y (am3 ((H1.mV 0 2).mV 2 4) it.B it.C hb hi) ?_
  rintro _ w2 ⟨rfl,K2⟩;have k2:=((((K2.cU 2 2).rm s0).sel s0).mV 1 2);refine aO k2<|xL 9 Y Y k2<|Dn ⟨Y,((((K2.sel s1).mV 4 2).sel s3).mV 4 2)⟩ Y
 rintro _ w3 ⟨rfl,K3⟩;refine iP Y ?_;exact⟨Y,(((((K3.rm s3).mV 0 2).sel s4).sel s3).sel s4)⟩
theorem arL(H0:Hp b S w (dW UR 95 [gI gs,.bool up]::dW gs 169 [aI bG,.slice A l.length c,.map (some Bg)]::dH aZ A c l::rA xA wI Bg es::fU gQ 5 (es.map Prod.snd)::F))(it:AItem) :
    bO prog 52 #[cv,.agg #[aI it.Kind,aI it.A,aI it.B,aI it.C],gI UR] w λv w'=>v=aI 0/\Hp b S w' (dW UR 95 [gI gs,.bool up]::dW gs 169 [aI bG,.slice none (([]:List aG).length) 0,.map (some Bg)]::dH aZ none 0 ([]:List aG)::rA xA wI Bg ([]:oz)::fU gQ 5 (([]:oz).map Prod.snd)::F):=by
 refine rU func52 ntmps52 Y<|rg<|bx Y Y H0 λg1 w1 K1=>bX Y<|bQ Y<|ev (d9 Y)<|j6 UR 0 yK K1 s1 Y<|gU Y (ark ((K1.mV 0 2).mV 2 4) ) ?_
 rintro _ w2 ⟨rfl,K2⟩;refine dn<|iT Y<|iP Y ?_
 have H1:=K2.push (RV aZ _ _);exact⟨Y,((((((H1.rm s5).rm s2).mV 2 2).sel s2).sel s3).sel s4)⟩
theorem agv(a0:ah)(a1:Bool):prog.built 95 [(0,.pointer a0),(1,.bool a1)]=some #[.pointer a0,.bool a1]:=ak
theorem VL:dL prog 84 2 6:=ay
theorem YO:∀ w,(zeroValue 120).run prog w=.ok (.agg #[aI 0,aI 0,aI 0,aI 0,aI 0,aI 0]) w:=ay
theorem arM:bJ prog 109:=ay
abbrev Jv(iE:AItem):=(⟨0,0,1,iE.A,iE.B,iE.C⟩:fH)
abbrev adq(iE:Nat)(je:ah)(wP:Nat)(zZ:ah)(Fh:Nat)(QA:ah)(UH:Nat)(ZI:ah)(y8z:Nat)(y9z:ah)(Rk:Nat)(Rl:ah)(Ro:Nat)(Rq:ah)(Rt:Nat)(DW:dh)(DX:gG)(adi:ARules)(adk:Int)(Ru:Nat)(Rw:List aK)(adl:kG)(adn:List lG):=GA iE je wP zZ Fh QA UH ZI y8z y9z Rk Rl Ro Rq Rt DW DX adi adk Ru Rw::dH bW je wP DW.aL::dH bD zZ Fh DW.aA::dH dw QA UH DW.aT::dH iK ZI y8z DX.cZ::dH dz y9z Rk DX.bI::dH bg Rl Ro DX.bA::aQ bg 112 Rq Rt Rw::jL Ru adl::adn
theorem avZ(H0:Hp b S w (adq iI A1 c1 A2 c2 A3 c3 A4 c4 A5 c5 A6 c6 A7 c7 m s r aJ gm bR hs F))(it:AItem)(hm:mG m=true) :
    bO prog 40 #[gI iI,.agg #[aI it.Kind,aI it.A,aI it.B,aI it.C]] w λv w'=>∃(B1:ah)(d1:Nat)(B2:ah)(d2:Nat)(B3:ah)(d3:Nat)(hs1:kG),v=aI (knE m (Jv it))/\(kR hs1=if knE m (Jv it)=0 then gK it.A ⟨true,J4 it.C,[],[]⟩ (kR hs) else kR hs)/\Hp b S w' (GA iI B1 d1 B2 d2 B3 d3 A4 c4 A5 c5 A6 c6 A7 c7 (tY m (Jv it)) s r aJ gm bR::dH bW B1 d1 ((tY m (Jv it)).aL)::dH bD B2 d2 ((tY m (Jv it)).aA)::dH dw B3 d3 ((tY m (Jv it)).aT)::dH iK A4 c4 s.cZ::dH dz A5 c5 s.bI::dH bg A6 c6 s.bA::aQ bg 112 A7 c7 bR::jL gm hs1::F):=by
 refine rU func40 ntmps40 Y<|rg<|bx Y Y H0 λg1 w1 K1=>bX Y<|bQ Y<|j6 g1 1 om K1 s0 Y<|j6 g1 2 VK K1 s0 Y<|j6 g1 3 adp K1 s0 Y<|ev (jX Y (by apply qK))<|gU rfl (zC ((K1.sel s0).mV 1 9) (Jv it) aj rfl) ?_
 rintro _ w2 ⟨ani,anj,ank,anl,anm,ano,rfl,K2⟩;refine bX Y<|aY<|bQ Y<|ev (iM Y Y)<|dn<|mZ Y (λhc16=>?_) (λhc16=>?_)
 ·refine Hf K2 (λ_ K=>(K.rm s8)) (λl0 rk lJ wJ=>∃(jT cj2 vV:Nat),lJ=l0/\Hp b S wJ (jL gm (gK it.A (⟨jT,cj2,vV,none,0,true,(J4 it.C),[],([]:oz)⟩:l6) hs)::rk)) (λhns H1=>?_) ?_
  ·have k1:=(H1.rm s8);refine tZ 0 iI 13 u6 Y k1<|Db 3 s0 Y k1<|nJ 4 5 g1 1 om s8 Y k1<|nJ 6 7 g1 3 adp s8 Y k1<|O1 8 Y<|gU Y (avL H1 it.C) ?_
   rintro _ w3 ⟨aD3,aD4,rfl,K3⟩;have k2:=((K3.rm s11).cU 0 3);refine aO k2<|l9 9 Y (λ_ _=>jX Y (by apply agv)) k2<|O1 10 rfl<|bx rfl rfl K3 λg2 w4 K4=>?_
   have k3:=((K4.rm s12).cU 0 4);refine aO k3<|O1 11 Y<|aJj K4 s12 EY zi Y Y Y λw5 K5=>?_
   have H2:=K5.push (RV aZ _ _);have H3:=Hp.avV (h:=⟨g2,aD3,aD4,none,0,true,(J4 it.C),[],([]:oz)⟩) ((((H2.sel s1).mV 4 2).sel s3).mV 4 2);have k4:=(H3.rm s0);refine aO k4<|Dn ⟨g2,aD3,aD4,Y,H3⟩ Y
  rintro _ w6 ⟨jT,cj2,vV,rfl,K6⟩;refine gy<|bQ Y<|bX Y<|iP Y ?_
  exact⟨ani,anj,ank,anl,anm,ano,(gK it.A (⟨jT,cj2,vV,none,0,true,(J4 it.C),[],([]:oz)⟩:l6) hs),Y,(by rw [aS hc16,Aw]; rfl),(((K6.rm s9).sel s0).mV 1 8)⟩
 refine jy ?_;refine bQ Y<|bX Y<|iP Y ?_
 exact⟨ani,anj,ank,anl,anm,ano,hs,Y,(by rw [aP hc16]),(K2.rm s9)⟩
abbrev Np(iE:gG)(je:AItem)(wP:Int):=(⟨tX iE.cZ je.A wP,iE.bI,iE.bA⟩:gG)
theorem arN{hv:Value}(H0:Hp b S w (adq iI A1 c1 A2 c2 A3 c3 A4 c4 A5 c5 A6 c6 A7 c7 m s r aJ gm bR hs F))(it:AItem)(hb:s.cZ.length<=1000) :
    bO prog 46 #[gI iI,.agg #[aI it.Kind,aI it.A,aI it.B,aI it.C],hv] w λv w'=>∃(B4:ah)(d4:Nat),v=aI 0/\Hp b S w' (GA iI A1 c1 A2 c2 A3 c3 B4 d4 A5 c5 A6 c6 A7 c7 m (Np s it aJ) r aJ gm bR::dH bW A1 c1 m.aL::dH bD A2 c2 m.aA::dH dw A3 c3 m.aT::dH iK B4 d4 ((Np s it aJ).cZ)::dH dz A5 c5 ((Np s it aJ).bI)::dH bg A6 c6 ((Np s it aJ).bA)::aQ bg 112 A7 c7 bR::jL gm hs::F):=by
 refine rU func46 ntmps46 Y<|rg<|bx Y Y H0 λg1 w1 K1=>bX Y<|He K1 (λ_ K=>(K.rm s1)) (λl0 rk lJ wJ=>∃(jW:ah)(jT:Nat),lJ=l0/\Hp b S wJ (dW iI 84 [.slice A1 m.aL.length c1,.slice A2 m.aA.length c2,.slice A3 m.aT.length c3,.slice jW ((tX s.cZ it.A aJ).length) jT,.slice A5 s.bI.length c5,.slice A6 s.bA.length c6,aI r.kY,aI r.l7,aI r.All,aI r.jw,aI r.iD,aI r.eZ,aI aJ,.map (some gm),.slice A7 bR.length c7]::aQ iK 107 jW jT (tX s.cZ it.A aJ)::rk)) (λhns H1=>?_) ?_
 ·have k1:=(H1.rm s1);refine lQ 0 Y Y k1<|tZ 1 iI 3 AJ Y k1<|MO 4 iI 3 FP Y k1<|nJ 6 7 g1 1 om s0 Y k1<|tZ 8 iI 12 BX Y k1<|Jn H1 (λl0 rk lJ wJ=>lJ=(12,.slice A4 s.cZ.length c4)::(18,aI aJ)::l0/\Hp b S wJ rk) 5 4095 ?_ λhS1=>?_
  ·rintro _ w4 ⟨rfl,K4⟩;refine O1 12 Y<|gU Y (arx _ (K4.s s5).any it.A aJ (lI hb au)) ?_
   rintro _ w5 ⟨CG,CJ,rfl,h5⟩;have K5:=K4.f1 h5;have k4:=((K5.rm s2).rm s0);refine aO k4<|Sr 13 iI 3 AJ Y k4<|MO 15 iI 3 FP Y k4<|O1 16 Y<|yD Y K5 s2 Y λw6 K6=>?_
   have k5:=(K6.cU 0 2);refine aO k5<|Dn ⟨CG,CJ,Y,K6⟩ Y
  refine O2 5 11 Y Y ?_ ?_
  ·refine nL H1 s1 Y<|aO k1<|O1 11 Y<|nL H1 s1 Y<|Kj hS1 k1 ⟨Y,H1⟩ Y
  ·refine nL H1 s1 Y<|aO k1<|O1 5 Y<|nL H1 s1 Y<|Kj hS1 k1 ⟨Y,H1⟩ Y
 rintro _ w7 ⟨jW,jT,rfl,K7⟩;refine iT Y<|iP Y ?_
 have H2:=K7.fz s1;have gu:(s.bI:List bf)=((Np s it aJ).bI):=by rfl
 have kC:(s.bA:List aK)=((Np s it aJ).bA):=by rfl
 exact⟨jW,jT,Y,by rw [<- gu,<- kC]; exact((((H2.rm s6).rm s2).sel s0).mV 1 4)⟩
theorem av0(m:dh)(s:gG)(r:ARules)(aJ:Int):∀ x∈mX m s r aJ,x.Client=0:=by
  intro x hx;unfold mX at hx
  split at hx
  · obtain⟨o,_,rfl⟩:=gB.1 hx; rfl
  · simp at hx
theorem arO(ls:List bf)(os:List aK)(ks dF:List aF)(ns:List aR)(aH:List Int)(kZ dD all u:Int):(Qw ls os ks dF ns aH kZ dD all u).length<=os.length+1:=by
  unfold Qw
  split
  · unfold xw; split <;> simp
  · omega
theorem agw(m:dh)(s:gG)(r:ARules)(aJ:Int):(mX m s r aJ).length<=m.aA.length:=by
  unfold mX
  split
  · rw [kF]
    have hsl:(EJ m s aJ).length=m.aA.length:=BM _ _;rw [<- hsl]; exact G7 _ _ _ _ _ _ _
  · simp
theorem YP(hl:s.bI.length<=64):(qb m s r aJ).length<=200+m.aA.length:=by
  unfold qb rdO
  split
  · rename_i h
    have hmay:l5 r=true:=by unfold rdB at h; revert h; cases l5 r <;> simp
    have hbd:=oq hmay;have hpl:=Ed s aJ;have hsl:(EJ m s aJ).length=m.aA.length:=BM _ _;have hrl:=QB (x:=Dv m s r aJ) hbd.2.2.2.1.2 (RP m s r aJ) ((fq s aJ).bI,[]) (lI hpl.1 hl)
    have hrl2:(tO m s r aJ).2.length<=64:=by
      have h2:=hrl.2; have h3:(tO m s r aJ).1.length<=64:=hrl.1; simp only [uE] at h2;show(qz (Dv m s r aJ) (RP m s r aJ) ((fq s aJ).bI,[])).2.length<=64;have h4:(qz (Dv m s r aJ) (RP m s r aJ) ((fq s aJ).bI,[])).1.length<=64:=hrl.1;omega
    have htl:(uy m s r aJ).length<=(EJ m s aJ).length:=G7 _ _ _ _ _ _ _;have hba:=arO (tO m s r aJ).1 ((tO m s r aJ).2++uy m s r aJ) m.aA (EJ m s aJ) m.aL (vK s r aJ) r.eZ r.l7 r.All (aJ+r.iD)
    split <;> simp only [jG] at hba ⊢ <;> omega
  · simp
abbrev VN(iE:dh)(je:gG)(wP:ARules)(zZ:Int):=((jr iE je wP zZ).cZ).length
abbrev VO(iE:dh)(je:gG)(wP:ARules)(zZ:Int):=((jr iE je wP zZ).bI).length
abbrev VP(iE:dh)(je:gG)(wP:ARules)(zZ:Int):=((jr iE je wP zZ).bA).length
theorem anu(H0:Hp b S w (adq iI A1 c1 A2 c2 A3 c3 A4 c4 A5 c5 A6 c6 A7 c7 m s r aJ gm bR hs F))(it:AItem)(hm:mG m=true)(hb:s.cZ.length<=1000)(hl:s.bI.length<=64)(hd:s.bA.length<=50000)(hu:0<=aJ/\aJ<=549755813888)(hw:bR.length<=500000) :
    bO prog 42 #[gI iI,.agg #[aI it.Kind,aI it.A,aI it.B,aI it.C]] w λv w'=>∃(B1:ah)(d1:Nat)(B2:ah)(d2:Nat)(B3:ah)(d3:Nat)(B4:ah)(d4:Nat)(B5:ah)(d5:Nat)(B6:ah)(d6:Nat)(B7:ah)(d7:Nat),v=aI 0/\Hp b S w' (GA iI B1 d1 B2 d2 B3 d3 B4 d4 B5 d5 B6 d6 B7 d7 (C9 m (mX m s r aJ)) (jr m s r aJ) r aJ gm (bR++qb m s r aJ)::dH bW B1 d1 ((C9 m (mX m s r aJ)).aL)::dH bD B2 d2 ((C9 m (mX m s r aJ)).aA)::dH dw B3 d3 ((C9 m (mX m s r aJ)).aT)::dH iK B4 d4 ((jr m s r aJ).cZ)::dH dz B5 d5 ((jr m s r aJ).bI)::dH bg B6 d6 ((jr m s r aJ).bA)::aQ bg 112 B7 d7 (bR++qb m s r aJ)::jL gm hs::F):=by
 refine rU func42 ntmps42 Y ?_;have hz:=FV hm;have hzc:=(uN (dV.1 hm).2.1).1;have hro:=YP (m:=m) (r:=r) (aJ:=aJ) hl;have aJt:=agw m s r aJ;refine rg<|bx Y Y H0 λg1 w1 K1=>bX Y<|He K1 (λ_ K=>K) (λl0 rk lJ wJ=>∃(su:Nat)(jW:ah)(jT:Nat)(pO:ah)(cj2:Nat)(wW:ah)(vV:Nat)(CQ:ah)(CS:Nat)(Aj5:ah)(cj5:Nat),lJ=(5,gI su)::(6,.slice CQ ((qb m s r aJ).length) CS)::(7,.slice Aj5 ((mX m s r aJ).length) cj5)::l0/\Hp b S wJ (dW su 51 [.slice jW (VN m s r aJ) jT,.slice pO (VO m s r aJ) cj2,.slice wW (VP m s r aJ) vV]::aQ iK 107 jW jT ((jr m s r aJ).cZ)::aQ dz 117 pO cj2 ((jr m s r aJ).bI)::aQ bg 112 wW vV ((jr m s r aJ).bA)::aQ bg 112 CQ CS (qb m s r aJ)::aQ Ad 120 Aj5 cj5 (mX m s r aJ)::rk)) (λhns H1=>?_) ?_
 ·refine tZ 0 iI 0 AA Y H1<|l9 3 Y (λ_ hK=>KF (cs':=[.slice A1 m.aL.length c1,.slice A2 m.aA.length c2,.slice A3 m.aT.length c3]) yg Y Y (hK.x s1) Y) H1<|tZ 4 iI 3 AJ Y H1<|l9 7 Y (λ_ hK=>KF (cs':=[.slice A4 s.cZ.length c4,.slice A5 s.bI.length c5,.slice A6 s.bA.length c6]) JX Y Y (hK.x s1) Y) H1<|tZ 8 iI 6 VL Y H1<|l9 11 Y (λ_ hK=>KF (cs':=[aI r.kY,aI r.l7,aI r.All,aI r.jw,aI r.iD,aI r.eZ]) JZ Y Y (hK.x s1) Y) H1<|tZ 12 iI 12 BX Y H1<|Db 15 s1 Y H1<|Jn H1 (λl0 rk lJ wJ=>∃(g2:Nat)(AP:ah)(AU:Nat)(AX:ah)(AY:Nat)(AZ:ah)(Ba:Nat)(ZV:ah)(ZW:Nat)(av1:ah)(av2:Nat),lJ=(5,gI g2)::(29,.slice ZV ((qb m s r aJ).length) ZW)::(30,.slice av1 ((mX m s r aJ).length) av2)::l0/\Hp b S wJ (dW g2 51 [.slice AP (VN m s r aJ) AU,.slice AX (VO m s r aJ) AY,.slice AZ (VP m s r aJ) Ba]::aQ iK 107 AP AU ((jr m s r aJ).cZ)::aQ dz 117 AX AY ((jr m s r aJ).bI)::aQ bg 112 AZ Ba ((jr m s r aJ).bA)::aQ bg 112 ZV ZW (qb m s r aJ)::aQ Ad 120 av1 av2 (mX m s r aJ)::rk)) 2 8388607 ?_ λhS1=>?_
  ·rintro _ w8 ⟨g2,AP,AU,AX,AY,AZ,Ba,ZV,ZW,av1,av2,rfl,K8⟩;have k6:=(K8.cU 0 6);refine xL 23 Y Y k6<|xL 24 Y Y k6<|Dn ⟨g2,AP,AU,AX,AY,AZ,Ba,ZV,ZW,av1,av2,Y,K8⟩ Y
  refine O2 16 21 Y Y ?_ ?_
  ·refine gU Y (QC _ m (H1.s s2).any (H1.s s3).any (H1.s s4).any s (H1.s s5).any (H1.s s6).any (H1.s s7).any r aJ aj aj aj (lI (Ak (dV.1 hm).1) au) (lI hzc au) aj) ?_;rintro _ w9 ⟨TM,TN,TP,TQ,TR,TS,aD5,aD6,aD7,aD8,rfl,h9⟩;have K9:=H1.f5 h9;have aD9:=(K9.o s0).bC;have aLQ:=(K9.o s1).bC;have aLR:=(K9.o s2).bC;have aLS:=(K9.o s3).bC;have aLT:=(K9.o s4).bC;have k7:=(K9.cU 0 5);refine aO k7<|lQ 17 Y Y k7<|xU 18 Y (vs:=[.agg #[.slice TM (VN m s r aJ) TN,.slice TP (VO m s r aJ) TQ,.slice TR (VP m s r aJ) TS],.slice aD5 ((qb m s r aJ).length) aD6,.slice aD7 ((mX m s r aJ).length) aD8]) Y Y k7<|xU 19 Y Y Y k7<|xU 20 Y Y Y k7<|O1 21 Y<|al DL Y K9 λg4 Om K10=>?_
   have k8:=(K10.cU 0 6);refine aO k8<|O1 22 Y<|sty Y K10 s0 Y λVa vM=>?_
   have k9:=(vM.cU 0 6);exact Kj hS1 k9 ⟨g4,TM,TN,TP,TQ,TR,TS,aD5,aD6,aD7,aD8,Y,vM⟩ Y
  ·refine al DL Y H1 λg5 Vb vH=>?_;have k10:=(vH.rm s0);refine aO k10<|O1 16 Y<|gU Y (QC _ m (vH.s s3).any (vH.s s4).any (vH.s s5).any s (vH.s s6).any (vH.s s7).any (vH.s s8).any r aJ aj aj aj (lI (Ak (dV.1 hm).1) au) (lI hzc au) aj) ?_
   rintro _ w13 ⟨qo,qp,uU,uV,uW,uX,YQ,YR,YS,YT,rfl,h13⟩;have Bf:=vH.f5 h13;have aJu:=(Bf.o s0).bC;have aJv:=(Bf.o s1).bC;have aJw:=(Bf.o s2).bC;have aJx:=(Bf.o s3).bC;have aJy:=(Bf.o s4).bC;have k11:=(Bf.cU 0 6);refine aO k11<|lQ 17 Y Y k11<|xU 18 Y Y Y k11<|xU 19 Y Y Y k11<|xU 20 Y (vs:=[.agg #[.slice qo (VN m s r aJ) qp,.slice uU (VO m s r aJ) uV,.slice uW (VP m s r aJ) uX],.slice YQ ((qb m s r aJ).length) YR,.slice YS ((mX m s r aJ).length) YT]) Y Y k11<|O1 22 Y<|sty Y Bf s5 Y λw14 xM=>?_
   have k12:=(xM.cU 0 6);exact Kj hS1 k12 ⟨g5,qo,qp,uU,uV,uW,uX,YQ,YR,YS,YT,Y,xM⟩ Y
 rintro _ w15 ⟨su,jW,jT,pO,cj2,wW,vV,CQ,CS,Aj5,cj5,rfl,BI⟩;refine bQ Y<|ev (fK JX Y Y (BI.x s0))<|ev (d9 Y)<|yV iI 3 AJ Y<|stp Y Y Y axh BI s7 Y Y Y λw16 EB=>dn<|aY ?_
 have H2:=EB.fz s2;have H3:=H2.fz s3;have H4:=H3.fz s4;refine bQ Y<|ev (eX Lx Y)<|mv Y<|dn<|cB<|Lp ((H4.cU 8 3).rm s3) (λl0 rk mJ lJ wJ=>∃(k:Nat)(B1:ah)(d1:Nat)(B2:ah)(d2:Nat)(B3:ah)(d3:Nat),lJ=(37,aI ((k:Nat):Int))::l0/\mJ=(mX m s r aJ).length - k/\k<=(mX m s r aJ).length/\Hp b S wJ (dH bW B1 d1 ((C9 m ((mX m s r aJ).take k)).aL)::dH bD B2 d2 ((C9 m ((mX m s r aJ).take k)).aA)::dH dw B3 d3 ((C9 m ((mX m s r aJ).take k)).aT)::GA iI B1 d1 B2 d2 B3 d3 jW jT pO cj2 wW vV A7 c7 (C9 m ((mX m s r aJ).take k)) (jr m s r aJ) r aJ gm bR::rk)) ⟨0,A1,c1,A2,c2,A3,c3,Y,Y,fE _,((((H4.mV 4 4).mV 4 3).sel s7).mV 8 3)⟩ Y ?_
 rintro _ _ w17 ⟨k,B1,d1,B2,d2,B3,d3,rfl,rfl,hk,BJ⟩;refine rg<|ev (fD Y Y)<|dn<|pG Y (λhc38=>?_) (λhc38=>?_)
 ·refine jy ?_;refine aY<|cB<|rg ?_
  obtain⟨x1,bN⟩:=bn (xs:=(mX m s r aJ)) (i:=k) aj;refine ev (eP (i:=k) Lx aiH Y Y Y (aM bN) ((BJ.o s9).some_ bN))<|ev (iU EK Y Y ((BJ.o s9).fF bN))<|al YO Y BJ λg6 w18 JR=>sty Y JR s0 Y λw19 EC=>dn<|jC<|mv Y<|ev (fK EK Y Y (EC.x s0))<|gU Y (zC ((((((((EC.mV 8 7).sel s7).mV 15 2).sel s14).sel s15).sel (sx 16)).mV 13 3).sel (sx 16)) x1 (Rj hm _) (av0 _ _ _ _ _ (bZ bN))) ?_
  rintro _ w20 ⟨arP,arQ,arR,arS,arT,arU,rfl,Gy⟩;have aJz:=(Gy.s s1).bC;have aJA:=(Gy.s s2).bC;have aJB:=(Gy.s s3).bC;have aJC:=(Gy.s s4).bC;have aJD:=(Gy.s s5).bC;have aJE:=(Gy.s s6).bC;refine jD<|iw (gy ?_)
  refine jC<|ev (dP Y Y)<|mv Y<|jD ?_
  have H5:=Gy;rw [show(tY (C9 m ((mX m s r aJ).take k)) x1)=(C9 m ((mX m s r aJ).take (k+1))) from by rw [arG bN]] at H5;exact dG ⟨(k+1),arP,arQ,arR,arS,arT,arU,Y,Y,aj,((((((((H5.rm s9).mV 7 2).mV 9 7).sel s13).sel s14).sel s15).sel s12).mV 13 3)⟩ rfl aj
 refine xq ?_;refine bQ Y<|mv Y<|ev (d9 Y)<|j6 iI 14 Az BJ s3 Y<|mv Y<|ap BJ s14 Y Y (BJ.o s8) lH EH aj aj Y λpU pV w21 IV=>ev (d9 Y)<|yV iI 14 Az Y<|yD Y IV s4 Y λw22 GR=>dn<|iT Y<|iP Y ?_
 have H6:=GR;rw [show(C9 m ((mX m s r aJ).take k))=(C9 m (mX m s r aJ)) from by rw [gV aj]] at H6;have fT:((bR++(qb m s r aJ)):List aK)=(bR++qb m s r aJ):=by simp
 exact⟨B1,d1,B2,d2,B3,d3,jW,jT,pO,cj2,wW,vV,pU,pV,Y,by rw [<- fT]; exact(((((H6.cU 8 7).sel s1).sel s5).sel s6).mV 3 5)⟩
theorem YU{l:List fH}{k:Nat}{x:fH}(h:l[k]? = some x):lU s aJ n m (l.take (k+1))=Hz s aJ n (lU s aJ n m (l.take k)) x:=by
  unfold lU; rw [fC h,zY]; rfl
theorem HY(hm:mG m=true)(l:List fH):mG (lU s aJ n m l)=true:=by
  unfold lU
  induction l generalizing m with
  | nil=>exact hm
  | cons x l ih=>
    refine ih ?_;unfold Hz; split
    · exact o8 hm x
    · exact hm
theorem akz(l:List aF)(bH:Int)(report:List aG):∀ x∈j5 l bH report,x.Client=0:=by
  intro x hx;unfold j5 at hx
  split at hx
  · obtain⟨c,_,hc⟩:=Ol.1 hx
    unfold recC at hc
    split at hc
    · rw [oG.1 hc]
    · split at hc
      · rw [oG.1 hc]
      · simp at hc
  · simp at hx
theorem agx{st:List Int}{u:Int}{k:Nat}{x:aG}(h:l[k]? = some x)(hb:st.contains x.aD=true):vD (l.take (k+1)) st n u=vD (l.take k) st n u++[⟨1,x.aD,x.aB,x.Sum,n,n,u⟩]:=by
  unfold vD; rw [fC h,Bz,tu]; simp only [KQ,hb,if_true,List.filter_nil,mR,xk]
theorem akA{st:List Int}{u:Int}{k:Nat}{x:aG}(h:l[k]? = some x)(hb:st.contains x.aD=false):vD (l.take (k+1)) st n u=vD (l.take k) st n u:=by
  unfold vD; rw [fC h,Bz,tu]; simp only [KQ,hb,acR,if_false,List.filter_nil,xk,zM]
theorem arV(l:List aG)(st:List Int)(n u:Int):(vD l st n u).length<=l.length:=by unfold vD; rw [kF]; exact ni _ _
abbrev VQ(iE:List aK)(je:List aG)(wP:Nat)(zZ:gG)(Fh:Int)(QA:AItem)(UH:dh)(ZI:ARules):=(iE++vD ((dK je).take wP) (lT (lU zZ Fh QA.A UH (j5 UH.aA QA.A (dK je))).aA (dK je)) QA.A (Fh+ZI.iD)).length
theorem ai2{gh:Nat}{Ah:ah}{ch:Nat}(H0:Hp b S w (GA iI A1 c1 A2 c2 A3 c3 A4 c4 A5 c5 A6 c6 A7 c7 m s r aJ gm bR::dH bW A1 c1 m.aL::dH bD A2 c2 m.aA::dH dw A3 c3 m.aT::dH iK A4 c4 s.cZ::dH dz A5 c5 s.bI::dH bg A6 c6 s.bA::aQ bg 112 A7 c7 bR::jL gm hs::F))(it:AItem)(hm:mG m=true)(hb:s.cZ.length<=1000)(hl:s.bI.length<=64)(hd:s.bA.length<=50000)(hu:0<=aJ/\aJ<=549755813888)(hw:bR.length<=500000)(hr:l5 r=true)(hg:dY it.A hs=some ⟨gh,gs,Bg,Ah,ch,up,bG,l,es⟩)(hz:l.length<=1000) :
    bO prog 47 #[gI iI,.agg #[aI it.Kind,aI it.A,aI it.B,aI it.C],gI gh] w λv w'=>∃(B1:ah)(d1:Nat)(B2:ah)(d2:Nat)(B3:ah)(d3:Nat)(B7:ah)(d7:Nat),v=aI 0/\Hp b S w' (GA iI B1 d1 B2 d2 B3 d3 A4 c4 A5 c5 A6 c6 B7 d7 (lU s aJ it.A m (j5 m.aA it.A (dK l))) s r aJ gm (bR++vD (dK l) (lT (lU s aJ it.A m (j5 m.aA it.A (dK l))).aA (dK l)) it.A (aJ+r.iD))::dH bW B1 d1 ((lU s aJ it.A m (j5 m.aA it.A (dK l))).aL)::dH bD B2 d2 ((lU s aJ it.A m (j5 m.aA it.A (dK l))).aA)::dH dw B3 d3 ((lU s aJ it.A m (j5 m.aA it.A (dK l))).aT)::dH iK A4 c4 s.cZ::dH dz A5 c5 s.bI::dH bg A6 c6 s.bA::aQ bg 112 B7 d7 (bR++vD (dK l) (lT (lU s aJ it.A m (j5 m.aA it.A (dK l))).aA (dK l)) it.A (aJ+r.iD))::jL gm hs::F):=by
 refine rU func47 ntmps47 Y ?_;have hrl:=Ee l;have aLU:=(uN (dV.1 hm).2.1).1;have aJt:=arB m.aA it.A (dK l);have hbd:=oq hr;have hzs:=FV hm;have hmr:=FV (HY (s:=s) (aJ:=aJ) (n:=it.A) hm (j5 m.aA it.A (dK l)));have hqn:=λk=>arV ((dK l).take k) (lT (lU s aJ it.A m (j5 m.aA it.A (dK l))).aA (dK l)) it.A (aJ+r.iD)
 simp only [iF] at hqn
 refine rg<|bx Y Y H0 λg1 w1 K1=>bX Y<|bQ Y<|ev (d9 Y)<|yV gh 0 yK Y<|ev (eF UN Y (K1.EZ s9 hg) Y) ?_
 have H1:=K1.xg s9 hg;refine gU Y (OU ((H1.sel s0).mV 1 4) (lI hz au)) ?_;rintro _ w2 ⟨pI,pJ,rfl,K2⟩;have UA:=(K2.o s0).bC;have H2:=YI hg ((((K2.sel s0).sel s6).mV 2 4).sel s6);refine bX Y<|aY<|He H2 (λ_ K=>K) (λl0 rk lJ wJ=>∃(jW:ah)(jT:Nat),lJ=(26,.slice jW ((j5 m.aA it.A (dK l)).length) jT)::(27,aI (((j5 m.aA it.A (dK l)).length:Nat):Int))::(28,aI 0)::l0/\Hp b S wJ (aQ Ad 120 jW jT (j5 m.aA it.A (dK l))::rk)) (λhns H3=>?_) ?_
 ·refine tZ 0 iI 0 AA Y H3<|nJ 3 4 iI 1 j4 s3 Y H3<|nJ 5 6 g1 1 om s2 Y H3<|lQ 7 Y Y H3<|lQ 10 Y Y H3<|O1 8 Y<|gU Y (ac8 _ (H3.s s5).any it.A (H3.o s1) hzs.2.1) ?_
  rintro _ w3 ⟨qQ,qR,rfl,h3⟩;have K3:=H3.f1 h3;have aoY:=(K3.o s0).bC;have k1:=(K3.rm s0);refine aO k1<|l9 9 Y (λ_ _=>eX Lx Y) k1<|Dn ⟨qQ,qR,Y,K3⟩ Y
 rintro _ w4 ⟨jW,jT,rfl,K4⟩;refine cB<|Lp (K4.cU 4 4) (λl0 rk mJ lJ wJ=>∃(k:Nat)(B1:ah)(d1:Nat)(B2:ah)(d2:Nat)(B3:ah)(d3:Nat),lJ=(28,aI ((k:Nat):Int))::l0/\mJ=(j5 m.aA it.A (dK l)).length - k/\k<=(j5 m.aA it.A (dK l)).length/\Hp b S wJ (dH bW B1 d1 ((lU s aJ it.A m ((j5 m.aA it.A (dK l)).take k)).aL)::dH bD B2 d2 ((lU s aJ it.A m ((j5 m.aA it.A (dK l)).take k)).aA)::dH dw B3 d3 ((lU s aJ it.A m ((j5 m.aA it.A (dK l)).take k)).aT)::GA iI B1 d1 B2 d2 B3 d3 A4 c4 A5 c5 A6 c6 A7 c7 (lU s aJ it.A m ((j5 m.aA it.A (dK l)).take k)) s r aJ gm bR::rk)) ⟨0,A1,c1,A2,c2,A3,c3,Y,Y,fE _,(((K4.mV 0 4).sel s4).mV 5 3)⟩ Y ?_
 rintro _ _ w5 ⟨k,B1,d1,B2,d2,B3,d3,rfl,rfl,hk,K5⟩;refine rg<|ev (fD Y Y)<|dn<|pG Y (λhc29=>?_) (λhc29=>?_)
 ·refine jy ?_;refine aY<|cB<|rg ?_
  obtain⟨x1,bN⟩:=bn (xs:=j5 m.aA it.A (dK l)) (i:=k) aj;refine ev (eP (i:=k) Lx aiH Y Y Y (aM bN) ((K5.o s4).some_ bN))<|ev (iU EK Y Y ((K5.o s4).fF bN))<|al YO Y K5 λg2 w6 K6=>sty Y K6 s0 Y λw7 K7=>dn<|rg<|j6 g2 2 Yl K7 s0 Y<|ev (rY Y Y)<|mv Y ?_
  cases Sz:(!decide (x1.Kind=5)) with
  | true=>
   refine dN<|dN<|dN<|dN<|dN<|dN<|dN<|ev (dM Y Y)<|dn<|bP Y (λ_h=>?_) nofun
   refine jC<|mv Y<|ev (fK EK Y Y (K7.x s0))<|gU Y (zC (m:=(lU s aJ it.A m ((j5 m.aA it.A (dK l)).take k))) (s:=s) (((((((K7.mV 7 2).sel s7).sel s3).sel s8).mV 9 4).mV 9 3).sel s12) x1 (HY hm _) (akz _ _ _ _ (bZ bN))) ?_
   rintro _ w8 ⟨aJF,aJG,aJH,aJI,aJJ,aJK,rfl,K8⟩;have aCv:=(K8.s s1).bC;have aLW:=(K8.s s2).bC;have aLX:=(K8.s s3).bC;have aLY:=(K8.s s4).bC;have aLZ:=(K8.s s5).bC;have aL0:=(K8.s s6).bC;refine jD<|iw (gy ?_)
   refine jC<|ev (dP Y Y)<|mv Y<|jD ?_
   have H4:=K8;rw [show(tY (lU s aJ it.A m ((j5 m.aA it.A (dK l)).take k)) x1)=(lU s aJ it.A m ((j5 m.aA it.A (dK l)).take (k+1))) from by rw [YU bN]; unfold Hz; first | rw [aS (by rw [Sz]; rfl)] | rw [aS (by rw [Sz,xH]; rfl)] | rw [aP (by rw [Sz,xH]; decide)]] at H4;exact dG ⟨(k+1),aJF,aJG,aJH,aJI,aJJ,aJK,Y,Y,aj,(((((((H4.rm s9).mV 4 4).mV 10 2).sel s10).sel s11).sel s8).mV 9 3)⟩ rfl aj
  | false=>
   refine bE Y (bq Y) Y<|wB g2 3 vw K7 s0 Y<|wB g1 1 om K7 s8 Y<|oD Y Y Y Y arM (agt (((((((K7.mV 7 2).sel s7).sel s3).sel s8).mV 9 4).mV 9 3).sel s12) x1.A it.A hb hl hd) Y ?_
   rintro _ w9 ⟨rfl,K9⟩;refine bE Y (iG Y) Y<|ev (dS Y Y)<|dn<|bP Y (λxH=>?_) (λxH=>?_)
   ·refine jC<|mv Y<|ev (fK EK Y Y (K9.x s9))<|gU Y (zC (m:=(lU s aJ it.A m ((j5 m.aA it.A (dK l)).take k))) (s:=s) (r:=r) K9 x1 (HY hm _) (akz _ _ _ _ (bZ bN))) ?_
    rintro _ Om ⟨aEa,aEb,aEc,aEd,aEe,aEf,rfl,K10⟩;refine jD<|iw (gy ?_)
    refine jC<|ev (dP Y Y)<|mv Y<|jD ?_
    have H5:=K10;rw [show(tY (lU s aJ it.A m ((j5 m.aA it.A (dK l)).take k)) x1)=(lU s aJ it.A m ((j5 m.aA it.A (dK l)).take (k+1))) from by rw [YU bN]; unfold Hz; first | rw [aS (by rw [Sz]; rfl)] | rw [aS (by rw [Sz,xH]; rfl)] | rw [aP (by rw [Sz,xH]; decide)]] at H5;exact dG ⟨(k+1),aEa,aEb,aEc,aEd,aEe,aEf,Y,Y,aj,(((((((H5.rm s9).mV 4 4).mV 10 2).sel s10).sel s11).sel s8).mV 9 3)⟩ rfl aj
   refine Ci ?_;refine jC<|ev (dP Y Y)<|mv Y<|jD ?_
   have H6:=K9;rw [show(lU s aJ it.A m ((j5 m.aA it.A (dK l)).take k))=(lU s aJ it.A m ((j5 m.aA it.A (dK l)).take (k+1))) from by rw [YU bN]; unfold Hz; first | rw [aS (by rw [Sz]; rfl)] | rw [aS (by rw [Sz,xH]; rfl)] | rw [aP (by rw [Sz,xH]; decide)]] at H6;exact dG ⟨(k+1),B1,d1,B2,d2,B3,d3,Y,Y,aj,(((((((H6.rm s9).mV 4 4).mV 10 2).sel s10).sel s11).sel s8).mV 9 3)⟩ rfl aj
 refine xq ?_;have H7:=K5;rw [show(lU s aJ it.A m ((j5 m.aA it.A (dK l)).take k))=(lU s aJ it.A m (j5 m.aA it.A (dK l))) from by rw [gV aj]] at H7;refine bQ Y<|ev (d9 Y)<|yV iI 0 AA Y<|j6 iI 1 j4 H7 s3 Y<|mv Y<|gU Y (arC _ (H7.s s1).any (H7.o s6) hmr.2.1 hmr.2.2.1 aj) ?_
 rintro _ Va ⟨aj9,akb,rfl,h11⟩;have vM:=H7.f1 h11;refine bX Y<|aY<|bQ Y<|ev (eX jK Y)<|mv Y<|dn<|cB ?_
 have fT:(bR:List aK)=(bR++vD ((dK l).take 0) (lT (lU s aJ it.A m (j5 m.aA it.A (dK l))).aA (dK l)) it.A (aJ+r.iD)):=by simp [vD]
 rw [fT] at vM;refine qZ (λmJ lJ wJ=>∃(kb:Nat)(A9:ah)(c9:Nat),lJ=[(0,gI iI),(4,gI g1),(10,.slice aj9 ((lT ((lU s aJ it.A m (j5 m.aA it.A (dK l))).aA) (dK l)).length) akb),(55,.slice pI ((dK l).length) pJ),(56,aI (((dK l).length:Nat):Int)),(57,aI ((kb:Nat):Int))]/\mJ=(dK l).length - kb/\kb<=(dK l).length/\Hp b S wJ (aQ bg 112 A9 c9 (bR++vD ((dK l).take kb) (lT (lU s aJ it.A m (j5 m.aA it.A (dK l))).aA (dK l)) it.A (aJ+r.iD))::GA iI B1 d1 B2 d2 B3 d3 A4 c4 A5 c5 A6 c6 A9 c9 (lU s aJ it.A m (j5 m.aA it.A (dK l))) s r aJ gm (bR++vD ((dK l).take kb) (lT (lU s aJ it.A m (j5 m.aA it.A (dK l))).aA (dK l)) it.A (aJ+r.iD))::aQ dQ 3 aj9 akb (lT ((lU s aJ it.A m (j5 m.aA it.A (dK l))).aA) (dK l))::dH bW B1 d1 ((lU s aJ it.A m (j5 m.aA it.A (dK l))).aL)::dH bD B2 d2 ((lU s aJ it.A m (j5 m.aA it.A (dK l))).aA)::dH dw B3 d3 ((lU s aJ it.A m (j5 m.aA it.A (dK l))).aT)::aQ Ad 120 jW jT (j5 m.aA it.A (dK l))::jL gm hs::aQ aZ 132 pI pJ (dK l)::dW g1 32 [aI it.Kind,aI it.A,aI it.B,aI it.C]::dH iK A4 c4 s.cZ::dH dz A5 c5 s.bI::dH bg A6 c6 s.bA::F)) ⟨0,A7,c7,Y,Y,fE _,((((vM.mV 5 7).mV 7 4).sel s11).sel s12)⟩ Y ?_;rintro _ _ Vb ⟨kb,A9,c9,rfl,rfl,hkb,vH⟩;refine rg<|ev (fD Y Y)<|dn<|pG Y (λaJL=>?_) (λaJL=>?_)
 ·refine jy ?_;refine aY<|cB<|rg ?_
  obtain⟨x2,lN⟩:=bn (xs:=dK l) (i:=kb) aj;refine ev (eP (i:=kb) jK mH Y Y Y (aM lN) ((vH.o s8).some_ lN))<|ev (iU oU Y Y ((vH.o s8).fF lN))<|al yu Y vH λg3 w13 Bf=>sty Y Bf s0 Y λw14 xM=>dn<|bQ Y<|j6 g3 0 mM xM s0 Y<|nD xM Y (kL _ (xM.o s3) x2.aD) λw15 BI=>dn<|bP Y (λarW=>?_) (λarW=>?_)
  ·refine Hf BI (λ_ K=>(K.cU 1 2)) (λl0 rk lJ wJ=>∃(pO:ah)(cj2:Nat),lJ=l0/\Hp b S wJ (GA iI B1 d1 B2 d2 B3 d3 A4 c4 A5 c5 A6 c6 pO cj2 (lU s aJ it.A m (j5 m.aA it.A (dK l))) s r aJ gm ((bR++vD ((dK l).take kb) (lT (lU s aJ it.A m (j5 m.aA it.A (dK l))).aA (dK l)) it.A (aJ+r.iD))++([(⟨1,x2.aD,x2.aB,x2.Sum,it.A,it.A,aJ+r.iD⟩:aK)]:List aK))::aQ bg 112 pO cj2 ((bR++vD ((dK l).take kb) (lT (lU s aJ it.A m (j5 m.aA it.A (dK l))).aA (dK l)) it.A (aJ+r.iD))++([(⟨1,x2.aD,x2.aB,x2.Sum,it.A,it.A,aJ+r.iD⟩:aK)]:List aK))::rk)) (λhns H8=>?_) ?_
   ·have k2:=(H8.cU 1 2);refine lQ 0 Y Y k2<|tZ 1 iI 14 Az Y k2<|nJ 5 6 g3 0 mM s0 Y k2<|nJ 7 8 g3 1 rJ s0 Y k2<|nJ 9 10 g3 2 QZ s0 Y k2<|nJ 11 12 g1 1 om s8 Y k2<|nJ 13 14 g1 1 om s8 Y k2<|tZ 15 iI 12 BX Y k2<|tZ 19 iI 6 VL Y k2<|MO 22 iI 10 Qs Y k2<|Jn H8 (λl0 rk lJ wJ=>∃(g4:Nat),lJ=(69,.slice A9 (VQ bR l kb s aJ it m r) c9)::(91,.slice (some ⟨g4,0,none⟩) (([(⟨1,x2.aD,x2.aB,x2.Sum,it.A,it.A,aJ+r.iD⟩:aK)]:List aK).length) 1)::l0/\Hp b S wJ (aQ bg 112 (some ⟨g4,0,none⟩) 1 ([(⟨1,x2.aD,x2.aB,x2.Sum,it.A,it.A,aJ+r.iD⟩:aK)]:List aK)::rk)) 4 134217727 ?_ λhS1=>?_
    ·rintro _ w21 ⟨g4,rfl,IV⟩;refine O1 27 Y<|ap (ys:=([(⟨1,x2.aD,x2.aB,x2.Sum,it.A,it.A,aJ+r.iD⟩:aK)]:List aK)) IV s2 Y Y (IV.o s0) lH EH (by have:=hqn kb; rw [jG]; omega) av rfl λXp cp2 w22 GR=>?_
     have k7:=((GR.rm s3).cU 0 2);refine aO k7<|Sr 28 iI 14 Az Y k7<|O1 30 Y<|yD Y GR s3 Y λw23 JU=>?_
     have k8:=(JU.cU 0 3);refine aO k8<|Dn ⟨Xp,cp2,Y,(JU.rm s2)⟩ Y
    refine Jn H8 (λl0 rk lJ wJ=>lJ=(69,.slice A9 (VQ bR l kb s aJ it m r) c9)::(83,aI aJ)::(88,aI r.iD)::l0/\Hp b S wJ rk) 7 16777215 ?_ λhS2=>?_
    ·rintro _ w24 ⟨rfl,pK⟩;have k9:=(pK.cU 1 2);refine l9 24 Y (λ_ _=>dP Y Y) k9<|l9 25 Y (λ_ _=>jX (vs:=[(0,aI 1),(1,aI x2.aD),(2,aI x2.aB),(3,gP x2.Sum),(4,aI it.A),(5,aI it.A),(6,aI (aJ+r.iD))]) (cs:=[aI 1,aI x2.aD,aI x2.aB,gP x2.Sum,aI it.A,aI it.A,aI (aJ+r.iD)]) Y (by apply nP)) k9<|O1 26 rfl<|Bh (τ:=bg) (x:=(⟨1,x2.aD,x2.aB,x2.Sum,it.A,it.A,aJ+r.iD⟩:aK)) rfl (by intro _; apply fM) rfl pK (λ_ _=>rfl) λg7 w25 Ea=>?_
     have k10:=((Ea.cU 2 2).rm s0);exact Kj hS1 k10 ⟨g7,Y,Ea⟩ Y
    refine Jn H8 (λl0 rk lJ wJ=>lJ=(69,.slice A9 (VQ bR l kb s aJ it m r) c9)::(83,aI aJ)::l0/\Hp b S wJ rk) 8 8388607 ?_ λhS3=>?_
    ·rintro _ w26 ⟨rfl,NK⟩;refine O1 23 Y<|nL NK s2 Y ?_
     have k11:=(NK.cU 1 2);exact Kj hS2 k11 ⟨Y,NK⟩ Y
    refine Jn H8 (λl0 rk lJ wJ=>lJ=(69,.slice A9 (VQ bR l kb s aJ it m r) c9)::(88,aI r.iD)::l0/\Hp b S wJ rk) 8 16515071 ?_ λhS4=>?_
    ·rintro _ w27 ⟨rfl,Ou⟩;refine O1 18 Y<|nL Ou s2 Y ?_
     have k12:=(Ou.cU 1 2);exact Kj hS2 k12 ⟨Y,Ou⟩ Y
    refine Jn H8 (λl0 rk lJ wJ=>lJ=(83,aI aJ)::(88,aI r.iD)::l0/\Hp b S wJ rk) 8 16777199 ?_ λhS5=>?_
    ·rintro _ w28 ⟨rfl,GU⟩;have k13:=(GU.cU 1 2);refine l9 24 Y (λ_ _=>dP Y Y) k13<|l9 25 Y (λ_ _=>jX (vs:=[(0,aI 1),(1,aI x2.aD),(2,aI x2.aB),(3,gP x2.Sum),(4,aI it.A),(5,aI it.A),(6,aI (aJ+r.iD))]) (cs:=[aI 1,aI x2.aD,aI x2.aB,gP x2.Sum,aI it.A,aI it.A,aI (aJ+r.iD)]) Y (by apply nP)) k13<|O2 4 26 rfl rfl ?_ ?_
     ·refine nL GU s2 Y<|aO k13<|O1 26 Y<|Bh (τ:=bg) (x:=(⟨1,x2.aD,x2.aB,x2.Sum,it.A,it.A,aJ+r.iD⟩:aK)) Y (by intro _; apply fM) rfl GU (λ_ _=>rfl) λg8 w29 Ii=>?_
      have k14:=((Ii.cU 2 2).rm s0);exact Kj hS1 k14 ⟨g8,Y,Ii⟩ Y
     ·refine Bh (τ:=bg) (x:=(⟨1,x2.aD,x2.aB,x2.Sum,it.A,it.A,aJ+r.iD⟩:aK)) Y (by intro _; apply fM) rfl GU (λ_ _=>rfl) λg9 w30 Gz=>?_;have k15:=((Gz.cU 2 2).rm s0);refine aO k15<|O1 4 Y<|nL Gz s3 Y<|Kj hS1 k15 ⟨g9,Y,Gz⟩ Y
    refine yT (fuel:=9) (rs:=[4,18,23]) ak au ?_
    simp only [wC,mP,xF,xG,uK]
    refine⟨?_,?_,?_⟩
    ·refine⟨_,Y,?_⟩;refine nL H8 s2 Y<|aO k2<|O2 18 23 Y Y ?_ ?_
     ·refine nL H8 s2 Y<|Kj hS3 k2 ⟨Y,H8⟩ Y
     ·refine nL H8 s2 Y<|Kj hS4 k2 ⟨Y,H8⟩ Y
    ·refine⟨_,Y,?_⟩;refine nL H8 s2 Y<|aO k2<|O2 4 23 Y Y ?_ ?_
     ·refine nL H8 s2 Y<|Kj hS3 k2 ⟨Y,H8⟩ Y
     ·refine nL H8 s2 Y<|Kj hS5 k2 ⟨Y,H8⟩ Y
    ·refine⟨_,Y,?_⟩;refine nL H8 s2 Y<|aO k2<|O2 4 18 Y Y ?_ ?_
     ·refine nL H8 s2 Y<|Kj hS4 k2 ⟨Y,H8⟩ Y
     ·refine nL H8 s2 Y<|Kj hS5 k2 ⟨Y,H8⟩ Y
   rintro _ w31 ⟨pO,cj2,rfl,NZ⟩;refine iw (gy ?_);refine jC<|ev (dP Y Y)<|mv Y<|jD ?_
   have gu:(((bR++vD ((dK l).take kb) (lT (lU s aJ it.A m (j5 m.aA it.A (dK l))).aA (dK l)) it.A (aJ+r.iD))++([(⟨1,x2.aD,x2.aB,x2.Sum,it.A,it.A,aJ+r.iD⟩:aK)]:List aK)):List aK)=(bR++vD ((dK l).take (kb+1)) (lT (lU s aJ it.A m (j5 m.aA it.A (dK l))).aA (dK l)) it.A (aJ+r.iD)):=by first | (rw [agx lN arW,pE]; done) | (rw [akA lN (by simpa using arW)]; done)
   rw [gu] at NZ;exact dG ⟨(kb+1),pO,cj2,Y,Y,aj,(((NZ.rm s2).sel s0).sel s1)⟩ rfl aj
  refine Ci ?_;refine jC<|ev (dP Y Y)<|mv Y<|jD ?_
  have kC:((bR++vD ((dK l).take kb) (lT (lU s aJ it.A m (j5 m.aA it.A (dK l))).aA (dK l)) it.A (aJ+r.iD)):List aK)=(bR++vD ((dK l).take (kb+1)) (lT (lU s aJ it.A m (j5 m.aA it.A (dK l))).aA (dK l)) it.A (aJ+r.iD)):=by first | (rw [agx lN arW,pE]; done) | (rw [akA lN (by simpa using arW)]; done)
  rw [kC] at BI;exact dG ⟨(kb+1),A9,c9,Y,Y,aj,(BI.rm s0)⟩ rfl aj
 refine xq ?_;refine iT Y<|iP Y ?_
 have nC:((bR++vD ((dK l).take kb) (lT (lU s aJ it.A m (j5 m.aA it.A (dK l))).aA (dK l)) it.A (aJ+r.iD)):List aK)=(bR++vD (dK l) (lT (lU s aJ it.A m (j5 m.aA it.A (dK l))).aA (dK l)) it.A (aJ+r.iD)):=by rw [gV aj]
 exact⟨B1,d1,B2,d2,B3,d3,A9,c9,Y,by rw [<- nC]; exact((((((vH.cU 8 2).rm s6).rm s2).sel s5).sel s1).mV 2 7)⟩
end
end Go.Proofs.YtlhnnmlenkahlaaGreat
