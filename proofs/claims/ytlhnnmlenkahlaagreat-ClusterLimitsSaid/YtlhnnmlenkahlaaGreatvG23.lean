/- Lemmas. -/
import Derived.Test.YtlhnnmlenkahlaaGreatvG22
set_option maxRecDepth 4000
set_option linter.all false
namespace Go.Proofs.YtlhnnmlenkahlaaGreat
open Go.RowKit Go.Proofs.Tryz
def agE:=@List.flatMap_singleton
def vw:=@underlying82
def yN:=@underlying91
variable {S0 S:Nat->Prop}{CW jl Po A1 A2 A3 A4 A5 A6 A7:ah}{iT Pq c1 c2 c3 c4 c5 c6 c7:Nat}{report:List aH}{t et kt:TypeId}{ky:Operand}{o:aM}{b w:World}{F:List lC}
theorem avV:bI prog 186:=ay
theorem avW:bI prog 185:=ay
theorem pY(a0:Int)(a1:Int)(a2:Int)(a3:Int):prog.built 120 [(2,aD a0),(3,aD a1),(4,aD a2),(5,aD a3)]=some #[aD 0,aD 0,aD a0,aD a1,aD a2,aD a3]:=ak
def Rf(x:aH)(c:aI):Bool:=((!x.fO&&decide (x.aB=c.ID))&&decide (x.aC=c.aC))&&decide (x.Sum=c.Sum)
def recC(bq:Int)(report:List aH)(c:aI):List gD:=
  if(report.any (fun(x:aH)=>Rf x c)&&!c.aF.contains bq)=true then[⟨0,0,5,c.ID,bq,c.aC⟩] else if(!report.any (fun(x:aH)=>Rf x c)&&c.aF.contains bq)=true then[⟨0,0,6,c.ID,bq,0⟩] else[]
def lS(l:List aI)(bq:Int)(report:List aH):List gD:=if lY l=true/\1<=bq/\bq<=16 then l.flatMap (recC bq report) else[]
theorem aog(bq:Int)(report:List aH)(c:aI):(recC bq report c).length<=1:=by unfold recC; split <;> (try split) <;> simp
theorem Ws(bq:Int)(report:List aH):∀(l:List aI),(l.flatMap (recC bq report)).length<=l.length
  | []=>by simp
  | c::l=>by
    have h1:=Ws bq report l;have h2:=aog bq report c
    simp only [List.flatMap_cons,iO,oI]; omega
theorem aoh(l:List aI)(bq:Int)(report:List aH):(lS l bq report).length<=l.length:=by
  unfold lS; split
  · exact Ws bq report l
  · simp
theorem ahZ(w:World)(x:aH)(c:aI){Br:Nat}(F7:Sl dL S0 w CW Br c.aF) :
    bO prog 186 #[.agg #[aD x.aB,aD x.aC,fT x.Sum,.bool x.fO,.bool x.Bad],.agg #[aD c.ID,aD c.aC,fT c.Sum,.slice CW c.aF.length Br]] w λv w'=>v=.bool (Rf x c)/\Hp w S0 w' []:=by
 refine j4 S0 func186 ntmps186 Y λH0=>rg<|bx Y Y H0 λg1 w1 K1=>bx Y Y K1 λg2 w2 K2=>bS Y<|rg<|jD g1 3 ug K2 s1 Y<|ev (gZ Y)<|mv Y<|iG 6 14 ((!x.fO)&&(decide (x.aB=c.ID))) ?_ ?_
 ·cases hb8:(!x.fO) with
  | true=>
   refine wP g1 0 lZ K2 s1 Y<|wP g2 0 qH K2 s0 Y<|bG Y (iP Y Y) Y<|ev (dY Y Y)<|dI Y
  | false=>
   refine eB<|eB<|eB<|eB<|eB<|ev (eG Y Y)<|dI Y
 refine mv Y<|iG 6 21 (((!x.fO)&&(decide (x.aB=c.ID)))&&(decide (x.aC=c.aC))) ?_ ?_
 ·cases Qm:((!x.fO)&&(decide (x.aB=c.ID))) with
  | true=>
   have aht:=Qm
   try simp only [eO,dN,bK,dZ,eu,fC,bL,bU] at aht
   refine wP g1 1 su K2 s1 Y<|wP g2 1 tu K2 s0 Y<|bG Y (iP Y Y) Y<|ev (dY Y Y)<|dI Y
  | false=>
   refine eB<|eB<|eB<|eB<|eB<|ev (eG Y Y)<|dI Y
 refine mv Y<|iG 6 28 ((((!x.fO)&&(decide (x.aB=c.ID)))&&(decide (x.aC=c.aC)))&&(decide (x.Sum=c.Sum))) ?_ ?_
 ·cases aD5:(((!x.fO)&&(decide (x.aB=c.ID)))&&(decide (x.aC=c.aC))) with
  | true=>
   have azl:=aD5
   try simp only [eO,dN,bK,dZ,eu,fC,bL,bU] at azl
   refine wP g1 2 Wn K2 s1 Y<|wP g2 2 Kt K2 s0 Y<|bG Y (iP Y Y) Y<|ev (dY Y Y)<|dI Y
  | false=>
   refine eB<|eB<|eB<|eB<|eB<|ev (eG Y Y)<|dI Y
 refine bS Y<|iI Y ?_
 have d9:(((((!x.fO)&&(decide (x.aB=c.ID)))&&(decide (x.aC=c.aC)))&&(decide (x.Sum=c.Sum))):Bool)=(Rf x c):=by rfl
 exact⟨by rw [d9] <;> rfl,K2.z⟩
theorem arK(w:World)(x:aH)(c:aI){Br:Nat}(h_c:Bx w iT 59 [aD c.ID,aD c.aC,fT c.Sum,.slice CW c.aF.length Br])(F7:Sl dL S0 w CW Br c.aF) :
    bO prog 185 #[.agg #[aD x.aB,aD x.aC,fT x.Sum,.bool x.fO,.bool x.Bad],fP iT] w λv w'=>v=.bool (Rf x c)/\Hp w S0 w' []:=by
 refine j4 S0 func185 ntmps185 Y λH0=>rg<|bx Y Y H0 λg1 w1 K1=>bS Y<|rg<|ev (dK oF Y Y (K1.x s0))<|ev (dK pU Y Y (h_c.ext K1.ext))<|lF K1 Y (ahZ _ x c (K1.a F7).any) λw2 K2=>bS Y<|iI Y ?_
 exact⟨Y,(K2.rm s0)⟩
theorem aaO(w:World){jg:Nat}{l:List aI}(iR:Sl bH S0 w jl jg l)(bq:Int)(Pv:Sl bf S0 w Po Pq report)(hn:l.length<=100000) :
    bO prog 108 #[.slice jl l.length jg,aD bq,.slice Po report.length Pq] w λv w'=>∃(A0:ah)(c0:Nat),v=.slice A0 ((lS l bq report).length) c0/\Hp w S0 w' [aR yY 120 A0 c0 (lS l bq report)]:=by
 refine j4 S0 func108 ntmps108 Y λH0=>?_;have hq:=λk=>Ws bq report (l.take k)
 simp only [fE] at hq
 refine iY Y<|aZ<|bQ Y<|lF H0 Y (Kr _ (H0.a iR).any aj) λw1 K1=>ev (gZ Y)<|mv Y<|iG 3 18 ((!(lY l))||(decide (bq<1))) ?_ ?_
 ·cases Qm:(!(lY l)) with
  | true=>
   refine eB<|eB<|ev (dY Y Y)<|dI Y
  | false=>
   refine bG Y (bA Y) Y<|bG Y (fB Y Y) Y<|ev (eG Y Y)<|dI Y
 refine mv Y<|iG 3 22 (((!(lY l))||(decide (bq<1)))||(decide (16<bq))) ?_ ?_
 ·cases XB:((!(lY l))||(decide (bq<1))) with
  | true=>
   refine eB<|eB<|ev (dY Y Y)<|dI Y
  | false=>
   have amx:=XB
   try simp only [eO,dN,bK,dZ,eu,fC,bL,bU] at amx
   refine bG Y (bA Y) Y<|bG Y (pJ Y Y) Y<|ev (eG Y Y)<|dI Y
 refine dn<|bR Y (λhc22=>?_) (λhc22=>?_)
 ·try simp only [eO,dN,bK,dZ,eu,fC,bL,bU] at hc22
  refine iY Y<|vG Y ?_
  have H1:=K1.nil yY 120;have d9:(([]:List gD):List gD)=(lS l bq report):=by unfold lS; rw [aK (by rcases hc22 with (h | h) | h; simp [h]; omega; omega)]
  have H2:=(d9▸H1:Hp w S0 w1 (aR yY 120 none 0 (lS l bq report)::[]));exact⟨none,0,by rw [<- d9] <;> rfl,H2⟩
 try simp only [eO,dN,bK,dZ,eu,fC,bL,bU] at hc22
 refine jh ?_;refine iY Y<|aZ<|bQ Y<|ev (eY jf Y)<|mv Y<|dn<|cZ ?_
 have H3:=K1.nil yY 120;have fG:(([]:List gD):List gD)=((l.take 0).flatMap (recC bq report)):=by rfl
 refine kP (t:=7) Y (aS (λz=>Value.slice none (List.length z) 0) fG) ?_;have H4:=H3.nil yY 120;have H5:=(fG▸H4:Hp w S0 w1 (aR yY 120 none 0 ((l.take 0).flatMap (recC bq report))::[aR yY 120 none 0 []]));refine Lp (H5.cU 0 2) (λl0 rk mJ lJ wJ=>∃(k:Nat)(A7:ah)(c7:Nat),lJ=(7,.slice A7 (((l.take k).flatMap (recC bq report)).length) c7)::(25,aD ((k:Nat):Int))::l0/\mJ=l.length - k/\k<=l.length/\Hp w S0 wJ (aR yY 120 A7 c7 ((l.take k).flatMap (recC bq report))::rk)) ⟨0,none,0,Y,Y,fK _,(H5.rm s1)⟩ Y ?_;rintro _ _ w2 ⟨k,A7,c7,rfl,rfl,hk,K2⟩;refine rg<|ev (fB Y Y)<|dn<|oC Y (λLa=>?_) (λLa=>?_)
 ·refine jh ?_;refine aZ<|cZ<|rg ?_
  obtain⟨x1,bP⟩:=bC (xs:=l) (i:=k) aj;refine ev (eU (i:=k) jf qG Y Y Y (aJ bP) ((K2.a iR).some_ bP)) ?_;obtain⟨B1,d1,Ak,hi1⟩:=Aj (iR.row bP);refine ev (fV (cs:=[aD x1.ID,aD x1.aC,fT x1.Sum,.slice B1 x1.aF.length d1]) pU Y Y (Ib (λj u hu=>K2.ext.cell (Ak j u hu))))<|al kZ Y K2 λg1 w3 K3=>sty Y K3 s0 Y λw4 K4=>dn<|bQ Y<|ev (qC Y)<|lF K4 Y (Dq _ (K4.a Pv).any (yV:=[fP g1]) avW (fun(x:aH)=>Rf x x1) (λw' x e hm=>(arK w' x x1 ((K4.x s0).ext e) ((K4.a hi1).any.ext e)).mono (by rintro _ _ ⟨rfl,fG⟩; exact⟨rfl,fG.ext⟩))) λw5 K5=>bS rfl<|rg<|jD g1 3 kD K5 s0 rfl<|mv rfl<|lF K5 rfl (jT _ (K5.a hi1).any bq) λw6 K6=>bS rfl<|cZ<|bQ rfl<|mv rfl<|iG 3 41 ((report.any (fun(x:aH)=>Rf x x1))&&(!(x1.aF.contains bq))) ?_ ?_
  ·cases aui:report.any (fun(x:aH)=>Rf x x1) with
   | true=>
    refine bG Y (bA Y) Y<|bG Y (gZ Y) Y<|ev (dY Y Y)<|dI Y
   | false=>
    refine eB<|eB<|ev (eG Y Y)<|dI Y
  refine bS Y<|bR Y (λJr=>?_) (λJr=>?_)
  ·refine jr<|mv Y<|jD g1 0 qH K6 s0 Y<|mv Y<|jD g1 1 tu K6 s0 Y<|ev (iE (vs:=[(2,aD 5),(3,aD x1.ID),(4,aD bq),(5,aD x1.aC)]) (cs:=[aD 0,aD 0,aD 5,aD x1.ID,aD bq,aD x1.aC]) Y (by apply pY))<|yU (τ:=yY) (x:=(⟨0,0,5,x1.ID,bq,x1.aC⟩:gD)) rfl (by intro _; apply wU) rfl K6 (λ_ _=>rfl) λg2 w7 K7=>ap (ys:=([(⟨0,0,5,x1.ID,bq,x1.aC⟩:gD)]:List gD)) K7 s2 rfl rfl (K7.o s0) MO af7 (by have:=hq k; omega) av rfl λnY nZ w8 K8=>iA rfl<|jv<|ig (ig (gB ?_))
   refine jr<|ev (dW Y Y)<|mv Y<|jv ?_
   have jQ:((((l.take k).flatMap (recC bq report))++([(⟨0,0,5,x1.ID,bq,x1.aC⟩:gD)]:List gD)):List gD)=((l.take (k+1)).flatMap (recC bq report)):=by rw [fI bP,Z7,agE]; unfold recC; first | rw [aO Jr] | (rw [aK (by rw [Jr]; decide)]; first | rw [aO agF] | (rw [aK (by rw [agF]; decide)]; simp))
   refine ji (t:=7) Y (aS (λz=>Value.slice nY (List.length z) nZ) jQ) ?_;rw [jQ] at K8;exact dQ ⟨(k+1),nY,nZ,Y,Y,aj,(K8.cU 1 2)⟩ rfl aj
  refine bQ Y<|ev (gZ Y)<|mv Y<|iG 2 56 ((!(report.any (fun(x:aH)=>Rf x x1)))&&(x1.aF.contains bq)) ?_ ?_
  ·cases aIL:(!(report.any (fun(x:aH)=>Rf x x1))) with
   | true=>
    refine bG Y (bA Y) Y<|ev (dY Y Y)<|dI Y
   | false=>
    refine eB<|ev (eG Y Y)<|dI Y
  refine bS Y<|bR Y (λagF=>?_) (λagF=>?_)
  ·refine jr<|mv Y<|jD g1 0 qH K6 s0 Y<|mv Y<|ev (iE (vs:=[(2,aD 6),(3,aD x1.ID),(4,aD bq)]) (cs:=[aD 0,aD 0,aD 6,aD x1.ID,aD bq,aD 0]) Y (by apply wT))<|yU (τ:=yY) (x:=(⟨0,0,6,x1.ID,bq,0⟩:gD)) rfl (by intro _; apply wU) rfl K6 (λ_ _=>rfl) λg3 w9 K9=>ap (ys:=([(⟨0,0,6,x1.ID,bq,0⟩:gD)]:List gD)) K9 s2 rfl rfl (K9.o s0) MO af7 (by have:=hq k; omega) av rfl λSC cp2 Nn K10=>iA rfl<|jv<|ig (ig (gB ?_))
   refine jr<|ev (dW Y Y)<|mv Y<|jv ?_
   have lV:((((l.take k).flatMap (recC bq report))++([(⟨0,0,6,x1.ID,bq,0⟩:gD)]:List gD)):List gD)=((l.take (k+1)).flatMap (recC bq report)):=by rw [fI bP,Z7,agE]; unfold recC; first | rw [aO Jr] | (rw [aK (by rw [Jr]; decide)]; first | rw [aO agF] | (rw [aK (by rw [agF]; decide)]; simp))
   refine ji (t:=7) Y (aS (λz=>Value.slice SC (List.length z) cp2) lV) ?_;rw [lV] at K10;exact dQ ⟨(k+1),SC,cp2,Y,Y,aj,(K10.cU 1 2)⟩ rfl aj
  refine xH (ig (ig (gB ?_)));refine jr<|ev (dW Y Y)<|mv Y<|jv ?_
  have qU:(((l.take k).flatMap (recC bq report)):List gD)=((l.take (k+1)).flatMap (recC bq report)):=by rw [fI bP,Z7,agE]; unfold recC; first | rw [aO Jr] | (rw [aK (by rw [Jr]; decide)]; first | rw [aO agF] | (rw [aK (by rw [agF]; decide)]; simp))
  refine ji (t:=7) Y (aS (λz=>Value.slice A7 (List.length z) c7) qU) ?_;rw [qU] at K6;exact dQ ⟨(k+1),A7,c7,Y,Y,aj,(K6.rm s0)⟩ rfl aj
 refine wQ ?_;refine bQ Y<|bS Y<|iI Y ?_
 have vY:(((l.take k).flatMap (recC bq report)):List gD)=(lS l bq report):=by unfold lS; rw [aO ⟨by first | exact hc22.1.1 | simp_all,aj,aj⟩,iD aj]
 rw [vY] at K2;exact⟨A7,c7,by rw [vY] <;> rfl,K2⟩
def tL(l:List aI)(x:aH):Bool:=!x.fO&&!(gU l x.aB&&Rf x (aV l x.aB))
def aoi(l:List aI)(report:List aH):List Int:=(report.filter (tL l)).map aH.aB
def nX(l:List aI)(report:List aH):List Int:=if lY l=true then Lib.compact ((aoi l report).mergeSort fun(x y:Int)=>decide (x<=y)) else[]
theorem aoj(w:World){jg:Nat}{l:List aI}(iR:Sl bH S0 w jl jg l)(Pv:Sl bf S0 w Po Pq report)(hn:l.length<=100000)(hh:∀ x∈l,x.aF.length<=100000)(hr:report.length<=100000) :
    bO prog 110 #[.slice jl l.length jg,.slice Po report.length Pq] w λv w'=>∃(A0:ah)(c0:Nat),v=.slice A0 ((nX l report).length) c0/\Hp w S0 w' [aR dL 3 A0 c0 (nX l report)]:=by
 refine j4 S0 func110 ntmps110 Y λH0=>?_;have hq:=λk=>lX (tL l) (report.take k)
 simp only [fE] at hq
 refine iY Y<|aZ<|bQ Y<|lF H0 Y (Kr _ (H0.a iR).any aj) λw1 K1=>ev (gZ Y)<|dn<|bR Y (λnQ=>?_) (λnQ=>?_)
 ·try simp only [eO,dN,bK,dZ,eu,fC,bL,bU] at nQ
  refine iY Y<|vG Y ?_
  have H1:=K1.nil dL 3;have d9:(([]:List Int):List Int)=(nX l report):=by unfold nX; rw [aK (by simp_all)]
  have H2:=(d9▸H1:Hp w S0 w1 (aR dL 3 none 0 (nX l report)::[]));exact⟨none,0,by rw [<- d9] <;> rfl,H2⟩
 try simp only [eO,dN,bK,dZ,eu,fC,bL,bU] at nQ
 refine jh ?_;refine iY Y<|aZ<|bQ Y<|ev (eY jo Y)<|mv Y<|dn<|cZ ?_
 have H3:=K1.nil dL 3;have fG:(([]:List Int):List Int)=(((report.take 0).filter (tL l)).map aH.aB):=by rfl
 refine kP (t:=5) Y (aS (λz=>Value.slice none (List.length z) 0) fG) ?_;have H4:=H3.nil dL 3;have H5:=(fG▸H4:Hp w S0 w1 (aR dL 3 none 0 (((report.take 0).filter (tL l)).map aH.aB)::[aR dL 3 none 0 []]));refine Lp (H5.cU 0 2) (λl0 rk mJ lJ wJ=>∃(k:Nat)(A5:ah)(c5:Nat),lJ=(5,.slice A5 ((((report.take k).filter (tL l)).map aH.aB).length) c5)::(15,aD ((k:Nat):Int))::l0/\mJ=report.length - k/\k<=report.length/\Hp w S0 wJ (aR dL 3 A5 c5 (((report.take k).filter (tL l)).map aH.aB)::rk)) ⟨0,none,0,Y,Y,fK _,(H5.rm s1)⟩ Y ?_;rintro _ _ w2 ⟨k,A5,c5,rfl,rfl,hk,K2⟩;refine rg<|ev (fB Y Y)<|dn<|oC Y (λhc16=>?_) (λhc16=>?_)
 ·refine jh ?_;refine aZ<|cZ<|rg ?_
  obtain⟨x1,bP⟩:=bC (xs:=report) (i:=k) aj;refine ev (eU (i:=k) jo lQ Y Y Y (aJ bP) ((K2.a Pv).some_ bP))<|ev (fV oF Y Y ((K2.a Pv).eX bP))<|al yK Y K2 λg1 w3 K3=>sty Y K3 s0 Y λw4 K4=>dn<|bQ Y<|jD g1 0 lZ K4 s0 Y<|gW Y (find_ok _ (K4.a iR) x1.aB aj hh) ?_
  rintro _ w5 ⟨Vz,VA,rfl,h5⟩;have K5:=K4.c1 h5;refine mv Y<|xt Y Y<|xt Y Y<|al kZ Y K5 λg2 w6 K6=>sty Y K6 s0 Y λw7 K7=>bS Y<|rg<|jD g1 3 ug K7 s2 Y<|ev (gZ Y)<|mv Y<|nA 8 37 ((!x1.fO)&&(!((gU l x1.aB)&&(Rf x1 (aV l x1.aB))))) ?_ ?_
  ·cases aIM:(!x1.fO) with
   | true=>
    refine bG Y (bA Y) Y<|bG Y (bA Y) Y<|nA 4 35 ((gU l x1.aB)&&(Rf x1 (aV l x1.aB))) ?_ ?_
    ·cases aIN:gU l x1.aB with
     | true=>
      refine bG Y (dK oF Y Y (K7.x s2)) Y<|bG Y (dK pU Y Y (K7.x s0)) Y<|nu Y Y Y Y avV (ahZ _ x1 (aV l x1.aB) (K7.s s1).any) Y ?_
      rintro _ w8 ⟨rfl,h8⟩;refine bG Y (dY Y Y) Y<|iH Y h8.ext
     | false=>
      refine eB<|eB<|eB<|bG Y (eG Y Y) Y<|iH Y (om _)
    intro w9 e9;refine bG Y (gZ Y) Y<|ev (dY Y Y)<|iH Y e9
   | false=>
    refine eB<|eB<|eB<|eB<|eB<|eB<|eB<|ev (eG Y Y)<|iH Y (om _)
  intro Nn e10;have K10:=K7.grow e10;refine dn<|bR Y (λags=>?_) (λags=>?_)
  ·refine jr<|mv Y<|jD g1 0 lZ K10 s2 Y<|yU (τ:=dL) (x:=x1.aB) Y (by intro _; apply pE) rfl K10 (λ_ _=>rfl) λg3 RG tO=>ap (ys:=([x1.aB]:List Int)) tO s4 rfl rfl (tO.o s0) fq KY (by have:=hq k; simp only [jN]; omega) av rfl λnY nZ Qp rW=>iA rfl<|jv<|ig (gB ?_)
   refine jr<|ev (dW Y Y)<|mv Y<|jv ?_
   have jQ:(((((report.take k).filter (tL l)).map aH.aB)++([x1.aB]:List Int)):List Int)=(((report.take (k+1)).filter (tL l)).map aH.aB):=by rw [mP bP,show tL l x1=_ from ags]; simp
   refine ji (t:=5) Y (aS (λz=>Value.slice nY (List.length z) nZ) jQ) ?_;rw [jQ] at rW;exact dQ ⟨(k+1),nY,nZ,Y,Y,aj,(rW.cU 1 4)⟩ rfl aj
  refine zF ?_;refine jr<|ev (dW Y Y)<|mv Y<|jv ?_
  have lV:((((report.take k).filter (tL l)).map aH.aB):List Int)=(((report.take (k+1)).filter (tL l)).map aH.aB):=by rw [mP bP,show tL l x1=_ from ags]; simp
  refine ji (t:=5) Y (aS (λz=>Value.slice A5 (List.length z) c5) lV) ?_;rw [lV] at K10;exact dQ ⟨(k+1),A5,c5,Y,Y,aj,(K10.cU 0 3)⟩ rfl aj
 refine wQ ?_;refine bQ Y<|gW Y (sorti Tryz.lays189 (K2.sel s0) (by have:=hq k; simp only [jN]; omega)) ?_
 rintro _ WO ⟨rfl,vC⟩;have hl1:((((report.take k).filter (tL l)).map aH.aB).mergeSort fun(x y:Int)=>decide (x<=y)).length=(((report.take k).filter (tL l)).map aH.aB).length:=I4 _;refine fJ (t:=5) (u:=.slice A5 ((((report.take k).filter (tL l)).map aH.aB).length) c5) (v:=.slice A5 (((((report.take k).filter (tL l)).map aH.aB).mergeSort fun(x y:Int)=>decide (x<=y)).length) c5) Y (by rw [hl1])<|fJ (t:=44) (u:=.slice A5 ((((report.take k).filter (tL l)).map aH.aB).length) c5) (v:=.slice A5 (((((report.take k).filter (tL l)).map aH.aB).mergeSort fun(x y:Int)=>decide (x<=y)).length) c5) rfl (by rw [hl1])<|dn<|bQ rfl<|gW rfl (axo Tryz.laysNm220 (vC.sel s0) (by rw [I4]; have:=hq k; simp only [jN]; omega)) ?_
 rintro _ Xv ⟨rfl,vo⟩;refine bS Y<|iI Y ?_
 have qU:((Lib.compact ((((report.take k).filter (tL l)).map aH.aB).mergeSort fun(x y:Int)=>decide (x<=y))):List Int)=(nX l report):=by unfold nX aoi; rw [aO (by simpa using nQ),iD (show report.length<=k by omega)]
 rw [qU] at vo;exact⟨A5,c5,by rw [qU] <;> rfl,vo⟩
structure kS where
  gh:Nat
  gs:Nat
  gm:Nat
  A:Option Addr
  c:Nat
  up:Bool
  bJ:Int
  l:List aH
  es:nJ
abbrev jV:=List (Int × kS)
abbrev ekZ(z:Int):Value:=.int .i64 z
abbrev evH(g:Nat):Value:=.pointer (some ⟨g,0,none⟩)
theorem zZ:JR prog 3 ekZ:=arq ak
def vQ(h:kS):List lC:=[dJ h.gh 95 [.pointer (some ⟨h.gs,0,none⟩),.bool h.up],dJ h.gs 169 [.int .i64 h.bJ,.slice h.A h.l.length h.c,.map (some h.gm)],dP bf h.A h.c h.l,pz uT uh h.gm h.es,fD gu 5 (h.es.map Prod.snd)]
def sO(hs:jV):List (Int × Nat):=hs.map λp=>(p.1,p.2.gh)
def rHk(g:Nat)(ks:List (Int × Nat))(hs:jV):lC:=XH (pz ekZ evH g ks::hs.flatMap λp=>vQ p.2)
abbrev jF(g:Nat)(hs:jV):lC:=rHk g (sO hs) hs
section
variable {b w:World}{S:Nat->Prop}{rs rest:List lC}{g:Nat}{ks:List (Int × Nat)}{hs:jV}{z:Int}{h:kS}
theorem Hp.aed(H:Hp b S w rs)(s:ou rs (rHk g ks hs) rest):Hp b S w (pz ekZ evH g ks::((hs.flatMap λp=>vQ p.2)++rest)):=(H.sel s).allOut
theorem Hp.ah1(H:Hp b S w rs)(s:ou rs (rHk g ks hs) rest):(ks.map Prod.fst).Nodup:=((H.aed s).mp .h).1
theorem FM(hs:jV):(sO hs).map Prod.fst=hs.map Prod.fst:=by unfold sO; rw [GU]; rfl
theorem Hp.aD6(H:Hp b S w rs)(s:ou rs (jF g hs) rest):(hs.map Prod.fst).Nodup:=FM hs▸H.ah1 s
theorem Rh(z:Int)(hs:jV):fH z (sO hs)=(fH z hs).map kS.gh:=Ph kS.gh z hs
theorem Ev.hN{n:Cx}{l:List (Nat × Value)}{m:Operand}(H:Hp b S w rs)(s:ou rs (jF g hs) rest)(hg:fH z hs=none)(hk:JR prog kt ekZ)(hm:prog.underlying t=some (.map kt et))(hz:∀ w,(zeroValue et).run prog w=.ok (.pointer none) w)(hx:gQ l m=some (.map (some g)))(hkey:gQ l ky=some (ekZ z)) :
    Ev prog n l w (.lookup t m ky false) (.pointer none):=by
  have h1:=Ev.anU (H.aed s) .h hk hm hz hx hkey (n:=n);rw [Rh,hg] at h1; exact h1
theorem Ev.hS{gh gs gm:Nat}{A:ah}{c:Nat}{up:Bool}{bJ:Int}{l':List aH}{es:nJ}{n:Cx}{l:List (Nat × Value)}{m:Operand}(H:Hp b S w rs)(s:ou rs (jF g hs) rest)(hg:fH z hs=some ⟨gh,gs,gm,A,c,up,bJ,l',es⟩)(hk:JR prog kt ekZ)(hm:prog.underlying t=some (.map kt et))(hz:∀ w,(zeroValue et).run prog w=.ok (.pointer none) w)(hx:gQ l m=some (.map (some g)))(hkey:gQ l ky=some (ekZ z)) :
    Ev prog n l w (.lookup t m ky false) (fP gh):=by
  have h1:=Ev.anU (H.aed s) .h hk hm hz hx hkey (n:=n);rw [Rh,hg] at h1; exact h1
theorem aaQ(hn:(hs.map Prod.fst).Nodup)(hg:fH z hs=some h):(hs.flatMap λp=>vQ p.2).Perm (vQ h++(nH z hs).flatMap λp=>vQ p.2):=(akd hn hg).flatMap_right _
theorem Hp.atv(H:Hp b S w rs)(s:ou rs (jF g hs) rest)(hg:fH z hs=some h):Hp b S w (dJ h.gh 95 [fP h.gs,.bool h.up]::dJ h.gs 169 [aD h.bJ,.slice h.A h.l.length h.c,.map (some h.gm)]::dP bf h.A h.c h.l::pz uT uh h.gm h.es::fD gu 5 (h.es.map Prod.snd)::rHk g (sO hs) (nH z hs)::rest):=by
  have hn:=H.aD6 s;have H1:=H.aed s
  have H2:Hp b S w (vQ h++((pz ekZ evH g (sO hs)::(nH z hs).flatMap λp=>vQ p.2)++rest)):=H1.perm (by
    refine(((aaQ hn hg).append_right rest).cons _).trans ?_;rw [nU]
    exact EK.symm)
  have H3:=sW (F:=vQ h) H2;rw [nU] at H3
  exact(EO H3).perm (by
    refine((yc (l₁:=rest) (l₂:=vQ h)).cons _).trans<|EK.symm)
theorem Hp.uO{gh gs gm:Nat}{A:ah}{c:Nat}{up:Bool}{bJ:Int}{l:List aH}{es:nJ}(H:Hp b S w rs)(s:ou rs (jF g hs) rest)(hg:fH z hs=some ⟨gh,gs,gm,A,c,up,bJ,l,es⟩) :
    Hp b S w (dJ gh 95 [fP gs,.bool up]::dJ gs 169 [aD bJ,.slice A l.length c,.map (some gm)]::dP bf A c l::pz uT uh gm es::fD gu 5 (es.map Prod.snd)::rHk g (sO hs) (nH z hs)::rest):=H.atv s hg
theorem Hp.AP(H:Hp b S w rs)(s:ou rs (jF g hs) rest)(hg:fH z hs=some h):Bx w h.gh 95 [fP h.gs,.bool h.up]:=(H.atv s hg).x s0
theorem Hp.avX{gs gm:Nat}{A:ah}{c:Nat}{up:Bool}{bJ:Int}{l:List aH}{es:nJ}(hg:fH z hs=some h)(H:Hp b S w (dJ h.gh 95 [fP gs,.bool up]::dJ gs 169 [aD bJ,.slice A l.length c,.map (some gm)]::dP bf A c l::pz uT uh gm es::fD gu 5 (es.map Prod.snd)::rHk g (sO hs) (nH z hs)::rest)) :
    Hp b S w (jF g (gV z ⟨h.gh,gs,gm,A,c,up,bJ,l,es⟩ hs)::rest):=by
  have hn:(hs.map Prod.fst).Nodup:=FM hs▸H.ah1 (.t (.t (.t (.t (.t .h)))));obtain⟨h',hh'⟩:∃ h':kS,h'=⟨h.gh,gs,gm,A,c,up,bJ,l,es⟩:=⟨_,rfl⟩;have hgh:h'.gh=h.gh:=by rw [hh']
  have H1:Hp b S w (vQ h'++(rHk g (sO hs) (nH z hs)::rest)):=by rw [hh']; exact H
  rw [<- hh'];have hput:=ad3 (v':=h') (k:=z) hn;have hn2:((gV z h' hs).map Prod.fst).Nodup:=JU hn
  have hkeys:sO (gV z h' hs)=sO hs:=by
    unfold sO;rw [Pj kS.gh z h' hs];have h2:=Rh z hs;rw [hg] at h2;obtain⟨j,hj⟩:=xM (show fH z (sO hs)=some h.gh from h2);rw [hgh];show gV z h.gh (sO hs)=_;rw [FI (by rw [FM]; exact hn) hj];exact Q9 hj
  have H2:Hp b S w (rHk g (sO hs) (nH z hs)::(vQ h'++rest)):=H1.perm EK;have H3:=H2.allOut;have hp:=aaQ hn2 hput;rw [ad2 hg] at hp
  have H4:Hp b S w ((pz ekZ evH g (sO (gV z h' hs))::(gV z h' hs).flatMap λp=>vQ p.2)++rest):=by
    rw [hkeys];refine H3.perm ?_;show(pz ekZ evH g (sO hs)::(((nH z hs).flatMap λp=>vQ p.2)++(vQ h'++rest))).Perm (pz ekZ evH g (sO hs)::(((gV z h' hs).flatMap λp=>vQ p.2)++rest));refine List.Perm.cons _ ?_;rw [<- nU];exact(yc.trans hp.symm).append_right rest
  exact H4.allIn
def G7:=@Hp.avX
theorem akl{κ ν:Type}[DecidableEq κ]{k:κ}{v:ν}{es:List (κ × ν)}(hn:(es.map Prod.fst).Nodup)(h:fH k es=some v):gV k v es=es:=by
  obtain⟨j,hj⟩:=xM h;rw [FI hn hj]; exact Q9 hj
theorem Hp.aok{gh gs gm:Nat}{A:ah}{c:Nat}{up:Bool}{bJ:Int}{l:List aH}{es:nJ}(hg:fH z hs=some ⟨gh,gs,gm,A,c,up,bJ,l,es⟩)(H:Hp b S w (dJ gh 95 [fP gs,.bool up]::dJ gs 169 [aD bJ,.slice A l.length c,.map (some gm)]::dP bf A c l::pz uT uh gm es::fD gu 5 (es.map Prod.snd)::rHk g (sO hs) (nH z hs)::rest)) :
    Hp b S w (jF g hs::rest):=by
  have hn:(hs.map Prod.fst).Nodup:=FM hs▸H.ah1 (.t (.t (.t (.t (.t .h)))));have H1:=G7 hg H;rw [akl hn hg] at H1; exact H1
def Ri:=@Hp.aok
theorem Hp.avY(H:Hp b S w (pz ekZ evH g ([]:List (Int × Nat))::rest)):Hp b S w (jF g []::rest):=EO (L:=[pz ekZ evH g []]) H
theorem aD7{Q:Exit->Act->World->Prop}{K:Act->World->Prop}{bT:Array Oper}{os:List Oper}{n:Cx}{l:List (Nat × Value)}{ty:TypeId}{pos:String}{lD:Array Go.Edge}{m vy:Operand}{v:Nat}(H:Hp b S w rs)(s:ou rs (rHk g ks hs) rest)(hk:JR prog kt ekZ)(hm:prog.underlying t=some (.map kt et))(hx:gQ l m=some (.map (some g)))(hkey:gQ l ky=some (ekZ z))(hv:gQ l vy=some (evH v))
    (k:∀ w',Hp b S w' (rHk g (gV z v ks) hs::rest)->WL prog n bT Q K os l w'):WL prog n bT Q K (⟨none,.mapUpdate t m ky vy,ty,pos,lD,none⟩::os) l w:=
  avF (z:=z) (v:=v) (H.aed s) .h hk hm hx hkey hv λw' H'=>k w' (EO (L:=pz ekZ evH g (gV z v ks)::hs.flatMap λp=>vQ p.2) H')
theorem Hp.iQ{L L':List lC}(h:L'.Sublist L):∀ {rs:List lC},Hp b S w (L++rs)->Hp b S w (L'++rs):=by
  induction h with
  | slnil=>exact λH=>H
  | cons a _ ih=>exact λH=>ih (H.rm s0)
  | cons_cons a h ih=>
    intro rs H
    rename_i l1 l2
    have H1:Hp b S w (l2++(a::rs)):=H.perm EK.symm;exact(ih H1).perm EK
theorem ah2{κ ν β:Type}[DecidableEq κ](f:κ × ν->List β)(k:κ):∀ es:List (κ × ν),((nH k es).flatMap f).Sublist (es.flatMap f)
  | []=>List.Sublist.refl _
  | p::es=>by
    have ih:=ah2 f k es;unfold nH at ih ⊢;rw [I9,List.flatMap_cons]
    split
    · rw [List.flatMap_cons]; exact ih.append_left _
    · exact ih.trans (List.sublist_append_right _ _)
theorem Hp.arL(H:Hp b S w (dJ h.gh 95 [fP h.gs,.bool h.up]::dJ h.gs 169 [aD h.bJ,.slice h.A h.l.length h.c,.map (some h.gm)]::dP bf h.A h.c h.l::pz uT uh h.gm h.es::fD gu 5 (h.es.map Prod.snd)::rHk g (gV z h.gh (sO hs)) hs::rest)):Hp b S w (jF g (gV z h hs)::rest):=by
  have hk:sO (gV z h hs)=gV z h.gh (sO hs):=Pj kS.gh z h hs;have hn1:=H.ah1 (.t (.t (.t (.t (.t .h)))));rw [<- hk,FM] at hn1;have hn:=V7 hn1;have H1:Hp b S w (vQ h++(rHk g (gV z h.gh (sO hs)) hs::rest)):=H;rw [<- hk] at H1;have H2:Hp b S w (rHk g (sO (gV z h hs)) hs::(vQ h++rest)):=H1.perm EK;have H3:Hp b S w ((hs.flatMap λp=>vQ p.2)++(pz ekZ evH g (sO (gV z h hs))::(vQ h++rest))):=H2.allOut.perm EK.symm;have H4:=Hp.iQ (L':=(nH z hs).flatMap λp=>vQ p.2) (ah2 _ z hs) H3;have hp:=aaQ hn1 (ad3 (v':=h) (k:=z) hn)
  have hd:nH z (gV z h hs)=nH z hs:=by
    cases hg:fH z hs with
    | some h0=>exact ad2 hg
    | none=>
      unfold gV nH; rw [hg,aK av,yg]; simp
  rw [hd] at hp
  have H5:Hp b S w ((pz ekZ evH g (sO (gV z h hs))::(gV z h hs).flatMap λp=>vQ p.2)++rest):=by
    refine H4.perm<|EK.trans<|List.Perm.cons _ ?_
    rw [<- nU];exact(yc.trans hp.symm).append_right rest
  exact H5.allIn
end
structure AItem where
  Kind:Int
  A:Int
  B:Int
  C:Int
  deriving DecidableEq
def AItem.enc(x:AItem):List Value:=[.int .i64 x.Kind,.int .i64 x.A,.int .i64 x.B,.int .i64 x.C]
theorem AItem.kC(x:AItem):∀ u∈x.enc,u.oneCell'=true:=by
  intro u hu
  simp only [AItem.enc,iN,kY,qW] at hu
  rcases hu with rfl | rfl | rfl | rfl <;> rfl
def AItem.wf(x:AItem):Prop:=uJ x.Kind/\uJ x.A/\uJ x.B/\uJ x.C
def tItem:Ty AItem:=Ty.flat 4 AItem.enc au (λ_=>rfl) AItem.kC
instance:Flat tItem:=⟨λh=>h⟩
structure xO where
  up:Bool
  bJ:Int
  l:List aH
  d:List (bV × List (BitVec 8))
abbrev qP:=List (bV × List (BitVec 8))
abbrev ru:=List (Int × xO)
def JX(es:nJ):qP:=es.map λp=>(p.1,p.2.2.2)
def kS.pl(h:kS):xO:=⟨h.up,h.bJ,h.l,JX h.es⟩
def jR(hs:jV):ru:=hs.map λp=>(p.1,p.2.pl)
theorem iW(z:Int)(hs:jV):fH z (jR hs)=(fH z hs).map kS.pl:=Ph kS.pl z hs
theorem yO(z:Int)(h:kS)(hs:jV):jR (gV z h hs)=gV z h.pl (jR hs):=Pj kS.pl z h hs
def uo(k:bV)(d:qP):List (BitVec 8):=(fH k d).getD []
theorem KL(k:bV)(es:nJ):uo k (JX es)=(fU k es).2.2:=by
  unfold uo fU JX;rw [Ph (fun(x:Option Addr × Nat × List (BitVec 8))=>x.2.2)]
  cases fH k es <;> rfl
theorem aaR(k:bV)(v:Option Addr × Nat × List (BitVec 8))(es:nJ):JX (gV k v es)=gV k v.2.2 (JX es):=Pj (fun(x:Option Addr × Nat × List (BitVec 8))=>x.2.2) k v es
theorem aaS(k:bV)(es:nJ):JX (nH k es)=nH k (JX es):=an6 (fun(x:Option Addr × Nat × List (BitVec 8))=>x.2.2) k es
def akm(l:List aH)(bJ c v sum:Int)(gH:List (BitVec 8))(d:qP):qP:=if qw l bJ c v sum gH=0 then gV ⟨c,true⟩ gH d else d
theorem aol(l:List aH)(bJ c v sum:Int)(gH:List (BitVec 8))(B:ah)(n:Nat)(es:nJ):JX (FK l bJ c v sum gH B n es)=akm l bJ c v sum gH (JX es):=by
  unfold FK akm qw
  by_cases h1:64<gH.length
  · simp [h1]
  · by_cases h2:((iV gH).toNat:Int)=sum
    · by_cases h3:(jY l ⟨c,v,sum,false,false⟩ bJ).2=0
      · simp [h1,h2,h3,aaR]
      · simp [h1,h2,h3]
    · simp [h1,h2]
def arM(l:List aH)(c v:Int)(d:qP):qP:=if(lu l c v).2=0 then nH ⟨c,true⟩ (gV ⟨c,false⟩ (uo ⟨c,true⟩ d) d) else d
theorem avZ(l:List aH)(c v:Int)(es:nJ):JX (Sj l c v es)=arM l c v (JX es):=by
  unfold Sj arM; split
  · rw [aaS,aaR,KL]
  · rfl
def aaT(l:List aH)(c:Int)(d:qP):qP:=if(oo l c).2=0 then nH ⟨c,false⟩ d else d
theorem aom(l:List aH)(c:Int)(es:nJ):JX (M5 l c es)=aaT l c (JX es):=by
  unfold M5 aaT; split
  · rw [aaS]
  · rfl
def XK(l:List aH)(bJ c v sum:Int)(gH:List (BitVec 8)):Bool:=decide (qw l bJ c v sum gH=0)&&decide ((lu (yL l bJ c v sum gH) c v).2=0)
def KM(l:List aH)(bJ c v sum:Int)(gH:List (BitVec 8)):List aH:=if qw l bJ c v sum gH=0 then Rb (yL l bJ c v sum gH) c v else yL l bJ c v sum gH
def tkM(l:List aH)(bJ c v sum:Int)(gH:List (BitVec 8))(B:ah)(n:Nat)(es:nJ):nJ:=if qw l bJ c v sum gH=0 then Sj (yL l bJ c v sum gH) c v (FK l bJ c v sum gH B n es) else FK l bJ c v sum gH B n es
def tkD(l:List aH)(bJ c v sum:Int)(gH:List (BitVec 8))(d:qP):qP:=if qw l bJ c v sum gH=0 then arM (yL l bJ c v sum gH) c v (akm l bJ c v sum gH d) else akm l bJ c v sum gH d
theorem ah4(l:List aH)(bJ c v sum:Int)(gH:List (BitVec 8))(B:ah)(n:Nat)(es:nJ):JX (tkM l bJ c v sum gH B n es)=tkD l bJ c v sum gH (JX es):=by
  unfold tkM tkD; split
  · rw [avZ,aol]
  · rw [aol]
def YL(l:List aH)(d:qP):List (aH × Bool):=(eT l).map λx=>(x,!decide (((iV (uo (⟨x.aB,false⟩:bV) d)).toNat:Int)=x.Sum))
theorem ah5(l:List aH)(es:nJ):YL l (JX es)=wO l es:=by
  unfold YL wO RV;refine Q8 λx _=>?_;rw [KL]
def xP(l:List aH)(d:qP)(c:Int):List (BitVec 8) × Int × Int:=match (YL l d).find? (fun(p:aH × Bool)=>decide (p.1.aB=c)) with
  | none=>([],0,5)
  | some p=>if p.2=true then([],0,4) else(uo (⟨c,false⟩:bV) d,p.1.aC,0)
theorem aee(l:List aH)(es:nJ)(c:Int):xP l (JX es) c=nW l es c:=by
  unfold xP nW; rw [ah5,KL]; rfl
def XL(c bit:Int)(d:qP):qP:=if(uo ⟨c,false⟩ d).length=0 then d else gV ⟨c,false⟩ (arB (uo ⟨c,false⟩ d) (uj bit (uo ⟨c,false⟩ d).length)) d
theorem av0(c bit:Int)(es:nJ):JX (O9 c bit es)=XL c bit (JX es):=by
  unfold O9 XL; rw [KL]; split
  · rfl
  · rw [aaR]
def YM(s:List aH × qP)(x:aH):List aH × qP:=if x.fO=true then(Dp s.1 x.aB,nH ⟨x.aB,true⟩ s.2) else s
def XM(l:List aH)(d:qP):List aH × qP:=l.foldl YM (l,d)
theorem av1(l:List aH)(es:nJ):XM l (JX es)=((pX l es l.length).1,JX (pX l es l.length).2):=by
  unfold XM pX;rw [Y7]
  suffices h:∀(q:List aH)(s:List aH × nJ),q.foldl YM (s.1,JX s.2)=((q.foldl adY s).1,JX (q.foldl adY s).2) from h l (l,es)
  intro q
  induction q with
  | nil=>intro s; rfl
  | cons x q ih=>
    intro s;rw [Ae,Ae,<- ih]
    congr 1
    unfold YM adY; split
    · simp only; rw [aaS]
    · rfl
def YN(s:List aH × qP)(c:Int):List aH × qP:=(AJ s.1 c,aaT s.1 c s.2)
def aef(l:List aH)(d:qP):List aH × qP:=(uH (YL l d)).foldl YN (l,d)
theorem av2(l:List aH)(es:nJ):aef l (JX es)=((sH l es (Dt l es).length).1,JX (sH l es (Dt l es).length).2):=by
  unfold aef sH;rw [Y7,ah5];show(Dt l es).foldl YN _=_
  suffices h:∀(q:List Int)(s:List aH × nJ),q.foldl YN (s.1,JX s.2)=((q.foldl arG s).1,JX (q.foldl arG s).2) from h _ (l,es)
  intro q
  induction q with
  | nil=>intro s; rfl
  | cons x q ih=>
    intro s;rw [Ae,Ae,<- ih]
    congr 1
    unfold YN arG; rw [aom]
structure PC where
  m:dU
  s:iM
  r:ARules
  aN:Int
  dR:List aM
  hs:ru
def M9(hs:ru)(z:Int):Bool:=match fH z hs with | some h=>h.up | none=>false
def XO(hs:ru)(z:Int):List aH:=match fH z hs with | some h=>eT h.l | none=>[]
def aaU(hs:ru)(z:Int):Nat:=match fH z hs with | some h=>h.l.length | none=>0
def knE(m:dU)(x:gD):Int:=if(dO m x).2<0 then -(dO m x).2 else 0
def AU(m:dU)(x:gD):dU:=if(dO m x).2<0 then m else(dO m x).1
def FU(m:dU)(l:List gD):dU:=l.foldl AU m
def Na(s:iM)(aN c n:Int):Bool:=(gY s aN).dM.any fun(o:aM)=>decide (o.aB=c)&&decide (o.To=n)
abbrev IC(c n v:Int):gD:=⟨0,0,5,c,n,v⟩
def aeg(s:iM)(aN bq:Int)(m:dU)(x:gD):dU:=if(!decide (x.Kind=5)||!Na s aN x.A bq)=true then AU m x else m
def oG(s:iM)(aN bq:Int)(m:dU)(l:List gD):dU:=l.foldl (aeg s aN bq) m
def y7(l:List aH)(st:List Int)(bq till:Int):List aM:=(l.filter fun(x:aH)=>st.contains x.aB).map fun(x:aH)=>⟨1,x.aB,x.aC,x.Sum,bq,bq,till⟩
def mW(c:PC)(o:aM):PC:=
  match fH o.jw c.hs with
  | none=>c
  | some f=>if(!f.up||Na c.s c.aN o.aB o.To)=true then c else
    if ¬ ((xP f.l f.d o.aB).2.2=0/\(xP f.l f.d o.aB).2.1=o.aC/\((iV (xP f.l f.d o.aB).1).toNat:Int)=o.Sum) then c else
    match fH o.To c.hs with
    | none=>c
    | some t=>if XK t.l t.bJ o.aB (xP f.l f.d o.aB).2.1 o.Sum (xP f.l f.d o.aB).1=false then { c with hs:=gV o.To ⟨t.up,t.bJ,KM t.l t.bJ o.aB (xP f.l f.d o.aB).2.1 o.Sum (xP f.l f.d o.aB).1,tkD t.l t.bJ o.aB (xP f.l f.d o.aB).2.1 o.Sum (xP f.l f.d o.aB).1 t.d⟩ c.hs } else
      { c with m:=AU c.m (IC o.aB o.To (xP f.l f.d o.aB).2.1),s:=⟨c.s.dX,if JW c.s.bY o.aB o.To=0 then yM c.s.bY o.aB o.To else c.s.bY,c.s.dM⟩,hs:=gV o.To ⟨t.up,t.bJ,KM t.l t.bJ o.aB (xP f.l f.d o.aB).2.1 o.Sum (xP f.l f.d o.aB).1,tkD t.l t.bJ o.aB (xP f.l f.d o.aB).2.1 o.Sum (xP f.l f.d o.aB).1 t.d⟩ c.hs }
theorem aeh{c:PC}(h:fH o.jw c.hs=none):mW c o=c:=by unfold mW; rw [h]
theorem Px{c:PC}{f:xO}(h:fH o.jw c.hs=some f)(hb:(!f.up||Na c.s c.aN o.aB o.To)=true):mW c o=c:=by unfold mW; rw [h]; simp only [hb,if_true]
theorem ah6{c:PC}{f:xO}(h:fH o.jw c.hs=some f)(hr:¬ ((xP f.l f.d o.aB).2.2=0/\(xP f.l f.d o.aB).2.1=o.aC/\((iV (xP f.l f.d o.aB).1).toNat:Int)=o.Sum)):mW c o=c:=by
  by_cases hb:(!f.up||Na c.s c.aN o.aB o.To)=true
  · exact Px h hb
  · unfold mW; rw [h]; simp only; rw [aK hb,aO hr]
theorem aei{c:PC}{f t:xO}(h:fH o.jw c.hs=some f)(hb:(!f.up||Na c.s c.aN o.aB o.To)=false)(hr:(xP f.l f.d o.aB).2.2=0/\(xP f.l f.d o.aB).2.1=o.aC/\((iV (xP f.l f.d o.aB).1).toNat:Int)=o.Sum)(ht:fH o.To c.hs=some t)(hk:XK t.l t.bJ o.aB (xP f.l f.d o.aB).2.1 o.Sum (xP f.l f.d o.aB).1=false) :
    mW c o={ c with hs:=gV o.To ⟨t.up,t.bJ,KM t.l t.bJ o.aB (xP f.l f.d o.aB).2.1 o.Sum (xP f.l f.d o.aB).1,tkD t.l t.bJ o.aB (xP f.l f.d o.aB).2.1 o.Sum (xP f.l f.d o.aB).1 t.d⟩ c.hs }:=by
  unfold mW; rw [h]; simp only; rw [aK (by rw [hb]; decide),aK (λh=>h hr),ht]; simp only; rw [aO hk]
theorem aej{c:PC}{f t:xO}(h:fH o.jw c.hs=some f)(hb:(!f.up||Na c.s c.aN o.aB o.To)=false)(hr:(xP f.l f.d o.aB).2.2=0/\(xP f.l f.d o.aB).2.1=o.aC/\((iV (xP f.l f.d o.aB).1).toNat:Int)=o.Sum)(ht:fH o.To c.hs=some t)(hk:XK t.l t.bJ o.aB (xP f.l f.d o.aB).2.1 o.Sum (xP f.l f.d o.aB).1=true) :
    mW c o={ c with m:=AU c.m (IC o.aB o.To (xP f.l f.d o.aB).2.1),s:=⟨c.s.dX,if JW c.s.bY o.aB o.To=0 then yM c.s.bY o.aB o.To else c.s.bY,c.s.dM⟩,hs:=gV o.To ⟨t.up,t.bJ,KM t.l t.bJ o.aB (xP f.l f.d o.aB).2.1 o.Sum (xP f.l f.d o.aB).1,tkD t.l t.bJ o.aB (xP f.l f.d o.aB).2.1 o.Sum (xP f.l f.d o.aB).1 t.d⟩ c.hs }:=by
  unfold mW; rw [h]; simp only; rw [aK (by rw [hb]; decide),aK (λh=>h hr),ht]; simp only; rw [aK (by rw [hk]; decide)]
def agG(o:aM)(x:aH):Bool:=decide (x.aB=o.aB)&&decide (x.aC=o.aC)
def uq(c:PC)(o:aM):PC:=
  if o.Kind=0 then mW c o else
  match fH o.To c.hs with
  | none=>c
  | some t=>if(eT t.l).any (agG o)=true then { c with hs:=gV o.To ⟨t.up,t.bJ,AJ t.l o.aB,aaT t.l o.aB t.d⟩ c.hs } else c
theorem aek{c:PC}{t:xO}(h0:¬ o.Kind=0)(ht:fH o.To c.hs=some t)(hb:(eT t.l).any (agG o)=true):uq c o={ c with hs:=gV o.To ⟨t.up,t.bJ,AJ t.l o.aB,aaT t.l o.aB t.d⟩ c.hs }:=by
  unfold uq; rw [aK h0,ht]; simp only; rw [aO hb]
theorem aon{c:PC}{t:xO}(h0:¬ o.Kind=0)(ht:fH o.To c.hs=some t)(hb:(eT t.l).any (agG o)=false):uq c o=c:=by
  unfold uq; rw [aK h0,ht]; simp only; rw [aK (by rw [hb]; decide)]
def mX(c:PC)(it:AItem):PC × Int:=
  if it.A<0∨(c.dR.length:Int)<=it.A then(c,5) else
  match c.dR[it.A.toNat]? with
  | none=>(c,5)
  | some o=>if it.Kind=8 then({ c with dR:=c.dR++[o] },0) else
    (if it.Kind=6/\c.aN<=o.kG/\M9 c.hs o.To=true then uq { c with dR:=c.dR.take it.A.toNat++c.dR.drop (it.A.toNat+1) } o else { c with dR:=c.dR.take it.A.toNat++c.dR.drop (it.A.toNat+1) },0)
def oh(c n:Int):List (BitVec 8):=[BitVec.ofInt 8 c,BitVec.ofInt 8 (c / 2 ^ 8),BitVec.ofInt 8 n,BitVec.ofInt 8 (n / 2 ^ 8)]
def Nb(c v sum:Int)(gH:List (BitVec 8))(q:ru × List Int)(z:Int):ru × List Int:=
  match fH z q.1 with
  | none=>q
  | some h=>(gV z ⟨h.up,h.bJ,KM h.l h.bJ c v sum gH,tkD h.l h.bJ c v sum gH h.d⟩ q.1,if XK h.l h.bJ c v sum gH=true then q.2++[z] else q.2)
def Rj(c n:Int):Int:=((iV (oh c n)).toNat:Int)
def AX(m:dU)(it:AItem):gD:=⟨0,0,if gU m.aA it.A=true then 4 else 3,it.A,Rj it.A it.B,0⟩
def aD8(c:PC):List Int:=((Ju c.s.dX c.aN c.r.ku).map eZ.Node).filter fun(x:Int)=>!(!M9 c.hs x)
def agH(c:PC)(m:dU):List Int:=um m.aY (aD8 c) c.r.qj.toNat (oN c.m.aA m.aY) []
def XP(c:PC)(it:AItem):ru × List Int:=(agH c (dO c.m (AX c.m it)).1).foldl (Nb it.A (dO c.m (AX c.m it)).2 (Rj it.A it.B) (oh it.A it.B)) (c.hs,[])
def vB(c:PC)(it:AItem):PC × Int:=
  if(dO c.m (AX c.m it)).2<0 then(c,-(dO c.m (AX c.m it)).2) else
  if(XP c it).2=[] then({ c with hs:=(XP c it).1 },7) else
  ({ c with m:=FU (dO c.m (AX c.m it)).1 ((XP c it).2.map λz=>IC it.A z (dO c.m (AX c.m it)).2),hs:=(XP c it).1 },0)
def Py(it:AItem):gD:=⟨0,0,1,it.A,it.B,it.C⟩
def av3(c:PC)(it:AItem):PC × Int:=({ c with m:=AU c.m (Py it),hs:=if knE c.m (Py it)=0 then gV it.A ⟨true,FJ it.C,[],[]⟩ c.hs else c.hs },knE c.m (Py it))
def av4(c:PC):PC:={ c with m:=FU c.m (qN c.m c.s c.r c.aN),s:=qh c.m c.s c.r c.aN,dR:=c.dR++xY c.m c.s c.r c.aN }
def av5(c:PC)(it:AItem)(h:xO):PC:=
  { c with m:=oG c.s c.aN it.A c.m (lS c.m.aA it.A (eT h.l)),dR:=c.dR++y7 (eT h.l) (nX (oG c.s c.aN it.A c.m (lS c.m.aA it.A (eT h.l))).aA (eT h.l)) it.A (c.aN+c.r.jy) }
def YO(c:PC)(it:AItem)(h:xO):PC × Int:=
  if it.Kind=3 then({ c with s:=⟨ze c.s.dX it.A c.aN,c.s.bY,c.s.dM⟩ },0) else
  if it.Kind=4 then(av5 c it h,0) else
  if it.Kind=9 then({ c with hs:=gV it.A { h with up:=false } c.hs },0) else
  if it.Kind=10 then({ c with hs:=gV it.A ⟨true,h.bJ,(XM h.l h.d).1,(XM h.l h.d).2⟩ c.hs },0) else
  if it.Kind=12 then({ c with hs:=gV it.A ⟨h.up,h.bJ,(aef h.l h.d).1,(aef h.l h.d).2⟩ c.hs },0) else
  if it.Kind=13 then({ c with hs:=gV it.A { h with d:=XL it.B it.C h.d } c.hs },if(uo ⟨it.B,false⟩ h.d).length=0 then 5 else 0) else
  ({ c with hs:=gV it.A ⟨h.up,h.bJ,[],[]⟩ c.hs },0)
def vZ(k:Int):Option Bool:=if k=10 then some false else if k=13∨k=14 then none else some true
def ES(c:PC)(it:AItem):PC × Int:=
  if it.Kind=0 then(if it.A<0∨100<it.A then(c,1) else({ c with aN:=c.aN+it.A },0)) else
  if it.Kind=1 then av3 c it else
  if it.Kind=2 then({ c with m:=AU c.m ⟨0,0,2,it.A,it.B,0⟩ },knE c.m ⟨0,0,2,it.A,it.B,0⟩) else
  if it.Kind=5 then(av4 c,0) else
  if it.Kind=6∨it.Kind=7∨it.Kind=8 then mX c it else
  if it.Kind=11 then vB c it else
  if it.Kind<0∨14<it.Kind then(c,1) else
  match fH it.A c.hs with
  | none=>(c,5)
  | some h=>if vZ it.Kind=some (!h.up) then(c,8) else YO c it h
def Nc(hs:ru)(x:aI)(z:Int):List Int->List (BitVec 8) × Int
  | []=>([],8)
  | n::l=>match fH n hs with
    | none=>Nc hs x z l
    | some h=>if h.up=true/\(xP h.l h.d z).2.2=0/\(xP h.l h.d z).2.1=x.aC/\((iV (xP h.l h.d z).1).toNat:Int)=x.Sum then((xP h.l h.d z).1,0) else Nc hs x z l
def FN(c:PC)(z:Int):List (BitVec 8) × Int:=if gU c.m.aA z=false then([],5) else Nc c.hs (aV c.m.aA z) z (aV c.m.aA z).aF
abbrev Iu(iT:Nat)(A1:ah)(c1:Nat)(A2:ah)(c2:Nat)(A3:ah)(c3:Nat)(A4:ah)(c4:Nat)(A5:ah)(c5:Nat)(A6:ah)(c6:Nat)(A7:ah)(c7:Nat)(m:dU)(s:iM)(r:ARules)(aN:Int)(gm:Nat)(dR:List aM):lC:=dJ iT 84 [.slice A1 m.aY.length c1,.slice A2 m.aA.length c2,.slice A3 m.aQ.length c3,.slice A4 s.dX.length c4,.slice A5 s.bY.length c5,.slice A6 s.dM.length c6,.int .i64 r.ku,.int .i64 r.l5,.int .i64 r.All,.int .i64 r.qj,.int .i64 r.jy,.int .i64 r.fA,.int .i64 aN,.map (some gm),.slice A7 dR.length c7]
theorem akn{l:List aI}(h:lY l=true)(id:Int):0<=(aV l id).aC:=by
  cases hb:gU l id with
  | false=>rw [(Yb h hb).2]; decide
  | true=>have:=rV (Zt h _ (DW h hb)); omega
theorem azm(m:dU)(c:gD):0<=(EN m c).2.2.1/\(EN m c).2.2.1<=10:=by
  rcases kinds c.Kind with h | h | h | h | h | h | h | h | h
  · rw [adA h]; exact anm m c
  · rw [adB h]; exact ano m c
  · rw [adC h]; exact anp m c
  · rw [VU h]; exact anq m c
  · rw [VW h]; exact anr m c
  · rw [adD h]; exact ant m c
  · rw [adE h]; exact anu m c
  · rw [adF h]; exact anv m c
  · rw [adG h]; show 0<=(1:Int)/\(1:Int)<=10; decide
theorem azn{m:dU}(hm:qz m=true)(c:gD):0<=(EN m c).2.2.2:=by
  have hc:lY (EN m c).2.1=true:=(nG.1 (QZ hm c)).2.1
  have hw:∀ put,(EN m c).2.1=(vH put m.aA c).1->0<=(vH put m.aA c).2.2:=λput h=>by
    rw [h] at hc;unfold vH at hc ⊢
    split
    · exact Di _
    · rename_i hb; rw [aK hb] at hc; exact akn hc _
  rcases kinds c.Kind with h | h | h | h | h | h | h | h | h
  · rw [adA h]; exact Di _
  · rw [adB h]; exact Di _
  · rw [adC h]; exact Di _
  · rw [VU h]; exact hw _ (by rw [VU h])
  · rw [VW h]; exact hw _ (by rw [VW h])
  · rw [adD h]; exact Di _
  · rw [adE h]; exact Di _
  · rw [adF h]; exact Di _
  · rw [adG h]; exact Di _
theorem ah7{m:dU}(hm:qz m=true){x:gD}(hx:x.Client=0):dO m x=og m x:=by
  unfold dO; rw [aK (by rw [hm]; decide),aO hx]
theorem KN{m:dU}(hm:qz m=true){x:gD}(hx:x.Client=0):-10<=(dO m x).2:=by
  rw [ah7 hm hx];have h1:=azm m x; have h2:=azn hm x;show -10<=QY _ _;unfold QY; split <;> omega
theorem BI{m:dU}(hm:qz m=true)(x:gD):qz (AU m x)=true:=by
  unfold AU; split
  · exact hm
  · exact VZ hm x
theorem TB{m:dU}(hm:qz m=true)(l:List gD):qz (FU m l)=true:=by
  unfold FU
  induction l generalizing m with
  | nil=>exact hm
  | cons x l ih=>exact ih (BI hm x)
theorem aoo{m:dU}{l:List gD}{k:Nat}{x:gD}(h:l[k]? = some x):FU m (l.take (k+1))=AU (FU m (l.take k)) x:=by
  unfold FU; rw [fI h,xD]; rfl
theorem BJ:dH prog 84 3 12:=ay
theorem zJ:dH prog 84 5 14:=ay
theorem qQ:dH prog 84 4 13:=ay
theorem RX:kW prog 82:=ay
theorem rJ:∀ w,(zeroValue 91).run prog w=.ok (.pointer none) w:=ay
theorem G8:dH prog 95 1 1:=ay
theorem vJ:dH prog 95 0 0:=ay
theorem yP:dH prog 84 0 0:=ay
theorem yQ:dH prog 84 1 3:=ay
theorem av6:bI prog 187:=ay
theorem nI:dH prog 32 1 1:=ay
theorem TD:dH prog 32 2 2:=ay
abbrev zK(gJ:Nat)(iK:ah)(tF:Nat)(vP:ah)(DI:Nat)(OD:ah)(RU:Nat)(XC:ah)(y8z:Nat)(y9z:ah)(Pz:Nat)(PD:ah)(PE:Nat)(PG:ah)(PI:Nat)(BK:dU)(BL:iM)(aaV:ARules)(aaW:Int)(PK:Nat)(PL:List aM)(aaX:jV)(aaY:List lC):=Iu gJ iK tF vP DI OD RU XC y8z y9z Pz PD PE PG PI BK BL aaV aaW PK PL::dP bX iK tF BK.aY::dP bH vP DI BK.aA::dP bZ OD RU BK.aQ::dP iL XC y8z BL.dX::dP dB y9z Pz BL.bY::dP bF PD PE BL.dM::aR bF 112 PG PI PL::jF PK aaX::aaY
theorem aop{gm:Nat}{m:dU}{s:iM}{r:ARules}{aN:Int}{dR:List aM}{hs:jV}(H0:Hp b S w (zK iT A1 c1 A2 c2 A3 c3 A4 c4 A5 c5 A6 c6 A7 c7 m s r aN gm dR hs F))(bq:Int) :
    bO prog 37 #[fP iT,aD bq] w λv w'=>v=.bool (M9 (jR hs) bq)/\Hp b S w' (zK iT A1 c1 A2 c2 A3 c3 A4 c4 A5 c5 A6 c6 A7 c7 m s r aN gm dR hs F):=by
 refine sF func37 ntmps37 Y<|iY Y ?_
 rcases hg1:fH bq hs with _ | ⟨TF,gs1,SF,Ah1,ch1,Sm,TG,l1,es1⟩
 ·refine bQ Y<|ev (dS Y)<|jD iT 13 qQ H0 s0 Y<|mv Y<|ev (Ev.hN H0 s8 hg1 zZ vw rJ Y Y)<|bS Y<|bQ Y<|ev (Ev.pnn yN Y Y)<|mv Y<|eB<|eB<|eB<|eB<|ev (eG Y Y)<|bS Y<|iI Y ?_
  have d9:(false:Bool)=(M9 (jR hs) bq):=by unfold M9; rw [iW,hg1]; rfl
  exact⟨by rw [<- d9] <;> rfl,H0⟩
 ·refine bQ Y<|ev (dS Y)<|jD iT 13 qQ H0 s0 Y<|mv Y<|ev (Ev.hS H0 s8 hg1 zZ vw rJ Y Y)<|bS Y<|bQ Y<|ev (Ev.pnn yN Y Y)<|mv Y<|bG Y (bA Y) Y<|bG Y (dS Y) Y<|gfy TF 1 G8 Y<|bG Y (cu agq Y (H0.AP s8 hg1) Y) Y<|ev (dY Y Y)<|bS Y<|iI Y ?_
  have fG:(Sm:Bool)=(M9 (jR hs) bq):=by unfold M9; rw [iW,hg1]; rfl
  exact⟨by rw [<- fG] <;> rfl,H0⟩
theorem agI{gm:Nat}{m:dU}{s:iM}{r:ARules}{aN:Int}{dR:List aM}{hs:jV}(H0:Hp b S w (zK iT A1 c1 A2 c2 A3 c3 A4 c4 A5 c5 A6 c6 A7 c7 m s r aN gm dR hs F))(bq:Int)(hL:∀ h,fH bq hs=some h->h.l.length<=1000) :
    bO prog 28 #[fP iT,aD bq] w λv w'=>∃(A0:ah)(c0:Nat),v=.slice A0 ((XO (jR hs) bq).length) c0/\Hp b S w' (aR bf 132 A0 c0 (XO (jR hs) bq)::Iu iT A1 c1 A2 c2 A3 c3 A4 c4 A5 c5 A6 c6 A7 c7 m s r aN gm dR::dP bX A1 c1 m.aY::dP bH A2 c2 m.aA::dP bZ A3 c3 m.aQ::dP iL A4 c4 s.dX::dP dB A5 c5 s.bY::dP bF A6 c6 s.dM::aR bF 112 A7 c7 dR::jF gm hs::F):=by
 refine sF func28 ntmps28 Y<|iY Y<|aZ ?_
 rcases hg1:fH bq hs with _ | ⟨TF,gs1,SF,Ah1,ch1,Sm,TG,l1,es1⟩
 ·refine bQ Y<|ev (dS Y)<|jD iT 13 qQ H0 s0 Y<|mv Y<|ev (Ev.hN H0 s8 hg1 zZ vw rJ Y Y)<|bS Y<|bQ Y<|ev (Ev.pnn yN Y Y)<|dn<|bR Y nofun (λ_h=>?_)
  refine jh ?_;refine iY Y<|iI Y ?_
  have H1:=H0.nil bf 132;have d9:(([]:List aH):List aH)=(XO (jR hs) bq):=by unfold XO; rw [iW,hg1]; rfl
  exact⟨none,0,by rw [<- d9] <;> rfl,by rw [<- d9]; exact H1⟩
 ·have hlb:l1.length<=1000:=hL _ hg1;refine bQ Y<|ev (dS Y)<|jD iT 13 qQ H0 s0 Y<|mv Y<|ev (Ev.hS H0 s8 hg1 zZ vw rJ Y Y)<|bS Y<|bQ Y<|ev (Ev.pnn yN Y Y)<|dn<|bR Y (λ_h=>?_) nofun
  refine bQ Y<|ev (dS Y)<|wC TF 0 vJ Y<|ev (cu Pg Y (H0.AP s8 hg1) Y) ?_
  have H2:=H0.uO s8 hg1;refine gW Y (M6 ((H2.sel s0).mV 1 4) aj) ?_;rintro _ w1 ⟨jK,jL,rfl,K1⟩;have H3:=Ri hg1 ((((K1.sel s0).sel s6).mV 2 4).sel s6);refine bS Y<|vG Y ?_
  have fG:(eT l1:List aH)=(XO (jR hs) bq):=by unfold XO; rw [iW,hg1]; rfl
  exact⟨jK,jL,by rw [<- fG] <;> rfl,by rw [<- fG]; exact((H3.sel s0).mV 1 9)⟩
theorem arN{gm:Nat}{m:dU}{s:iM}{r:ARules}{aN:Int}{dR:List aM}{hs:jV}(H0:Hp b S w (zK iT A1 c1 A2 c2 A3 c3 A4 c4 A5 c5 A6 c6 A7 c7 m s r aN gm dR hs F))(bq:Int) :
    bO prog 35 #[fP iT,aD bq] w λv w'=>v=aD ((aaU (jR hs) bq:Nat):Int)/\Hp b S w' (zK iT A1 c1 A2 c2 A3 c3 A4 c4 A5 c5 A6 c6 A7 c7 m s r aN gm dR hs F):=by
 refine sF func35 ntmps35 Y<|iY Y<|aZ ?_
 rcases hg1:fH bq hs with _ | ⟨TF,gs1,SF,Ah1,ch1,Sm,TG,l1,es1⟩
 ·refine bQ Y<|ev (dS Y)<|jD iT 13 qQ H0 s0 Y<|mv Y<|ev (Ev.hN H0 s8 hg1 zZ vw rJ Y Y)<|bS Y<|bQ Y<|ev (Ev.pnn yN Y Y)<|dn<|bR Y nofun (λ_h=>?_)
  refine jh ?_;refine iY Y<|iI Y ?_
  have d9:(0:Int)=((aaU (jR hs) bq:Nat):Int):=by unfold aaU; rw [iW,hg1]; rfl
  exact⟨by rw [<- d9] <;> rfl,H0⟩
 ·refine bQ Y<|ev (dS Y)<|jD iT 13 qQ H0 s0 Y<|mv Y<|ev (Ev.hS H0 s8 hg1 zZ vw rJ Y Y)<|bS Y<|bQ Y<|ev (Ev.pnn yN Y Y)<|dn<|bR Y (λ_h=>?_) nofun
  refine bQ Y<|ev (dS Y)<|wC TF 0 vJ Y<|ev (cu Pg Y (H0.AP s8 hg1) Y) ?_
  have H1:=H0.uO s8 hg1;refine gW Y (arA ((H1.sel s0).mV 1 4) ) ?_;rintro _ w1 ⟨rfl,K1⟩;have H2:=Ri hg1 ((K1.mV 0 4).sel s4);refine bS Y<|vG Y ?_
  have fG:(((l1.length:Nat):Int):Int)=((aaU (jR hs) bq:Nat):Int):=by unfold aaU; rw [iW,hg1]; rfl
  exact⟨by rw [<- fG] <;> rfl,((H2.sel s0).mV 1 8)⟩
abbrev KO(gJ:dU)(iK:gD):=(((dO gJ iK).1).aY).length
abbrev KP(gJ:dU)(iK:gD):=(((dO gJ iK).1).aA).length
abbrev KQ(gJ:dU)(iK:gD):=(((dO gJ iK).1).aQ).length
theorem xQ{gm:Nat}{m:dU}{s:iM}{r:ARules}{aN:Int}{dR:List aM}{hs:jV}(H0:Hp b S w (zK iT A1 c1 A2 c2 A3 c3 A4 c4 A5 c5 A6 c6 A7 c7 m s r aN gm dR hs F))(x:gD)(hm:qz m=true)(hx:x.Client=0) :
    bO prog 95 #[fP iT,.agg #[aD x.Client,aD x.Seq,aD x.Kind,aD x.A,aD x.B,aD x.C]] w λv w'=>∃(B1:ah)(d1:Nat)(B2:ah)(d2:Nat)(B3:ah)(d3:Nat),v=aD (knE m x)/\Hp b S w' (Iu iT B1 d1 B2 d2 B3 d3 A4 c4 A5 c5 A6 c6 A7 c7 (AU m x) s r aN gm dR::dP bX B1 d1 ((AU m x).aY)::dP bH B2 d2 ((AU m x).aA)::dP bZ B3 d3 ((AU m x).aQ)::dP iL A4 c4 s.dX::dP dB A5 c5 s.bY::dP bF A6 c6 s.dM::aR bF 112 A7 c7 dR::jF gm hs::F):=by
 refine sF func95 ntmps95 Y<|rg<|bx Y Y H0 λg1 w1 K1=>bS Y<|He K1 (λ_ K=>K) (λl0 rk lJ wJ=>∃(rH:Nat)(jE:ah)(jB:Nat)(oQ:ah)(cj2:Nat)(wm:ah)(vD:Nat),lJ=(5,fP rH)::(6,aD ((dO m x).2))::l0/\Hp b S wJ (dJ rH 45 [.slice jE (KO m x) jB,.slice oQ (KP m x) cj2,.slice wm (KQ m x) vD]::dP bX jE jB (((dO m x).1).aY)::dP bH oQ cj2 (((dO m x).1).aA)::dP bZ wm vD (((dO m x).1).aQ)::rk)) (λhns H1=>?_) ?_
 ·refine sw 0 iT 0 yP Y H1<|lH 3 Y (λ_ hK=>Cm (cs':=[.slice A1 m.aY.length c1,.slice A2 m.aA.length c2,.slice A3 m.aQ.length c3]) qO Y Y (hK.x s1) Y) H1<|lH 4 Y (λ_ hK=>dK AA Y Y (hK.x s0)) H1<|Jn H1 (λl0 rk lJ wJ=>∃(g2:Nat)(G9:ah)(Hg:Nat)(Hl:ah)(Ho:Nat)(Hq:ah)(Hr:Nat),lJ=(5,fP g2)::(15,aD ((dO m x).2))::l0/\Hp b S wJ (dJ g2 45 [.slice G9 (KO m x) Hg,.slice Hl (KP m x) Ho,.slice Hq (KQ m x) Hr]::dP bX G9 Hg (((dO m x).1).aY)::dP bH Hl Ho (((dO m x).1).aA)::dP bZ Hq Hr (((dO m x).1).aQ)::rk)) 1 2047 ?_ λhS1=>?_
  ·rintro _ w8 ⟨g2,G9,Hg,Hl,Ho,Hq,Hr,rfl,K8⟩;have k6:=(K8.cU 0 4);refine xJ 11 Y Y k6<|Dn ⟨g2,G9,Hg,Hl,Ho,Hq,Hr,Y,K8⟩ Y
  refine O2 5 9 Y Y ?_ ?_
  ·refine gW Y (OX _ m (H1.s s2) (H1.s s3) (H1.s s4) x (Ee hm)) ?_;rintro _ w9 ⟨Du,Dv,Dw,Dx,Dy,Dz,rfl,h9⟩;have K9:=H1.c3 h9;have k7:=(K9.cU 0 3);refine aP k7<|kT 6 Y Y k7<|yj 7 Y (vs:=[.agg #[.slice Du (KO m x) Dv,.slice Dw (KP m x) Dx,.slice Dy (KQ m x) Dz],aD ((dO m x).2)]) Y Y k7<|yj 8 Y (vs:=[.agg #[.slice Du (KO m x) Dv,.slice Dw (KP m x) Dx,.slice Dy (KQ m x) Dz],aD ((dO m x).2)]) Y Y k7<|O1 9 Y<|al yG Y K9 λg4 Nn K10=>?_
   have k8:=(K10.cU 0 4);refine aP k8<|O1 10 Y<|sty Y K10 s0 Y λRG tO=>?_
   have k9:=(tO.cU 0 4);exact Kj hS1 k9 ⟨g4,Du,Dv,Dw,Dx,Dy,Dz,Y,tO⟩ Y
  ·refine al yG Y H1 λg5 Qp rW=>?_;have k10:=(rW.rm s0);refine aP k10<|O1 5 Y<|gW Y (OX _ m (rW.s s3) (rW.s s4) (rW.s s5) x (Ee hm)) ?_
   rintro _ WO ⟨oL,oM,wV,wW,wX,wY,rfl,h13⟩;have vC:=rW.c3 h13;have k11:=(vC.cU 0 4);refine aP k11<|kT 6 Y Y k11<|yj 7 Y (vs:=[.agg #[.slice oL (KO m x) oM,.slice wV (KP m x) wW,.slice wX (KQ m x) wY],aD ((dO m x).2)]) Y Y k11<|yj 8 Y (vs:=[.agg #[.slice oL (KO m x) oM,.slice wV (KP m x) wW,.slice wX (KQ m x) wY],aD ((dO m x).2)]) Y Y k11<|O1 10 Y<|sty Y vC s3 Y λXv vo=>?_
   have k12:=(vo.cU 0 4);exact Kj hS1 k12 ⟨g5,oL,oM,wV,wW,wX,wY,Y,vo⟩ Y
 rintro _ Yg ⟨rH,jE,jB,oQ,cj2,wm,vD,rfl,yX⟩;refine aZ<|bQ Y<|ev (fB Y Y)<|dn<|kX Y (λhc17=>?_) (λhc17=>?_)
 ·refine bQ Y<|ev (Ev.neg Y (vM (by have hxx:=KN hm hx; omega) (by have hxx:=KN hm hx; omega)))<|bS rfl<|vG rfl ?_
  rw [show(AU m x)=m from by unfold AU; rw [aO hc17]];have d9:(-((dO m x).2):Int)=(knE m x):=by unfold knE; rw [aO hc17]
  exact⟨A1,c1,A2,c2,A3,c3,by rw [<- d9] <;> rfl,(yX.cU 0 5)⟩
 refine jh ?_;refine bQ Y<|ev (dK qO Y Y (yX.x s0))<|ev (dS Y)<|wC iT 0 yP Y<|stp Y Y Y am5 yX s5 Y Y Y λw16 Bv=>dn<|iY Y<|iI Y ?_
 rw [show(AU m x)=((dO m x).1) from by unfold AU; rw [aK hc17]];have fG:(0:Int)=(knE m x):=by unfold knE; rw [aK hc17]
 exact⟨jE,jB,oQ,cj2,wm,vD,by rw [<- fG] <;> rfl,((Bv.cU 5 4).rm s1)⟩
theorem JY(w:World){u7:ah}{tN:Nat}{s:List aM}(lK:Sl bF S0 w u7 tN s){yS:FuncId}{yV:List Value}(IG:bI prog yS)(f:aM->Bool)(II:∀(w':World)(x:aM),Ext w w'->x∈s->bO prog yS (([.agg #[aD x.Kind,aD x.aB,aD x.aC,fT x.Sum,aD x.jw,aD x.To,aD x.kG]]:List Value)++yV).toArray w' λv w''=>v=.bool (f x)/\Ext w' w'') :
    bO prog 188 #[.slice u7 s.length tN,.func (.func yS) #[] yV.toArray] w λv w'=>v=.bool (s.any f)/\Hp w S0 w' []:=by
 refine j4 S0 func188 ntmps188 Y λH0=>iY Y<|bQ Y<|mv Y<|lF H0 Y (D8 _ (H0.a lK).any IG f (λw' x e hm=>II w' x (H0.ext.trans e) hm)) λw1 K1=>ev (pK Y Y)<|bS Y<|iI Y ?_
 have d9:(decide (0<=idxOf f s):Bool)=(s.any f):=by exact Tj f s
 exact⟨by rw [d9] <;> rfl,K1⟩
theorem ako(w:World)(o:aM){Oe:Nat}(aL:Int)(ZF:Bx w Oe 3 [aD aL]){CX:Nat}(bq:Int)(Jc:Bx w CX 3 [aD bq]) :
    bO prog 187 #[.agg #[aD o.Kind,aD o.aB,aD o.aC,fT o.Sum,aD o.jw,aD o.To,aD o.kG],fP Oe,fP CX] w λv w'=>v=.bool (decide (o.aB=aL)&&decide (o.To=bq))/\Hp w S0 w' []:=by
 refine j4 S0 func187 ntmps187 Y λH0=>rg<|bx Y Y H0 λg1 w1 K1=>bS Y<|rg<|jD g1 1 rY K1 s0 Y<|ev (cu jG Y (ZF.ext K1.ext) Y)<|ev (iP Y Y)<|mv Y<|iG 5 14 ((decide (o.aB=aL))&&(decide (o.To=bq))) ?_ ?_
 ·cases hb9:decide (o.aB=aL) with
  | true=>
   refine wP g1 5 yA K1 s0 Y<|bG Y (cu jG Y (Jc.ext K1.ext) Y) Y<|bG Y (iP Y Y) Y<|ev (dY Y Y)<|dI Y
  | false=>
   refine eB<|eB<|eB<|eB<|ev (eG Y Y)<|dI Y
 refine bS Y<|iI Y ?_
 have d9:(((decide (o.aB=aL))&&(decide (o.To=bq))):Bool)=(decide (o.aB=aL)&&decide (o.To=bq)):=by rfl
 exact⟨by rw [d9] <;> rfl,(K1.rm s0)⟩
theorem ael{gm:Nat}{m:dU}{s:iM}{r:ARules}{aN:Int}{dR:List aM}{hs:jV}(H0:Hp b S w (zK iT A1 c1 A2 c2 A3 c3 A4 c4 A5 c5 A6 c6 A7 c7 m s r aN gm dR hs F))(aL:Int)(bq:Int)(hb:s.dX.length<=1000)(hl:s.bY.length<=64)(hd:s.dM.length<=50000) :
    bO prog 109 #[fP iT,aD aL,aD bq] w λv w'=>v=.bool (Na s aN aL bq)/\Hp b S w' (zK iT A1 c1 A2 c2 A3 c3 A4 c4 A5 c5 A6 c6 A7 c7 m s r aN gm dR hs F):=by
 refine sF func109 ntmps109 Y<|rg<|bx Y Y H0 λg1 w1 K1=>bx Y Y K1 λg2 w2 K2=>bS Y<|rg<|ev (qC Y)<|bS Y<|He K2 (λ_ K=>K) (λl0 rk lJ wJ=>lJ=(6,.bool (((gY s aN).dM).any (fun(x:aM)=>decide (x.aB=aL)&&decide (x.To=bq))))::l0/\Hp b S wJ rk) (λhns H1=>?_) ?_
 ·refine sw 0 iT 3 yQ Y H1<|lH 3 Y (λ_ hK=>Cm (cs':=[.slice A4 s.dX.length c4,.slice A5 s.bY.length c5,.slice A6 s.dM.length c6]) Ij Y Y (hK.x s2) Y) H1<|sw 4 iT 12 BJ Y H1<|Ai 7 s2 Y H1<|kT 10 Y Y H1<|O1 8 Y<|gW Y (ac0 _ s (H1.s s6).any (H1.s s7).any (H1.s s8).any aN aj aj aj) ?_
  rintro _ w3 ⟨av7,av8,av9,awc,awd,awe,rfl,h3⟩;have K3:=H1.f3 h3;have k1:=(K3.cU 0 3);refine aP k1<|lH 9 Y (λ_ _=>Ev.fld (cs:=[.slice av7 (((gY s aN).dX).length) av8,.slice av9 (((gY s aN).bY).length) awc,.slice awd (((gY s aN).dM).length) awe]) underlying51 Y Y asY Y Y) k1<|O1 11 Y<|lF K3 Y (JY _ (K3.o s2) (yV:=[fP g1,fP g2]) av6 (fun(x:aM)=>decide (x.aB=aL)&&decide (x.To=bq)) (λw' x e hm=>(ako (S0:=Any) w' x aL ((K3.x s4).ext e) bq ((K3.x s3).ext e)).mono (by rintro _ _ ⟨rfl,fG⟩; exact⟨rfl,fG.ext⟩))) λw4 K4=>?_
  have k2:=(K4.cU 0 3);refine aP k2<|xJ 12 Y Y k2<|Dn ⟨Y,(K4.cU 0 3)⟩ Y
 rintro _ w5 ⟨rfl,K5⟩;refine iI Y ?_;have d9:(((gY s aN).dM).any (fun(x:aM)=>decide (x.aB=aL)&&decide (x.To=bq)):Bool)=(Na s aN aL bq):=by rfl
 exact⟨by rw [<- d9] <;> rfl,(K5.cU 0 2)⟩
theorem aoq{gm:Nat}{m:dU}{s:iM}{r:ARules}{aN:Int}{dR:List aM}{hs:jV}(H0:Hp b S w (zK iT A1 c1 A2 c2 A3 c3 A4 c4 A5 c5 A6 c6 A7 c7 m s r aN gm dR hs F))(it:AItem)(hu:0<=aN/\aN<=549755813888) :
    bO prog 39 #[fP iT,.agg #[aD it.Kind,aD it.A,aD it.B,aD it.C]] w λv w'=>v=aD (if it.A<0∨100<it.A then 1 else 0)/\Hp b S w' (Iu iT A1 c1 A2 c2 A3 c3 A4 c4 A5 c5 A6 c6 A7 c7 m s r (if it.A<0∨100<it.A then aN else aN+it.A) gm dR::dP bX A1 c1 m.aY::dP bH A2 c2 m.aA::dP bZ A3 c3 m.aQ::dP iL A4 c4 s.dX::dP dB A5 c5 s.bY::dP bF A6 c6 s.dM::aR bF 112 A7 c7 dR::jF gm hs::F):=by
 refine sF func39 ntmps39 Y<|rg<|bx Y Y H0 λg1 w1 K1=>bS Y<|aZ<|rg<|jD g1 1 nI K1 s0 Y<|ev (fB Y Y)<|mv Y<|iG 4 12 ((decide (it.A<0))||(decide (100<it.A))) ?_ ?_
 ·cases hb8:decide (it.A<0) with
  | true=>
   refine eB<|eB<|eB<|ev (dY Y Y)<|dI Y
  | false=>
   refine wP g1 1 nI K1 s0 Y<|bG Y (pJ Y Y) Y<|ev (eG Y Y)<|dI Y
 refine dn<|bR Y (λnQ=>?_) (λnQ=>?_)
 ·try simp only [eO,dN,bL,bU] at nQ
  refine iY Y<|vG Y ?_
  have d9:(1:Int)=(if it.A<0∨100<it.A then 1 else 0):=by rw [aO aj]
  have fG:(aN:Int)=(if it.A<0∨100<it.A then aN else aN+it.A):=by rw [aO aj]
  exact⟨by rw [<- d9] <;> rfl,by rw [<- fG]; exact(K1.rm s0)⟩
 try simp only [eO,dN,bL,bU] at nQ
 refine jh ?_;refine He K1 (λ_ K=>(K.rm s1)) (λl0 rk lJ wJ=>lJ=l0/\Hp b S wJ (Iu iT A1 c1 A2 c2 A3 c3 A4 c4 A5 c5 A6 c6 A7 c7 m s r (aN+it.A) gm dR::rk)) (λhns H1=>?_) ?_
 ·have k1:=(H1.rm s1);refine sw 0 iT 12 BJ Y k1<|mD 4 5 g1 1 nI s0 Y k1<|O1 3 Y<|mK H1 s1 Y<|aP k1<|lH 6 Y (λ_ _=>dW Y Y) k1<|Qk 7 iT 12 BJ Y k1<|O1 9 Y<|wD Y H1 s1 Y λw2 K2=>?_
  have k2:=(K2.rm s0);refine aP k2<|Dn ⟨Y,K2⟩ Y
 rintro _ w3 ⟨rfl,K3⟩;refine iY Y<|iI Y ?_
 have jQ:(0:Int)=(if it.A<0∨100<it.A then 1 else 0):=by rw [aK aj]
 have lV:(aN+it.A:Int)=(if it.A<0∨100<it.A then aN else aN+it.A):=by rw [aK aj]
 exact⟨by rw [<- jQ] <;> rfl,by rw [<- lV]; exact(K3.rm s1)⟩
abbrev KR(gJ:AItem):=(⟨0,0,2,gJ.A,gJ.B,0⟩:gD)
theorem arO{gm:Nat}{m:dU}{s:iM}{r:ARules}{aN:Int}{dR:List aM}{hs:jV}(H0:Hp b S w (zK iT A1 c1 A2 c2 A3 c3 A4 c4 A5 c5 A6 c6 A7 c7 m s r aN gm dR hs F))(it:AItem)(hm:qz m=true) :
    bO prog 41 #[fP iT,.agg #[aD it.Kind,aD it.A,aD it.B,aD it.C]] w λv w'=>∃(B1:ah)(d1:Nat)(B2:ah)(d2:Nat)(B3:ah)(d3:Nat),v=aD (knE m (KR it))/\Hp b S w' (Iu iT B1 d1 B2 d2 B3 d3 A4 c4 A5 c5 A6 c6 A7 c7 (AU m (KR it)) s r aN gm dR::dP bX B1 d1 ((AU m (KR it)).aY)::dP bH B2 d2 ((AU m (KR it)).aA)::dP bZ B3 d3 ((AU m (KR it)).aQ)::dP iL A4 c4 s.dX::dP dB A5 c5 s.bY::dP bF A6 c6 s.dM::aR bF 112 A7 c7 dR::jF gm hs::F):=by
 refine sF func41 ntmps41 Y<|rg<|bx Y Y H0 λg1 w1 K1=>bS Y<|bQ Y<|jD g1 1 nI K1 s0 Y<|jD g1 2 TD K1 s0 Y<|ev (iE (vs:=[(2,aD 2),(3,aD it.A),(4,aD it.B)]) (cs:=[aD 0,aD 0,aD 2,aD it.A,aD it.B,aD 0]) Y (by apply wT))<|gW rfl (xQ (m:=m) (s:=s) (r:=r) ((K1.sel s0).mV 1 9) (KR it) aj rfl) ?_
 rintro _ w2 ⟨akp,akq,akr,aks,akt,aku,rfl,K2⟩;refine bS Y<|iI Y ?_
 exact⟨akp,akq,akr,aks,akt,aku,Y,(K2.rm s9)⟩
end Go.Proofs.YtlhnnmlenkahlaaGreat
