/- Lemmas. -/
import Derived.Test.YtlhnnmlenkahlaaGreatrG22
set_option maxRecDepth 4000
set_option linter.all false
namespace Go.Proofs.YtlhnnmlenkahlaaGreat
open Go.RowKit Go.Proofs.Tryz
def ajw:=@List.flatMap_singleton
def yZ:=@underlying82
def CQ:=@underlying91
variable {S0 S:Nat->Prop}{BO jl EH A1 A2 A3 A4 A5 A6 A7:ah}{je EI c1 c2 c3 c4 c5 c6 c7:Nat}{report:List aI}{t et kt:TypeId}{ky:Operand}{o:aM}{b w:World}{F:List lH}
theorem aAj:bF prog 186:=ay
theorem aAk:bF prog 185:=ay
theorem qQ(a0:Int)(a1:Int)(a2:Int)(a3:Int):prog.built 120 [(2,aF a0),(3,aF a1),(4,aF a2),(5,aF a3)]=some #[aF 0,aF 0,aF a0,aF a1,aF a2,aF a3]:=ak
def zI(x:aI)(c:aH):Bool:=((!x.gB&&decide (x.aC=c.ID))&&decide (x.aB=c.aB))&&decide (x.Sum=c.Sum)
def recC(bE:Int)(report:List aI)(c:aH):List fV:=
  if(report.any (fun(x:aI)=>zI x c)&&!c.aD.contains bE)=true then[⟨0,0,5,c.ID,bE,c.aB⟩] else if(!report.any (fun(x:aI)=>zI x c)&&c.aD.contains bE)=true then[⟨0,0,6,c.ID,bE,0⟩] else[]
def lg(l:List aH)(bE:Int)(report:List aI):List fV:=if kR l=true/\1<=bE/\bE<=16 then l.flatMap (recC bE report) else[]
theorem arX(bE:Int)(report:List aI)(c:aH):(recC bE report c).length<=1:=by unfold recC; split <;> (try split) <;> simp
theorem YK(bE:Int)(report:List aI):∀(l:List aH),(l.flatMap (recC bE report)).length<=l.length
  | []=>by simp
  | c::l=>by
    have h1:=YK bE report l;have h2:=arX bE report c
    simp only [List.flatMap_cons,jd,pF]; omega
theorem arY(l:List aH)(bE:Int)(report:List aI):(lg l bE report).length<=l.length:=by
  unfold lg; split
  · exact YK bE report l
  · simp
theorem akX(w:World)(x:aI)(c:aH){Bq:Nat}(GZ:Sl dQ S0 w BO Bq c.aD) :
    bS prog 186 #[.agg #[aF x.aC,aF x.aB,gK x.Sum,.bool x.gB,.bool x.Bad],.agg #[aF c.ID,aF c.aB,gK c.Sum,.slice BO c.aD.length Bq]] w λv w'=>v=.bool (zI x c)/\Hp w S0 w' []:=by
 refine kP S0 func186 ntmps186 Y λH0=>rg<|bx Y Y H0 λg1 w1 K1=>bx Y Y K1 λg2 w2 K2=>bU Y<|rg<|jT g1 3 uo K2 s1 Y<|ev (iB Y)<|mv Y<|iP 6 14 ((!x.gB)&&(decide (x.aC=c.ID))) ?_ ?_
 ·cases hb8:(!x.gB) with
  | true=>
   refine wL g1 0 mM K2 s1 Y<|wL g2 0 pq K2 s0 Y<|bn Y (iA Y Y) Y<|ev (dH Y Y)<|dM Y
  | false=>
   refine dN<|dN<|dN<|dN<|dN<|ev (dL Y Y)<|dM Y
 refine mv Y<|iP 6 21 (((!x.gB)&&(decide (x.aC=c.ID)))&&(decide (x.aB=c.aB))) ?_ ?_
 ·cases Tc:((!x.gB)&&(decide (x.aC=c.ID))) with
  | true=>
   have aks:=Tc
   try simp only [fq,dX,bN,eH,eG,fP,bO,bV] at aks
   refine wL g1 1 sH K2 s1 Y<|wL g2 1 tH K2 s0 Y<|bn Y (iA Y Y) Y<|ev (dH Y Y)<|dM Y
  | false=>
   refine dN<|dN<|dN<|dN<|dN<|ev (dL Y Y)<|dM Y
 refine mv Y<|iP 6 28 ((((!x.gB)&&(decide (x.aC=c.ID)))&&(decide (x.aB=c.aB)))&&(decide (x.Sum=c.Sum))) ?_ ?_
 ·cases aH4:(((!x.gB)&&(decide (x.aC=c.ID)))&&(decide (x.aB=c.aB))) with
  | true=>
   have aDs:=aH4
   try simp only [fq,dX,bN,eH,eG,fP,bO,bV] at aDs
   refine wL g1 2 RH K2 s1 Y<|wL g2 2 IE K2 s0 Y<|bn Y (iA Y Y) Y<|ev (dH Y Y)<|dM Y
  | false=>
   refine dN<|dN<|dN<|dN<|dN<|ev (dL Y Y)<|dM Y
 refine bU Y<|jc Y ?_
 have eO:(((((!x.gB)&&(decide (x.aC=c.ID)))&&(decide (x.aB=c.aB)))&&(decide (x.Sum=c.Sum))):Bool)=(zI x c):=by rfl
 exact⟨by rw [eO] <;> rfl,K2.z⟩
theorem av2(w:World)(x:aI)(c:aH){Bq:Nat}(h_c:Bx w je 59 [aF c.ID,aF c.aB,gK c.Sum,.slice BO c.aD.length Bq])(GZ:Sl dQ S0 w BO Bq c.aD) :
    bS prog 185 #[.agg #[aF x.aC,aF x.aB,gK x.Sum,.bool x.gB,.bool x.Bad],gD je] w λv w'=>v=.bool (zI x c)/\Hp w S0 w' []:=by
 refine kP S0 func185 ntmps185 Y λH0=>rg<|bx Y Y H0 λg1 w1 K1=>bU Y<|rg<|ev (dU oZ Y Y (K1.x s0))<|ev (dU qw Y Y (h_c.ext K1.ext))<|mU K1 Y (akX _ x c (K1.a GZ).any) λw2 K2=>bU Y<|jc Y ?_
 exact⟨Y,(K2.rm s0)⟩
theorem adA(w:World){jk:Nat}{l:List aH}(jo:Sl bJ S0 w jl jk l)(bE:Int)(Cb:Sl bq S0 w EH EI report)(hn:l.length<=100000) :
    bS prog 108 #[.slice jl l.length jk,aF bE,.slice EH report.length EI] w λv w'=>∃(A0:ah)(c0:Nat),v=.slice A0 ((lg l bE report).length) c0/\Hp w S0 w' [aS AY 120 A0 c0 (lg l bE report)]:=by
 refine kP S0 func108 ntmps108 Y λH0=>?_;have hq:=λk=>YK bE report (l.take k)
 simp only [fO] at hq
 refine iZ Y<|aW<|bQ Y<|mU H0 Y (Nq _ (H0.a jo).any aj) λw1 K1=>ev (iB Y)<|mv Y<|iP 3 18 ((!(kR l))||(decide (bE<1))) ?_ ?_
 ·cases Tc:(!(kR l)) with
  | true=>
   refine dN<|dN<|ev (dH Y Y)<|dM Y
  | false=>
   refine bn Y (bf Y) Y<|bn Y (fC Y Y) Y<|ev (dL Y Y)<|dM Y
 refine mv Y<|iP 3 22 (((!(kR l))||(decide (bE<1)))||(decide (16<bE))) ?_ ?_
 ·cases Z9:((!(kR l))||(decide (bE<1))) with
  | true=>
   refine dN<|dN<|ev (dH Y Y)<|dM Y
  | false=>
   have ap1:=Z9
   try simp only [fq,dX,bN,eH,eG,fP,bO,bV] at ap1
   refine bn Y (bf Y) Y<|bn Y (pV Y Y) Y<|ev (dL Y Y)<|dM Y
 refine dn<|bK Y (λhc22=>?_) (λhc22=>?_)
 ·try simp only [fq,dX,bN,eH,eG,fP,bO,bV] at hc22
  refine iZ Y<|uX Y ?_
  have H1:=K1.nil AY 120;have eO:(([]:List fV):List fV)=(lg l bE report):=by unfold lg; rw [aK (by rcases hc22 with (h | h) | h; simp [h]; omega; omega)]
  have H2:=(eO▸H1:Hp w S0 w1 (aS AY 120 none 0 (lg l bE report)::[]));exact⟨none,0,by rw [<- eO] <;> rfl,H2⟩
 try simp only [fq,dX,bN,eH,eG,fP,bO,bV] at hc22
 refine jm ?_;refine iZ Y<|aW<|bQ Y<|ev (eU iN Y)<|mv Y<|dn<|cB ?_
 have H3:=K1.nil AY 120;have fQ:(([]:List fV):List fV)=((l.take 0).flatMap (recC bE report)):=by rfl
 refine lC (t:=7) Y (aR (λz=>Value.slice none (List.length z) 0) fQ) ?_;have H4:=H3.nil AY 120;have H5:=(fQ▸H4:Hp w S0 w1 (aS AY 120 none 0 ((l.take 0).flatMap (recC bE report))::[aS AY 120 none 0 []]));refine Lp (H5.cU 0 2) (λl0 rk mJ lJ wJ=>∃(k:Nat)(A7:ah)(c7:Nat),lJ=(7,.slice A7 (((l.take k).flatMap (recC bE report)).length) c7)::(25,aF ((k:Nat):Int))::l0/\mJ=l.length - k/\k<=l.length/\Hp w S0 wJ (aS AY 120 A7 c7 ((l.take k).flatMap (recC bE report))::rk)) ⟨0,none,0,Y,Y,fJ _,(H5.rm s1)⟩ Y ?_;rintro _ _ w2 ⟨k,A7,c7,rfl,rfl,hk,K2⟩;refine rg<|ev (fC Y Y)<|dn<|pQ Y (λOi=>?_) (λOi=>?_)
 ·refine jm ?_;refine aW<|cB<|rg ?_
  obtain⟨x1,bP⟩:=bC (xs:=l) (i:=k) aj;refine ev (cu (i:=k) iN o9 Y Y Y (aJ bP) ((K2.a jo).some_ bP)) ?_;obtain⟨B1,d1,zP,hi1⟩:=uP (jo.row bP);refine ev (gI (cs:=[aF x1.ID,aF x1.aB,gK x1.Sum,.slice B1 x1.aD.length d1]) qw Y Y (GV (λj u hu=>K2.ext.cell (zP j u hu))))<|al lU Y K2 λg1 w3 K3=>sty Y K3 s0 Y λw4 K4=>dn<|bQ Y<|ev (rW Y)<|mU K4 Y (EB _ (K4.a Cb).any (AX:=[gD g1]) aAk (fun(x:aI)=>zI x x1) (λw' x e hm=>(av2 w' x x1 ((K4.x s0).ext e) ((K4.a hi1).any.ext e)).mono (by rintro _ _ ⟨rfl,fQ⟩; exact⟨rfl,fQ.ext⟩))) λw5 K5=>bU rfl<|rg<|jT g1 3 j5 K5 s0 rfl<|mv rfl<|mU K5 rfl (kJ _ (K5.a hi1).any bE) λw6 K6=>bU rfl<|cB<|bQ rfl<|mv rfl<|iP 3 41 ((report.any (fun(x:aI)=>zI x x1))&&(!(x1.aD.contains bE))) ?_ ?_
  ·cases ayE:report.any (fun(x:aI)=>zI x x1) with
   | true=>
    refine bn Y (bf Y) Y<|bn Y (iB Y) Y<|ev (dH Y Y)<|dM Y
   | false=>
    refine dN<|dN<|ev (dL Y Y)<|dM Y
  refine bU Y<|bK Y (λO8=>?_) (λO8=>?_)
  ·refine jy<|mv Y<|jT g1 0 pq K6 s0 Y<|mv Y<|jT g1 1 tH K6 s0 Y<|ev (iY (vs:=[(2,aF 5),(3,aF x1.ID),(4,aF bE),(5,aF x1.aB)]) (cs:=[aF 0,aF 0,aF 5,aF x1.ID,aF bE,aF x1.aB]) Y (by apply qQ))<|Az (τ:=AY) (x:=(⟨0,0,5,x1.ID,bE,x1.aB⟩:fV)) rfl (by intro _; apply yF) rfl K6 (λ_ _=>rfl) λg2 w7 K7=>ap (ys:=([(⟨0,0,5,x1.ID,bE,x1.aB⟩:fV)]:List fV)) K7 s2 rfl rfl (K7.o s0) Pj ai2 (by have:=hq k; omega) av rfl λoL oM w8 K8=>iI rfl<|jA<|iE (iE (gG ?_))
   refine jy<|ev (dO Y Y)<|mv Y<|jA ?_
   have jW:((((l.take k).flatMap (recC bE report))++([(⟨0,0,5,x1.ID,bE,x1.aB⟩:fV)]:List fV)):List fV)=((l.take (k+1)).flatMap (recC bE report)):=by rw [fD bP,acP,ajw]; unfold recC; first | rw [aO O8] | (rw [aK (by rw [O8]; decide)]; first | rw [aO ajx] | (rw [aK (by rw [ajx]; decide)]; simp))
   refine jq (t:=7) Y (aR (λz=>Value.slice oL (List.length z) oM) jW) ?_;rw [jW] at K8;exact dI ⟨(k+1),oL,oM,Y,Y,aj,(K8.cU 1 2)⟩ rfl aj
  refine bQ Y<|ev (iB Y)<|mv Y<|iP 2 56 ((!(report.any (fun(x:aI)=>zI x x1)))&&(x1.aD.contains bE)) ?_ ?_
  ·cases aNh:(!(report.any (fun(x:aI)=>zI x x1))) with
   | true=>
    refine bn Y (bf Y) Y<|ev (dH Y Y)<|dM Y
   | false=>
    refine dN<|ev (dL Y Y)<|dM Y
  refine bU Y<|bK Y (λajx=>?_) (λajx=>?_)
  ·refine jy<|mv Y<|jT g1 0 pq K6 s0 Y<|mv Y<|ev (iY (vs:=[(2,aF 6),(3,aF x1.ID),(4,aF bE)]) (cs:=[aF 0,aF 0,aF 6,aF x1.ID,aF bE,aF 0]) Y (by apply yE))<|Az (τ:=AY) (x:=(⟨0,0,6,x1.ID,bE,0⟩:fV)) rfl (by intro _; apply yF) rfl K6 (λ_ _=>rfl) λg3 w9 K9=>ap (ys:=([(⟨0,0,6,x1.ID,bE,0⟩:fV)]:List fV)) K9 s2 rfl rfl (K9.o s0) Pj ai2 (by have:=hq k; omega) av rfl λVs cp2 Oz K10=>iI rfl<|jA<|iE (iE (gG ?_))
   refine jy<|ev (dO Y Y)<|mv Y<|jA ?_
   have mH:((((l.take k).flatMap (recC bE report))++([(⟨0,0,6,x1.ID,bE,0⟩:fV)]:List fV)):List fV)=((l.take (k+1)).flatMap (recC bE report)):=by rw [fD bP,acP,ajw]; unfold recC; first | rw [aO O8] | (rw [aK (by rw [O8]; decide)]; first | rw [aO ajx] | (rw [aK (by rw [ajx]; decide)]; simp))
   refine jq (t:=7) Y (aR (λz=>Value.slice Vs (List.length z) cp2) mH) ?_;rw [mH] at K10;exact dI ⟨(k+1),Vs,cp2,Y,Y,aj,(K10.cU 1 2)⟩ rfl aj
  refine ze (iE (iE (gG ?_)));refine jy<|ev (dO Y Y)<|mv Y<|jA ?_
  have rR:(((l.take k).flatMap (recC bE report)):List fV)=((l.take (k+1)).flatMap (recC bE report)):=by rw [fD bP,acP,ajw]; unfold recC; first | rw [aO O8] | (rw [aK (by rw [O8]; decide)]; first | rw [aO ajx] | (rw [aK (by rw [ajx]; decide)]; simp))
  refine jq (t:=7) Y (aR (λz=>Value.slice A7 (List.length z) c7) rR) ?_;rw [rR] at K6;exact dI ⟨(k+1),A7,c7,Y,Y,aj,(K6.rm s0)⟩ rfl aj
 refine wE ?_;refine bQ Y<|bU Y<|jc Y ?_
 have wM:(((l.take k).flatMap (recC bE report)):List fV)=(lg l bE report):=by unfold lg; rw [aO ⟨by first | exact hc22.1.1 | simp_all,aj,aj⟩,iH aj]
 rw [wM] at K2;exact⟨A7,c7,by rw [wM] <;> rfl,K2⟩
def sS(l:List aH)(x:aI):Bool:=!x.gB&&!(gY l x.aC&&zI x (aU l x.aC))
def YL(l:List aH)(report:List aI):List Int:=(report.filter (sS l)).map aI.aC
def nM(l:List aH)(report:List aI):List Int:=if kR l=true then Lib.compact ((YL l report).mergeSort fun(x y:Int)=>decide (x<=y)) else[]
theorem arZ(w:World){jk:Nat}{l:List aH}(jo:Sl bJ S0 w jl jk l)(Cb:Sl bq S0 w EH EI report)(hn:l.length<=100000)(hh:∀ x∈l,x.aD.length<=100000)(hr:report.length<=100000) :
    bS prog 110 #[.slice jl l.length jk,.slice EH report.length EI] w λv w'=>∃(A0:ah)(c0:Nat),v=.slice A0 ((nM l report).length) c0/\Hp w S0 w' [aS dQ 3 A0 c0 (nM l report)]:=by
 refine kP S0 func110 ntmps110 Y λH0=>?_;have hq:=λk=>mR (sS l) (report.take k)
 simp only [fO] at hq
 refine iZ Y<|aW<|bQ Y<|mU H0 Y (Nq _ (H0.a jo).any aj) λw1 K1=>ev (iB Y)<|dn<|bK Y (λoN=>?_) (λoN=>?_)
 ·try simp only [fq,dX,bN,eH,eG,fP,bO,bV] at oN
  refine iZ Y<|uX Y ?_
  have H1:=K1.nil dQ 3;have eO:(([]:List Int):List Int)=(nM l report):=by unfold nM; rw [aK (by simp_all)]
  have H2:=(eO▸H1:Hp w S0 w1 (aS dQ 3 none 0 (nM l report)::[]));exact⟨none,0,by rw [<- eO] <;> rfl,H2⟩
 try simp only [fq,dX,bN,eH,eG,fP,bO,bV] at oN
 refine jm ?_;refine iZ Y<|aW<|bQ Y<|ev (eU jK Y)<|mv Y<|dn<|cB ?_
 have H3:=K1.nil dQ 3;have fQ:(([]:List Int):List Int)=(((report.take 0).filter (sS l)).map aI.aC):=by rfl
 refine lC (t:=5) Y (aR (λz=>Value.slice none (List.length z) 0) fQ) ?_;have H4:=H3.nil dQ 3;have H5:=(fQ▸H4:Hp w S0 w1 (aS dQ 3 none 0 (((report.take 0).filter (sS l)).map aI.aC)::[aS dQ 3 none 0 []]));refine Lp (H5.cU 0 2) (λl0 rk mJ lJ wJ=>∃(k:Nat)(A5:ah)(c5:Nat),lJ=(5,.slice A5 ((((report.take k).filter (sS l)).map aI.aC).length) c5)::(15,aF ((k:Nat):Int))::l0/\mJ=report.length - k/\k<=report.length/\Hp w S0 wJ (aS dQ 3 A5 c5 (((report.take k).filter (sS l)).map aI.aC)::rk)) ⟨0,none,0,Y,Y,fJ _,(H5.rm s1)⟩ Y ?_;rintro _ _ w2 ⟨k,A5,c5,rfl,rfl,hk,K2⟩;refine rg<|ev (fC Y Y)<|dn<|pQ Y (λhc16=>?_) (λhc16=>?_)
 ·refine jm ?_;refine aW<|cB<|rg ?_
  obtain⟨x1,bP⟩:=bC (xs:=report) (i:=k) aj;refine ev (cu (i:=k) jK mG Y Y Y (aJ bP) ((K2.a Cb).some_ bP))<|ev (gI oZ Y Y ((K2.a Cb).fE bP))<|al yj Y K2 λg1 w3 K3=>sty Y K3 s0 Y λw4 K4=>dn<|bQ Y<|jT g1 0 mM K4 s0 Y<|gX Y (find_ok _ (K4.a jo) x1.aC aj hh) ?_
  rintro _ w5 ⟨Gv,Gw,rfl,h5⟩;have K5:=K4.c1 h5;refine mv Y<|xt Y Y<|xt Y Y<|al lU Y K5 λg2 w6 K6=>sty Y K6 s0 Y λw7 K7=>bU Y<|rg<|jT g1 3 uo K7 s2 Y<|ev (iB Y)<|mv Y<|oG 8 37 ((!x1.gB)&&(!((gY l x1.aC)&&(zI x1 (aU l x1.aC))))) ?_ ?_
  ·cases aNi:(!x1.gB) with
   | true=>
    refine bn Y (bf Y) Y<|bn Y (bf Y) Y<|oG 4 35 ((gY l x1.aC)&&(zI x1 (aU l x1.aC))) ?_ ?_
    ·cases aNj:gY l x1.aC with
     | true=>
      refine bn Y (dU oZ Y Y (K7.x s2)) Y<|bn Y (dU qw Y Y (K7.x s0)) Y<|oh Y Y Y Y aAj (akX _ x1 (aU l x1.aC) (K7.s s1).any) Y ?_
      rintro _ w8 ⟨rfl,h8⟩;refine bn Y (dH Y Y) Y<|jh Y h8.ext
     | false=>
      refine dN<|dN<|dN<|bn Y (dL Y Y) Y<|jh Y (pI _)
    intro w9 e9;refine bn Y (iB Y) Y<|ev (dH Y Y)<|jh Y e9
   | false=>
    refine dN<|dN<|dN<|dN<|dN<|dN<|dN<|ev (dL Y Y)<|jh Y (pI _)
  intro Oz e10;have K10:=K7.grow e10;refine dn<|bK Y (λaji=>?_) (λaji=>?_)
  ·refine jy<|mv Y<|jT g1 0 mM K10 s2 Y<|Az (τ:=dQ) (x:=x1.aC) Y (by intro _; apply pW) rfl K10 (λ_ _=>rfl) λg3 Ti tZ=>ap (ys:=([x1.aC]:List Int)) tZ s4 rfl rfl (tZ.o s0) fB Lh (by have:=hq k; simp only [jY]; omega) av rfl λoL oM Sm sJ=>iI rfl<|jA<|iE (gG ?_)
   refine jy<|ev (dO Y Y)<|mv Y<|jA ?_
   have jW:(((((report.take k).filter (sS l)).map aI.aC)++([x1.aC]:List Int)):List Int)=(((report.take (k+1)).filter (sS l)).map aI.aC):=by rw [lX bP,show sS l x1=_ from aji]; simp
   refine jq (t:=5) Y (aR (λz=>Value.slice oL (List.length z) oM) jW) ?_;rw [jW] at sJ;exact dI ⟨(k+1),oL,oM,Y,Y,aj,(sJ.cU 1 4)⟩ rfl aj
  refine xQ ?_;refine jy<|ev (dO Y Y)<|mv Y<|jA ?_
  have mH:((((report.take k).filter (sS l)).map aI.aC):List Int)=(((report.take (k+1)).filter (sS l)).map aI.aC):=by rw [lX bP,show sS l x1=_ from aji]; simp
  refine jq (t:=5) Y (aR (λz=>Value.slice A5 (List.length z) c5) mH) ?_;rw [mH] at K10;exact dI ⟨(k+1),A5,c5,Y,Y,aj,(K10.cU 0 3)⟩ rfl aj
 refine wE ?_;refine bQ Y<|gX Y (sorti Tryz.lays189 (K2.sel s0) (by have:=hq k; simp only [jY]; omega)) ?_
 rintro _ Xu ⟨rfl,wz⟩;have hl1:((((report.take k).filter (sS l)).map aI.aC).mergeSort fun(x y:Int)=>decide (x<=y)).length=(((report.take k).filter (sS l)).map aI.aC).length:=KW _;refine fU (t:=5) (u:=.slice A5 ((((report.take k).filter (sS l)).map aI.aC).length) c5) (v:=.slice A5 (((((report.take k).filter (sS l)).map aI.aC).mergeSort fun(x y:Int)=>decide (x<=y)).length) c5) Y (by rw [hl1])<|fU (t:=44) (u:=.slice A5 ((((report.take k).filter (sS l)).map aI.aC).length) c5) (v:=.slice A5 (((((report.take k).filter (sS l)).map aI.aC).mergeSort fun(x y:Int)=>decide (x<=y)).length) c5) rfl (by rw [hl1])<|dn<|bQ rfl<|gX rfl (aBK Tryz.laysNm220 (wz.sel s0) (by rw [KW]; have:=hq k; simp only [jY]; omega)) ?_
 rintro _ Z0 ⟨rfl,wB⟩;refine bU Y<|jc Y ?_
 have rR:((Lib.compact ((((report.take k).filter (sS l)).map aI.aC).mergeSort fun(x y:Int)=>decide (x<=y))):List Int)=(nM l report):=by unfold nM YL; rw [aO (by simpa using oN),iH (show report.length<=k by omega)]
 rw [rR] at wB;exact⟨A5,c5,by rw [rR] <;> rfl,wB⟩
structure lZ where
  gh:Nat
  gs:Nat
  gm:Nat
  A:Option Addr
  c:Nat
  up:Bool
  bM:Int
  l:List aI
  es:oF
abbrev kK:=List (Int × lZ)
abbrev ekZ(z:Int):Value:=.int .i64 z
abbrev evH(g:Nat):Value:=.pointer (some ⟨g,0,none⟩)
theorem EJ:MN prog 3 ekZ:=avN ak
def wW(h:lZ):List lH:=[dY h.gh 95 [.pointer (some ⟨h.gs,0,none⟩),.bool h.up],dY h.gs 169 [.int .i64 h.bM,.slice h.A h.l.length h.c,.map (some h.gm)],dP bq h.A h.c h.l,qH wG vK h.gm h.es,fZ gV 5 (h.es.map Prod.snd)]
def uI(hs:kK):List (Int × Nat):=hs.map λp=>(p.1,p.2.gh)
def rHk(g:Nat)(ks:List (Int × Nat))(hs:kK):lH:=aak (qH ekZ evH g ks::hs.flatMap λp=>wW p.2)
abbrev jP(g:Nat)(hs:kK):lH:=rHk g (uI hs) hs
section
variable {b w:World}{S:Nat->Prop}{rs rest:List lH}{g:Nat}{ks:List (Int × Nat)}{hs:kK}{z:Int}{h:lZ}
theorem Hp.agT(H:Hp b S w rs)(s:pE rs (rHk g ks hs) rest):Hp b S w (qH ekZ evH g ks::((hs.flatMap λp=>wW p.2)++rest)):=(H.sel s).allOut
theorem Hp.akZ(H:Hp b S w rs)(s:pE rs (rHk g ks hs) rest):(ks.map Prod.fst).Nodup:=((H.agT s).mp .h).1
theorem Ie(hs:kK):(uI hs).map Prod.fst=hs.map Prod.fst:=by unfold uI; rw [Gz]; rfl
theorem Hp.aH5(H:Hp b S w rs)(s:pE rs (jP g hs) rest):(hs.map Prod.fst).Nodup:=Ie hs▸H.akZ s
theorem Ug(z:Int)(hs:kK):fI z (uI hs)=(fI z hs).map lZ.gh:=RI lZ.gh z hs
theorem Ev.hN{n:Cx}{l:List (Nat × Value)}{m:Operand}(H:Hp b S w rs)(s:pE rs (jP g hs) rest)(hg:fI z hs=none)(hk:MN prog kt ekZ)(hm:prog.underlying t=some (.map kt et))(hz:∀ w,(zeroValue et).run prog w=.ok (.pointer none) w)(hx:iG l m=some (.map (some g)))(hkey:iG l ky=some (ekZ z)) :
    Ev prog n l w (.lookup t m ky false) (.pointer none):=by
  have h1:=Ev.arB (H.agT s) .h hk hm hz hx hkey (n:=n);rw [Ug,hg] at h1; exact h1
theorem Ev.hS{gh gs gm:Nat}{A:ah}{c:Nat}{up:Bool}{bM:Int}{l':List aI}{es:oF}{n:Cx}{l:List (Nat × Value)}{m:Operand}(H:Hp b S w rs)(s:pE rs (jP g hs) rest)(hg:fI z hs=some ⟨gh,gs,gm,A,c,up,bM,l',es⟩)(hk:MN prog kt ekZ)(hm:prog.underlying t=some (.map kt et))(hz:∀ w,(zeroValue et).run prog w=.ok (.pointer none) w)(hx:iG l m=some (.map (some g)))(hkey:iG l ky=some (ekZ z)) :
    Ev prog n l w (.lookup t m ky false) (gD gh):=by
  have h1:=Ev.arB (H.agT s) .h hk hm hz hx hkey (n:=n);rw [Ug,hg] at h1; exact h1
theorem adC(hn:(hs.map Prod.fst).Nodup)(hg:fI z hs=some h):(hs.flatMap λp=>wW p.2).Perm (wW h++(oC z hs).flatMap λp=>wW p.2):=(anB hn hg).flatMap_right _
theorem Hp.ax0(H:Hp b S w rs)(s:pE rs (jP g hs) rest)(hg:fI z hs=some h):Hp b S w (dY h.gh 95 [gD h.gs,.bool h.up]::dY h.gs 169 [aF h.bM,.slice h.A h.l.length h.c,.map (some h.gm)]::dP bq h.A h.c h.l::qH wG vK h.gm h.es::fZ gV 5 (h.es.map Prod.snd)::rHk g (uI hs) (oC z hs)::rest):=by
  have hn:=H.aH5 s;have H1:=H.agT s
  have H2:Hp b S w (wW h++((qH ekZ evH g (uI hs)::(oC z hs).flatMap λp=>wW p.2)++rest)):=H1.perm (by
    refine(((adC hn hg).append_right rest).cons _).trans ?_;rw [oV]
    exact Gt.symm)
  have H3:=uN (F:=wW h) H2;rw [oV] at H3
  exact(GA H3).perm (by
    refine((zK (l₁:=rest) (l₂:=wW h)).cons _).trans<|Gt.symm)
theorem Hp.wO{gh gs gm:Nat}{A:ah}{c:Nat}{up:Bool}{bM:Int}{l:List aI}{es:oF}(H:Hp b S w rs)(s:pE rs (jP g hs) rest)(hg:fI z hs=some ⟨gh,gs,gm,A,c,up,bM,l,es⟩) :
    Hp b S w (dY gh 95 [gD gs,.bool up]::dY gs 169 [aF bM,.slice A l.length c,.map (some gm)]::dP bq A c l::qH wG vK gm es::fZ gV 5 (es.map Prod.snd)::rHk g (uI hs) (oC z hs)::rest):=H.ax0 s hg
theorem Hp.EK(H:Hp b S w rs)(s:pE rs (jP g hs) rest)(hg:fI z hs=some h):Bx w h.gh 95 [gD h.gs,.bool h.up]:=(H.ax0 s hg).x s0
theorem Hp.aAl{gs gm:Nat}{A:ah}{c:Nat}{up:Bool}{bM:Int}{l:List aI}{es:oF}(hg:fI z hs=some h)(H:Hp b S w (dY h.gh 95 [gD gs,.bool up]::dY gs 169 [aF bM,.slice A l.length c,.map (some gm)]::dP bq A c l::qH wG vK gm es::fZ gV 5 (es.map Prod.snd)::rHk g (uI hs) (oC z hs)::rest)) :
    Hp b S w (jP g (iy z ⟨h.gh,gs,gm,A,c,up,bM,l,es⟩ hs)::rest):=by
  have hn:(hs.map Prod.fst).Nodup:=Ie hs▸H.akZ (.t (.t (.t (.t (.t .h)))));obtain⟨h',hh'⟩:∃ h':lZ,h'=⟨h.gh,gs,gm,A,c,up,bM,l,es⟩:=⟨_,rfl⟩;have hgh:h'.gh=h.gh:=by rw [hh']
  have H1:Hp b S w (wW h'++(rHk g (uI hs) (oC z hs)::rest)):=by rw [hh']; exact H
  rw [<- hh'];have hput:=agJ (v':=h') (k:=z) hn;have hn2:((iy z h' hs).map Prod.fst).Nodup:=MO hn
  have hkeys:uI (iy z h' hs)=uI hs:=by
    unfold uI;rw [RJ lZ.gh z h' hs];have h2:=Ug z hs;rw [hg] at h2;obtain⟨j,hj⟩:=zw (show fI z (uI hs)=some h.gh from h2);rw [hgh];show iy z h.gh (uI hs)=_;rw [HY (by rw [Ie]; exact hn) hj];exact Ue hj
  have H2:Hp b S w (rHk g (uI hs) (oC z hs)::(wW h'++rest)):=H1.perm Gt;have H3:=H2.allOut;have hp:=adC hn2 hput;rw [agI hg] at hp
  have H4:Hp b S w ((qH ekZ evH g (uI (iy z h' hs))::(iy z h' hs).flatMap λp=>wW p.2)++rest):=by
    rw [hkeys];refine H3.perm ?_;show(qH ekZ evH g (uI hs)::(((oC z hs).flatMap λp=>wW p.2)++(wW h'++rest))).Perm (qH ekZ evH g (uI hs)::(((iy z h' hs).flatMap λp=>wW p.2)++rest));refine List.Perm.cons _ ?_;rw [<- oV];exact(zK.trans hp.symm).append_right rest
  exact H4.allIn
def JC:=@Hp.aAl
theorem anJ{κ ν:Type}[DecidableEq κ]{k:κ}{v:ν}{es:List (κ × ν)}(hn:(es.map Prod.fst).Nodup)(h:fI k es=some v):iy k v es=es:=by
  obtain⟨j,hj⟩:=zw h;rw [HY hn hj]; exact Ue hj
theorem Hp.ar0{gh gs gm:Nat}{A:ah}{c:Nat}{up:Bool}{bM:Int}{l:List aI}{es:oF}(hg:fI z hs=some ⟨gh,gs,gm,A,c,up,bM,l,es⟩)(H:Hp b S w (dY gh 95 [gD gs,.bool up]::dY gs 169 [aF bM,.slice A l.length c,.map (some gm)]::dP bq A c l::qH wG vK gm es::fZ gV 5 (es.map Prod.snd)::rHk g (uI hs) (oC z hs)::rest)) :
    Hp b S w (jP g hs::rest):=by
  have hn:(hs.map Prod.fst).Nodup:=Ie hs▸H.akZ (.t (.t (.t (.t (.t .h)))));have H1:=JC hg H;rw [anJ hn hg] at H1; exact H1
def YM:=@Hp.ar0
theorem Hp.aAm(H:Hp b S w (qH ekZ evH g ([]:List (Int × Nat))::rest)):Hp b S w (jP g []::rest):=GA (L:=[qH ekZ evH g []]) H
theorem aH6{Q:Exit->Act->World->Prop}{K:Act->World->Prop}{dh:Array Oper}{os:List Oper}{n:Cx}{l:List (Nat × Value)}{ty:TypeId}{pos:String}{mI:Array Go.Edge}{m vy:Operand}{v:Nat}(H:Hp b S w rs)(s:pE rs (rHk g ks hs) rest)(hk:MN prog kt ekZ)(hm:prog.underlying t=some (.map kt et))(hx:iG l m=some (.map (some g)))(hkey:iG l ky=some (ekZ z))(hv:iG l vy=some (evH v))
    (k:∀ w',Hp b S w' (rHk g (iy z v ks) hs::rest)->WL prog n dh Q K os l w'):WL prog n dh Q K (⟨none,.mapUpdate t m ky vy,ty,pos,mI,none⟩::os) l w:=
  az3 (z:=z) (v:=v) (H.agT s) .h hk hm hx hkey hv λw' H'=>k w' (GA (L:=qH ekZ evH g (iy z v ks)::hs.flatMap λp=>wW p.2) H')
theorem Hp.gZ{L L':List lH}(h:L'.Sublist L):∀ {rs:List lH},Hp b S w (L++rs)->Hp b S w (L'++rs):=by
  induction h with
  | slnil=>exact λH=>H
  | cons a _ ih=>exact λH=>ih (H.rm s0)
  | cons_cons a h ih=>
    intro rs H
    rename_i l1 l2
    have H1:Hp b S w (l2++(a::rs)):=H.perm Gt.symm;exact(ih H1).perm Gt
theorem ak0{κ ν β:Type}[DecidableEq κ](f:κ × ν->List β)(k:κ):∀ es:List (κ × ν),((oC k es).flatMap f).Sublist (es.flatMap f)
  | []=>List.Sublist.refl _
  | p::es=>by
    have ih:=ak0 f k es;unfold oC at ih ⊢;rw [Iz,List.flatMap_cons]
    split
    · rw [List.flatMap_cons]; exact ih.append_left _
    · exact ih.trans (List.sublist_append_right _ _)
theorem Hp.av3(H:Hp b S w (dY h.gh 95 [gD h.gs,.bool h.up]::dY h.gs 169 [aF h.bM,.slice h.A h.l.length h.c,.map (some h.gm)]::dP bq h.A h.c h.l::qH wG vK h.gm h.es::fZ gV 5 (h.es.map Prod.snd)::rHk g (iy z h.gh (uI hs)) hs::rest)):Hp b S w (jP g (iy z h hs)::rest):=by
  have hk:uI (iy z h hs)=iy z h.gh (uI hs):=RJ lZ.gh z h hs;have hn1:=H.akZ (.t (.t (.t (.t (.t .h)))));rw [<- hk,Ie] at hn1;have hn:=YA hn1;have H1:Hp b S w (wW h++(rHk g (iy z h.gh (uI hs)) hs::rest)):=H;rw [<- hk] at H1;have H2:Hp b S w (rHk g (uI (iy z h hs)) hs::(wW h++rest)):=H1.perm Gt;have H3:Hp b S w ((hs.flatMap λp=>wW p.2)++(qH ekZ evH g (uI (iy z h hs))::(wW h++rest))):=H2.allOut.perm Gt.symm;have H4:=Hp.gZ (L':=(oC z hs).flatMap λp=>wW p.2) (ak0 _ z hs) H3;have hp:=adC hn1 (agJ (v':=h) (k:=z) hn)
  have hd:oC z (iy z h hs)=oC z hs:=by
    cases hg:fI z hs with
    | some h0=>exact agI hg
    | none=>
      unfold iy oC; rw [hg,aK av,vX]; simp
  rw [hd] at hp
  have H5:Hp b S w ((qH ekZ evH g (uI (iy z h hs))::(iy z h hs).flatMap λp=>wW p.2)++rest):=by
    refine H4.perm<|Gt.trans<|List.Perm.cons _ ?_
    rw [<- oV];exact(zK.trans hp.symm).append_right rest
  exact H5.allIn
end
structure AItem where
  Kind:Int
  A:Int
  B:Int
  C:Int
  deriving DecidableEq
def AItem.enc(x:AItem):List Value:=[.int .i64 x.Kind,.int .i64 x.A,.int .i64 x.B,.int .i64 x.C]
theorem AItem.lF(x:AItem):∀ u∈x.enc,u.oneCell'=true:=by
  intro u hu
  simp only [AItem.enc,iX,lM,sN] at hu
  rcases hu with rfl | rfl | rfl | rfl <;> rfl
def AItem.wf(x:AItem):Prop:=qm x.Kind/\qm x.A/\qm x.B/\qm x.C
def tItem:Ty AItem:=Ty.flat 4 AItem.enc au (λ_=>rfl) AItem.lF
instance:Flat tItem:=⟨λh=>h⟩
structure rG where
  up:Bool
  bM:Int
  l:List aI
  d:List (bZ × List (BitVec 8))
abbrev qR:=List (bZ × List (BitVec 8))
abbrev lq:=List (Int × rG)
def MR(es:oF):qR:=es.map λp=>(p.1,p.2.2.2)
def lZ.pl(h:lZ):rG:=⟨h.up,h.bM,h.l,MR h.es⟩
def kH(hs:kK):lq:=hs.map λp=>(p.1,p.2.pl)
theorem jI(z:Int)(hs:kK):fI z (kH hs)=(fI z hs).map lZ.pl:=RI lZ.pl z hs
theorem Aj(z:Int)(h:lZ)(hs:kK):kH (iy z h hs)=iy z h.pl (kH hs):=RJ lZ.pl z h hs
def sU(k:bZ)(d:qR):List (BitVec 8):=(fI k d).getD []
theorem NS(k:bZ)(es:oF):sU k (MR es)=(gL k es).2.2:=by
  unfold sU gL MR;rw [RI (fun(x:Option Addr × Nat × List (BitVec 8))=>x.2.2)]
  cases fI k es <;> rfl
theorem adD(k:bZ)(v:Option Addr × Nat × List (BitVec 8))(es:oF):MR (iy k v es)=iy k v.2.2 (MR es):=RJ (fun(x:Option Addr × Nat × List (BitVec 8))=>x.2.2) k v es
theorem adE(k:bZ)(es:oF):MR (oC k es)=oC k (MR es):=arN (fun(x:Option Addr × Nat × List (BitVec 8))=>x.2.2) k es
def anK(l:List aI)(bM c v sum:Int)(fG:List (BitVec 8))(d:qR):qR:=if rF l bM c v sum fG=0 then iy ⟨c,true⟩ fG d else d
theorem ar1(l:List aI)(bM c v sum:Int)(fG:List (BitVec 8))(B:ah)(n:Nat)(es:oF):MR (Ib l bM c v sum fG B n es)=anK l bM c v sum fG (MR es):=by
  unfold Ib anK rF
  by_cases h1:64<fG.length
  · simp [h1]
  · by_cases h2:((iM fG).toNat:Int)=sum
    · by_cases h3:(kN l ⟨c,v,sum,false,false⟩ bM).2=0
      · simp [h1,h2,h3,adD]
      · simp [h1,h2,h3]
    · simp [h1,h2]
def av4(l:List aI)(c v:Int)(d:qR):qR:=if(mF l c v).2=0 then oC ⟨c,true⟩ (iy ⟨c,false⟩ (sU ⟨c,true⟩ d) d) else d
theorem aAn(l:List aI)(c v:Int)(es:oF):MR (Vk l c v es)=av4 l c v (MR es):=by
  unfold Vk av4; split
  · rw [adE,adD,NS]
  · rfl
def aan(l:List aI)(c:Int)(d:qR):qR:=if(pz l c).2=0 then oC ⟨c,false⟩ d else d
theorem ar2(l:List aI)(c:Int)(es:oF):MR (PI l c es)=aan l c (MR es):=by
  unfold PI aan; split
  · rw [adE]
  · rfl
def Sn(l:List aI)(bM c v sum:Int)(fG:List (BitVec 8)):Bool:=decide (rF l bM c v sum fG=0)&&decide ((mF (Af l bM c v sum fG) c v).2=0)
def Ig(l:List aI)(bM c v sum:Int)(fG:List (BitVec 8)):List aI:=if rF l bM c v sum fG=0 then Uf (Af l bM c v sum fG) c v else Af l bM c v sum fG
def tkM(l:List aI)(bM c v sum:Int)(fG:List (BitVec 8))(B:ah)(n:Nat)(es:oF):oF:=if rF l bM c v sum fG=0 then Vk (Af l bM c v sum fG) c v (Ib l bM c v sum fG B n es) else Ib l bM c v sum fG B n es
def tkD(l:List aI)(bM c v sum:Int)(fG:List (BitVec 8))(d:qR):qR:=if rF l bM c v sum fG=0 then av4 (Af l bM c v sum fG) c v (anK l bM c v sum fG d) else anK l bM c v sum fG d
theorem ak1(l:List aI)(bM c v sum:Int)(fG:List (BitVec 8))(B:ah)(n:Nat)(es:oF):MR (tkM l bM c v sum fG B n es)=tkD l bM c v sum fG (MR es):=by
  unfold tkM tkD; split
  · rw [aAn,ar1]
  · rw [ar1]
def UZ(l:List aI)(d:qR):List (aI × Bool):=(eY l).map λx=>(x,!decide (((iM (sU (⟨x.aC,false⟩:bZ) d)).toNat:Int)=x.Sum))
theorem ak2(l:List aI)(es:oF):UZ l (MR es)=yw l es:=by
  unfold UZ yw UW;refine Uc λx _=>?_;rw [NS]
def uq(l:List aI)(d:qR)(c:Int):List (BitVec 8) × Int × Int:=match (UZ l d).find? (fun(p:aI × Bool)=>decide (p.1.aC=c)) with
  | none=>([],0,5)
  | some p=>if p.2=true then([],0,4) else(sU (⟨c,false⟩:bZ) d,p.1.aB,0)
theorem agU(l:List aI)(es:oF)(c:Int):uq l (MR es) c=o7 l es c:=by
  unfold uq o7; rw [ak2,NS]; rfl
def aao(c bit:Int)(d:qR):qR:=if(sU ⟨c,false⟩ d).length=0 then d else iy ⟨c,false⟩ (avU (sU ⟨c,false⟩ d) (vv bit (sU ⟨c,false⟩ d).length)) d
theorem aAo(c bit:Int)(es:oF):MR (RG c bit es)=aao c bit (MR es):=by
  unfold RG aao; rw [NS]; split
  · rfl
  · rw [adD]
def abl(s:List aI × qR)(x:aI):List aI × qR:=if x.gB=true then(EA s.1 x.aC,oC ⟨x.aC,true⟩ s.2) else s
def aap(l:List aI)(d:qR):List aI × qR:=l.foldl abl (l,d)
theorem aAp(l:List aI)(es:oF):aap l (MR es)=((qP l es l.length).1,MR (qP l es l.length).2):=by
  unfold aap qP;rw [Wp]
  suffices h:∀(q:List aI)(s:List aI × oF),q.foldl abl (s.1,MR s.2)=((q.foldl agF s).1,MR (q.foldl agF s).2) from h l (l,es)
  intro q
  induction q with
  | nil=>intro s; rfl
  | cons x q ih=>
    intro s;rw [sK,sK,<- ih]
    congr 1
    unfold abl agF; split
    · simp only; rw [adE]
    · rfl
def abm(s:List aI × qR)(c:Int):List aI × qR:=(CP s.1 c,aan s.1 c s.2)
def aaq(l:List aI)(d:qR):List aI × qR:=(uV (UZ l d)).foldl abm (l,d)
theorem aAq(l:List aI)(es:oF):aaq l (MR es)=((uz l es (EG l es).length).1,MR (uz l es (EG l es).length).2):=by
  unfold aaq uz;rw [Wp,ak2];show(EG l es).foldl abm _=_
  suffices h:∀(q:List Int)(s:List aI × oF),q.foldl abm (s.1,MR s.2)=((q.foldl avY s).1,MR (q.foldl avY s).2) from h _ (l,es)
  intro q
  induction q with
  | nil=>intro s; rfl
  | cons x q ih=>
    intro s;rw [sK,sK,<- ih]
    congr 1
    unfold abm avY; rw [ar2]
structure PC where
  m:dF
  s:iF
  r:ARules
  aN:Int
  eD:List aM
  hs:lq
def PO(hs:lq)(z:Int):Bool:=match fI z hs with | some h=>h.up | none=>false
def KF(hs:lq)(z:Int):List aI:=match fI z hs with | some h=>eY h.l | none=>[]
def knE(m:dF)(x:fV):Int:=if(dD m x).2<0 then -(dD m x).2 else 0
def uD(m:dF)(x:fV):dF:=if(dD m x).2<0 then m else(dD m x).1
def AP(m:dF)(l:List fV):dF:=l.foldl uD m
def Ih(s:iF)(aN c n:Int):Bool:=(dS s aN).bL.any fun(o:aM)=>decide (o.aC=c)&&decide (o.To=n)
abbrev y7(c n v:Int):fV:=⟨0,0,5,c,n,v⟩
def KG(s:iF)(aN bE:Int)(m:dF)(x:fV):dF:=if(!decide (x.Kind=5)||!Ih s aN x.A bE)=true then uD m x else m
def mW(s:iF)(aN bE:Int)(m:dF)(l:List fV):dF:=l.foldl (KG s aN bE) m
def zJ(l:List aI)(st:List Int)(bE till:Int):List aM:=(l.filter fun(x:aI)=>st.contains x.aC).map fun(x:aI)=>⟨1,x.aC,x.aB,x.Sum,bE,bE,till⟩
def l5(c:PC)(o:aM):PC:=
  match fI o.jM c.hs with
  | none=>c
  | some f=>if(!f.up||Ih c.s c.aN o.aC o.To)=true then c else
    if ¬ ((uq f.l f.d o.aC).2.2=0/\(uq f.l f.d o.aC).2.1=o.aB/\((iM (uq f.l f.d o.aC).1).toNat:Int)=o.Sum) then c else
    match fI o.To c.hs with
    | none=>c
    | some t=>if Sn t.l t.bM o.aC (uq f.l f.d o.aC).2.1 o.Sum (uq f.l f.d o.aC).1=false then { c with hs:=iy o.To ⟨t.up,t.bM,Ig t.l t.bM o.aC (uq f.l f.d o.aC).2.1 o.Sum (uq f.l f.d o.aC).1,tkD t.l t.bM o.aC (uq f.l f.d o.aC).2.1 o.Sum (uq f.l f.d o.aC).1 t.d⟩ c.hs } else
      { c with m:=uD c.m (y7 o.aC o.To (uq f.l f.d o.aC).2.1),s:=⟨c.s.eF,if MQ c.s.bY o.aC o.To=0 then Ai c.s.bY o.aC o.To else c.s.bY,c.s.bL⟩,hs:=iy o.To ⟨t.up,t.bM,Ig t.l t.bM o.aC (uq f.l f.d o.aC).2.1 o.Sum (uq f.l f.d o.aC).1,tkD t.l t.bM o.aC (uq f.l f.d o.aC).2.1 o.Sum (uq f.l f.d o.aC).1 t.d⟩ c.hs }
theorem RP{c:PC}(h:fI o.jM c.hs=none):l5 c o=c:=by unfold l5; rw [h]
theorem Ii{c:PC}{f:rG}(h:fI o.jM c.hs=some f)(hb:(!f.up||Ih c.s c.aN o.aC o.To)=true):l5 c o=c:=by unfold l5; rw [h]; simp only [hb,if_true]
theorem VQ{c:PC}{f:rG}(h:fI o.jM c.hs=some f)(hr:¬ ((uq f.l f.d o.aC).2.2=0/\(uq f.l f.d o.aC).2.1=o.aB/\((iM (uq f.l f.d o.aC).1).toNat:Int)=o.Sum)):l5 c o=c:=by
  by_cases hb:(!f.up||Ih c.s c.aN o.aC o.To)=true
  · exact Ii h hb
  · unfold l5; rw [h]; simp only; rw [aK hb,aO hr]
theorem RQ{c:PC}{f t:rG}(h:fI o.jM c.hs=some f)(hb:(!f.up||Ih c.s c.aN o.aC o.To)=false)(hr:(uq f.l f.d o.aC).2.2=0/\(uq f.l f.d o.aC).2.1=o.aB/\((iM (uq f.l f.d o.aC).1).toNat:Int)=o.Sum)(ht:fI o.To c.hs=some t)(hk:Sn t.l t.bM o.aC (uq f.l f.d o.aC).2.1 o.Sum (uq f.l f.d o.aC).1=false) :
    l5 c o={ c with hs:=iy o.To ⟨t.up,t.bM,Ig t.l t.bM o.aC (uq f.l f.d o.aC).2.1 o.Sum (uq f.l f.d o.aC).1,tkD t.l t.bM o.aC (uq f.l f.d o.aC).2.1 o.Sum (uq f.l f.d o.aC).1 t.d⟩ c.hs }:=by
  unfold l5; rw [h]; simp only; rw [aK (by rw [hb]; decide),aK (λh=>h hr),ht]; simp only; rw [aO hk]
theorem RS{c:PC}{f t:rG}(h:fI o.jM c.hs=some f)(hb:(!f.up||Ih c.s c.aN o.aC o.To)=false)(hr:(uq f.l f.d o.aC).2.2=0/\(uq f.l f.d o.aC).2.1=o.aB/\((iM (uq f.l f.d o.aC).1).toNat:Int)=o.Sum)(ht:fI o.To c.hs=some t)(hk:Sn t.l t.bM o.aC (uq f.l f.d o.aC).2.1 o.Sum (uq f.l f.d o.aC).1=true) :
    l5 c o={ c with m:=uD c.m (y7 o.aC o.To (uq f.l f.d o.aC).2.1),s:=⟨c.s.eF,if MQ c.s.bY o.aC o.To=0 then Ai c.s.bY o.aC o.To else c.s.bY,c.s.bL⟩,hs:=iy o.To ⟨t.up,t.bM,Ig t.l t.bM o.aC (uq f.l f.d o.aC).2.1 o.Sum (uq f.l f.d o.aC).1,tkD t.l t.bM o.aC (uq f.l f.d o.aC).2.1 o.Sum (uq f.l f.d o.aC).1 t.d⟩ c.hs }:=by
  unfold l5; rw [h]; simp only; rw [aK (by rw [hb]; decide),aK (λh=>h hr),ht]; simp only; rw [aK (by rw [hk]; decide)]
def adF(o:aM)(x:aI):Bool:=decide (x.aC=o.aC)&&decide (x.aB=o.aB)
def rA(c:PC)(o:aM):PC:=
  if o.Kind=0 then l5 c o else
  match fI o.To c.hs with
  | none=>c
  | some t=>if(eY t.l).any (adF o)=true then { c with hs:=iy o.To ⟨t.up,t.bM,CP t.l o.aC,aan t.l o.aC t.d⟩ c.hs } else c
theorem YN{c:PC}{t:rG}(h0:¬ o.Kind=0)(ht:fI o.To c.hs=some t)(hb:(eY t.l).any (adF o)=true):rA c o={ c with hs:=iy o.To ⟨t.up,t.bM,CP t.l o.aC,aan t.l o.aC t.d⟩ c.hs }:=by
  unfold rA; rw [aK h0,ht]; simp only; rw [aO hb]
theorem ajy{c:PC}{t:rG}(h0:¬ o.Kind=0)(ht:fI o.To c.hs=some t)(hb:(eY t.l).any (adF o)=false):rA c o=c:=by
  unfold rA; rw [aK h0,ht]; simp only; rw [aK (by rw [hb]; decide)]
def mO(c:PC)(it:AItem):PC × Int:=
  if it.A<0∨(c.eD.length:Int)<=it.A then(c,5) else
  match c.eD[it.A.toNat]? with
  | none=>(c,5)
  | some o=>if it.Kind=8 then({ c with eD:=c.eD++[o] },0) else
    (if it.Kind=6/\c.aN<=o.jS/\PO c.hs o.To=true then rA { c with eD:=c.eD.take it.A.toNat++c.eD.drop (it.A.toNat+1) } o else { c with eD:=c.eD.take it.A.toNat++c.eD.drop (it.A.toNat+1) },0)
def nH(c n:Int):List (BitVec 8):=[BitVec.ofInt 8 c,BitVec.ofInt 8 (c / 2 ^ 8),BitVec.ofInt 8 n,BitVec.ofInt 8 (n / 2 ^ 8)]
def vL(c v sum:Int)(fG:List (BitVec 8))(q:lq × List Int)(z:Int):lq × List Int:=
  match fI z q.1 with
  | none=>q
  | some h=>(iy z ⟨h.up,h.bM,Ig h.l h.bM c v sum fG,tkD h.l h.bM c v sum fG h.d⟩ q.1,if Sn h.l h.bM c v sum fG=true then q.2++[z] else q.2)
def E9(c n:Int):Int:=((iM (nH c n)).toNat:Int)
def rO(m:dF)(it:AItem):fV:=⟨0,0,if gY m.aA it.A=true then 4 else 3,it.A,E9 it.A it.B,0⟩
def aH7(c:PC):List Int:=((LJ c.s.eF c.aN c.r.jV).map fK.Node).filter fun(x:Int)=>!(!PO c.hs x)
def YO(c:PC)(m:dF):List Int:=sW m.aT (aH7 c) c.r.nE.toNat (oH c.m.aA m.aT) []
def Ij(c:PC)(it:AItem):lq × List Int:=(YO c (dD c.m (rO c.m it)).1).foldl (vL it.A (dD c.m (rO c.m it)).2 (E9 it.A it.B) (nH it.A it.B)) (c.hs,[])
def rC(c:PC)(it:AItem):PC × Int:=
  if(dD c.m (rO c.m it)).2<0 then(c,-(dD c.m (rO c.m it)).2) else
  if(Ij c it).2=[] then({ c with hs:=(Ij c it).1 },7) else
  ({ c with m:=AP (dD c.m (rO c.m it)).1 ((Ij c it).2.map λz=>y7 it.A z (dD c.m (rO c.m it)).2),hs:=(Ij c it).1 },0)
def Ik(it:AItem):fV:=⟨0,0,1,it.A,it.B,it.C⟩
def av5(c:PC)(it:AItem):PC × Int:=({ c with m:=uD c.m (Ik it),hs:=if knE c.m (Ik it)=0 then iy it.A ⟨true,Ia it.C,[],[]⟩ c.hs else c.hs },knE c.m (Ik it))
def YP(c:PC):PC:={ c with m:=AP c.m (nY c.m c.s c.r c.aN),s:=mZ c.m c.s c.r c.aN,eD:=c.eD++xF c.m c.s c.r c.aN }
def av6(c:PC)(it:AItem)(h:rG):PC:=
  { c with m:=mW c.s c.aN it.A c.m (lg c.m.aA it.A (eY h.l)),eD:=c.eD++zJ (eY h.l) (nM (mW c.s c.aN it.A c.m (lg c.m.aA it.A (eY h.l))).aA (eY h.l)) it.A (c.aN+c.r.jr) }
def U0(c:PC)(it:AItem)(h:rG):PC × Int:=
  if it.Kind=3 then({ c with s:=⟨Bh c.s.eF it.A c.aN,c.s.bY,c.s.bL⟩ },0) else
  if it.Kind=4 then(av6 c it h,0) else
  if it.Kind=9 then({ c with hs:=iy it.A { h with up:=false } c.hs },0) else
  if it.Kind=10 then({ c with hs:=iy it.A ⟨true,h.bM,(aap h.l h.d).1,(aap h.l h.d).2⟩ c.hs },0) else
  if it.Kind=12 then({ c with hs:=iy it.A ⟨h.up,h.bM,(aaq h.l h.d).1,(aaq h.l h.d).2⟩ c.hs },0) else
  if it.Kind=13 then({ c with hs:=iy it.A { h with d:=aao it.B it.C h.d } c.hs },if(sU ⟨it.B,false⟩ h.d).length=0 then 5 else 0) else
  ({ c with hs:=iy it.A ⟨h.up,h.bM,[],[]⟩ c.hs },0)
def xG(k:Int):Option Bool:=if k=10 then some false else if k=13∨k=14 then none else some true
def AU(c:PC)(it:AItem):PC × Int:=
  if it.Kind=0 then(if it.A<0∨100<it.A then(c,1) else({ c with aN:=c.aN+it.A },0)) else
  if it.Kind=1 then av5 c it else
  if it.Kind=2 then({ c with m:=uD c.m ⟨0,0,2,it.A,it.B,0⟩ },knE c.m ⟨0,0,2,it.A,it.B,0⟩) else
  if it.Kind=5 then(YP c,0) else
  if it.Kind=6∨it.Kind=7∨it.Kind=8 then mO c it else
  if it.Kind=11 then rC c it else
  if it.Kind<0∨14<it.Kind then(c,1) else
  match fI it.A c.hs with
  | none=>(c,5)
  | some h=>if xG it.Kind=some (!h.up) then(c,8) else U0 c it h
def GD(hs:lq)(x:aH)(z:Int):List Int->List (BitVec 8) × Int
  | []=>([],8)
  | n::l=>match fI n hs with
    | none=>GD hs x z l
    | some h=>if h.up=true/\(uq h.l h.d z).2.2=0/\(uq h.l h.d z).2.1=x.aB/\((iM (uq h.l h.d z).1).toNat:Int)=x.Sum then((uq h.l h.d z).1,0) else GD hs x z l
def vw(c:PC)(z:Int):List (BitVec 8) × Int:=if gY c.m.aA z=false then([],5) else GD c.hs (aU c.m.aA z) z (aU c.m.aA z).aD
abbrev Iq(je:Nat)(A1:ah)(c1:Nat)(A2:ah)(c2:Nat)(A3:ah)(c3:Nat)(A4:ah)(c4:Nat)(A5:ah)(c5:Nat)(A6:ah)(c6:Nat)(A7:ah)(c7:Nat)(m:dF)(s:iF)(r:ARules)(aN:Int)(gm:Nat)(eD:List aM):lH:=dY je 84 [.slice A1 m.aT.length c1,.slice A2 m.aA.length c2,.slice A3 m.aP.length c3,.slice A4 s.eF.length c4,.slice A5 s.bY.length c5,.slice A6 s.bL.length c6,.int .i64 r.jV,.int .i64 r.lQ,.int .i64 r.All,.int .i64 r.nE,.int .i64 r.jr,.int .i64 r.eP,.int .i64 aN,.map (some gm),.slice A7 eD.length c7]
theorem anL{l:List aH}(h:kR l=true)(id:Int):0<=(aU l id).aB:=by
  cases hb:gY l id with
  | false=>rw [(aaJ h hb).2]; decide
  | true=>have:=rT (Vt h _ (BD h hb)); omega
theorem aDt(m:dF)(c:fV):0<=(xJ m c).2.2.1/\(xJ m c).2.2.1<=10:=by
  rcases kinds c.Kind with h | h | h | h | h | h | h | h | h
  · rw [agh h]; exact aqX m c
  · rw [agi h]; exact aqY m c
  · rw [agj h]; exact aqZ m c
  · rw [Yt h]; exact aq0 m c
  · rw [UQ h]; exact aq1 m c
  · rw [UR h]; exact aq2 m c
  · rw [UU h]; exact aq3 m c
  · rw [agk h]; exact aq4 m c
  · rw [agl h]; show 0<=(1:Int)/\(1:Int)<=10; decide
theorem aDu{m:dF}(hm:mD m=true)(c:fV):0<=(xJ m c).2.2.2:=by
  have hc:kR (xJ m c).2.1=true:=(iU.1 (TY hm c)).2.1
  have hw:∀ put,(xJ m c).2.1=(um put m.aA c).1->0<=(um put m.aA c).2.2:=λput h=>by
    rw [h] at hc;unfold um at hc ⊢
    split
    · exact yV _
    · rename_i hb; rw [aK hb] at hc; exact anL hc _
  rcases kinds c.Kind with h | h | h | h | h | h | h | h | h
  · rw [agh h]; exact yV _
  · rw [agi h]; exact yV _
  · rw [agj h]; exact yV _
  · rw [Yt h]; exact hw _ (by rw [Yt h])
  · rw [UQ h]; exact hw _ (by rw [UQ h])
  · rw [UR h]; exact yV _
  · rw [UU h]; exact yV _
  · rw [agk h]; exact yV _
  · rw [agl h]; exact yV _
theorem ak3{m:dF}(hm:mD m=true){x:fV}(hx:x.Client=0):dD m x=nT m x:=by
  unfold dD; rw [aK (by rw [hm]; decide),aO hx]
theorem NT{m:dF}(hm:mD m=true){x:fV}(hx:x.Client=0):-10<=(dD m x).2:=by
  rw [ak3 hm hx];have h1:=aDt m x; have h2:=aDu hm x;show -10<=Gy _ _;unfold Gy; split <;> omega
theorem mY{m:dF}(hm:mD m=true)(x:fV):mD (uD m x)=true:=by
  unfold uD; split
  · exact hm
  · exact Ez hm x
theorem VR{m:dF}(hm:mD m=true)(l:List fV):mD (AP m l)=true:=by
  unfold AP
  induction l generalizing m with
  | nil=>exact hm
  | cons x l ih=>exact ih (mY hm x)
theorem ar3{m:dF}{l:List fV}{k:Nat}{x:fV}(h:l[k]? = some x):AP m (l.take (k+1))=uD (AP m (l.take k)) x:=by
  unfold AP; rw [fD h,yU]; rfl
theorem BI:eu prog 84 3 12:=ay
theorem BJ:eu prog 84 5 14:=ay
theorem uW:eu prog 84 4 13:=ay
theorem U1:l9 prog 82:=ay
theorem vO:∀ w,(zeroValue 91).run prog w=.ok (.pointer none) w:=ay
theorem JD:eu prog 95 1 1:=ay
theorem yM:eu prog 95 0 0:=ay
theorem Ak:eu prog 84 0 0:=ay
theorem Am:eu prog 84 1 3:=ay
theorem aAr:bF prog 187:=ay
theorem nV:eu prog 32 1 1:=ay
theorem RU:eu prog 32 2 2:=ay
abbrev FV(iD:Nat)(ji:ah)(uS:Nat)(wV:ah)(ES:Nat)(Q0:ah)(UO:Nat)(y7z:ah)(y8z:Nat)(y9z:ah)(RV:Nat)(RX:ah)(RY:Nat)(RZ:ah)(R3:Nat)(Dz:dF)(DC:iF)(adG:ARules)(adH:Int)(R4:Nat)(R5:List aM)(adI:kK)(adJ:List lH):=Iq iD ji uS wV ES Q0 UO y7z y8z y9z RV RX RY RZ R3 Dz DC adG adH R4 R5::dP cZ ji uS Dz.aT::dP bJ wV ES Dz.aA::dP bX Q0 UO Dz.aP::dP iO y7z y8z DC.eF::dP dJ y9z RV DC.bY::dP bG RX RY DC.bL::aS bG 112 RZ R3 R5::jP R4 adI::adJ
theorem ar4{gm:Nat}{m:dF}{s:iF}{r:ARules}{aN:Int}{eD:List aM}{hs:kK}(H0:Hp b S w (FV je A1 c1 A2 c2 A3 c3 A4 c4 A5 c5 A6 c6 A7 c7 m s r aN gm eD hs F))(bE:Int) :
    bS prog 37 #[gD je,aF bE] w λv w'=>v=.bool (PO (kH hs) bE)/\Hp b S w' (FV je A1 c1 A2 c2 A3 c3 A4 c4 A5 c5 A6 c6 A7 c7 m s r aN gm eD hs F):=by
 refine sV func37 ntmps37 Y<|iZ Y ?_
 rcases hg1:fI bE hs with _ | ⟨Zz,gs1,Xt,Ah1,ch1,VT,YQ,l1,es1⟩
 ·refine bQ Y<|ev (eX Y)<|jT je 13 uW H0 s0 Y<|mv Y<|ev (Ev.hN H0 s8 hg1 EJ yZ vO Y Y)<|bU Y<|bQ Y<|ev (Ev.pnn CQ Y Y)<|mv Y<|dN<|dN<|dN<|dN<|ev (dL Y Y)<|bU Y<|jc Y ?_
  have eO:(false:Bool)=(PO (kH hs) bE):=by unfold PO; rw [jI,hg1]; rfl
  exact⟨by rw [<- eO] <;> rfl,H0⟩
 ·refine bQ Y<|ev (eX Y)<|jT je 13 uW H0 s0 Y<|mv Y<|ev (Ev.hS H0 s8 hg1 EJ yZ vO Y Y)<|bU Y<|bQ Y<|ev (Ev.pnn CQ Y Y)<|mv Y<|bn Y (bf Y) Y<|bn Y (eX Y) Y<|gfy Zz 1 JD Y<|bn Y (dx ajg Y (H0.EK s8 hg1) Y) Y<|ev (dH Y Y)<|bU Y<|jc Y ?_
  have fQ:(VT:Bool)=(PO (kH hs) bE):=by unfold PO; rw [jI,hg1]; rfl
  exact⟨by rw [<- fQ] <;> rfl,H0⟩
theorem ajz{gm:Nat}{m:dF}{s:iF}{r:ARules}{aN:Int}{eD:List aM}{hs:kK}(H0:Hp b S w (FV je A1 c1 A2 c2 A3 c3 A4 c4 A5 c5 A6 c6 A7 c7 m s r aN gm eD hs F))(bE:Int)(hL:∀ h,fI bE hs=some h->h.l.length<=1000) :
    bS prog 28 #[gD je,aF bE] w λv w'=>∃(A0:ah)(c0:Nat),v=.slice A0 ((KF (kH hs) bE).length) c0/\Hp b S w' (aS bq 132 A0 c0 (KF (kH hs) bE)::Iq je A1 c1 A2 c2 A3 c3 A4 c4 A5 c5 A6 c6 A7 c7 m s r aN gm eD::dP cZ A1 c1 m.aT::dP bJ A2 c2 m.aA::dP bX A3 c3 m.aP::dP iO A4 c4 s.eF::dP dJ A5 c5 s.bY::dP bG A6 c6 s.bL::aS bG 112 A7 c7 eD::jP gm hs::F):=by
 refine sV func28 ntmps28 Y<|iZ Y<|aW ?_
 rcases hg1:fI bE hs with _ | ⟨Zz,gs1,Xt,Ah1,ch1,VT,YQ,l1,es1⟩
 ·refine bQ Y<|ev (eX Y)<|jT je 13 uW H0 s0 Y<|mv Y<|ev (Ev.hN H0 s8 hg1 EJ yZ vO Y Y)<|bU Y<|bQ Y<|ev (Ev.pnn CQ Y Y)<|dn<|bK Y nofun (λ_h=>?_)
  refine jm ?_;refine iZ Y<|jc Y ?_
  have H1:=H0.nil bq 132;have eO:(([]:List aI):List aI)=(KF (kH hs) bE):=by unfold KF; rw [jI,hg1]; rfl
  exact⟨none,0,by rw [<- eO] <;> rfl,by rw [<- eO]; exact H1⟩
 ·have hlb:l1.length<=1000:=hL _ hg1;refine bQ Y<|ev (eX Y)<|jT je 13 uW H0 s0 Y<|mv Y<|ev (Ev.hS H0 s8 hg1 EJ yZ vO Y Y)<|bU Y<|bQ Y<|ev (Ev.pnn CQ Y Y)<|dn<|bK Y (λ_h=>?_) nofun
  refine bQ Y<|ev (eX Y)<|yA Zz 0 yM Y<|ev (dx UY Y (H0.EK s8 hg1) Y) ?_
  have H2:=H0.wO s8 hg1;refine gX Y (PK ((H2.sel s0).mV 1 4) aj) ?_;rintro _ w1 ⟨j6,kg,rfl,K1⟩;have H3:=YM hg1 ((((K1.sel s0).sel s6).mV 2 4).sel s6);refine bU Y<|uX Y ?_
  have fQ:(eY l1:List aI)=(KF (kH hs) bE):=by unfold KF; rw [jI,hg1]; rfl
  exact⟨j6,kg,by rw [<- fQ] <;> rfl,by rw [<- fQ]; exact((H3.sel s0).mV 1 9)⟩
abbrev NU(iD:dF)(ji:fV):=(((dD iD ji).1).aT).length
abbrev NV(iD:dF)(ji:fV):=(((dD iD ji).1).aA).length
abbrev NW(iD:dF)(ji:fV):=(((dD iD ji).1).aP).length
theorem zx{gm:Nat}{m:dF}{s:iF}{r:ARules}{aN:Int}{eD:List aM}{hs:kK}(H0:Hp b S w (FV je A1 c1 A2 c2 A3 c3 A4 c4 A5 c5 A6 c6 A7 c7 m s r aN gm eD hs F))(x:fV)(hm:mD m=true)(hx:x.Client=0) :
    bS prog 95 #[gD je,.agg #[aF x.Client,aF x.Seq,aF x.Kind,aF x.A,aF x.B,aF x.C]] w λv w'=>∃(B1:ah)(d1:Nat)(B2:ah)(d2:Nat)(B3:ah)(d3:Nat),v=aF (knE m x)/\Hp b S w' (Iq je B1 d1 B2 d2 B3 d3 A4 c4 A5 c5 A6 c6 A7 c7 (uD m x) s r aN gm eD::dP cZ B1 d1 ((uD m x).aT)::dP bJ B2 d2 ((uD m x).aA)::dP bX B3 d3 ((uD m x).aP)::dP iO A4 c4 s.eF::dP dJ A5 c5 s.bY::dP bG A6 c6 s.bL::aS bG 112 A7 c7 eD::jP gm hs::F):=by
 refine sV func95 ntmps95 Y<|rg<|bx Y Y H0 λg1 w1 K1=>bU Y<|He K1 (λ_ K=>K) (λl0 rk lJ wJ=>∃(tN:Nat)(jR:ah)(jO:Nat)(ql:ah)(cj2:Nat)(wF:ah)(vM:Nat),lJ=(5,gD tN)::(6,aF ((dD m x).2))::l0/\Hp b S wJ (dY tN 45 [.slice jR (NU m x) jO,.slice ql (NV m x) cj2,.slice wF (NW m x) vM]::dP cZ jR jO (((dD m x).1).aT)::dP bJ ql cj2 (((dD m x).1).aA)::dP bX wF vM (((dD m x).1).aP)::rk)) (λhns H1=>?_) ?_
 ·refine uw 0 je 0 Ak Y H1<|lD 3 Y (λ_ hK=>D6 (cs':=[.slice A1 m.aT.length c1,.slice A2 m.aA.length c2,.slice A3 m.aP.length c3]) sG Y Y (hK.x s1) Y) H1<|lD 4 Y (λ_ hK=>dU CO Y Y (hK.x s0)) H1<|Jn H1 (λl0 rk lJ wJ=>∃(g2:Nat)(JE:ah)(JF:Nat)(JG:ah)(JH:Nat)(JI:ah)(JJ:Nat),lJ=(5,gD g2)::(15,aF ((dD m x).2))::l0/\Hp b S wJ (dY g2 45 [.slice JE (NU m x) JF,.slice JG (NV m x) JH,.slice JI (NW m x) JJ]::dP cZ JE JF (((dD m x).1).aT)::dP bJ JG JH (((dD m x).1).aA)::dP bX JI JJ (((dD m x).1).aP)::rk)) 1 2047 ?_ λhS1=>?_
  ·rintro _ w8 ⟨g2,JE,JF,JG,JH,JI,JJ,rfl,K8⟩;have k6:=(K8.cU 0 4);refine xI 11 Y Y k6<|Dn ⟨g2,JE,JF,JG,JH,JI,JJ,Y,K8⟩ Y
  refine O2 5 9 Y Y ?_ ?_
  ·refine gX Y (Ru _ m (H1.s s2) (H1.s s3) (H1.s s4) x (FR hm)) ?_;rintro _ w9 ⟨MS,MV,MW,MX,MZ,M0,rfl,h9⟩;have K9:=H1.c3 h9;have k7:=(K9.cU 0 3);refine aQ k7<|kX 6 Y Y k7<|zL 7 Y (vs:=[.agg #[.slice MS (NU m x) MV,.slice MW (NV m x) MX,.slice MZ (NW m x) M0],aF ((dD m x).2)]) Y Y k7<|zL 8 Y (vs:=[.agg #[.slice MS (NU m x) MV,.slice MW (NV m x) MX,.slice MZ (NW m x) M0],aF ((dD m x).2)]) Y Y k7<|O1 9 Y<|al yL Y K9 λg4 Oz K10=>?_
   have k8:=(K10.cU 0 4);refine aQ k8<|O1 10 Y<|sty Y K10 s0 Y λTi tZ=>?_
   have k9:=(tZ.cU 0 4);exact Kj hS1 k9 ⟨g4,MS,MV,MW,MX,MZ,M0,Y,tZ⟩ Y
  ·refine al yL Y H1 λg5 Sm sJ=>?_;have k10:=(sJ.rm s0);refine aQ k10<|O1 5 Y<|gX Y (Ru _ m (sJ.s s3) (sJ.s s4) (sJ.s s5) x (FR hm)) ?_
   rintro _ Xu ⟨p8,p9,yG,yH,yI,yJ,rfl,h13⟩;have wz:=sJ.c3 h13;have k11:=(wz.cU 0 4);refine aQ k11<|kX 6 Y Y k11<|zL 7 Y (vs:=[.agg #[.slice p8 (NU m x) p9,.slice yG (NV m x) yH,.slice yI (NW m x) yJ],aF ((dD m x).2)]) Y Y k11<|zL 8 Y (vs:=[.agg #[.slice p8 (NU m x) p9,.slice yG (NV m x) yH,.slice yI (NW m x) yJ],aF ((dD m x).2)]) Y Y k11<|O1 10 Y<|sty Y wz s3 Y λZ0 wB=>?_
   have k12:=(wB.cU 0 4);exact Kj hS1 k12 ⟨g5,p8,p9,yG,yH,yI,yJ,Y,wB⟩ Y
 rintro _ Z4 ⟨tN,jR,jO,ql,cj2,wF,vM,rfl,zB⟩;refine aW<|bQ Y<|ev (fC Y Y)<|dn<|mQ Y (λhc17=>?_) (λhc17=>?_)
 ·refine bQ Y<|ev (Ev.neg Y (wQ (by have hxx:=NT hm hx; omega) (by have hxx:=NT hm hx; omega)))<|bU rfl<|uX rfl ?_
  rw [show(uD m x)=m from by unfold uD; rw [aO hc17]];have eO:(-((dD m x).2):Int)=(knE m x):=by unfold knE; rw [aO hc17]
  exact⟨A1,c1,A2,c2,A3,c3,by rw [<- eO] <;> rfl,(zB.cU 0 5)⟩
 refine jm ?_;refine bQ Y<|ev (dU sG Y Y (zB.x s0))<|ev (eX Y)<|yA je 0 Ak Y<|stp Y Y Y aqH zB s5 Y Y Y λw16 BR=>dn<|iZ Y<|jc Y ?_
 rw [show(uD m x)=((dD m x).1) from by unfold uD; rw [aK hc17]];have fQ:(0:Int)=(knE m x):=by unfold knE; rw [aK hc17]
 exact⟨jR,jO,ql,cj2,wF,vM,by rw [<- fQ] <;> rfl,((BR.cU 5 4).rm s1)⟩
theorem M4(w:World){vY:ah}{uY:Nat}{s:List aM}(mP:Sl bG S0 w vY uY s){AA:FuncId}{AX:List Value}(KI:bF prog AA)(f:aM->Bool)(KJ:∀(w':World)(x:aM),Ext w w'->x∈s->bS prog AA (([.agg #[aF x.Kind,aF x.aC,aF x.aB,gK x.Sum,aF x.jM,aF x.To,aF x.jS]]:List Value)++AX).toArray w' λv w''=>v=.bool (f x)/\Ext w' w'') :
    bS prog 188 #[.slice vY s.length uY,.func (.func AA) #[] AX.toArray] w λv w'=>v=.bool (s.any f)/\Hp w S0 w' []:=by
 refine kP S0 func188 ntmps188 Y λH0=>iZ Y<|bQ Y<|mv Y<|mU H0 Y (FN _ (H0.a mP).any KI f (λw' x e hm=>KJ w' x (H0.ext.trans e) hm)) λw1 K1=>ev (qK Y Y)<|bU Y<|jc Y ?_
 have eO:(decide (0<=idxOf f s):Bool)=(s.any f):=by exact VK f s
 exact⟨by rw [eO] <;> rfl,K1⟩
theorem anM(w:World)(o:aM){QK:Nat}(aL:Int)(acu:Bx w QK 3 [aF aL]){Eh:Nat}(bE:Int)(Ll:Bx w Eh 3 [aF bE]) :
    bS prog 187 #[.agg #[aF o.Kind,aF o.aC,aF o.aB,gK o.Sum,aF o.jM,aF o.To,aF o.jS],gD QK,gD Eh] w λv w'=>v=.bool (decide (o.aC=aL)&&decide (o.To=bE))/\Hp w S0 w' []:=by
 refine kP S0 func187 ntmps187 Y λH0=>rg<|bx Y Y H0 λg1 w1 K1=>bU Y<|rg<|jT g1 1 sw K1 s0 Y<|ev (dx jD Y (acu.ext K1.ext) Y)<|ev (iA Y Y)<|mv Y<|iP 5 14 ((decide (o.aC=aL))&&(decide (o.To=bE))) ?_ ?_
 ·cases hb9:decide (o.aC=aL) with
  | true=>
   refine wL g1 5 xX K1 s0 Y<|bn Y (dx jD Y (Ll.ext K1.ext) Y) Y<|bn Y (iA Y Y) Y<|ev (dH Y Y)<|dM Y
  | false=>
   refine dN<|dN<|dN<|dN<|ev (dL Y Y)<|dM Y
 refine bU Y<|jc Y ?_
 have eO:(((decide (o.aC=aL))&&(decide (o.To=bE))):Bool)=(decide (o.aC=aL)&&decide (o.To=bE)):=by rfl
 exact⟨by rw [eO] <;> rfl,(K1.rm s0)⟩
theorem agV{gm:Nat}{m:dF}{s:iF}{r:ARules}{aN:Int}{eD:List aM}{hs:kK}(H0:Hp b S w (FV je A1 c1 A2 c2 A3 c3 A4 c4 A5 c5 A6 c6 A7 c7 m s r aN gm eD hs F))(aL:Int)(bE:Int)(hb:s.eF.length<=1000)(hl:s.bY.length<=64)(hd:s.bL.length<=50000) :
    bS prog 109 #[gD je,aF aL,aF bE] w λv w'=>v=.bool (Ih s aN aL bE)/\Hp b S w' (FV je A1 c1 A2 c2 A3 c3 A4 c4 A5 c5 A6 c6 A7 c7 m s r aN gm eD hs F):=by
 refine sV func109 ntmps109 Y<|rg<|bx Y Y H0 λg1 w1 K1=>bx Y Y K1 λg2 w2 K2=>bU Y<|rg<|ev (rW Y)<|bU Y<|He K2 (λ_ K=>K) (λl0 rk lJ wJ=>lJ=(6,.bool (((dS s aN).bL).any (fun(x:aM)=>decide (x.aC=aL)&&decide (x.To=bE))))::l0/\Hp b S wJ rk) (λhns H1=>?_) ?_
 ·refine uw 0 je 3 Am Y H1<|lD 3 Y (λ_ hK=>D6 (cs':=[.slice A4 s.eF.length c4,.slice A5 s.bY.length c5,.slice A6 s.bL.length c6]) Ko Y Y (hK.x s2) Y) H1<|uw 4 je 12 BI Y H1<|Ci 7 s2 Y H1<|kX 10 Y Y H1<|O1 8 Y<|gX Y (LQ _ s (H1.s s6).any (H1.s s7).any (H1.s s8).any aN aj aj aj) ?_
  rintro _ w3 ⟨aAs,aAt,aAu,aAv,aAw,aAx,rfl,h3⟩;have K3:=H1.f3 h3;have k1:=(K3.cU 0 3);refine aQ k1<|lD 9 Y (λ_ _=>Ev.fld (cs:=[.slice aAs (((dS s aN).eF).length) aAt,.slice aAu (((dS s aN).bY).length) aAv,.slice aAw (((dS s aN).bL).length) aAx]) underlying51 Y Y axv Y Y) k1<|O1 11 Y<|mU K3 Y (M4 _ (K3.o s2) (AX:=[gD g1,gD g2]) aAr (fun(x:aM)=>decide (x.aC=aL)&&decide (x.To=bE)) (λw' x e hm=>(anM (S0:=Any) w' x aL ((K3.x s4).ext e) bE ((K3.x s3).ext e)).mono (by rintro _ _ ⟨rfl,fQ⟩; exact⟨rfl,fQ.ext⟩))) λw4 K4=>?_
  have k2:=(K4.cU 0 3);refine aQ k2<|xI 12 Y Y k2<|Dn ⟨Y,(K4.cU 0 3)⟩ Y
 rintro _ w5 ⟨rfl,K5⟩;refine jc Y ?_;have eO:(((dS s aN).bL).any (fun(x:aM)=>decide (x.aC=aL)&&decide (x.To=bE)):Bool)=(Ih s aN aL bE):=by rfl
 exact⟨by rw [<- eO] <;> rfl,(K5.cU 0 2)⟩
theorem ar7{gm:Nat}{m:dF}{s:iF}{r:ARules}{aN:Int}{eD:List aM}{hs:kK}(H0:Hp b S w (FV je A1 c1 A2 c2 A3 c3 A4 c4 A5 c5 A6 c6 A7 c7 m s r aN gm eD hs F))(it:AItem)(hu:0<=aN/\aN<=549755813888) :
    bS prog 39 #[gD je,.agg #[aF it.Kind,aF it.A,aF it.B,aF it.C]] w λv w'=>v=aF (if it.A<0∨100<it.A then 1 else 0)/\Hp b S w' (Iq je A1 c1 A2 c2 A3 c3 A4 c4 A5 c5 A6 c6 A7 c7 m s r (if it.A<0∨100<it.A then aN else aN+it.A) gm eD::dP cZ A1 c1 m.aT::dP bJ A2 c2 m.aA::dP bX A3 c3 m.aP::dP iO A4 c4 s.eF::dP dJ A5 c5 s.bY::dP bG A6 c6 s.bL::aS bG 112 A7 c7 eD::jP gm hs::F):=by
 refine sV func39 ntmps39 Y<|rg<|bx Y Y H0 λg1 w1 K1=>bU Y<|aW<|rg<|jT g1 1 nV K1 s0 Y<|ev (fC Y Y)<|mv Y<|iP 4 12 ((decide (it.A<0))||(decide (100<it.A))) ?_ ?_
 ·cases hb8:decide (it.A<0) with
  | true=>
   refine dN<|dN<|dN<|ev (dH Y Y)<|dM Y
  | false=>
   refine wL g1 1 nV K1 s0 Y<|bn Y (pV Y Y) Y<|ev (dL Y Y)<|dM Y
 refine dn<|bK Y (λoN=>?_) (λoN=>?_)
 ·try simp only [fq,dX,bO,bV] at oN
  refine iZ Y<|uX Y ?_
  have eO:(1:Int)=(if it.A<0∨100<it.A then 1 else 0):=by rw [aO aj]
  have fQ:(aN:Int)=(if it.A<0∨100<it.A then aN else aN+it.A):=by rw [aO aj]
  exact⟨by rw [<- eO] <;> rfl,by rw [<- fQ]; exact(K1.rm s0)⟩
 try simp only [fq,dX,bO,bV] at oN
 refine jm ?_;refine He K1 (λ_ K=>(K.rm s1)) (λl0 rk lJ wJ=>lJ=l0/\Hp b S wJ (Iq je A1 c1 A2 c2 A3 c3 A4 c4 A5 c5 A6 c6 A7 c7 m s r (aN+it.A) gm eD::rk)) (λhns H1=>?_) ?_
 ·have k1:=(H1.rm s1);refine uw 0 je 12 BI Y k1<|ng 4 5 g1 1 nV s0 Y k1<|O1 3 Y<|nO H1 s1 Y<|aQ k1<|lD 6 Y (λ_ _=>dO Y Y) k1<|SX 7 je 12 BI Y k1<|O1 9 Y<|xP Y H1 s1 Y λw2 K2=>?_
  have k2:=(K2.rm s0);refine aQ k2<|Dn ⟨Y,K2⟩ Y
 rintro _ w3 ⟨rfl,K3⟩;refine iZ Y<|jc Y ?_
 have jW:(0:Int)=(if it.A<0∨100<it.A then 1 else 0):=by rw [aK aj]
 have mH:(aN+it.A:Int)=(if it.A<0∨100<it.A then aN else aN+it.A):=by rw [aK aj]
 exact⟨by rw [<- jW] <;> rfl,by rw [<- mH]; exact(K3.rm s1)⟩
abbrev NY(iD:AItem):=(⟨0,0,2,iD.A,iD.B,0⟩:fV)
theorem av7{gm:Nat}{m:dF}{s:iF}{r:ARules}{aN:Int}{eD:List aM}{hs:kK}(H0:Hp b S w (FV je A1 c1 A2 c2 A3 c3 A4 c4 A5 c5 A6 c6 A7 c7 m s r aN gm eD hs F))(it:AItem)(hm:mD m=true) :
    bS prog 41 #[gD je,.agg #[aF it.Kind,aF it.A,aF it.B,aF it.C]] w λv w'=>∃(B1:ah)(d1:Nat)(B2:ah)(d2:Nat)(B3:ah)(d3:Nat),v=aF (knE m (NY it))/\Hp b S w' (Iq je B1 d1 B2 d2 B3 d3 A4 c4 A5 c5 A6 c6 A7 c7 (uD m (NY it)) s r aN gm eD::dP cZ B1 d1 ((uD m (NY it)).aT)::dP bJ B2 d2 ((uD m (NY it)).aA)::dP bX B3 d3 ((uD m (NY it)).aP)::dP iO A4 c4 s.eF::dP dJ A5 c5 s.bY::dP bG A6 c6 s.bL::aS bG 112 A7 c7 eD::jP gm hs::F):=by
 refine sV func41 ntmps41 Y<|rg<|bx Y Y H0 λg1 w1 K1=>bU Y<|bQ Y<|jT g1 1 nV K1 s0 Y<|jT g1 2 RU K1 s0 Y<|ev (iY (vs:=[(2,aF 2),(3,aF it.A),(4,aF it.B)]) (cs:=[aF 0,aF 0,aF 2,aF it.A,aF it.B,aF 0]) Y (by apply yE))<|gX rfl (zx (m:=m) (s:=s) (r:=r) ((K1.sel s0).mV 1 9) (NY it) aj rfl) ?_
 rintro _ w2 ⟨anN,anO,anP,anQ,anR,anS,rfl,K2⟩;refine bU Y<|jc Y ?_
 exact⟨anN,anO,anP,anQ,anR,anS,Y,(K2.rm s9)⟩
end Go.Proofs.YtlhnnmlenkahlaaGreat
