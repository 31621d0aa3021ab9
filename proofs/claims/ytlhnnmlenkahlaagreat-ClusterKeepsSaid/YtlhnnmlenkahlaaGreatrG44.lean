/- Lemmas. -/
import Derived.Test.YtlhnnmlenkahlaaGreatrG30
set_option maxRecDepth 4000
set_option linter.all false
namespace Go.Proofs.YtlhnnmlenkahlaaGreat
open Go.RowKit Go.Proofs.Tryz
theorem aLs:bF prog 56:=ay
theorem aor{S0:Nat->Prop}(w:World){EH:ah}{EI:Nat}{report:List aI}(Cb:Sl bq S0 w EH EI report)(c:aH){BO:ah}{Bq:Nat}(GZ:Sl dQ S0 w BO Bq c.aD) :
    bS prog 56 #[.slice EH report.length EI,.agg #[aF c.ID,aF c.aB,gK c.Sum,.slice BO c.aD.length Bq]] w λv w'=>v=.bool (report.any (fun(x:aI)=>zI x c))/\Hp w S0 w' []:=by
 refine kP S0 func56 ntmps56 Y λH0=>?_;have aBx:=Cb.bH;refine rg<|bx Y Y H0 λg1 w1 K1=>bU Y<|aW<|iZ Y<|cB<|Lp K1 (λl0 rk mJ lJ wJ=>∃(k:Nat),lJ=(5,aF ((k:Nat):Int))::l0/\mJ=report.length - k/\k<=report.length/\(∀ y∈report.take k,(fun(x:aI)=>zI x c=false) y)/\Hp w S0 wJ rk) ⟨0,Y,Y,fJ _,av,K1⟩ rfl ?_
 rintro _ _ w2 ⟨k,rfl,rfl,hk,hno,K2⟩;refine aW<|bQ Y<|mv Y<|ev (eU jK Y)<|ev (fC Y Y)<|dn<|bK Y (λGm=>?_) (λGm=>?_)
 ·replace Gm:=gW Gm;refine jm ?_;refine aW<|cB<|bQ Y<|mv Y ?_
  obtain⟨x1,bP⟩:=bC (xs:=report) (i:=k) aj;refine ev (cu (i:=k) jK mG Y Y Y (aJ bP) ((K2.a Cb).some_ bP))<|ev (gI oZ Y Y ((K2.a Cb).fE bP))<|al yj Y K2 λg2 w3 K3=>sty Y K3 s0 Y λw4 K4=>dn<|rg<|jT g2 3 uo K4 s0 Y<|ev (iB Y)<|mv Y<|iP 6 26 ((!x1.gB)&&(decide (x1.aC=c.ID))) ?_ ?_
  ·cases ab6:(!x1.gB) with
   | true=>
    refine wL g2 0 mM K4 s0 Y<|wL g1 0 pq K4 s1 Y<|bn Y (iA Y Y) Y<|ev (dH Y Y)<|dM Y
   | false=>
    refine dN<|dN<|dN<|dN<|dN<|ev (dL Y Y)<|dM Y
  refine mv Y<|iP 6 33 (((!x1.gB)&&(decide (x1.aC=c.ID)))&&(decide (x1.aB=c.aB))) ?_ ?_
  ·cases avK:((!x1.gB)&&(decide (x1.aC=c.ID))) with
   | true=>
    have axU:=avK
    try simp only [fq,dX,bN,eH,eG,fP,bO,bV] at axU
    refine wL g2 1 sH K4 s0 Y<|wL g1 1 tH K4 s1 Y<|bn Y (iA Y Y) Y<|ev (dH Y Y)<|dM Y
   | false=>
    refine dN<|dN<|dN<|dN<|dN<|ev (dL Y Y)<|dM Y
  refine mv Y<|iP 6 40 ((((!x1.gB)&&(decide (x1.aC=c.ID)))&&(decide (x1.aB=c.aB)))&&(decide (x1.Sum=c.Sum))) ?_ ?_
  ·cases aJb:(((!x1.gB)&&(decide (x1.aC=c.ID)))&&(decide (x1.aB=c.aB))) with
   | true=>
    have aF4:=aJb
    try simp only [fq,dX,bN,eH,eG,fP,bO,bV] at aF4
    refine wL g2 2 RH K4 s0 Y<|wL g1 2 IE K4 s1 Y<|bn Y (iA Y Y) Y<|ev (dH Y Y)<|dM Y
   | false=>
    refine dN<|dN<|dN<|dN<|dN<|ev (dL Y Y)<|dM Y
  refine dn<|bK Y (λI5=>?_) (λI5=>?_)
  ·refine iZ Y<|jf (jg (fT (fT (jg (fT (zA Y ?_))))))
   have eO:(true:Bool)=(report.any (fun(x:aI)=>zI x c)):=by symm; rw [Ed]; exact⟨x1,bT bP,by unfold zI; exact I5⟩
   exact⟨by rw [<- eO] <;> rfl,K4.z⟩
  refine xQ ?_;refine jy<|mv Y<|ev (dO Y Y)<|iI Y<|jA<|dI ⟨(k+1),Y,Y,aj,by exact pJ (q:=fun(x:aI)=>zI x c=false) hno bP (by unfold zI; exact I5),(K4.rm s0)⟩ rfl aj
 replace Gm:=iJ Gm;refine wE ?_;refine iZ Y<|jc Y ?_
 have fQ:(false:Bool)=(report.any (fun(x:aI)=>zI x c)):=by symm; rw [iH aj] at hno; rw [TW]; intro y hy; rw [hno y hy]; decide
 exact⟨by rw [<- fQ] <;> rfl,(K2.rm s0)⟩
def holdB(c:PC)(x:aH):Bool:=!decide (x.aD.length=0)&&x.aD.all fun(n:Int)=>(KF c.hs n).any fun(y:aI)=>zI y x
def GK(c:PC):Bool:=c.m.aA.all (holdB c)
def U6(it:AItem):Bool:=!(decide (it.Kind=13)||decide (it.Kind=14))
def Nj(l:List AItem):Bool:=l.all U6
theorem ahC{c:PC}{x:aH}(hx:x∈c.m.aA)(h:holdB c x=false):GK c=false:=by unfold GK; rw [SY]; exact⟨x,hx,by rw [h]; decide⟩
theorem ajN{c:PC}{x:aH}(h:x.aD.length=0):holdB c x=false:=by unfold holdB; rw [F8 h]; rfl
theorem atr{c:PC}{x:aH}{n:Int}(hn:n∈x.aD)(h:((KF c.hs n).any fun(y:aI)=>zI y x)=false):holdB c x=false:=by
  unfold holdB; rw [Bool.and_eq_false_iff]; right; rw [SY]; exact⟨n,hn,by rw [h]; decide⟩
theorem ahD{c:PC}{x:aH}(h0:¬ x.aD.length=0)(h:∀ n∈x.aD,((KF c.hs n).any fun(y:aI)=>zI y x)=true):holdB c x=true:=by
  unfold holdB; rw [decide_eq_false h0,List.all_eq_true.2 h]; rfl
theorem U7{b w:World}{S:Nat->Prop}{F:List lH}{jl:ah}{jk:Nat}{l:List AItem}(H0:Hp b S w (dP tItem jl jk l::F))  :
    bS prog 14 #[.slice jl l.length jk] w λv w'=>v=.bool (Nj l)/\Hp b S w' F:=by
 refine sV func14 ntmps14 Y ?_;have hbl:=(H0.s s0).bH;refine iZ Y<|aW<|iZ Y<|cB<|Lp H0 (λl0 rk mJ lJ wJ=>∃(k:Nat),lJ=(3,aF ((k:Nat):Int))::l0/\mJ=l.length - k/\k<=l.length/\(∀ y∈l.take k,U6 y=true)/\Hp b S wJ rk) ⟨0,Y,Y,fJ _,av,H0⟩ rfl ?_
 rintro _ _ w1 ⟨k,rfl,rfl,hk,hno,K1⟩;refine aW<|bQ Y<|mv Y<|ev (eU underlying24 Y)<|ev (fC Y Y)<|dn<|bK Y (λhc7=>?_) (λhc7=>?_)
 ·replace hc7:=gW hc7;refine jm ?_;refine aW<|cB<|bQ Y<|mv Y ?_
  obtain⟨x1,bP⟩:=bC (xs:=l) (i:=k) aj;refine ev (cu (i:=k) underlying24 OL Y Y Y (aJ bP) ((K1.s s0).some_ bP))<|ev (dW oD Y (fH _ _ _))<|ev (iL jD Y ((K1.s s0).fF (j:=0) bP Y))<|ev (iA Y Y)<|mv Y ?_
  cases Vd:decide (x1.Kind=13) with
  | true=>
   refine dN<|dN<|dN<|dN<|dN<|dN<|ev (dH Y Y)<|dn<|bK Y (λ_h=>?_) nofun
   refine iZ Y<|jf (jg (fT (fT (jg (fT (zA Y ?_))))))
   have eO:(false:Bool)=(Nj l):=by unfold Nj; symm; first | (rw [lI]; rw [iH aj] at hno; exact hno) | (rw [SY]; exact⟨x1,bT bP,by unfold U6; simp_all⟩)
   exact⟨by rw [<- eO] <;> rfl,(K1.rm s0)⟩
  | false=>
   refine bn Y (bf Y) Y<|bn Y (bf Y) Y<|bn Y (cu (i:=k) underlying24 OL Y Y Y (aJ bP) ((K1.s s0).some_ bP)) Y<|bn Y (dW oD Y (fH _ _ _)) Y<|bn Y (iL jD Y ((K1.s s0).fF (j:=0) bP Y)) Y<|bn Y (iA Y Y) Y<|ev (dL Y Y)<|dn<|bK Y (λrz=>?_) (λrz=>?_)
   ·replace rz:=gW rz;refine iZ Y<|jf (jg (fT (fT (jg (fT (zA Y ?_))))))
    have fQ:(false:Bool)=(Nj l):=by unfold Nj; symm; first | (rw [lI]; rw [iH aj] at hno; exact hno) | (rw [SY]; exact⟨x1,bT bP,by unfold U6; simp_all⟩)
    exact⟨by rw [<- fQ] <;> rfl,(K1.rm s0)⟩
   replace rz:=iJ rz;refine xQ ?_;refine jy<|mv Y<|ev (dO Y Y)<|iI Y<|jA<|dI ⟨(k+1),Y,Y,aj,by exact pJ (q:=λy=>U6 y=true) hno bP (by unfold U6; simp_all),K1⟩ rfl aj
 replace hc7:=iJ hc7;refine wE ?_;refine iZ Y<|jc Y ?_
 have jW:(true:Bool)=(Nj l):=by unfold Nj; symm; first | (rw [lI]; rw [iH aj] at hno; exact hno) | (rw [SY]; exact⟨x1,bT bP,by unfold U6; simp_all⟩)
 exact⟨by rw [<- jW] <;> rfl,(K1.rm s0)⟩
theorem att{b w:World}{S:Nat->Prop}{F:List lH}{je:Nat}{G:GC}(H0:Hp b S w (CU je G::F))(hok:Ok G.pl) :
    bS prog 15 #[gD je] w λv w'=>v=.bool (GK G.pl)/\Hp b S w' (CU je G::F):=by
 refine sV func15 ntmps15 Y<|iZ Y<|bQ Y<|gX Y (Y8 H0 hok) ?_
 rintro _ w1 ⟨M6,M7,aes,aeu,aev,aew,rfl,K1⟩;have Lj:=(K1.s s0).bH;have aDv:=(K1.s s1).bH;have aLt:=(K1.s s2).bH;refine al yL Y K1 λg1 w2 K2=>sty Y K2 s0 Y λw3 K3=>dn<|aW<|iZ Y<|cB<|pK (λmJ lJ wJ=>∃(k:Nat),lJ=[(0,gD je),(3,gD g1),(4,aF ((k:Nat):Int))]/\mJ=G.pl.m.aA.length - k/\k<=G.pl.m.aA.length/\(∀ y∈G.pl.m.aA.take k,holdB G.pl y=true)/\Hp b S wJ (dY g1 45 [.slice M6 G.pl.m.aT.length M7,.slice aes G.pl.m.aA.length aeu,.slice aev G.pl.m.aP.length aew]::dP cZ M6 M7 G.pl.m.aT::dP bJ aes aeu G.pl.m.aA::dP bX aev aew G.pl.m.aP::CU je G::F)) ⟨0,Y,Y,fJ _,av,K3⟩ rfl ?_
 rintro _ _ w4 ⟨k,rfl,rfl,hk,hno,K4⟩;refine aW<|bQ Y<|jT g1 1 jE K4 s0 Y<|ev (eU iN Y)<|ev (fC Y Y)<|dn<|bK Y (λrM=>?_) (λrM=>?_)
 ·replace rM:=gW rM;refine jm ?_;refine aW<|cB<|rg<|jT g1 1 jE K4 s0 Y<|mv Y ?_
  obtain⟨x1,bP⟩:=bC (xs:=G.pl.m.aA) (i:=k) aj;refine ev (cu (i:=k) iN o9 Y Y Y (aJ bP) ((K4.s s2).some_ bP)) ?_;obtain⟨B1,d1,zP,hi1⟩:=uP (K4.is s2 bP);have H1:=K4.push hi1;refine ev (gI (cs:=[aF x1.ID,aF x1.aB,gK x1.Sum,.slice B1 x1.aD.length d1]) qw Y Y (GV zP))<|al lU Y H1 λg2 w5 K5=>sty Y K5 s0 Y λw6 K6=>dn<|aW<|rg<|jT g2 3 j5 K6 s0 Y<|ev (eU fB Y)<|ev (iA Y Y)<|dn<|bK Y (λhc25=>?_) (λhc25=>?_)
  ·replace hc25:=gW hc25;refine iZ Y<|jf (fT (jg (fT (fT (jg (fT (zA Y ?_)))))))
   have eO:(false:Bool)=(GK G.pl):=by symm; exact ahC (bT bP) (ajN aj)
   exact⟨by rw [<- eO] <;> rfl,(K6.cU 0 6)⟩
  replace hc25:=iJ hc25;refine jm ?_;have aLu:=(zQ (iU.1 hok.hm).2.1).2 _ (bT bP);refine iZ Y<|cB<|pK (λmJ lJ wJ=>∃(kb:Nat),lJ=[(0,gD je),(3,gD g1),(4,aF ((k:Nat):Int)),(5,gD g2),(6,aF ((kb:Nat):Int))]/\mJ=x1.aD.length - kb/\kb<=x1.aD.length/\(∀ n∈x1.aD.take kb,((KF G.pl.hs n).any fun(y:aI)=>zI y x1)=true)/\Hp b S wJ (dY g2 59 [aF x1.ID,aF x1.aB,gK x1.Sum,.slice B1 x1.aD.length d1]::dP dQ B1 d1 x1.aD::dY g1 45 [.slice M6 G.pl.m.aT.length M7,.slice aes G.pl.m.aA.length aeu,.slice aev G.pl.m.aP.length aew]::dP cZ M6 M7 G.pl.m.aT::dP bJ aes aeu G.pl.m.aA::dP bX aev aew G.pl.m.aP::CU je G::F)) ⟨0,Y,Y,fJ _,av,K6⟩ rfl ?_
  rintro _ _ w7 ⟨kb,rfl,rfl,hkb,hnn,K7⟩;refine aW<|bQ Y<|jT g2 3 j5 K7 s0 Y<|ev (eU fB Y)<|ev (fC Y Y)<|dn<|bK Y (λJm=>?_) (λJm=>?_)
  ·replace Jm:=gW Jm;refine jm ?_;refine aW<|cB ?_
   obtain⟨x2,kZ⟩:=bC (xs:=x1.aD) (i:=kb) aj;refine He K7 (λ_ K=>K) (λl0 rk lJ wJ=>lJ=(7,.bool ((KF G.pl.hs x2).any (fun(x:aI)=>zI x x1)))::l0/\Hp b S wJ rk) (λhns H2=>?_) ?_
   ·refine kX 0 Y Y H2<|ng 1 2 g2 3 j5 s0 Y H2<|kX 3 Y Y H2<|lD 4 Y (λ_ hK=>cu (i:=kb) fB rZ Y Y Y (aJ kZ) ((hK.s s1).some_ kZ)) H2<|lD 5 Y (λ_ hK=>iL jD Y ((hK.s s1).fF (j:=0) kZ Y)) H2<|lD 7 Y (λ_ hK=>dU qw Y Y (hK.x s0)) H2<|O1 6 Y<|gX Y (PY ((H2.mV 0 6).sel s6) x2 hok) ?_
    rintro _ w8 ⟨EZ,E5,rfl,K8⟩;have axl:=(K8.o s0).bH;have k1:=(((K8.rm s0).sel s0).mV 1 6);refine aQ k1<|O1 8 Y<|mU K8 Y (aor _ (K8.o s0) x1 (K8.s s3).any) λw9 K9=>?_
    have k2:=(((K9.rm s0).sel s0).mV 1 6);refine aQ k2<|xI 9 Y Y k2<|Dn ⟨Y,(((K9.rm s0).sel s0).mV 1 6)⟩ Y
   rintro _ Oz ⟨rfl,K10⟩;refine bQ Y<|ev (iB Y)<|dn<|bK Y (λxE=>?_) (λxE=>?_)
   ·try simp only [fq,dX,bN,eH,eG,fP,bO,bV] at xE
    refine iZ Y<|jf (jg (fT (fT (jg (jg (fT (fT (jg (fT (zA Y ?_))))))))))
    have fQ:(false:Bool)=(GK G.pl):=by symm; exact ahC (bT bP) (atr (bT kZ) (by first | exact hfalse | simp_all))
    exact⟨by rw [<- fQ] <;> rfl,(K10.cU 0 6)⟩
   try simp only [fq,dX,bN,eH,eG,fP,bO,bV] at xE
   refine xQ ?_;refine jy<|mv Y<|ev (dO Y Y)<|iI Y<|jA<|dI ⟨(kb+1),Y,Y,aj,by exact pJ (q:=λn=>((KF G.pl.hs n).any fun(y:aI)=>zI y x1)=true) hnn kZ (by simp_all),K10⟩ rfl aj
  replace Jm:=iJ Jm;refine qJ (lu (lu (rE (iE (gG ?_)))));refine jy<|mv Y<|ev (dO Y Y)<|iI Y<|jA<|dI ⟨(k+1),Y,Y,aj,by exact pJ (q:=λy=>holdB G.pl y=true) hno bP (ahD aj (by rw [iH aj] at hnn; exact hnn)),(K7.cU 0 2)⟩ rfl aj
 replace rM:=iJ rM;refine wE ?_;refine iZ Y<|jc Y ?_
 have jW:(true:Bool)=(GK G.pl):=by symm; unfold GK; rw [lI]; rw [iH aj] at hno; exact hno
 exact⟨by rw [<- jW] <;> rfl,(K4.cU 0 4)⟩
end Go.Proofs.YtlhnnmlenkahlaaGreat
