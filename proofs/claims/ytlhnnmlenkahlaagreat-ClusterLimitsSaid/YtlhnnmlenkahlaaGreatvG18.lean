/- Lemmas. -/
import Derived.Test.YtlhnnmlenkahlaaGreatvG17
set_option maxRecDepth 4000
set_option linter.all false
namespace Go.Proofs.YtlhnnmlenkahlaaGreat
open Go.RowKit Go.Proofs.Tryz
def jo:=@underlying70
variable {S0:Nat->Prop}{k jg:Nat}{α:Type}{c:Int}{jl u7:ah}{l:List α}
theorem OW:dH prog 120 0 0:=ay
theorem V3:dH prog 120 1 1:=ay
set_option maxHeartbeats 1000000 in
theorem OX(w:World)(m:dU){uS:ah}{uG:Nat}(GD:Sl bX S0 w uS uG m.aY){tZ:ah}{tJ:Nat}(IB:Sl bH S0 w tZ tJ m.aA){r9:ah}{rC:Nat}(OJ:Sl bZ S0 w r9 rC m.aQ)(c:gD)(hz:mSz m) :
    bO prog 99 #[.agg #[.slice uS m.aY.length uG,.slice tZ m.aA.length tJ,.slice r9 m.aQ.length rC],.agg #[aD c.Client,aD c.Seq,aD c.Kind,aD c.A,aD c.B,aD c.C]] w λv w'=>∃(uP:ah)(uQ:Nat)(xU:ah)(xV:Nat)(xW:ah)(xX:Nat),v=.tuple #[.agg #[.slice uP ((((dO m c).1).aY).length) uQ,.slice xU ((((dO m c).1).aA).length) xV,.slice xW ((((dO m c).1).aQ).length) xX],aD ((dO m c).2)]/\Hp w S0 w' [dP bX uP uQ (((dO m c).1).aY),dP bH xU xV (((dO m c).1).aA),dP bZ xW xX (((dO m c).1).aQ)]:=by
 refine j4 S0 func99 ntmps99 Y λH0=>rg<|bx Y Y H0 λg1 w1 K1=>bx Y Y K1 λg2 w2 K2=>al yG Y K2 λg3 w3 K3=>bS Y<|rg<|ev (dK qO Y Y (K3.x s2))<|gW Y (ajZ _ m (K3.a GD) (K3.a IB) (K3.a OJ) hz.1 hz.2.1 hz.2.2.1 hz.2.2.2) ?_
 rintro _ w4 ⟨JG,JH,JI,JJ,JL,JM,rfl,h4⟩;have K4:=K3.c3 h4;refine sty Y K4 s5 Y λw5 K5=>dn<|aZ<|cZ<|rg<|ev (dK qO Y Y (K5.x s0))<|lF K5 Y (aqT _ m (K5.s s1).any (K5.s s2).any (K5.s s3).any hz.1 hz.2.1) λw6 K6=>ev (gZ Y)<|bS Y<|bR Y (λrU=>?_) (λrU=>?_)
 ·try simp only [eO,dN,bK,dZ,eu,fC,bL,bU] at rU
  refine rg<|ev (dK qO Y Y (K6.x s0))<|sty Y K6 s4 Y λw7 K7=>bS Y<|je (jH (gL (oW Y ⟨_,_,Y,⟨_,Y,jm (cs:=[.slice JG m.aY.length JH,.slice JI m.aA.length JJ,.slice JL m.aQ.length JM]) qO Y (K7.x s0)⟩,⟨_,_,Y,Y,Y⟩⟩ ?_)))
  have d9:(m:dU)=((dO m c).1):=by unfold dO; rw [aO (by simpa using rU)]
  have fG:(m.aY:List aW)=(((dO m c).1).aY):=by rw [<- d9]
  have jQ:(m.aA:List aI)=(((dO m c).1).aA):=by rw [<- d9]
  have lV:(m.aQ:List aU)=(((dO m c).1).aQ):=by rw [<- d9]
  have qU:((-1):Int)=((dO m c).2):=by unfold dO; rw [aO (by simpa using rU)]
  exact⟨JG,JH,JI,JJ,JL,JM,by first | (rw [fG,jQ,lV,<- qU] <;> rfl) | (rw [fG,jQ,lV,<- qU] <;> rfl),by rw [<- fG,<- jQ,<- lV]; exact((K7.rm s5).cU 0 2)⟩
 try simp only [eO,dN,bK,dZ,eu,fC,bL,bU] at rU
 refine rg<|jD g2 0 OW K6 s5 Y<|ev (iP Y Y)<|bS Y<|kX Y (λkJ=>?_) (λkJ=>?_)
 ·refine rg<|ev (dK qO Y Y (K6.x s0))<|ev (dK AA Y Y (K6.x s5))<|gW Y (ahG _ m (K6.s s1) (K6.s s2) (K6.s s3) c hz.1 hz.2.1 hz.2.2.1) ?_
  rintro _ w8 ⟨anF,anG,anH,anI,anJ,anK,rfl,h8⟩;have K8:=K6.c3 h8;refine xt Y Y<|xt Y Y<|sty Y K8 s7 Y λw9 K9=>bS Y<|je (jH (gL (oW Y ⟨_,_,Y,⟨_,Y,jm (cs:=[.slice anF ((((og m c).1).aY).length) anG,.slice anH ((((og m c).1).aA).length) anI,.slice anJ ((((og m c).1).aQ).length) anK]) qO Y (K9.x s0)⟩,⟨_,_,Y,Y,Y⟩⟩ ?_)))
  have vY:((og m c).1:dU)=((dO m c).1):=by unfold dO; rw [aK (by simpa using rU),aO kJ]
  have xZ:(((og m c).1).aY:List aW)=(((dO m c).1).aY):=by rw [<- vY]
  have hq8:(((og m c).1).aA:List aI)=(((dO m c).1).aA):=by rw [<- vY]
  have yT:(((og m c).1).aQ:List aU)=(((dO m c).1).aQ):=by rw [<- vY]
  have qI:((og m c).2:Int)=((dO m c).2):=by unfold dO; rw [aK (by simpa using rU),aO kJ]
  exact⟨anF,anG,anH,anI,anJ,anK,by first | (rw [qI,xZ,hq8,yT] <;> rfl) | (rw [xZ,hq8,yT,qI] <;> rfl),by rw [<- xZ,<- hq8,<- yT]; exact((K9.cU 4 5).rm s0)⟩
 refine zF ?_;refine rg<|jD g1 2 BD K6 s0 Y<|jD g2 0 OW K6 s5 Y<|jD g2 1 V3 K6 s5 Y<|lF K6 Y (adw _ (K6.s s3).any c.Client c.Seq (by have:=hz.2.2.2; omega)) λNn K10=>mv rfl<|xt rfl rfl<|xt rfl rfl<|xt rfl rfl<|iA rfl<|iA rfl<|bS rfl<|aZ<|cZ<|bQ rfl<|ev (rz rfl rfl)<|bS rfl<|bR rfl (λMJ=>?_) (λMJ=>?_)
 ·replace MJ:=nS MJ;refine rg<|ev (dK qO Y Y (K10.x s0))<|mv Y<|ev (Ev.neg Y (vM (by have:=adM m.aQ c.Client c.Seq; omega) (by have:=adM m.aQ c.Client c.Seq; omega)))<|sty rfl K10 s4 rfl λRG tO=>bS rfl<|je (jH (gL (oW rfl ⟨_,_,rfl,⟨_,rfl,jm (cs:=[.slice JG m.aY.length JH,.slice JI m.aA.length JJ,.slice JL m.aQ.length JM]) qO rfl (tO.x s0)⟩,⟨_,_,rfl,rfl,rfl⟩⟩ ?_)))
  have hq11:(m:dU)=((dO m c).1):=by unfold dO; rw [aK (by simpa using rU),aK kJ,aO MJ]
  have hq12:(m.aY:List aW)=(((dO m c).1).aY):=by rw [<- hq11]
  have QB:(m.aA:List aI)=(((dO m c).1).aA):=by rw [<- hq11]
  have QC:(m.aQ:List aU)=(((dO m c).1).aQ):=by rw [<- hq11]
  have Xw:(-((iy m.aQ c.Client c.Seq).2.2):Int)=((dO m c).2):=by unfold dO; rw [aK (by simpa using rU),aK kJ,aO MJ]
  exact⟨JG,JH,JI,JJ,JL,JM,by first | (rw [Xw,hq12,QB,QC] <;> rfl) | (rw [hq12,QB,QC,Xw] <;> rfl),by rw [<- hq12,<- QB,<- QC]; exact((tO.rm s5).cU 0 2)⟩
 replace MJ:=nT MJ;refine bQ Y<|bS Y<|bR Y (λaav=>?_) (λaav=>?_)
 ·refine rg<|ev (dK qO Y Y (K10.x s0))<|mv Y<|sty Y K10 s4 Y λQp rW=>bS Y<|je (jH (gL (oW Y ⟨_,_,Y,⟨_,Y,jm (cs:=[.slice JG m.aY.length JH,.slice JI m.aA.length JJ,.slice JL m.aQ.length JM]) qO Y (rW.x s0)⟩,⟨_,_,Y,Y,Y⟩⟩ ?_)))
  have UZ:(m:dU)=((dO m c).1):=by unfold dO; rw [aK (by simpa using rU),aK kJ,aK aj,aO aav]
  have U0:(m.aY:List aW)=(((dO m c).1).aY):=by rw [<- UZ]
  have U1:(m.aA:List aI)=(((dO m c).1).aA):=by rw [<- UZ]
  have QE:(m.aQ:List aU)=(((dO m c).1).aQ):=by rw [<- UZ]
  have ajn:((iy m.aQ c.Client c.Seq).1:Int)=((dO m c).2):=by unfold dO; rw [aK (by simpa using rU),aK kJ,aK aj,aO aav]
  exact⟨JG,JH,JI,JJ,JL,JM,by first | (rw [ajn,U0,U1,QE] <;> rfl) | (rw [U0,U1,QE,ajn] <;> rfl),by rw [<- U0,<- U1,<- QE]; exact((rW.rm s5).cU 0 2)⟩
 refine zF ?_;refine aZ<|rg<|jD g1 2 BD K10 s0 Y<|jD g2 0 OW K10 s5 Y<|jD g2 1 V3 K10 s5 Y<|gW Y (ahE _ (K10.s s3).any c.Client c.Seq 0 hz.2.2.2) ?_
 rintro _ WO ⟨ahj,ahk,rfl,h13⟩;have vC:=K10.f1 h13;refine mv Y<|xt Y Y<|xt Y Y<|iA Y<|bS Y<|WP.keep' [(2,fP g1),(3,fP g2),(4,fP g3),(10,aD ((oP m.aQ c.Client c.Seq 0).2))] Y<|bQ Y<|ev (rz Y Y)<|dn<|bR Y (λagm=>?_) (λagm=>?_)
 ·replace agm:=nS agm;refine rg<|ev (dK qO Y Y (vC.x s1))<|mv Y<|ev (Ev.neg Y (vM (by have h3:=adN (a:=0) (l:=m.aQ) (bg:=c.Client) (seq:=c.Seq) aj (by simpa using aav); omega) (by have h3:=adN (a:=0) (l:=m.aQ) (bg:=c.Client) (seq:=c.Seq) aj (by simpa using aav); omega)))<|sty rfl vC s5 rfl λXv vo=>bS rfl<|je (gL (oW rfl ⟨_,_,rfl,⟨_,rfl,jm (cs:=[.slice JG m.aY.length JH,.slice JI m.aA.length JJ,.slice JL m.aQ.length JM]) qO rfl (vo.x s0)⟩,⟨_,_,rfl,rfl,rfl⟩⟩ ?_))
  have afF:(m:dU)=((dO m c).1):=by unfold dO; rw [aK (by simpa using rU),aK kJ,aK aj,aK (by simpa using aav),aO agm]
  have afG:(m.aY:List aW)=(((dO m c).1).aY):=by rw [<- afF]
  have afH:(m.aA:List aI)=(((dO m c).1).aA):=by rw [<- afF]
  have afI:(m.aQ:List aU)=(((dO m c).1).aQ):=by rw [<- afF]
  have ajo:(-((oP m.aQ c.Client c.Seq 0).2):Int)=((dO m c).2):=by unfold dO; rw [aK (by simpa using rU),aK kJ,aK aj,aK (by simpa using aav),aO agm]
  exact⟨JG,JH,JI,JJ,JL,JM,by first | (rw [ajo,afG,afH,afI] <;> rfl) | (rw [afG,afH,afI,ajo] <;> rfl),by rw [<- afG,<- afH,<- afI]; exact((vo.rm s6).cU 0 3)⟩
 replace agm:=nT agm;refine jh ?_;refine rg<|ev (dK qO Y Y (vC.x s1))<|ev (dK AA Y Y (vC.x s6))<|gW Y (ahG _ m (vC.s s2) (vC.s s3) (vC.s s4) c hz.1 hz.2.1 hz.2.2.1) ?_
 rintro _ Yg ⟨Gx,Gy,ahL,ahM,aCf,aCg,rfl,h15⟩;have yX:=vC.c3 h15;refine mv Y<|xt Y Y<|xt Y Y<|al yG Y yX λg4 w16 Bv=>sty Y Bv s0 Y λw17 xS=>bS Y<|rg<|jD g1 2 BD xS s5 Y<|jD g2 0 OW xS s10 Y<|jD g2 1 V3 xS s10 Y<|mv Y<|gW Y (ahE _ (xS.s s8).any c.Client c.Seq ((og m c).2) hz.2.2.2) ?_
 rintro _ w18 ⟨amL,amM,rfl,h18⟩;have FR:=xS.f1 h18;refine mv Y<|xt Y Y<|xt Y Y<|wC g4 2 BD Y<|wD Y FR s1 Y λw19 Bf=>dn<|rg<|ev (dK qO Y Y (Bf.x s0))<|mv Y<|sty Y Bf s10 Y λw20 DL=>bS Y<|je (oW Y ⟨_,_,Y,⟨_,Y,jm (cs:=[.slice Gx ((((og m c).1).aY).length) Gy,.slice ahL ((((og m c).1).aA).length) ahM,.slice amL (((oP m.aQ c.Client c.Seq ((og m c).2)).1).length) amM]) qO Y (DL.x s0)⟩,⟨_,_,Y,Y,Y⟩⟩ ?_)
 have afJ:((⟨((og m c).1).aY,((og m c).1).aA,(oP m.aQ c.Client c.Seq ((og m c).2)).1⟩:dU):dU)=((dO m c).1):=by unfold dO; rw [aK (by simpa using rU),aK kJ,aK aj,aK (by simpa using aav),aK aj]
 have afK:(((og m c).1).aY:List aW)=(((dO m c).1).aY):=by rw [<- afJ]
 have avv:(((og m c).1).aA:List aI)=(((dO m c).1).aA):=by rw [<- afJ]
 have H1:=DL.fz s2;have avw:((oP m.aQ c.Client c.Seq ((og m c).2)).1:List aU)=(((dO m c).1).aQ):=by rw [<- afJ]
 have ay1:((og m c).2:Int)=((dO m c).2):=by unfold dO; rw [aK (by simpa using rU),aK kJ,aK aj,aK (by simpa using aav),aK aj]
 exact⟨Gx,Gy,ahL,ahM,amL,amM,by first | (rw [ay1,afK,avv,avw] <;> rfl) | (rw [afK,avv,avw,ay1] <;> rfl),by rw [<- afK,<- avv,<- avw]; exact((((H1.cU 5 7).cU 1 2).sel s0).mV 1 2)⟩
structure aH where
  aB:Int
  aC:Int
  Sum:Int
  fO:Bool
  Bad:Bool
  deriving DecidableEq
def aH.enc(x:aH):List Value:=[.int .i64 x.aB,.int .i64 x.aC,.int .u32 x.Sum,.bool x.fO,.bool x.Bad]
theorem aH.kC(x:aH):∀ u∈x.enc,u.oneCell'=true:=by
  intro u hu
  simp only [aH.enc,iN,kY,qW] at hu
  rcases hu with rfl | rfl | rfl | rfl | rfl <;> rfl
def bf:Ty aH:=Ty.flat 5 aH.enc au (λ_=>rfl) aH.kC
instance:Flat bf:=⟨λh=>h⟩
abbrev yI(b:Bool):Int:=if b=true then 1 else 0
def GL(x y:aH):Int:=LD [bn x.aB y.aB,bn (yI x.fO) (yI y.fO)]
def Q0(x:aH):Bool:=((decide (1<=x.aB)&&decide (x.aB<=1048576))&&decide (1<=x.aC))&&decide (x.aC<=1073741824)
def XE(x:aH):Bool:=!Q0 x||(x.fO&&x.Bad)
def aaw(p:Option aH)(x:aH):Bool:=match p with | some y=>decide (0<=GL y x) | none=>false
def JN(p:Option aH)(x:aH):Bool:=match p with | some y=>decide (y.aB=x.aB)&&decide (x.aC<=y.aC) | none=>false
def OY(p:Option aH)(x:aH):Bool:=match p with | some y=>decide (y.aB=x.aB) | none=>false
theorem arl{p:Option aH}{x:aH}(h:OY p x=false):false=JN p x:=by
  cases p with
  | none=>rfl
  | some y=>show false=(OY (some y) x&&_); rw [h]; rfl
theorem anL{l:List aH}{x y:aH}(h:OY ((l.take k).getLast?) x=true)(hy:(l.take k).getLast? = some y):decide (x.aC<=y.aC)=JN ((l.take k).getLast?) x:=by
  rw [hy] at h ⊢;show _=(OY (some y) x&&_); rw [h]; rfl
theorem aj0{l:List aH}{x:aH}(h:OY ((l.take k).getLast?) x=true):0<k:=by
  rcases Zf k with rfl | h0
  · cases h
  · exact h0
def LW:Option aH->List aH->Bool
  | _,[]=>true
  | p,x::l=>(!XE x&&!aaw p x&&!JN p x)&&LW (some x) l
def OZ(l:List aH):Bool:=LW none l
def gK(l:List aH):List aH:=if OZ l then l else[]
theorem vI(l:List aH):(gK l).length<=l.length:=by unfold gK; split <;> simp
theorem GN{p:Option aH}{l:List aH}{x:aH}(h:l[k]? = some x):LW p (l.drop k)=((!XE x&&!aaw p x&&!JN p x)&&LW (some x) (l.drop (k+1))):=by
  obtain⟨hk,he⟩:=mM.1 h;rw [yu hk,he]; rfl
theorem Q5{y:α}(h:l[k - 1]? = some y)(hk:0<k):(l.take k).getLast? = some y:=by
  obtain⟨k,rfl⟩:∃ j,k=j+1:=⟨k - 1,aj⟩;rw [fI (show l[k]? = some y from h),List.getLast?_concat]
theorem last_zero(h:¬ (0:Int)<((k:Nat):Int)):(l.take k).getLast? = none:=by
  obtain rfl:k=0:=aj
  rfl
theorem aj1{y:α}(h:l[k]? = some y):(l.take (k+1)).getLast? = some y:=by rw [fI h,List.getLast?_concat]
abbrev O4(c:Int)(t:Bool):aH:=⟨c,0,0,t,false⟩
abbrev atR(l:List aH)(c:Int)(t:Bool):Nat:=wI (fun(y:aH)=>GL y (O4 c t)) l
abbrev Nq(l:List aH)(c:Int)(t:Bool):Bool:=wL (fun(y:aH)=>GL y (O4 c t)) l
def yJ(l:List aH)(x:aH):List aH:=if Nq l x.aB x.fO=true then l.set (atR l x.aB x.fO) x else(l.take (atR l x.aB x.fO)++[x]++l.drop (atR l x.aB x.fO))
def yZ(l:List aH)(c:Int)(t:Bool):Option aH:=if Nq l c t=true then l[atR l c t]? else none
def O5(o:Option aH)(v:Int):Bool:=match o with | some y=>decide (v<=y.aC) | none=>false
def agn(o:Option aH)(v:Int):Bool:=match o with | some y=>!decide (y.aC=v) | none=>true
def jY(l:List aH)(x:aH)(bJ:Int):List aH × Int:=
  if(!Q0 x)=true then([],1) else if O5 (yZ (gK l) x.aB false) x.aC=true then([],9) else
  if O5 (yZ (gK l) x.aB true) x.aC=true then([],6) else
  if((!Nq (gK l) x.aB true)&&decide (bJ<=(((gK l).length:Nat):Int)))=true then([],7) else(yJ (gK l) ⟨x.aB,x.aC,x.Sum,true,false⟩,0)
def lu(l:List aH)(c v:Int):List aH × Int:=if agn (yZ (gK l) c true) v=true then([],5) else
  (yJ ((gK l).take (atR (gK l) c true)++(gK l).drop (atR (gK l) c true+1)) ⟨((yZ (gK l) c true).getD (O4 0 false)).aB,((yZ (gK l) c true).getD (O4 0 false)).aC,((yZ (gK l) c true).getD (O4 0 false)).Sum,false,((yZ (gK l) c true).getD (O4 0 false)).Bad⟩,0)
def oo(l:List aH)(c:Int):List aH × Int:=if Nq (gK l) c false=true then((gK l).filter (fun(x:aH)=>!(decide (x.aB=c)&&!x.fO)),0) else([],5)
def Dp(l:List aH)(c:Int):List aH:=(gK l).filter (fun(x:aH)=>!(decide (x.aB=c)&&x.fO))
def eT(l:List aH):List aH:=(gK l).filter (fun(x:aH)=>!x.fO)
theorem agp(l:List aH)(c:Int)(t:Bool):atR l c t<=l.length:=am8 _ _
theorem FH{l:List aH}{t:Bool}{x:aH}(h:Nq l c t=true)(hx:l[atR l c t]? = some x):yZ l c t=some x:=by unfold yZ; rw [aO h,hx]
theorem O6{l:List aH}{t:Bool}(h:Nq l c t=false):yZ l c t=none:=by unfold yZ; rw [aK (by rw [h]; decide)]
theorem MZ{l:List aH}{t:Bool}(h:Nq l c t=true):atR l c t<l.length:=by obtain⟨x,hx,_⟩:=yC h; exact aJ hx
theorem adO{l:List aH}{v:Int}(h:agn (yZ l c true) v=false):∃ y,Nq l c true=true/\l[atR l c true]? = some y/\y.aC=v/\yZ l c true=some y:=by
  cases h1:Nq l c true with
  | false=>rw [O6 h1] at h; cases h
  | true=>
    obtain⟨y,hy,_⟩:=yC h1;have hy':l[atR l c true]? = some y:=hy;rw [FH h1 hy'] at h;exact⟨y,Y,hy',by simpa [agn] using h,FH h1 hy'⟩
theorem set_mid{l:List aH}{i:Nat}{x:aH}(h:i<=l.length):(l.take i++[x]++l.drop i).set i x=l.take i++[x]++l.drop i:=by
  have h1:(l.take i).length=i:=by rw [fE]; omega
  rw [nU,af2 _ _ aj,h1,Nat.sub_self]; rfl
theorem adP(l:List aH)(x:aH):(yJ l x).length<=l.length+1:=by
  unfold yJ; split
  · rw [fQ]; omega
  · have:=agp l x.aB x.fO; simp only [iO,fE,kN,oI,qx]; omega
theorem lZ:dH prog 132 0 0:=ay
theorem su:dH prog 132 1 1:=ay
theorem ug:dH prog 132 3 3:=ay
theorem agq:kW prog 4:=ay
theorem lQ:Size prog 132 5:=ay
theorem oF:XY prog 132 5:=⟨λ_=>by kernel_rfl,lQ⟩
theorem yK:∀ w,(zeroValue 132).run prog w=.ok (.agg #[aD 0,aD 0,fT 0,.bool false,.bool false]) w:=ay
theorem adQ:dH prog 132 4 4:=ay
theorem anM:bI prog 414:=ay
theorem anN  : ∀ w,(Instr.buildSlice 70 0 (List.toArray [])).run prog w=.ok (.slice (some ⟨w.heap.size,0,none⟩) 0 0) (w.alloc (.cells (List.toArray []) 132)):=ay
theorem agr:kQ prog 132 5 24:=by
  obtain⟨i,h1,h2,h3,h4⟩:=rT (show(prog.info? 132).map (λi=>(i.zero,i.size,i.bytes))=some (some (.agg #[aD 0,aD 0,fT 0,.bool false,.bool false]),5,24) by kernel_rfl);exact⟨i,_,h1,h2,h3,h4,Y⟩
theorem aax(a0:Int)(a1:Bool):prog.built 132 [(0,aD a0),(3,.bool a1)]=some #[aD a0,aD 0,fT 0,.bool a1,.bool false]:=ak
theorem adR(w:World)(is_:Bool) :
    bO prog 438 #[.bool is_] w λv w'=>v=aD (yI is_)/\Hp w S0 w' []:=by
 refine j4 S0 func438 ntmps438 Y λH0=>iY Y<|aZ<|bQ Y<|dn<|bR Y (λhc3=>?_) (λhc3=>?_)
 ·refine iY Y<|vG Y ?_
  have d9:(1:Int)=(yI is_):=by rw [hc3]; rfl
  exact⟨by rw [<- d9] <;> rfl,H0⟩
 refine jh ?_;refine iY Y<|iI Y ?_
 have fG:(0:Int)=(yI is_):=by rw [hc3]; rfl
 exact⟨by rw [<- fG] <;> rfl,H0⟩
theorem YH(w:World)(x:aH) :
    bO prog 370 #[.agg #[aD x.aB,aD x.aC,fT x.Sum,.bool x.fO,.bool x.Bad]] w λv w'=>v=.bool (Q0 x)/\Hp w S0 w' []:=by
 refine j4 S0 func370 ntmps370 Y λH0=>rg<|bx Y Y H0 λg1 w1 K1=>bS Y<|rg<|jD g1 0 lZ K1 s0 Y<|ev (pK Y Y)<|mv Y<|iG 4 10 ((decide (1<=x.aB))&&(decide (x.aB<=1048576))) ?_ ?_
 ·cases hb6:decide (1<=x.aB) with
  | true=>
   refine wP g1 0 lZ K1 s0 Y<|bG Y (uK Y Y) Y<|ev (dY Y Y)<|dI Y
  | false=>
   refine eB<|eB<|eB<|ev (eG Y Y)<|dI Y
 refine mv Y<|iG 4 15 (((decide (1<=x.aB))&&(decide (x.aB<=1048576)))&&(decide (1<=x.aC))) ?_ ?_
 ·cases Qu:((decide (1<=x.aB))&&(decide (x.aB<=1048576))) with
  | true=>
   have Jg:=Qu
   try simp only [bK,dZ,bL,bU] at Jg
   refine wP g1 1 su K1 s0 Y<|bG Y (pK Y Y) Y<|ev (dY Y Y)<|dI Y
  | false=>
   refine eB<|eB<|eB<|ev (eG Y Y)<|dI Y
 refine mv Y<|iG 4 20 ((((decide (1<=x.aB))&&(decide (x.aB<=1048576)))&&(decide (1<=x.aC)))&&(decide (x.aC<=1073741824))) ?_ ?_
 ·cases UN:(((decide (1<=x.aB))&&(decide (x.aB<=1048576)))&&(decide (1<=x.aC))) with
  | true=>
   have NW:=UN
   try simp only [bK,dZ,bL,bU] at NW
   refine wP g1 1 su K1 s0 Y<|bG Y (uK Y Y) Y<|ev (dY Y Y)<|dI Y
  | false=>
   refine eB<|eB<|eB<|ev (eG Y Y)<|dI Y
 refine bS Y<|iI Y ?_
 have d9:(((((decide (1<=x.aB))&&(decide (x.aB<=1048576)))&&(decide (1<=x.aC)))&&(decide (x.aC<=1073741824))):Bool)=(Q0 x):=by rfl
 exact⟨by rw [d9] <;> rfl,(K1.rm s0)⟩
abbrev aay(gJ iK:aH):=([bn gJ.aB iK.aB,bn (yI gJ.fO) (yI iK.fO)]:List Int)
theorem YI(w:World)(x:aH)(y:aH) :
    bO prog 414 #[.agg #[aD x.aB,aD x.aC,fT x.Sum,.bool x.fO,.bool x.Bad],.agg #[.int .i64 y.aB,.int .i64 y.aC,fT y.Sum,.bool y.fO,.bool y.Bad]] w λv w'=>v=aD (GL x y)/\Hp w S0 w' []:=by
 refine j4 S0 func414 ntmps414 Y λH0=>rg<|bx Y Y H0 λg1 w1 K1=>bx Y Y K1 λg2 w2 K2=>bS Y<|He K2 (λ_ K=>K) (λl0 rk lJ wJ=>lJ=(4,aD (LD (aay x y)))::l0/\Hp w S0 wJ rk) (λhns H1=>?_) ?_
 ·refine mD 0 1 g1 0 lZ s1 Y H1<|mD 2 3 g2 0 lZ s0 Y H1<|mD 5 6 g1 3 ug s1 Y H1<|mD 8 9 g2 3 ug s0 Y H1<|O1 4 Y<|lF H1 Y (mF (S0:=Any) _ x.aB y.aB) λw3 K3=>aP K3<|O1 7 Y<|lF K3 Y (adR (S0:=Any) _ x.fO) λw4 K4=>aP K4<|O1 10 Y<|lF K4 Y (adR (S0:=Any) _ y.fO) λw5 K5=>aP K5<|O1 11 Y<|lF K5 Y (mF (S0:=Any) _ (yI x.fO) (yI y.fO)) λw6 K6=>aP K6<|O1 12 Y<|bsn (τ:=dL) (xs:=(aay x y)) (vs:=[(0,aD (bn x.aB y.aB)),(1,aD (bn (yI x.fO) (yI y.fO)))]) (css:=[[aD (bn x.aB y.aB)],[aD (bn (yI x.fO) (yI y.fO))]]) Y (by intro _; apply Gn) rfl rfl K6 (λ_ e=>⟨rfl,rfl,trivial⟩) λg3 w7 K7=>?_
  have k1:=(K7.rm s0);refine aP k1<|O1 13 Y<|lF K7 Y (acu _ (K7.o s0)) λw8 K8=>?_
  have k2:=(K8.rm s0);refine aP k2<|xJ 14 Y Y k2<|Dn ⟨Y,(K8.rm s0)⟩ Y
 rintro _ w9 ⟨rfl,K9⟩;refine iI Y ?_;have d9:(LD (aay x y):Int)=(GL x y):=by rfl
 exact⟨by rw [d9] <;> rfl,K9.z⟩
theorem arn(w:World){l:List aH}(iR:Sl bf S0 w jl jg l) :
    bO prog 400 #[.slice jl l.length jg] w λv w'=>v=.bool (OZ l)/\Hp w S0 w' []:=by
 refine j4 S0 func400 ntmps400 Y λH0=>?_;have EG:=iR.bN;refine iY Y<|aZ<|bQ Y<|ev (eY jo Y)<|mv Y<|dn<|cZ<|Lp H0 (λl0 rk mJ lJ wJ=>∃(k:Nat),lJ=(7,aD ((k:Nat):Int))::l0/\mJ=l.length - k/\k<=l.length/\(OZ l=LW ((l.take k).getLast?) (l.drop k))/\Hp w S0 wJ rk) ⟨0,Y,Y,fK _,by rfl,H0⟩ rfl ?_
 rintro _ _ w1 ⟨k,rfl,rfl,hk,hri,K1⟩;refine rg<|ev (fB Y Y)<|dn<|oC Y (λhc8=>?_) (λhc8=>?_)
 ·refine jh ?_;refine aZ<|cZ<|bQ Y ?_
  obtain⟨x1,bP⟩:=bC (xs:=l) (i:=k) aj;refine ev (eU (i:=k) jo lQ Y Y Y (aJ bP) ((K1.a iR).some_ bP))<|ev (fV oF Y Y ((K1.a iR).eX bP))<|al yK Y K1 λg1 w2 K2=>iA Y<|sty Y K2 s0 Y λw3 K3=>dn<|cZ<|rg<|ev (dK oF Y Y (K3.x s0))<|lF K3 Y (YH (S0:=Any) _ x1) λw4 K4=>ev (gZ Y)<|mv Y<|iG 7 23 ((!(Q0 x1))||(x1.fO&&x1.Bad)) ?_ ?_
  ·cases UN:(!(Q0 x1)) with
   | true=>
    refine eB<|eB<|eB<|eB<|eB<|eB<|ev (dY Y Y)<|dI Y
   | false=>
    refine wP g1 3 ug K4 s0 Y<|bG Y (bA Y) Y<|iG 3 22 (x1.fO&&x1.Bad) ?_ ?_
    ·cases XB:x1.fO with
     | true=>
      refine wP g1 4 adQ K4 s0 Y<|bG Y (dY Y Y) Y<|dI Y
     | false=>
      refine eB<|eB<|bG Y (eG Y Y) Y<|dI Y
    refine ev (eG Y Y)<|dI Y
  refine bS Y<|bR Y (λnQ=>?_) (λnQ=>?_)
  ·refine iY Y<|je (jH (jH (gL (gL (jH (gL (zD Y ?_)))))))
   have d9:(false:Bool)=(OZ l):=by rw [hri,GN bP,show XE x1=true from nQ]; rfl
   exact⟨by rw [<- d9] <;> rfl,(K4.rm s0)⟩
  refine qo ak ak<|bD (bA Y) Y<|bD (pJ Y Y) Y<|bD (bA Y) Y<|qy 9 36 (aaw ((l.take k).getLast?) x1) ?_ ?_
  ·cases ay3:decide (0<((k:Nat):Int)) with
   | true=>
    have aF0:=jC ay3;refine dV Y (bA Y) Y<|dV Y (bA Y) Y<|dV Y (Ev.apQ (a:=k) (b:=1) Y Y Y aj aj) Y ?_
    obtain⟨x2,kK⟩:=bC (xs:=l) (i:=k - 1) aj;refine dV Y (eU (i:=k - 1) jo lQ Y Y Y (aJ kK) ((K4.a iR).some_ kK)) Y<|dV Y (fV oF Y Y ((K4.a iR).eX kK)) Y<|dV Y (dK oF Y Y (K4.x s0)) Y<|NA Y (v:=aD (GL x2 x1)) Y Y Y anM (λwq eq=>(YI (S0:=Any) wq x2 x1).mono (by rintro _ _ ⟨rfl,fG⟩; exact⟨rfl,fG.ext⟩)) rfl<|dV rfl (pK rfl rfl) rfl<|bD (dY rfl rfl) rfl<|Bd (t:=36) (u:=.bool (decide (0<=GL x2 x1))) (v:=.bool (aaw ((l.take k).getLast?) x1)) rfl (aS Value.bool (by rw [Q5 kK aj]; rfl))<|jJ rfl
   | false=>
    refine dF Y Y Y<|dF Y Y Y<|dF Y Y Y<|dF Y Y Y<|dF Y Y Y<|dF Y Y Y<|dF Y Y Y<|dF Y Y Y<|bD (eG Y Y) Y<|Bd (t:=36) (u:=.bool false) (v:=.bool (aaw ((l.take k).getLast?) x1)) Y (aS Value.bool (by rw [last_zero (kg ay3)]; rfl))<|jJ rfl
  refine bD (nP Y) Y<|qp λw5 e5=>?_
  have K5:=K4.grow e5;refine bR Y (λhc24=>?_) (λhc24=>?_)
  ·refine iY Y<|je (jH (jH (gL (gL (jH (gL (zD Y ?_)))))))
   have fG:(false:Bool)=(OZ l):=by rw [hri,GN bP,hc24]; simp
   exact⟨by rw [<- fG] <;> rfl,(K5.rm s0)⟩
  refine qo ak ak<|bD (bA Y) Y<|bD (pJ Y Y) Y<|bD (bA Y) Y<|qy 10 50 (OY ((l.take k).getLast?) x1) ?_ ?_
  ·cases amc:decide (0<((k:Nat):Int)) with
   | true=>
    have aF1:=jC amc;refine dV Y (bA Y) Y<|dV Y (bA Y) Y<|dV Y (Ev.apQ (a:=k) (b:=1) Y Y Y aj aj) Y ?_
    obtain⟨x3,hx3⟩:=bC (xs:=l) (i:=k - 1) aj;refine dV Y (eU (i:=k - 1) jo lQ Y Y Y (aJ hx3) ((K5.a iR).some_ hx3)) Y<|dV Y (eF lZ Y (gI _ _ _)) Y<|dV Y (jq jG Y ((K5.a iR).fZ (j:=0) hx3 Y)) Y<|dV Y (eF (q:=⟨g1,0,none⟩) lZ Y Y) Y<|dV Y (cu jG Y (K5.x s0) Y) Y<|dV Y (iP Y Y) Y<|bD (dY Y Y) Y<|Bd (t:=50) (u:=.bool (decide (x3.aB=x1.aB))) (v:=.bool (OY ((l.take k).getLast?) x1)) Y (aS Value.bool (by rw [Q5 hx3 aj]; rfl))<|jJ rfl
   | false=>
    refine dF Y Y Y<|dF Y Y Y<|dF Y Y Y<|dF Y Y Y<|dF Y Y Y<|dF Y Y Y<|dF Y Y Y<|dF Y Y Y<|dF Y Y Y<|bD (eG Y Y) Y<|Bd (t:=50) (u:=.bool false) (v:=.bool (OY ((l.take k).getLast?) x1)) Y (aS Value.bool (by rw [last_zero (kg amc)]; rfl))<|jJ rfl
  refine bD (bA Y) Y<|qy 10 61 (JN ((l.take k).getLast?) x1) ?_ ?_
  ·cases avx:OY ((l.take k).getLast?) x1 with
   | true=>
    have hkp:=aj0 avx;refine dV Y (eF (q:=⟨g1,1,none⟩) su Y Y) Y<|dV Y (cu jG Y (K5.x s0) Y) Y<|dV Y (bA Y) Y<|dV Y (bA Y) Y<|dV Y (Ev.apQ (a:=k) (b:=1) Y Y Y aj aj) Y ?_
    obtain⟨x4,hx4⟩:=bC (xs:=l) (i:=k - 1) aj;refine dV Y (eU (i:=k - 1) jo lQ Y Y Y (aJ hx4) ((K5.a iR).some_ hx4)) Y<|dV Y (eF su Y (gI _ _ _)) Y<|dV Y (jq jG Y ((K5.a iR).fZ (j:=1) hx4 Y)) Y<|dV Y (uK Y Y) Y<|bD (dY Y Y) Y<|Bd (t:=61) (u:=.bool (decide (x1.aC<=x4.aC))) (v:=.bool (JN ((l.take k).getLast?) x1)) Y (aS Value.bool (by exact anL avx (Q5 hx4 hkp)))<|jJ rfl
   | false=>
    refine dF Y Y Y<|dF Y Y Y<|dF Y Y Y<|dF Y Y Y<|dF Y Y Y<|dF Y Y Y<|dF Y Y Y<|dF Y Y Y<|dF Y Y Y<|bD (eG Y Y) Y<|Bd (t:=61) (u:=.bool false) (v:=.bool (JN ((l.take k).getLast?) x1)) Y (aS Value.bool (by exact arl avx))<|jJ rfl
  refine bD (nP Y) Y<|qp λw6 e6=>?_
  have K6:=K5.grow e6;refine bR Y (λags=>?_) (λags=>?_)
  ·refine iY Y<|je (jH (jH (gL (gL (jH (gL (zD Y ?_)))))))
   have jQ:(false:Bool)=(OZ l):=by rw [hri,GN bP,ags]; simp
   exact⟨by rw [<- jQ] <;> rfl,(K6.rm s0)⟩
  refine xH (ig (ig (gB ?_)));refine jr<|ev (dW Y Y)<|mv Y<|jv<|dQ ⟨(k+1),Y,Y,aj,by rw [hri,GN bP,aj1 bP,show XE x1=false from nQ,hc24,ags]; rfl,(K6.rm s0)⟩ rfl aj
 refine wQ ?_;refine iY Y<|iI Y ?_
 have lV:(true:Bool)=(OZ l):=by rw [hri,zf aj]; rfl
 exact⟨by rw [<- lV] <;> rfl,K1⟩
theorem adS(w:World){tN:Nat}{s:List aH}(lK:Sl bf S0 w u7 tN s)(hn:s.length<=1000000) :
    bO prog 401 #[.slice u7 s.length tN] w λv w'=>∃(A0:ah)(c0:Nat),v=.slice A0 s.length c0/\Hp w S0 w' [aR bf 132 A0 c0 s]:=by
 refine j4 S0 func401 ntmps401 Y λH0=>iY Y<|aZ<|bQ Y<|ev (Lx jo Y Y)<|dn<|bR Y (λhc4=>?_) (λhc4=>?_)
 ·refine iY Y<|vG Y ?_
  have H1:=H0.nil bf 132;have d9:(([]:List aH):List aH)=s:=by have h1:=lK.nil (by simpa using hc4); have h2:=lK.cap; exact(uI aj).symm
  have H2:=(d9▸H1:Hp w S0 w (aR bf 132 none 0 s::[]));exact⟨none,0,by rw [<- d9] <;> rfl,H2⟩
 refine jh ?_;refine rg<|bs0 (τ:=bf) (vs:=[]) Y (by intro _; apply anN) rfl H0 λg1 w1 K1=>mv rfl<|ap (ys:=s) K1 s0 rfl rfl (K1.a lK).any jo agr av (by first | omega | (simp; omega) | (simp; done)) rfl λnY nZ w2 K2=>bS rfl<|iI rfl ?_
 have fG:((([]:List aH)++s):List aH)=s:=by simp
 rw [fG] at K2;exact⟨nY,nZ,by rw [fG] <;> rfl,K2⟩
theorem O7(w:World){l:List aH}(iR:Sl bf S0 w jl jg l)(hn:l.length<=100000) :
    bO prog 323 #[.slice jl l.length jg] w λv w'=>∃(A0:ah)(c0:Nat),v=.slice A0 ((gK l).length) c0/\Hp w S0 w' [aR bf 132 A0 c0 (gK l)]:=by
 refine j4 S0 func323 ntmps323 Y λH0=>iY Y<|aZ<|bQ Y<|lF H0 Y (arn _ (H0.a iR).any) λw1 K1=>ev (gZ Y)<|dn<|bR Y (λhc5=>?_) (λhc5=>?_)
 ·try simp only [eO,dN,bK,dZ,eu,fC,bL,bU] at hc5
  refine iY Y<|vG Y ?_
  have H1:=K1.nil bf 132;have d9:(([]:List aH):List aH)=(gK l):=by unfold gK; rw [aK (by simpa using hc5)]
  have H2:=(d9▸H1:Hp w S0 w1 (aR bf 132 none 0 (gK l)::[]));exact⟨none,0,by rw [<- d9] <;> rfl,H2⟩
 try simp only [eO,dN,bK,dZ,eu,fC,bL,bU] at hc5
 refine jh ?_;refine bQ Y<|gW Y (adS _ (K1.a iR).any aj) ?_
 rintro _ w2 ⟨ni,nk,rfl,h2⟩;have K2:=K1.f1 h2;refine bS Y<|iI Y ?_
 have fG:(l:List aH)=(gK l):=by unfold gK; rw [aO (by simpa using hc5)]
 have H3:=(fG▸K2:Hp w S0 w2 [aR bf 132 ni nk (gK l)]);exact⟨ni,nk,by rw [<- fG] <;> rfl,H3⟩
theorem V4(w:World){tN:Nat}{s:List aH}(lK:Sl bf S0 w u7 tN s)(target:aH){yS:FuncId}{yV:List Value}(IG:bI prog yS)(f:aH->aH->Int)(II:∀(w':World)(x t:aH),Ext w w'->True->bO prog yS (([.agg #[aD x.aB,aD x.aC,fT x.Sum,.bool x.fO,.bool x.Bad],.agg #[aD t.aB,aD t.aC,fT t.Sum,.bool t.fO,.bool t.Bad]]:List Value)++yV).toArray w' λv w''=>v=aD (f x t)/\Ext w' w'')(hn:s.length<=1000000) :
    bO prog 413 #[.slice u7 s.length tN,.agg #[aD target.aB,aD target.aC,fT target.Sum,.bool target.fO,.bool target.Bad],.func (.func yS) #[] yV.toArray] w λv w'=>v=.tuple #[aD ((wI (fun(y:aH)=>f y target) s:Nat):Int),.bool (wL (fun(y:aH)=>f y target) s)]/\Hp w S0 w' []:=by
 refine j4 S0 func413 ntmps413 Y λH0=>?_;have NI:=lK.bN;refine rg<|bx Y Y H0 λg1 w1 K1=>iA Y<|bS Y<|bQ Y<|ev (eY jo Y)<|bS Y<|bQ Y<|iA Y<|bS Y<|aZ<|cZ<|Lp K1 (λl0 rk mJ lJ wJ=>∃(i j:Nat),lJ=(9,aD ((i:Nat):Int))::(10,aD ((j:Nat):Int))::l0/\mJ=j - i/\(i<=j/\j<=s.length)/\(wI (fun(y:aH)=>f y target) s=Yy (fun(y:aH)=>f y target) s (j - i+1) i j)/\Hp w S0 wJ rk) ⟨0,s.length,Y,Y,by exact⟨fK _,kH _⟩,by rfl,K1⟩ rfl ?_
 rintro _ _ w2 ⟨i,j,rfl,rfl,hij,hbs,K2⟩;refine aZ<|bQ Y<|mv Y<|ev (fB Y Y)<|dn<|kX Y (λhc17=>?_) (λhc17=>?_)
 ·refine jh ?_;refine cZ<|bQ Y<|mv Y<|ev (dW Y Y)<|ev (zi (m:=i+j) p9.1 p9.2.1 p9.2.2 Y (vE aj))<|ev (Ev.aiM (m:=i+j) Y Y)<|ev (zi (m:=((i+j) / 2)) qb.1 qb.2.1 qb.2.2 Y (sS aj))<|bS Y<|qo ak ak<|bD (bA Y) Y<|bD (bA Y) Y<|bD (bA Y) Y ?_
  obtain⟨x1,bP⟩:=bC (xs:=s) (i:=((i+j) / 2)) aj;refine bD (eU (i:=((i+j) / 2)) jo lQ Y Y Y (aJ bP) ((K2.a lK).some_ bP)) Y<|bD (fV oF Y Y ((K2.a lK).eX bP)) Y<|bD (dK oF Y Y (K2.x s0)) Y<|IU (v:=aD (f x1 target)) Y Y Y IG (λwq eq=>II wq x1 target (K2.ext.trans eq) trivial) Y<|bD (fB Y Y) Y<|qp λw3 e3=>?_
  have K3:=K2.grow e3;refine kX Y (λhc31=>?_) (λhc31=>?_)
  ·refine jr<|mv Y<|ev (dW Y Y)<|iA Y<|jv<|ig<|dQ ⟨(((i+j) / 2)+1),j,Y,Y,aj,by first | exact hbs.trans (aap aj bP hc31) | exact hbs.trans (aaq aj bP hc31),K3⟩ rfl aj
  refine jr<|mv Y<|iA Y<|jv<|ig<|dQ ⟨i,((i+j) / 2),Y,Y,aj,by first | exact hbs.trans (aap aj bP hc31) | exact hbs.trans (aaq aj bP hc31),K3⟩ rfl aj
 refine wQ ?_;refine qo ak ak<|bD (bA Y) Y<|bD (bA Y) Y<|bD (bA Y) Y<|bD (fB Y Y) Y<|bD (bA Y) Y<|qy 9 48 (wL (fun(y:aH)=>f y target) s) ?_ ?_
 ·cases Me:decide (((i:Nat):Int)<((s.length:Nat):Int)) with
  | true=>
   have ag3:=jC Me;refine dV Y (bA Y) Y<|dV Y (bA Y) Y<|dV Y (bA Y) Y ?_
   obtain⟨x2,kK⟩:=bC (xs:=s) (i:=i) aj;refine dV Y (eU (i:=i) jo lQ Y Y Y (aJ kK) ((K2.a lK).some_ kK)) Y<|dV Y (fV oF Y Y ((K2.a lK).eX kK)) Y<|dV Y (dK oF Y Y (K2.x s0)) Y<|NA Y (v:=aD (f x2 target)) Y Y Y IG (λwq eq=>II wq x2 target (K2.ext.trans eq) trivial) Y<|dV Y (iP Y Y) Y<|bD (dY Y Y) Y<|Bd (t:=48) (u:=.bool (decide (f x2 target=0))) (v:=.bool (wL (fun(y:aH)=>f y target) s)) Y (aS Value.bool (by have hl:=hbs.trans (KC aj); unfold wL; rw [hl,kK]))<|jJ rfl
  | false=>
   refine dF Y Y Y<|dF Y Y Y<|dF Y Y Y<|dF Y Y Y<|dF Y Y Y<|dF Y Y Y<|dF Y Y Y<|dF Y Y Y<|bD (eG Y Y) Y<|Bd (t:=48) (u:=.bool false) (v:=.bool (wL (fun(y:aH)=>f y target) s)) Y (aS Value.bool (by have hl:=hbs.trans (KC aj); unfold wL; rw [hl,xu (by have:=kg Me; omega)])) ?_
   exact jJ Y
 refine bD (nP Y) Y<|bD (nP Y) Y<|qp λw4 e4=>?_
 have K4:=K2.grow e4;refine iI Y ?_;have d9:(i:Nat)=(wI (fun(y:aH)=>f y target) s):=by exact(hbs.trans (KC aj)).symm
 exact⟨by rw [<- d9] <;> rfl,(K4.rm s0)⟩
theorem JO(w:World){l:List aH}(iR:Sl bf S0 w jl jg l)(aL:Int)(temp:Bool)(hn:l.length<=1000000) :
    bO prog 342 #[.slice jl l.length jg,aD aL,.bool temp] w λv w'=>v=.tuple #[aD ((atR l aL temp:Nat):Int),.bool (Nq l aL temp)]/\Hp w S0 w' []:=by
 refine j4 S0 func342 ntmps342 Y λH0=>rg<|iA Y<|bS Y<|bQ Y<|mv Y<|mv Y<|ev (iE (vs:=[(0,aD aL),(3,.bool temp)]) (cs:=[aD aL,aD 0,fT 0,.bool temp,.bool false]) Y (by apply aax))<|lF H0 rfl (V4 _ (H0.a iR).any (⟨aL,0,0,temp,false⟩:aH) (yV:=[]) anM (fun(x:aH) (t:aH)=>GL x t) (λw' x t e hm=>(YI (S0:=Any) w' x t).mono (by rintro _ _ ⟨rfl,fG⟩; exact⟨rfl,fG.ext⟩)) aj) λw1 K1=>xt rfl rfl<|xt rfl rfl<|iA rfl<|bS rfl<|iI rfl ?_
 have d9:(wI (fun(y:aH)=>GL y (⟨aL,0,0,temp,false⟩:aH)) l:Nat)=(atR l aL temp):=by rfl
 have fG:(wL (fun(y:aH)=>GL y (⟨aL,0,0,temp,false⟩:aH)) l:Bool)=(Nq l aL temp):=by rfl
 exact⟨by rw [d9,fG] <;> rfl,K1⟩
end Go.Proofs.YtlhnnmlenkahlaaGreat
