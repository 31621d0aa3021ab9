/- Lemmas. -/
import Derived.Test.YtlhnnmlenkahlaaGreatrG17
set_option maxRecDepth 4000
set_option linter.all false
namespace Go.Proofs.YtlhnnmlenkahlaaGreat
open Go.RowKit Go.Proofs.Tryz
def jK:=@underlying70
variable {S0:Nat->Prop}{k jk:Nat}{α:Type}{c:Int}{jl vY:ah}{l:List α}
theorem Rt:eu prog 120 0 0:=ay
theorem Yw:eu prog 120 1 1:=ay
set_option maxHeartbeats 1000000 in
theorem Ru(w:World)(m:dF){vR:ah}{vJ:Nat}(Jj:Sl cZ S0 w vR vJ m.aT){vk:ah}{uU:Nat}(KE:Sl bJ S0 w vk uU m.aA){uh:ah}{tq:Nat}(Rb:Sl bX S0 w uh tq m.aP)(c:fV)(hz:mSz m) :
    bS prog 99 #[.agg #[.slice vR m.aT.length vJ,.slice vk m.aA.length uU,.slice uh m.aP.length tq],.agg #[aF c.Client,aF c.Seq,aF c.Kind,aF c.A,aF c.B,aF c.C]] w λv w'=>∃(vP:ah)(vQ:Nat)(zC:ah)(zD:Nat)(zF:ah)(zG:Nat),v=.tuple #[.agg #[.slice vP ((((dD m c).1).aT).length) vQ,.slice zC ((((dD m c).1).aA).length) zD,.slice zF ((((dD m c).1).aP).length) zG],aF ((dD m c).2)]/\Hp w S0 w' [dP cZ vP vQ (((dD m c).1).aT),dP bJ zC zD (((dD m c).1).aA),dP bX zF zG (((dD m c).1).aP)]:=by
 refine kP S0 func99 ntmps99 Y λH0=>rg<|bx Y Y H0 λg1 w1 K1=>bx Y Y K1 λg2 w2 K2=>al yL Y K2 λg3 w3 K3=>bU Y<|rg<|ev (dU sG Y Y (K3.x s2))<|gX Y (anm _ m (K3.a Jj) (K3.a KE) (K3.a Rb) hz.1 hz.2.1 hz.2.2.1 hz.2.2.2) ?_
 rintro _ w4 ⟨MB,MC,MF,MG,MH,MI,rfl,h4⟩;have K4:=K3.c3 h4;refine sty Y K4 s5 Y λw5 K5=>dn<|aW<|cB<|rg<|ev (dU sG Y Y (K5.x s0))<|mU K5 Y (avk _ m (K5.s s1).any (K5.s s2).any (K5.s s3).any hz.1 hz.2.1) λw6 K6=>ev (iB Y)<|bU Y<|bK Y (λtY=>?_) (λtY=>?_)
 ·try simp only [fq,dX,bN,eH,eG,fP,bO,bV] at tY
  refine rg<|ev (dU sG Y Y (K6.x s0))<|sty Y K6 s4 Y λw7 K7=>bU Y<|jf (jg (fT (qA Y ⟨_,_,Y,⟨_,Y,jL (cs:=[.slice MB m.aT.length MC,.slice MF m.aA.length MG,.slice MH m.aP.length MI]) sG Y (K7.x s0)⟩,⟨_,_,Y,Y,Y⟩⟩ ?_)))
  have eO:(m:dF)=((dD m c).1):=by unfold dD; rw [aO (by simpa using tY)]
  have fQ:(m.aT:List aV)=(((dD m c).1).aT):=by rw [<- eO]
  have jW:(m.aA:List aH)=(((dD m c).1).aA):=by rw [<- eO]
  have mH:(m.aP:List aY)=(((dD m c).1).aP):=by rw [<- eO]
  have rR:((-1):Int)=((dD m c).2):=by unfold dD; rw [aO (by simpa using tY)]
  exact⟨MB,MC,MF,MG,MH,MI,by first | (rw [fQ,jW,mH,<- rR] <;> rfl) | (rw [fQ,jW,mH,<- rR] <;> rfl),by rw [<- fQ,<- jW,<- mH]; exact((K7.rm s5).cU 0 2)⟩
 try simp only [fq,dX,bN,eH,eG,fP,bO,bV] at tY
 refine rg<|jT g2 0 Rt K6 s5 Y<|ev (iA Y Y)<|bU Y<|mQ Y (λlN=>?_) (λlN=>?_)
 ·refine rg<|ev (dU sG Y Y (K6.x s0))<|ev (dU CO Y Y (K6.x s5))<|gX Y (akE _ m (K6.s s1) (K6.s s2) (K6.s s3) c hz.1 hz.2.1 hz.2.2.1) ?_
  rintro _ w8 ⟨ari,arj,ark,arl,arn,aro,rfl,h8⟩;have K8:=K6.c3 h8;refine xt Y Y<|xt Y Y<|sty Y K8 s7 Y λw9 K9=>bU Y<|jf (jg (fT (qA Y ⟨_,_,Y,⟨_,Y,jL (cs:=[.slice ari ((((nT m c).1).aT).length) arj,.slice ark ((((nT m c).1).aA).length) arl,.slice arn ((((nT m c).1).aP).length) aro]) sG Y (K9.x s0)⟩,⟨_,_,Y,Y,Y⟩⟩ ?_)))
  have wM:((nT m c).1:dF)=((dD m c).1):=by unfold dD; rw [aK (by simpa using tY),aO lN]
  have zk:(((nT m c).1).aT:List aV)=(((dD m c).1).aT):=by rw [<- wM]
  have hq8:(((nT m c).1).aA:List aH)=(((dD m c).1).aA):=by rw [<- wM]
  have AJ:(((nT m c).1).aP:List aY)=(((dD m c).1).aP):=by rw [<- wM]
  have r9:((nT m c).2:Int)=((dD m c).2):=by unfold dD; rw [aK (by simpa using tY),aO lN]
  exact⟨ari,arj,ark,arl,arn,aro,by first | (rw [r9,zk,hq8,AJ] <;> rfl) | (rw [zk,hq8,AJ,r9] <;> rfl),by rw [<- zk,<- hq8,<- AJ]; exact((K9.cU 4 5).rm s0)⟩
 refine xQ ?_;refine rg<|jT g1 2 Dv K6 s0 Y<|jT g2 0 Rt K6 s5 Y<|jT g2 1 Yw K6 s5 Y<|mU K6 Y (agc _ (K6.s s3).any c.Client c.Seq (by have:=hz.2.2.2; omega)) λOz K10=>mv rfl<|xt rfl rfl<|xt rfl rfl<|xt rfl rfl<|iI rfl<|iI rfl<|bU rfl<|aW<|cB<|bQ rfl<|ev (nQ rfl rfl)<|bU rfl<|bK rfl (λI5=>?_) (λI5=>?_)
 ·replace I5:=oQ I5;refine rg<|ev (dU sG Y Y (K10.x s0))<|mv Y<|ev (Ev.neg Y (wQ (by have:=ags m.aP c.Client c.Seq; omega) (by have:=ags m.aP c.Client c.Seq; omega)))<|sty rfl K10 s4 rfl λTi tZ=>bU rfl<|jf (jg (fT (qA rfl ⟨_,_,rfl,⟨_,rfl,jL (cs:=[.slice MB m.aT.length MC,.slice MF m.aA.length MG,.slice MH m.aP.length MI]) sG rfl (tZ.x s0)⟩,⟨_,_,rfl,rfl,rfl⟩⟩ ?_)))
  have hq11:(m:dF)=((dD m c).1):=by unfold dD; rw [aK (by simpa using tY),aK lN,aO I5]
  have hq12:(m.aT:List aV)=(((dD m c).1).aT):=by rw [<- hq11]
  have TG:(m.aA:List aH)=(((dD m c).1).aA):=by rw [<- hq11]
  have TH:(m.aP:List aY)=(((dD m c).1).aP):=by rw [<- hq11]
  have Z5:(-((iR m.aP c.Client c.Seq).2.2):Int)=((dD m c).2):=by unfold dD; rw [aK (by simpa using tY),aK lN,aO I5]
  exact⟨MB,MC,MF,MG,MH,MI,by first | (rw [Z5,hq12,TG,TH] <;> rfl) | (rw [hq12,TG,TH,Z5] <;> rfl),by rw [<- hq12,<- TG,<- TH]; exact((tZ.rm s5).cU 0 2)⟩
 replace I5:=oU I5;refine bQ Y<|bU Y<|bK Y (λac9=>?_) (λac9=>?_)
 ·refine rg<|ev (dU sG Y Y (K10.x s0))<|mv Y<|sty Y K10 s4 Y λSm sJ=>bU Y<|jf (jg (fT (qA Y ⟨_,_,Y,⟨_,Y,jL (cs:=[.slice MB m.aT.length MC,.slice MF m.aA.length MG,.slice MH m.aP.length MI]) sG Y (sJ.x s0)⟩,⟨_,_,Y,Y,Y⟩⟩ ?_)))
  have Xv:(m:dF)=((dD m c).1):=by unfold dD; rw [aK (by simpa using tY),aK lN,aK aj,aO ac9]
  have Xw:(m.aT:List aV)=(((dD m c).1).aT):=by rw [<- Xv]
  have Xx:(m.aA:List aH)=(((dD m c).1).aA):=by rw [<- Xv]
  have TI:(m.aP:List aY)=(((dD m c).1).aP):=by rw [<- Xv]
  have amO:((iR m.aP c.Client c.Seq).1:Int)=((dD m c).2):=by unfold dD; rw [aK (by simpa using tY),aK lN,aK aj,aO ac9]
  exact⟨MB,MC,MF,MG,MH,MI,by first | (rw [amO,Xw,Xx,TI] <;> rfl) | (rw [Xw,Xx,TI,amO] <;> rfl),by rw [<- Xw,<- Xx,<- TI]; exact((sJ.rm s5).cU 0 2)⟩
 refine xQ ?_;refine aW<|rg<|jT g1 2 Dv K10 s0 Y<|jT g2 0 Rt K10 s5 Y<|jT g2 1 Yw K10 s5 Y<|gX Y (akC _ (K10.s s3).any c.Client c.Seq 0 hz.2.2.2) ?_
 rintro _ Xu ⟨aki,akj,rfl,h13⟩;have wz:=K10.f1 h13;refine mv Y<|xt Y Y<|xt Y Y<|iI Y<|bU Y<|OQ [(2,gD g1),(3,gD g2),(4,gD g3),(10,aF ((qj m.aP c.Client c.Seq 0).2))] Y<|bQ Y<|ev (nQ Y Y)<|dn<|bK Y (λajd=>?_) (λajd=>?_)
 ·replace ajd:=oQ ajd;refine rg<|ev (dU sG Y Y (wz.x s1))<|mv Y<|ev (Ev.neg Y (wQ (by have h3:=agt (a:=0) (l:=m.aP) (bg:=c.Client) (seq:=c.Seq) aj (by simpa using ac9); omega) (by have h3:=agt (a:=0) (l:=m.aP) (bg:=c.Client) (seq:=c.Seq) aj (by simpa using ac9); omega)))<|sty rfl wz s5 rfl λZ0 wB=>bU rfl<|jf (fT (qA rfl ⟨_,_,rfl,⟨_,rfl,jL (cs:=[.slice MB m.aT.length MC,.slice MF m.aA.length MG,.slice MH m.aP.length MI]) sG rfl (wB.x s0)⟩,⟨_,_,rfl,rfl,rfl⟩⟩ ?_))
  have aiC:(m:dF)=((dD m c).1):=by unfold dD; rw [aK (by simpa using tY),aK lN,aK aj,aK (by simpa using ac9),aO ajd]
  have aiD:(m.aT:List aV)=(((dD m c).1).aT):=by rw [<- aiC]
  have aiE:(m.aA:List aH)=(((dD m c).1).aA):=by rw [<- aiC]
  have aiF:(m.aP:List aY)=(((dD m c).1).aP):=by rw [<- aiC]
  have amP:(-((qj m.aP c.Client c.Seq 0).2):Int)=((dD m c).2):=by unfold dD; rw [aK (by simpa using tY),aK lN,aK aj,aK (by simpa using ac9),aO ajd]
  exact⟨MB,MC,MF,MG,MH,MI,by first | (rw [amP,aiD,aiE,aiF] <;> rfl) | (rw [aiD,aiE,aiF,amP] <;> rfl),by rw [<- aiD,<- aiE,<- aiF]; exact((wB.rm s6).cU 0 3)⟩
 replace ajd:=oU ajd;refine jm ?_;refine rg<|ev (dU sG Y Y (wz.x s1))<|ev (dU CO Y Y (wz.x s6))<|gX Y (akE _ m (wz.s s2) (wz.s s3) (wz.s s4) c hz.1 hz.2.1 hz.2.2.1) ?_
 rintro _ Z4 ⟨Jc,Jd,akJ,akK,aGl,aGm,rfl,h15⟩;have zB:=wz.c3 h15;refine mv Y<|xt Y Y<|xt Y Y<|al yL Y zB λg4 w16 BR=>sty Y BR s0 Y λw17 yB=>bU Y<|rg<|jT g1 2 Dv yB s5 Y<|jT g2 0 Rt yB s10 Y<|jT g2 1 Yw yB s10 Y<|mv Y<|gX Y (akC _ (yB.s s8).any c.Client c.Seq ((nT m c).2) hz.2.2.2) ?_
 rintro _ w18 ⟨aqe,aqf,rfl,h18⟩;have ET:=yB.f1 h18;refine mv Y<|xt Y Y<|xt Y Y<|yA g4 2 Dv Y<|xP Y ET s1 Y λw19 Cc=>dn<|rg<|ev (dU sG Y Y (Cc.x s0))<|mv Y<|sty Y Cc s10 Y λw20 C8=>bU Y<|jf (qA Y ⟨_,_,Y,⟨_,Y,jL (cs:=[.slice Jc ((((nT m c).1).aT).length) Jd,.slice akJ ((((nT m c).1).aA).length) akK,.slice aqe (((qj m.aP c.Client c.Seq ((nT m c).2)).1).length) aqf]) sG Y (C8.x s0)⟩,⟨_,_,Y,Y,Y⟩⟩ ?_)
 have aiG:((⟨((nT m c).1).aT,((nT m c).1).aA,(qj m.aP c.Client c.Seq ((nT m c).2)).1⟩:dF):dF)=((dD m c).1):=by unfold dD; rw [aK (by simpa using tY),aK lN,aK aj,aK (by simpa using ac9),aK aj]
 have aiH:(((nT m c).1).aT:List aV)=(((dD m c).1).aT):=by rw [<- aiG]
 have azT:(((nT m c).1).aA:List aH)=(((dD m c).1).aA):=by rw [<- aiG]
 have H1:=C8.fz s2;have azU:((qj m.aP c.Client c.Seq ((nT m c).2)).1:List aY)=(((dD m c).1).aP):=by rw [<- aiG]
 have aDa:((nT m c).2:Int)=((dD m c).2):=by unfold dD; rw [aK (by simpa using tY),aK lN,aK aj,aK (by simpa using ac9),aK aj]
 exact⟨Jc,Jd,akJ,akK,aqe,aqf,by first | (rw [aDa,aiH,azT,azU] <;> rfl) | (rw [aiH,azT,azU,aDa] <;> rfl),by rw [<- aiH,<- azT,<- azU]; exact((((H1.cU 5 7).cU 1 2).sel s0).mV 1 2)⟩
structure aI where
  aC:Int
  aB:Int
  Sum:Int
  gB:Bool
  Bad:Bool
  deriving DecidableEq
def aI.enc(x:aI):List Value:=[.int .i64 x.aC,.int .i64 x.aB,.int .u32 x.Sum,.bool x.gB,.bool x.Bad]
theorem aI.lF(x:aI):∀ u∈x.enc,u.oneCell'=true:=by
  intro u hu
  simp only [aI.enc,iX,lM,sN] at hu
  rcases hu with rfl | rfl | rfl | rfl | rfl <;> rfl
def bq:Ty aI:=Ty.flat 5 aI.enc au (λ_=>rfl) aI.lF
instance:Flat bq:=⟨λh=>h⟩
abbrev Ad(b:Bool):Int:=if b=true then 1 else 0
def Jt(x y:aI):Int:=OA [bB x.aC y.aC,bB (Ad x.gB) (Ad y.gB)]
def T9(x:aI):Bool:=((decide (1<=x.aC)&&decide (x.aC<=1048576))&&decide (1<=x.aB))&&decide (x.aB<=1073741824)
def aah(x:aI):Bool:=!T9 x||(x.gB&&x.Bad)
def ada(p:Option aI)(x:aI):Bool:=match p with | some y=>decide (0<=Jt y x) | none=>false
def MJ(p:Option aI)(x:aI):Bool:=match p with | some y=>decide (y.aC=x.aC)&&decide (x.aB<=y.aB) | none=>false
def Rw(p:Option aI)(x:aI):Bool:=match p with | some y=>decide (y.aC=x.aC) | none=>false
theorem avI{p:Option aI}{x:aI}(h:Rw p x=false):false=MJ p x:=by
  cases p with
  | none=>rfl
  | some y=>show false=(Rw (some y) x&&_); rw [h]; rfl
theorem arp{l:List aI}{x y:aI}(h:Rw ((l.take k).getLast?) x=true)(hy:(l.take k).getLast? = some y):decide (x.aB<=y.aB)=MJ ((l.take k).getLast?) x:=by
  rw [hy] at h ⊢;show _=(Rw (some y) x&&_); rw [h]; rfl
theorem ano{l:List aI}{x:aI}(h:Rw ((l.take k).getLast?) x=true):0<k:=by
  rcases abV k with rfl | h0
  · cases h
  · exact h0
def OJ:Option aI->List aI->Bool
  | _,[]=>true
  | p,x::l=>(!aah x&&!ada p x&&!MJ p x)&&OJ (some x) l
def Rx(l:List aI):Bool:=OJ none l
def iC(l:List aI):List aI:=if Rx l then l else[]
theorem wN(l:List aI):(iC l).length<=l.length:=by unfold iC; split <;> simp
theorem Ju{p:Option aI}{l:List aI}{x:aI}(h:l[k]? = some x):OJ p (l.drop k)=((!aah x&&!ada p x&&!MJ p x)&&OJ (some x) (l.drop (k+1))):=by
  obtain⟨hk,he⟩:=nP.1 h;rw [zO hk,he]; rfl
theorem Ua{y:α}(h:l[k - 1]? = some y)(hk:0<k):(l.take k).getLast? = some y:=by
  obtain⟨k,rfl⟩:∃ j,k=j+1:=⟨k - 1,aj⟩;rw [fD (show l[k]? = some y from h),List.getLast?_concat]
theorem last_zero(h:¬ (0:Int)<((k:Nat):Int)):(l.take k).getLast? = none:=by
  obtain rfl:k=0:=aj
  rfl
theorem anp{y:α}(h:l[k]? = some y):(l.take (k+1)).getLast? = some y:=by rw [fD h,List.getLast?_concat]
abbrev Ry(c:Int)(t:Bool):aI:=⟨c,0,0,t,false⟩
abbrev atR(l:List aI)(c:Int)(t:Bool):Nat:=xZ (fun(y:aI)=>Jt y (Ry c t)) l
abbrev P7(l:List aI)(c:Int)(t:Bool):Bool:=x8 (fun(y:aI)=>Jt y (Ry c t)) l
def Ae(l:List aI)(x:aI):List aI:=if P7 l x.aC x.gB=true then l.set (atR l x.aC x.gB) x else(l.take (atR l x.aC x.gB)++[x]++l.drop (atR l x.aC x.gB))
def Ba(l:List aI)(c:Int)(t:Bool):Option aI:=if P7 l c t=true then l[atR l c t]? else none
def Rz(o:Option aI)(v:Int):Bool:=match o with | some y=>decide (v<=y.aB) | none=>false
def aje(o:Option aI)(v:Int):Bool:=match o with | some y=>!decide (y.aB=v) | none=>true
def kN(l:List aI)(x:aI)(bM:Int):List aI × Int:=
  if(!T9 x)=true then([],1) else if Rz (Ba (iC l) x.aC false) x.aB=true then([],9) else
  if Rz (Ba (iC l) x.aC true) x.aB=true then([],6) else
  if((!P7 (iC l) x.aC true)&&decide (bM<=(((iC l).length:Nat):Int)))=true then([],7) else(Ae (iC l) ⟨x.aC,x.aB,x.Sum,true,false⟩,0)
def mF(l:List aI)(c v:Int):List aI × Int:=if aje (Ba (iC l) c true) v=true then([],5) else
  (Ae ((iC l).take (atR (iC l) c true)++(iC l).drop (atR (iC l) c true+1)) ⟨((Ba (iC l) c true).getD (Ry 0 false)).aC,((Ba (iC l) c true).getD (Ry 0 false)).aB,((Ba (iC l) c true).getD (Ry 0 false)).Sum,false,((Ba (iC l) c true).getD (Ry 0 false)).Bad⟩,0)
def pz(l:List aI)(c:Int):List aI × Int:=if P7 (iC l) c false=true then((iC l).filter (fun(x:aI)=>!(decide (x.aC=c)&&!x.gB)),0) else([],5)
def EA(l:List aI)(c:Int):List aI:=(iC l).filter (fun(x:aI)=>!(decide (x.aC=c)&&x.gB))
def eY(l:List aI):List aI:=(iC l).filter (fun(x:aI)=>!x.gB)
theorem ajf(l:List aI)(c:Int)(t:Bool):atR l c t<=l.length:=aqK _ _
theorem HV{l:List aI}{t:Bool}{x:aI}(h:P7 l c t=true)(hx:l[atR l c t]? = some x):Ba l c t=some x:=by unfold Ba; rw [aO h,hx]
theorem RA{l:List aI}{t:Bool}(h:P7 l c t=false):Ba l c t=none:=by unfold Ba; rw [aK (by rw [h]; decide)]
theorem Pz{l:List aI}{t:Bool}(h:P7 l c t=true):atR l c t<l.length:=by obtain⟨x,hx,_⟩:=zX h; exact aJ hx
theorem agu{l:List aI}{v:Int}(h:aje (Ba l c true) v=false):∃ y,P7 l c true=true/\l[atR l c true]? = some y/\y.aB=v/\Ba l c true=some y:=by
  cases h1:P7 l c true with
  | false=>rw [RA h1] at h; cases h
  | true=>
    obtain⟨y,hy,_⟩:=zX h1;have hy':l[atR l c true]? = some y:=hy;rw [HV h1 hy'] at h;exact⟨y,Y,hy',by simpa [aje] using h,HV h1 hy'⟩
theorem set_mid{l:List aI}{i:Nat}{x:aI}(h:i<=l.length):(l.take i++[x]++l.drop i).set i x=l.take i++[x]++l.drop i:=by
  have h1:(l.take i).length=i:=by rw [fO]; omega
  rw [oV,aiZ _ _ aj,h1,Nat.sub_self]; rfl
theorem agv(l:List aI)(x:aI):(Ae l x).length<=l.length+1:=by
  unfold Ae; split
  · rw [gJ]; omega
  · have:=ajf l x.aC x.gB; simp only [jd,fO,kW,pF,rH]; omega
theorem mM:eu prog 132 0 0:=ay
theorem sH:eu prog 132 1 1:=ay
theorem uo:eu prog 132 3 3:=ay
theorem ajg:l9 prog 4:=ay
theorem mG:Size prog 132 5:=ay
theorem oZ:Agg prog 132 5:=⟨λ_=>by kernel_rfl,mG⟩
theorem yj:∀ w,(zeroValue 132).run prog w=.ok (.agg #[aF 0,aF 0,gK 0,.bool false,.bool false]) w:=ay
theorem agw:eu prog 132 4 4:=ay
theorem arq:bF prog 414:=ay
theorem ars  : ∀ w,(Instr.buildSlice 70 0 (List.toArray [])).run prog w=.ok (.slice (some ⟨w.heap.size,0,none⟩) 0 0) (w.alloc (.cells (List.toArray []) 132)):=ay
theorem ajh:lW prog 132 5 24:=by
  obtain⟨i,h1,h2,h3,h4⟩:=tX (show(prog.info? 132).map (λi=>(i.zero,i.size,i.bytes))=some (some (.agg #[aF 0,aF 0,gK 0,.bool false,.bool false]),5,24) by kernel_rfl);exact⟨i,_,h1,h2,h3,h4,Y⟩
theorem adb(a0:Int)(a1:Bool):prog.built 132 [(0,aF a0),(3,.bool a1)]=some #[aF a0,aF 0,gK 0,.bool a1,.bool false]:=ak
theorem agx(w:World)(is_:Bool) :
    bS prog 438 #[.bool is_] w λv w'=>v=aF (Ad is_)/\Hp w S0 w' []:=by
 refine kP S0 func438 ntmps438 Y λH0=>iZ Y<|aW<|bQ Y<|dn<|bK Y (λhc3=>?_) (λhc3=>?_)
 ·refine iZ Y<|uX Y ?_
  have eO:(1:Int)=(Ad is_):=by rw [hc3]; rfl
  exact⟨by rw [<- eO] <;> rfl,H0⟩
 refine jm ?_;refine iZ Y<|jc Y ?_
 have fQ:(0:Int)=(Ad is_):=by rw [hc3]; rfl
 exact⟨by rw [<- fQ] <;> rfl,H0⟩
theorem abf(w:World)(x:aI) :
    bS prog 370 #[.agg #[aF x.aC,aF x.aB,gK x.Sum,.bool x.gB,.bool x.Bad]] w λv w'=>v=.bool (T9 x)/\Hp w S0 w' []:=by
 refine kP S0 func370 ntmps370 Y λH0=>rg<|bx Y Y H0 λg1 w1 K1=>bU Y<|rg<|jT g1 0 mM K1 s0 Y<|ev (qK Y Y)<|mv Y<|iP 4 10 ((decide (1<=x.aC))&&(decide (x.aC<=1048576))) ?_ ?_
 ·cases hb6:decide (1<=x.aC) with
  | true=>
   refine wL g1 0 mM K1 s0 Y<|bn Y (vS Y Y) Y<|ev (dH Y Y)<|dM Y
  | false=>
   refine dN<|dN<|dN<|ev (dL Y Y)<|dM Y
 refine mv Y<|iP 4 15 (((decide (1<=x.aC))&&(decide (x.aC<=1048576)))&&(decide (1<=x.aB))) ?_ ?_
 ·cases Tv:((decide (1<=x.aC))&&(decide (x.aC<=1048576))) with
  | true=>
   have Lm:=Tv
   try simp only [bN,eH,bO,bV] at Lm
   refine wL g1 1 sH K1 s0 Y<|bn Y (qK Y Y) Y<|ev (dH Y Y)<|dM Y
  | false=>
   refine dN<|dN<|dN<|ev (dL Y Y)<|dM Y
 refine mv Y<|iP 4 20 ((((decide (1<=x.aC))&&(decide (x.aC<=1048576)))&&(decide (1<=x.aB)))&&(decide (x.aB<=1073741824))) ?_ ?_
 ·cases Vd:(((decide (1<=x.aC))&&(decide (x.aC<=1048576)))&&(decide (1<=x.aB))) with
  | true=>
   have Qw:=Vd
   try simp only [bN,eH,bO,bV] at Qw
   refine wL g1 1 sH K1 s0 Y<|bn Y (vS Y Y) Y<|ev (dH Y Y)<|dM Y
  | false=>
   refine dN<|dN<|dN<|ev (dL Y Y)<|dM Y
 refine bU Y<|jc Y ?_
 have eO:(((((decide (1<=x.aC))&&(decide (x.aC<=1048576)))&&(decide (1<=x.aB)))&&(decide (x.aB<=1073741824))):Bool)=(T9 x):=by rfl
 exact⟨by rw [eO] <;> rfl,(K1.rm s0)⟩
abbrev ade(iD ji:aI):=([bB iD.aC ji.aC,bB (Ad iD.gB) (Ad ji.gB)]:List Int)
theorem abg(w:World)(x:aI)(y:aI) :
    bS prog 414 #[.agg #[aF x.aC,aF x.aB,gK x.Sum,.bool x.gB,.bool x.Bad],.agg #[.int .i64 y.aC,.int .i64 y.aB,gK y.Sum,.bool y.gB,.bool y.Bad]] w λv w'=>v=aF (Jt x y)/\Hp w S0 w' []:=by
 refine kP S0 func414 ntmps414 Y λH0=>rg<|bx Y Y H0 λg1 w1 K1=>bx Y Y K1 λg2 w2 K2=>bU Y<|He K2 (λ_ K=>K) (λl0 rk lJ wJ=>lJ=(4,aF (OA (ade x y)))::l0/\Hp w S0 wJ rk) (λhns H1=>?_) ?_
 ·refine ng 0 1 g1 0 mM s1 Y H1<|ng 2 3 g2 0 mM s0 Y H1<|ng 5 6 g1 3 uo s1 Y H1<|ng 8 9 g2 3 uo s0 Y H1<|O1 4 Y<|mU H1 Y (nK (S0:=Any) _ x.aC y.aC) λw3 K3=>aQ K3<|O1 7 Y<|mU K3 Y (agx (S0:=Any) _ x.gB) λw4 K4=>aQ K4<|O1 10 Y<|mU K4 Y (agx (S0:=Any) _ y.gB) λw5 K5=>aQ K5<|O1 11 Y<|mU K5 Y (nK (S0:=Any) _ (Ad x.gB) (Ad y.gB)) λw6 K6=>aQ K6<|O1 12 Y<|bsn (τ:=dQ) (xs:=(ade x y)) (vs:=[(0,aF (bB x.aC y.aC)),(1,aF (bB (Ad x.gB) (Ad y.gB)))]) (css:=[[aF (bB x.aC y.aC)],[aF (bB (Ad x.gB) (Ad y.gB))]]) Y (by intro _; apply IW) rfl rfl K6 (λ_ e=>⟨rfl,rfl,trivial⟩) λg3 w7 K7=>?_
  have k1:=(K7.rm s0);refine aQ k1<|O1 13 Y<|mU K7 Y (afg _ (K7.o s0)) λw8 K8=>?_
  have k2:=(K8.rm s0);refine aQ k2<|xI 14 Y Y k2<|Dn ⟨Y,(K8.rm s0)⟩ Y
 rintro _ w9 ⟨rfl,K9⟩;refine jc Y ?_;have eO:(OA (ade x y):Int)=(Jt x y):=by rfl
 exact⟨by rw [eO] <;> rfl,K9.z⟩
theorem avJ(w:World){l:List aI}(jo:Sl bq S0 w jl jk l) :
    bS prog 400 #[.slice jl l.length jk] w λv w'=>v=.bool (Rx l)/\Hp w S0 w' []:=by
 refine kP S0 func400 ntmps400 Y λH0=>?_;have EY:=jo.bH;refine iZ Y<|aW<|bQ Y<|ev (eU jK Y)<|mv Y<|dn<|cB<|Lp H0 (λl0 rk mJ lJ wJ=>∃(k:Nat),lJ=(7,aF ((k:Nat):Int))::l0/\mJ=l.length - k/\k<=l.length/\(Rx l=OJ ((l.take k).getLast?) (l.drop k))/\Hp w S0 wJ rk) ⟨0,Y,Y,fJ _,by rfl,H0⟩ rfl ?_
 rintro _ _ w1 ⟨k,rfl,rfl,hk,hri,K1⟩;refine rg<|ev (fC Y Y)<|dn<|pQ Y (λhc8=>?_) (λhc8=>?_)
 ·refine jm ?_;refine aW<|cB<|bQ Y ?_
  obtain⟨x1,bP⟩:=bC (xs:=l) (i:=k) aj;refine ev (cu (i:=k) jK mG Y Y Y (aJ bP) ((K1.a jo).some_ bP))<|ev (gI oZ Y Y ((K1.a jo).fE bP))<|al yj Y K1 λg1 w2 K2=>iI Y<|sty Y K2 s0 Y λw3 K3=>dn<|cB<|rg<|ev (dU oZ Y Y (K3.x s0))<|mU K3 Y (abf (S0:=Any) _ x1) λw4 K4=>ev (iB Y)<|mv Y<|iP 7 23 ((!(T9 x1))||(x1.gB&&x1.Bad)) ?_ ?_
  ·cases Vd:(!(T9 x1)) with
   | true=>
    refine dN<|dN<|dN<|dN<|dN<|dN<|ev (dH Y Y)<|dM Y
   | false=>
    refine wL g1 3 uo K4 s0 Y<|bn Y (bf Y) Y<|iP 3 22 (x1.gB&&x1.Bad) ?_ ?_
    ·cases Z9:x1.gB with
     | true=>
      refine wL g1 4 agw K4 s0 Y<|bn Y (dH Y Y) Y<|dM Y
     | false=>
      refine dN<|dN<|bn Y (dL Y Y) Y<|dM Y
    refine ev (dL Y Y)<|dM Y
  refine bU Y<|bK Y (λoN=>?_) (λoN=>?_)
  ·refine iZ Y<|jf (jg (jg (fT (fT (jg (fT (zA Y ?_)))))))
   have eO:(false:Bool)=(Rx l):=by rw [hri,Ju bP,show aah x1=true from oN]; rfl
   exact⟨by rw [<- eO] <;> rfl,(K4.rm s0)⟩
  refine qo ak ak<|bA (bf Y) Y<|bA (pV Y Y) Y<|bA (bf Y) Y<|rJ 9 36 (ada ((l.take k).getLast?) x1) ?_ ?_
  ·cases avK:decide (0<((k:Nat):Int)) with
   | true=>
    have axU:=gW avK;refine eT Y (bf Y) Y<|eT Y (bf Y) Y<|eT Y (Ev.auf (a:=k) (b:=1) Y Y Y aj aj) Y ?_
    obtain⟨x2,kZ⟩:=bC (xs:=l) (i:=k - 1) aj;refine eT Y (cu (i:=k - 1) jK mG Y Y Y (aJ kZ) ((K4.a jo).some_ kZ)) Y<|eT Y (gI oZ Y Y ((K4.a jo).fE kZ)) Y<|eT Y (dU oZ Y Y (K4.x s0)) Y<|Qg Y (v:=aF (Jt x2 x1)) Y Y Y arq (λwq eq=>(abg (S0:=Any) wq x2 x1).mono (by rintro _ _ ⟨rfl,fQ⟩; exact⟨rfl,fQ.ext⟩)) rfl<|eT rfl (qK rfl rfl) rfl<|bA (dH rfl rfl) rfl<|CY (t:=36) (u:=.bool (decide (0<=Jt x2 x1))) (v:=.bool (ada ((l.take k).getLast?) x1)) rfl (aR Value.bool (by rw [Ua kZ aj]; rfl))<|j3 rfl
   | false=>
    refine dZ Y Y Y<|dZ Y Y Y<|dZ Y Y Y<|dZ Y Y Y<|dZ Y Y Y<|dZ Y Y Y<|dZ Y Y Y<|dZ Y Y Y<|bA (dL Y Y) Y<|CY (t:=36) (u:=.bool false) (v:=.bool (ada ((l.take k).getLast?) x1)) Y (aR Value.bool (by rw [last_zero (iJ avK)]; rfl))<|j3 rfl
  refine bA (om Y) Y<|qp λw5 e5=>?_
  have K5:=K4.grow e5;refine bK Y (λhc24=>?_) (λhc24=>?_)
  ·refine iZ Y<|jf (jg (jg (fT (fT (jg (fT (zA Y ?_)))))))
   have fQ:(false:Bool)=(Rx l):=by rw [hri,Ju bP,hc24]; simp
   exact⟨by rw [<- fQ] <;> rfl,(K5.rm s0)⟩
  refine qo ak ak<|bA (bf Y) Y<|bA (pV Y Y) Y<|bA (bf Y) Y<|rJ 10 50 (Rw ((l.take k).getLast?) x1) ?_ ?_
  ·cases amU:decide (0<((k:Nat):Int)) with
   | true=>
    have aKe:=gW amU;refine eT Y (bf Y) Y<|eT Y (bf Y) Y<|eT Y (Ev.auf (a:=k) (b:=1) Y Y Y aj aj) Y ?_
    obtain⟨x3,hx3⟩:=bC (xs:=l) (i:=k - 1) aj;refine eT Y (cu (i:=k - 1) jK mG Y Y Y (aJ hx3) ((K5.a jo).some_ hx3)) Y<|eT Y (dW mM Y (fH _ _ _)) Y<|eT Y (iL jD Y ((K5.a jo).fF (j:=0) hx3 Y)) Y<|eT Y (dW (q:=⟨g1,0,none⟩) mM Y Y) Y<|eT Y (dx jD Y (K5.x s0) Y) Y<|eT Y (iA Y Y) Y<|bA (dH Y Y) Y<|CY (t:=50) (u:=.bool (decide (x3.aC=x1.aC))) (v:=.bool (Rw ((l.take k).getLast?) x1)) Y (aR Value.bool (by rw [Ua hx3 aj]; rfl))<|j3 rfl
   | false=>
    refine dZ Y Y Y<|dZ Y Y Y<|dZ Y Y Y<|dZ Y Y Y<|dZ Y Y Y<|dZ Y Y Y<|dZ Y Y Y<|dZ Y Y Y<|dZ Y Y Y<|bA (dL Y Y) Y<|CY (t:=50) (u:=.bool false) (v:=.bool (Rw ((l.take k).getLast?) x1)) Y (aR Value.bool (by rw [last_zero (iJ amU)]; rfl))<|j3 rfl
  refine bA (bf Y) Y<|rJ 10 61 (MJ ((l.take k).getLast?) x1) ?_ ?_
  ·cases azV:Rw ((l.take k).getLast?) x1 with
   | true=>
    have hkp:=ano azV;refine eT Y (dW (q:=⟨g1,1,none⟩) sH Y Y) Y<|eT Y (dx jD Y (K5.x s0) Y) Y<|eT Y (bf Y) Y<|eT Y (bf Y) Y<|eT Y (Ev.auf (a:=k) (b:=1) Y Y Y aj aj) Y ?_
    obtain⟨x4,hx4⟩:=bC (xs:=l) (i:=k - 1) aj;refine eT Y (cu (i:=k - 1) jK mG Y Y Y (aJ hx4) ((K5.a jo).some_ hx4)) Y<|eT Y (dW sH Y (fH _ _ _)) Y<|eT Y (iL jD Y ((K5.a jo).fF (j:=1) hx4 Y)) Y<|eT Y (vS Y Y) Y<|bA (dH Y Y) Y<|CY (t:=61) (u:=.bool (decide (x1.aB<=x4.aB))) (v:=.bool (MJ ((l.take k).getLast?) x1)) Y (aR Value.bool (by exact arp azV (Ua hx4 hkp)))<|j3 rfl
   | false=>
    refine dZ Y Y Y<|dZ Y Y Y<|dZ Y Y Y<|dZ Y Y Y<|dZ Y Y Y<|dZ Y Y Y<|dZ Y Y Y<|dZ Y Y Y<|dZ Y Y Y<|bA (dL Y Y) Y<|CY (t:=61) (u:=.bool false) (v:=.bool (MJ ((l.take k).getLast?) x1)) Y (aR Value.bool (by exact avI azV))<|j3 rfl
  refine bA (om Y) Y<|qp λw6 e6=>?_
  have K6:=K5.grow e6;refine bK Y (λaji=>?_) (λaji=>?_)
  ·refine iZ Y<|jf (jg (jg (fT (fT (jg (fT (zA Y ?_)))))))
   have jW:(false:Bool)=(Rx l):=by rw [hri,Ju bP,aji]; simp
   exact⟨by rw [<- jW] <;> rfl,(K6.rm s0)⟩
  refine ze (iE (iE (gG ?_)));refine jy<|ev (dO Y Y)<|mv Y<|jA<|dI ⟨(k+1),Y,Y,aj,by rw [hri,Ju bP,anp bP,show aah x1=false from oN,hc24,aji]; rfl,(K6.rm s0)⟩ rfl aj
 refine wE ?_;refine iZ Y<|jc Y ?_
 have mH:(true:Bool)=(Rx l):=by rw [hri,Bj aj]; rfl
 exact⟨by rw [<- mH] <;> rfl,K1⟩
theorem agy(w:World){uY:Nat}{s:List aI}(mP:Sl bq S0 w vY uY s)(hn:s.length<=1000000) :
    bS prog 401 #[.slice vY s.length uY] w λv w'=>∃(A0:ah)(c0:Nat),v=.slice A0 s.length c0/\Hp w S0 w' [aS bq 132 A0 c0 s]:=by
 refine kP S0 func401 ntmps401 Y λH0=>iZ Y<|aW<|bQ Y<|ev (Ov jK Y Y)<|dn<|bK Y (λhc4=>?_) (λhc4=>?_)
 ·refine iZ Y<|uX Y ?_
  have H1:=H0.nil bq 132;have eO:(([]:List aI):List aI)=s:=by have h1:=mP.nil (by simpa using hc4); have h2:=mP.cap; exact(uE aj).symm
  have H2:=(eO▸H1:Hp w S0 w (aS bq 132 none 0 s::[]));exact⟨none,0,by rw [<- eO] <;> rfl,H2⟩
 refine jm ?_;refine rg<|bs0 (τ:=bq) (vs:=[]) Y (by intro _; apply ars) rfl H0 λg1 w1 K1=>mv rfl<|ap (ys:=s) K1 s0 rfl rfl (K1.a mP).any jK ajh av (by first | omega | (simp; omega) | (simp; done)) rfl λoL oM w2 K2=>bU rfl<|jc rfl ?_
 have fQ:((([]:List aI)++s):List aI)=s:=by simp
 rw [fQ] at K2;exact⟨oL,oM,by rw [fQ] <;> rfl,K2⟩
theorem RB(w:World){l:List aI}(jo:Sl bq S0 w jl jk l)(hn:l.length<=100000) :
    bS prog 323 #[.slice jl l.length jk] w λv w'=>∃(A0:ah)(c0:Nat),v=.slice A0 ((iC l).length) c0/\Hp w S0 w' [aS bq 132 A0 c0 (iC l)]:=by
 refine kP S0 func323 ntmps323 Y λH0=>iZ Y<|aW<|bQ Y<|mU H0 Y (avJ _ (H0.a jo).any) λw1 K1=>ev (iB Y)<|dn<|bK Y (λhc5=>?_) (λhc5=>?_)
 ·try simp only [fq,dX,bN,eH,eG,fP,bO,bV] at hc5
  refine iZ Y<|uX Y ?_
  have H1:=K1.nil bq 132;have eO:(([]:List aI):List aI)=(iC l):=by unfold iC; rw [aK (by simpa using hc5)]
  have H2:=(eO▸H1:Hp w S0 w1 (aS bq 132 none 0 (iC l)::[]));exact⟨none,0,by rw [<- eO] <;> rfl,H2⟩
 try simp only [fq,dX,bN,eH,eG,fP,bO,bV] at hc5
 refine jm ?_;refine bQ Y<|gX Y (agy _ (K1.a jo).any aj) ?_
 rintro _ w2 ⟨oo,oq,rfl,h2⟩;have K2:=K1.f1 h2;refine bU Y<|jc Y ?_
 have fQ:(l:List aI)=(iC l):=by unfold iC; rw [aO (by simpa using hc5)]
 have H3:=(fQ▸K2:Hp w S0 w2 [aS bq 132 oo oq (iC l)]);exact⟨oo,oq,by rw [<- fQ] <;> rfl,H3⟩
theorem Yx(w:World){uY:Nat}{s:List aI}(mP:Sl bq S0 w vY uY s)(target:aI){AA:FuncId}{AX:List Value}(KI:bF prog AA)(f:aI->aI->Int)(KJ:∀(w':World)(x t:aI),Ext w w'->True->bS prog AA (([.agg #[aF x.aC,aF x.aB,gK x.Sum,.bool x.gB,.bool x.Bad],.agg #[aF t.aC,aF t.aB,gK t.Sum,.bool t.gB,.bool t.Bad]]:List Value)++AX).toArray w' λv w''=>v=aF (f x t)/\Ext w' w'')(hn:s.length<=1000000) :
    bS prog 413 #[.slice vY s.length uY,.agg #[aF target.aC,aF target.aB,gK target.Sum,.bool target.gB,.bool target.Bad],.func (.func AA) #[] AX.toArray] w λv w'=>v=.tuple #[aF ((xZ (fun(y:aI)=>f y target) s:Nat):Int),.bool (x8 (fun(y:aI)=>f y target) s)]/\Hp w S0 w' []:=by
 refine kP S0 func413 ntmps413 Y λH0=>?_;have Qm:=mP.bH;refine rg<|bx Y Y H0 λg1 w1 K1=>iI Y<|bU Y<|bQ Y<|ev (eU jK Y)<|bU Y<|bQ Y<|iI Y<|bU Y<|aW<|cB<|Lp K1 (λl0 rk mJ lJ wJ=>∃(i j:Nat),lJ=(9,aF ((i:Nat):Int))::(10,aF ((j:Nat):Int))::l0/\mJ=j - i/\(i<=j/\j<=s.length)/\(xZ (fun(y:aI)=>f y target) s=bsG (fun(y:aI)=>f y target) s (j - i+1) i j)/\Hp w S0 wJ rk) ⟨0,s.length,Y,Y,by exact⟨fJ _,kV _⟩,by rfl,K1⟩ rfl ?_
 rintro _ _ w2 ⟨i,j,rfl,rfl,hij,hbs,K2⟩;refine aW<|bQ Y<|mv Y<|ev (fC Y Y)<|dn<|mQ Y (λhc17=>?_) (λhc17=>?_)
 ·refine jm ?_;refine cB<|bQ Y<|mv Y<|ev (dO Y Y)<|ev (Bl (m:=i+j) qW.1 qW.2.1 qW.2.2 Y (wH aj))<|ev (Ev.ama (m:=i+j) Y Y)<|ev (Bl (m:=((i+j) / 2)) qX.1 qX.2.1 qX.2.2 Y (uL aj))<|bU Y<|qo ak ak<|bA (bf Y) Y<|bA (bf Y) Y<|bA (bf Y) Y ?_
  obtain⟨x1,bP⟩:=bC (xs:=s) (i:=((i+j) / 2)) aj;refine bA (cu (i:=((i+j) / 2)) jK mG Y Y Y (aJ bP) ((K2.a mP).some_ bP)) Y<|bA (gI oZ Y Y ((K2.a mP).fE bP)) Y<|bA (dU oZ Y Y (K2.x s0)) Y<|Fv (v:=aF (f x1 target)) Y Y Y KI (λwq eq=>KJ wq x1 target (K2.ext.trans eq) trivial) Y<|bA (fC Y Y) Y<|qp λw3 e3=>?_
  have K3:=K2.grow e3;refine mQ Y (λhc31=>?_) (λhc31=>?_)
  ·refine jy<|mv Y<|ev (dO Y Y)<|iI Y<|jA<|iE<|dI ⟨(((i+j) / 2)+1),j,Y,Y,aj,by first | exact hbs.trans (ac3 aj bP hc31) | exact hbs.trans (ac4 aj bP hc31),K3⟩ rfl aj
  refine jy<|mv Y<|iI Y<|jA<|iE<|dI ⟨i,((i+j) / 2),Y,Y,aj,by first | exact hbs.trans (ac3 aj bP hc31) | exact hbs.trans (ac4 aj bP hc31),K3⟩ rfl aj
 refine wE ?_;refine qo ak ak<|bA (bf Y) Y<|bA (bf Y) Y<|bA (bf Y) Y<|bA (fC Y Y) Y<|bA (bf Y) Y<|rJ 9 48 (x8 (fun(y:aI)=>f y target) s) ?_ ?_
 ·cases OX:decide (((i:Nat):Int)<((s.length:Nat):Int)) with
  | true=>
   have aj1:=gW OX;refine eT Y (bf Y) Y<|eT Y (bf Y) Y<|eT Y (bf Y) Y ?_
   obtain⟨x2,kZ⟩:=bC (xs:=s) (i:=i) aj;refine eT Y (cu (i:=i) jK mG Y Y Y (aJ kZ) ((K2.a mP).some_ kZ)) Y<|eT Y (gI oZ Y Y ((K2.a mP).fE kZ)) Y<|eT Y (dU oZ Y Y (K2.x s0)) Y<|Qg Y (v:=aF (f x2 target)) Y Y Y KI (λwq eq=>KJ wq x2 target (K2.ext.trans eq) trivial) Y<|eT Y (iA Y Y) Y<|bA (dH Y Y) Y<|CY (t:=48) (u:=.bool (decide (f x2 target=0))) (v:=.bool (x8 (fun(y:aI)=>f y target) s)) Y (aR Value.bool (by have hl:=hbs.trans (NH aj); unfold x8; rw [hl,kZ]))<|j3 rfl
  | false=>
   refine dZ Y Y Y<|dZ Y Y Y<|dZ Y Y Y<|dZ Y Y Y<|dZ Y Y Y<|dZ Y Y Y<|dZ Y Y Y<|dZ Y Y Y<|bA (dL Y Y) Y<|CY (t:=48) (u:=.bool false) (v:=.bool (x8 (fun(y:aI)=>f y target) s)) Y (aR Value.bool (by have hl:=hbs.trans (NH aj); unfold x8; rw [hl,yP (by have:=iJ OX; omega)])) ?_
   exact j3 Y
 refine bA (om Y) Y<|bA (om Y) Y<|qp λw4 e4=>?_
 have K4:=K2.grow e4;refine jc Y ?_;have eO:(i:Nat)=(xZ (fun(y:aI)=>f y target) s):=by exact(hbs.trans (NH aj)).symm
 exact⟨by rw [<- eO] <;> rfl,(K4.rm s0)⟩
theorem MK(w:World){l:List aI}(jo:Sl bq S0 w jl jk l)(aL:Int)(temp:Bool)(hn:l.length<=1000000) :
    bS prog 342 #[.slice jl l.length jk,aF aL,.bool temp] w λv w'=>v=.tuple #[aF ((atR l aL temp:Nat):Int),.bool (P7 l aL temp)]/\Hp w S0 w' []:=by
 refine kP S0 func342 ntmps342 Y λH0=>rg<|iI Y<|bU Y<|bQ Y<|mv Y<|mv Y<|ev (iY (vs:=[(0,aF aL),(3,.bool temp)]) (cs:=[aF aL,aF 0,gK 0,.bool temp,.bool false]) Y (by apply adb))<|mU H0 rfl (Yx _ (H0.a jo).any (⟨aL,0,0,temp,false⟩:aI) (AX:=[]) arq (fun(x:aI) (t:aI)=>Jt x t) (λw' x t e hm=>(abg (S0:=Any) w' x t).mono (by rintro _ _ ⟨rfl,fQ⟩; exact⟨rfl,fQ.ext⟩)) aj) λw1 K1=>xt rfl rfl<|xt rfl rfl<|iI rfl<|bU rfl<|jc rfl ?_
 have eO:(xZ (fun(y:aI)=>Jt y (⟨aL,0,0,temp,false⟩:aI)) l:Nat)=(atR l aL temp):=by rfl
 have fQ:(x8 (fun(y:aI)=>Jt y (⟨aL,0,0,temp,false⟩:aI)) l:Bool)=(P7 l aL temp):=by rfl
 exact⟨by rw [eO,fQ] <;> rfl,K1⟩
end Go.Proofs.YtlhnnmlenkahlaaGreat
