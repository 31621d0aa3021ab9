/- Lemmas. -/
import Derived.Laws.MathBits
import Derived.LoopNIn
import Derived.Test.YtlhnnmlenkahlaaGreathG8
set_option maxRecDepth 4000
set_option linter.all false
namespace Go.Proofs.YtlhnnmlenkahlaaGreat
open Go.RowKit Go.Proofs.Tryz
def jK:=@underlying70
def acR:=@Bool.false_eq_true
def aqU:=@IntKind.wrap_u32
def EN:=@List.nodup_cons
def Yq:=@List.map_congr_left
def aiM:=@List.filter_cons_of_pos
def TD:=@List.mem_iff_getElem?
def OP:=@List.map_map
def aiN:=@ChangeMaps.map_eraseIdx
def Yr:=@List.filter_sublist
def Ji:=@underlying33
section
variable {S0:Nat->Prop}{k jR:Nat}{α:Type}{c:Int}{jU wT:ah}{l:List α}
theorem aqV:dL prog 120 0 0:=ay
set_option maxHeartbeats 1000000 in
theorem QN(w:World)(m:dh){vP:ah}{vv:Nat}(BN:Sl bW S0 w vP vv m.aL){uT:ah}{ug:Nat}(G8:Sl bD S0 w uT ug m.aA){sw:ah}{rW:Nat}(OG:Sl dw S0 w sw rW m.aT)(c:fH)(hz:mSz m)(hx0:c.Client=0) :
    bO prog 99 #[.agg #[.slice vP m.aL.length vv,.slice uT m.aA.length ug,.slice sw m.aT.length rW],.agg #[aI c.Client,aI c.Seq,aI c.Kind,aI c.A,aI c.B,aI c.C]] w λv w'=>∃(vT:ah)(vU:Nat)(zH:ah)(zI:Nat)(zJ:ah)(zK:Nat),v=.tuple #[.agg #[.slice vT ((((eH m c).1).aL).length) vU,.slice zH ((((eH m c).1).aA).length) zI,.slice zJ ((((eH m c).1).aT).length) zK],aI ((eH m c).2)]/\Hp w S0 w' [dH bW vT vU (((eH m c).1).aL),dH bD zH zI (((eH m c).1).aA),dH dw zJ zK (((eH m c).1).aT)]:=by
 refine lg S0 func99 ntmps99 Y λH0=>rg<|bx Y Y H0 λg1 w1 K1=>bx Y Y K1 λg2 w2 K2=>al yJ Y K2 λg3 w3 K3=>bX Y<|rg<|ev (fK yg Y Y (K3.x s2))<|gU Y (amR _ m (K3.a BN) (K3.a G8) (K3.a OG) hz.1 hz.2.1 hz.2.2.1 hz.2.2.2) ?_
 rintro _ w4 ⟨azR,azS,azT,azU,azV,azW,rfl,h4⟩;have K4:=K3.c3 h4;refine sty Y K4 s5 Y λw5 K5=>dn<|aY<|cB<|rg<|ev (fK yg Y Y (K5.x s0))<|nD K5 Y (avf _ m (K5.s s1).any (K5.s s2).any (K5.s s3).any hz.1 hz.2.1) λw6 K6=>ev (iG Y)<|bX Y<|bP Y (λyX=>?_) (λyX=>?_)
 ·try simp only [eT,dO,bK,eu,dZ,fI,bM,bV] at yX
  refine rg<|ev (fK yg Y Y (K6.x s0))<|sty Y K6 s4 Y λw7 K7=>bX Y<|jf (iX (fO (sW Y ⟨_,_,Y,⟨_,Y,kK yg Y (K7.x s0)⟩,⟨_,_,Y,Y,Y⟩⟩ ?_)))
  have fT:(m:dh)=((eH m c).1):=by unfold eH; rw [aS (by simpa using yX)]
  have gu:(m.aL:List aR)=(((eH m c).1).aL):=by rw [<- fT]
  have kC:(m.aA:List aF)=(((eH m c).1).aA):=by rw [<- fT]
  have nC:(m.aT:List fB)=(((eH m c).1).aT):=by rw [<- fT]
  have rV:((-1):Int)=((eH m c).2):=by unfold eH; rw [aS (by simpa using yX)]
  exact⟨azR,azS,azT,azU,azV,azW,by first | (rw [gu,kC,nC,<- rV] <;> rfl) | (rw [gu,kC,nC,<- rV] <;> rfl),by rw [<- gu,<- kC,<- nC]; exact((K7.rm s5).cU 0 2)⟩
 try simp only [eT,dO,bK,eu,dZ,fI,bM,bV] at yX
 refine rg<|j6 g2 0 aqV K6 s5 Y<|ev (iM Y Y)<|bX Y<|mZ Y (λlW=>?_) (λlW=>?_)
 ·refine rg<|ev (fK yg Y Y (K6.x s0))<|ev (fK EK Y Y (K6.x s5))<|gU Y (avw _ m (K6.s s1) (K6.s s2) (K6.s s3) c hz.1 hz.2.1 hz.2.2.1) ?_
  rintro _ w8 ⟨azX,azY,azZ,az0,az1,az2,rfl,h8⟩;have K8:=K6.c3 h8;refine xt Y Y<|xt Y Y<|sty Y K8 s7 Y λw9 K9=>bX Y<|jf (iX (fO (sW Y ⟨_,_,Y,⟨_,Y,kK yg Y (K9.x s0)⟩,⟨_,_,Y,Y,Y⟩⟩ ?_)))
  have xW:((tT m c).1:dh)=((eH m c).1):=by unfold eH; rw [aP (by simpa using yX),aS lW]
  have zX:(((tT m c).1).aL:List aR)=(((eH m c).1).aL):=by rw [<- xW]
  have hq8:(((tT m c).1).aA:List aF)=(((eH m c).1).aA):=by rw [<- xW]
  have zG:(((tT m c).1).aT:List fB)=(((eH m c).1).aT):=by rw [<- xW]
  have vg:((tT m c).2:Int)=((eH m c).2):=by unfold eH; rw [aP (by simpa using yX),aS lW]
  exact⟨azX,azY,azZ,az0,az1,az2,by first | (rw [vg,zX,hq8,zG] <;> rfl) | (rw [zX,hq8,zG,vg] <;> rfl),by rw [<- zX,<- hq8,<- zG]; exact((K9.cU 4 5).rm s0)⟩
 exact absurd hx0 lW
structure aG where
  aD:Int
  aB:Int
  Sum:Int
  gH:Bool
  Bad:Bool
  deriving DecidableEq
def aG.enc(x:aG):List Value:=[.int .i64 x.aD,.int .i64 x.aB,.int .u32 x.Sum,.bool x.gH,.bool x.Bad]
theorem aG.mD(x:aG):∀ u∈x.enc,u.oneCell'=true:=by
  intro u hu
  simp only [aG.enc,iR,mP,tq] at hu
  rcases hu with rfl | rfl | rfl | rfl | rfl <;> rfl
def aZ:Ty aG:=Ty.flat 5 aG.enc au (λ_=>rfl) aG.mD
instance:Flat aZ:=⟨λh=>h⟩
abbrev Dw(b:Bool):Int:=if b=true then 1 else 0
def Kv(x y:aG):Int:=P7 [bL x.aD y.aD,bL (Dw x.gH) (Dw y.gH)]
def NS(x:aG):Bool:=((decide (1<=x.aD)&&decide (x.aD<=1048576))&&decide (1<=x.aB))&&decide (x.aB<=1073741824)
def Yt(x:aG):Bool:=!NS x||(x.gH&&x.Bad)
def acS(p:Option aG)(x:aG):Bool:=match p with | some y=>decide (0<=Kv y x) | none=>false
def LQ(p:Option aG)(x:aG):Bool:=match p with | some y=>decide (y.aD=x.aD)&&decide (x.aB<=y.aB) | none=>false
def QO(p:Option aG)(x:aG):Bool:=match p with | some y=>decide (y.aD=x.aD) | none=>false
theorem avB{p:Option aG}{x:aG}(h:QO p x=false):false=LQ p x:=by
  cases p with
  | none=>rfl
  | some y=>show false=(QO (some y) x&&_); rw [h]; rfl
theorem aqW{l:List aG}{x y:aG}(h:QO ((l.take k).getLast?) x=true)(hy:(l.take k).getLast? = some y):decide (x.aB<=y.aB)=LQ ((l.take k).getLast?) x:=by
  rw [hy] at h ⊢;show _=(QO (some y) x&&_); rw [h]; rfl
theorem amS{l:List aG}{x:aG}(h:QO ((l.take k).getLast?) x=true):0<k:=by
  rcases Nat.eq_zero_or_pos k with rfl | h0
  · cases h
  · exact h0
def Og:Option aG->List aG->Bool
  | _,[]=>true
  | p,x::l=>(!Yt x&&!acS p x&&!LQ p x)&&Og (some x) l
def QS(l:List aG):Bool:=Og none l
def iN(l:List aG):List aG:=if QS l then l else[]
theorem wY(l:List aG):(iN l).length<=l.length:=by unfold iN; split <;> simp
theorem Jj{p:Option aG}{l:List aG}{x:aG}(h:l[k]? = some x):Og p (l.drop k)=((!Yt x&&!acS p x&&!LQ p x)&&Og (some x) (l.drop (k+1))):=by
  obtain⟨hk,he⟩:=sN.1 h;rw [BA hk,he]; rfl
theorem TF{y:α}(h:l[k - 1]? = some y)(hk:0<k):(l.take k).getLast? = some y:=by
  obtain⟨k,rfl⟩:∃ j,k=j+1:=⟨k - 1,aj⟩;rw [fC (show l[k]? = some y from h),List.getLast?_concat]
theorem last_zero(h:¬ (0:Int)<((k:Nat):Int)):(l.take k).getLast? = none:=by
  obtain rfl:k=0:=aj
  rfl
theorem amT{y:α}(h:l[k]? = some y):(l.take (k+1)).getLast? = some y:=by rw [fC h,List.getLast?_concat]
abbrev QT(c:Int)(t:Bool):aG:=⟨c,0,0,t,false⟩
abbrev atR(l:List aG)(c:Int)(t:Bool):Nat:=bsW (fun(y:aG)=>Kv y (QT c t)) l
abbrev RQ(l:List aG)(c:Int)(t:Bool):Bool:=Jd (fun(y:aG)=>Kv y (QT c t)) l
def Am(l:List aG)(x:aG):List aG:=if RQ l x.aD x.gH=true then l.set (atR l x.aD x.gH) x else(l.take (atR l x.aD x.gH)++[x]++l.drop (atR l x.aD x.gH))
def CU(l:List aG)(c:Int)(t:Bool):Option aG:=if RQ l c t=true then l[atR l c t]? else none
def QU(o:Option aG)(v:Int):Bool:=match o with | some y=>decide (v<=y.aB) | none=>false
def aqX(o:Option aG)(v:Int):Bool:=match o with | some y=>!decide (y.aB=v) | none=>true
def kS(l:List aG)(x:aG)(bG:Int):List aG × Int:=
  if(!NS x)=true then([],1) else if QU (CU (iN l) x.aD false) x.aB=true then([],9) else
  if QU (CU (iN l) x.aD true) x.aB=true then([],6) else
  if((!RQ (iN l) x.aD true)&&decide (bG<=(((iN l).length:Nat):Int)))=true then([],7) else(Am (iN l) ⟨x.aD,x.aB,x.Sum,true,false⟩,0)
def mW(l:List aG)(c v:Int):List aG × Int:=if aqX (CU (iN l) c true) v=true then([],5) else
  (Am ((iN l).take (atR (iN l) c true)++(iN l).drop (atR (iN l) c true+1)) ⟨((CU (iN l) c true).getD (QT 0 false)).aD,((CU (iN l) c true).getD (QT 0 false)).aB,((CU (iN l) c true).getD (QT 0 false)).Sum,false,((CU (iN l) c true).getD (QT 0 false)).Bad⟩,0)
def o7(l:List aG)(c:Int):List aG × Int:=if RQ (iN l) c false=true then((iN l).filter (fun(x:aG)=>!(decide (x.aD=c)&&!x.gH)),0) else([],5)
def EO(l:List aG)(c:Int):List aG:=(iN l).filter (fun(x:aG)=>!(decide (x.aD=c)&&x.gH))
def dK(l:List aG):List aG:=(iN l).filter (fun(x:aG)=>!x.gH)
theorem aqY(l:List aG)(c:Int)(t:Bool):atR l c t<=l.length:=azD _ _
theorem Ho{l:List aG}{t:Bool}{x:aG}(h:RQ l c t=true)(hx:l[atR l c t]? = some x):CU l c t=some x:=by unfold CU; rw [aS h,hx]
theorem QV{l:List aG}{t:Bool}(h:RQ l c t=false):CU l c t=none:=by unfold CU; rw [aP (by rw [h]; decide)]
theorem Yu{l:List aG}{t:Bool}(h:RQ l c t=true):atR l c t<l.length:=by obtain⟨x,hx,_⟩:=FT h; exact aM hx
theorem afY{l:List aG}{v:Int}(h:aqX (CU l c true) v=false):∃ y,RQ l c true=true/\l[atR l c true]? = some y/\y.aB=v/\CU l c true=some y:=by
  cases h1:RQ l c true with
  | false=>rw [QV h1] at h; cases h
  | true=>
    obtain⟨y,hy,_⟩:=FT h1;have hy':l[atR l c true]? = some y:=hy;rw [Ho h1 hy'] at h;exact⟨y,Y,hy',by simpa [aqX] using h,Ho h1 hy'⟩
theorem set_mid{l:List aG}{i:Nat}{x:aG}(h:i<=l.length):(l.take i++[x]++l.drop i).set i x=l.take i++[x]++l.drop i:=by
  have h1:(l.take i).length=i:=by rw [iF]; omega
  rw [pE,List.set_append_right _ _ aj,h1,Nat.sub_self]; rfl
theorem afZ(l:List aG)(x:aG):(Am l x).length<=l.length+1:=by
  unfold Am; split
  · rw [gW]; omega
  · have:=aqY l x.aD x.gH; simp only [jG,iF,rR,oV,uE]; omega
theorem mM:dL prog 132 0 0:=ay
theorem rJ:dL prog 132 1 1:=ay
theorem tV:dL prog 132 3 3:=ay
theorem aiO:mg prog 4:=ay
theorem mH:Size prog 132 5:=ay
theorem oU:Z9 prog 132 5:=⟨λ_=>by kernel_rfl,mH⟩
theorem yu:∀ w,(zeroValue 132).run prog w=.ok (.agg #[aI 0,aI 0,gP 0,.bool false,.bool false]) w:=ay
theorem af0:dL prog 132 4 4:=ay
theorem aqZ:bJ prog 414:=ay
theorem aq0  : ∀ w,(Instr.buildSlice 70 0 (List.toArray [])).run prog w=.ok (.slice (some ⟨w.heap.size,0,none⟩) 0 0) (w.alloc (.cells (List.toArray []) 132)):=ay
theorem aiP:lY prog 132 5 24:=by
  obtain⟨i,h1,h2,h3,h4⟩:=uJ (show(prog.info? 132).map (λi=>(i.zero,i.size,i.bytes))=some (some (.agg #[aI 0,aI 0,gP 0,.bool false,.bool false]),5,24) by kernel_rfl);exact⟨i,_,h1,h2,h3,h4,Y⟩
theorem acT(a0:Int)(a1:Bool):prog.built 132 [(0,aI a0),(3,.bool a1)]=some #[aI a0,aI 0,gP 0,.bool a1,.bool false]:=ak
theorem af2(w:World)(is_:Bool) :
    bO prog 438 #[.bool is_] w λv w'=>v=aI (Dw is_)/\Hp w S0 w' []:=by
 refine lg S0 func438 ntmps438 Y λH0=>iT Y<|aY<|bQ Y<|dn<|bP Y (λhc3=>?_) (λhc3=>?_)
 ·refine iT Y<|wO Y ?_
  have fT:(1:Int)=(Dw is_):=by rw [hc3]; rfl
  exact⟨by rw [<- fT] <;> rfl,H0⟩
 refine jy ?_;refine iT Y<|iP Y ?_
 have gu:(0:Int)=(Dw is_):=by rw [hc3]; rfl
 exact⟨by rw [<- gu] <;> rfl,H0⟩
theorem aaN(w:World)(x:aG) :
    bO prog 370 #[.agg #[aI x.aD,aI x.aB,gP x.Sum,.bool x.gH,.bool x.Bad]] w λv w'=>v=.bool (NS x)/\Hp w S0 w' []:=by
 refine lg S0 func370 ntmps370 Y λH0=>rg<|bx Y Y H0 λg1 w1 K1=>bX Y<|rg<|j6 g1 0 mM K1 s0 Y<|ev (qD Y Y)<|mv Y<|iO 4 10 ((decide (1<=x.aD))&&(decide (x.aD<=1048576))) ?_ ?_
 ·cases hb6:decide (1<=x.aD) with
  | true=>
   refine wB g1 0 mM K1 s0 Y<|bE Y (u7 Y Y) Y<|ev (dM Y Y)<|dJ Y
  | false=>
   refine dN<|dN<|dN<|ev (dS Y Y)<|dJ Y
 refine mv Y<|iO 4 15 (((decide (1<=x.aD))&&(decide (x.aD<=1048576)))&&(decide (1<=x.aB))) ?_ ?_
 ·cases SH:((decide (1<=x.aD))&&(decide (x.aD<=1048576))) with
  | true=>
   have KY:=SH
   try simp only [bK,eu,bM,bV] at KY
   refine wB g1 1 rJ K1 s0 Y<|bE Y (qD Y Y) Y<|ev (dM Y Y)<|dJ Y
  | false=>
   refine dN<|dN<|dN<|ev (dS Y Y)<|dJ Y
 refine mv Y<|iO 4 20 ((((decide (1<=x.aD))&&(decide (x.aD<=1048576)))&&(decide (1<=x.aB)))&&(decide (x.aB<=1073741824))) ?_ ?_
 ·cases Vd:(((decide (1<=x.aD))&&(decide (x.aD<=1048576)))&&(decide (1<=x.aB))) with
  | true=>
   have PW:=Vd
   try simp only [bK,eu,bM,bV] at PW
   refine wB g1 1 rJ K1 s0 Y<|bE Y (u7 Y Y) Y<|ev (dM Y Y)<|dJ Y
  | false=>
   refine dN<|dN<|dN<|ev (dS Y Y)<|dJ Y
 refine bX Y<|iP Y ?_
 exact⟨by skip <;> rfl,(K1.rm s0)⟩
abbrev akg(iE je:aG):=([bL iE.aD je.aD,bL (Dw iE.gH) (Dw je.gH)]:List Int)
theorem aaO(w:World)(x:aG)(y:aG) :
    bO prog 414 #[.agg #[aI x.aD,aI x.aB,gP x.Sum,.bool x.gH,.bool x.Bad],.agg #[.int .i64 y.aD,.int .i64 y.aB,gP y.Sum,.bool y.gH,.bool y.Bad]] w λv w'=>v=aI (Kv x y)/\Hp w S0 w' []:=by
 refine lg S0 func414 ntmps414 Y λH0=>rg<|bx Y Y H0 λg1 w1 K1=>bx Y Y K1 λg2 w2 K2=>bX Y<|He K2 (λ_ K=>K) (λl0 rk lJ wJ=>lJ=(4,aI (P7 (akg x y)))::l0/\Hp w S0 wJ rk) (λhns H1=>?_) ?_
 ·refine nJ 0 1 g1 0 mM s1 Y H1<|nJ 2 3 g2 0 mM s0 Y H1<|nJ 5 6 g1 3 tV s1 Y H1<|nJ 8 9 g2 3 tV s0 Y H1<|O1 4 Y<|nD H1 Y (nZ (S0:=Any) _ x.aD y.aD) λw3 K3=>aO K3<|O1 7 Y<|nD K3 Y (af2 (S0:=Any) _ x.gH) λw4 K4=>aO K4<|O1 10 Y<|nD K4 Y (af2 (S0:=Any) _ y.gH) λw5 K5=>aO K5<|O1 11 Y<|nD K5 Y (nZ (S0:=Any) _ (Dw x.gH) (Dw y.gH)) λw6 K6=>aO K6<|O1 12 Y<|bsn (τ:=dQ) (xs:=(akg x y)) (vs:=[(0,aI (bL x.aD y.aD)),(1,aI (bL (Dw x.gH) (Dw y.gH)))]) (css:=[[aI (bL x.aD y.aD)],[aI (bL (Dw x.gH) (Dw y.gH))]]) Y (by intro _; apply IL) rfl rfl K6 (λ_ e=>⟨rfl,rfl,trivial⟩) λg3 w7 K7=>?_
  have k1:=(K7.rm s0);refine aO k1<|O1 13 Y<|nD K7 Y (aeS _ (K7.o s0)) λw8 K8=>?_
  have k2:=(K8.rm s0);refine aO k2<|xL 14 Y Y k2<|Dn ⟨Y,(K8.rm s0)⟩ Y
 rintro _ w9 ⟨rfl,K9⟩;refine iP Y ?_;exact⟨by skip <;> rfl,K9.z⟩
theorem avC(w:World){l:List aG}(jE:Sl aZ S0 w jU jR l) :
    bO prog 400 #[.slice jU l.length jR] w λv w'=>v=.bool (QS l)/\Hp w S0 w' []:=by
 refine lg S0 func400 ntmps400 Y λH0=>?_;have GJ:=jE.bC;refine iT Y<|aY<|bQ Y<|ev (eX jK Y)<|mv Y<|dn<|cB<|Lp H0 (λl0 rk mJ lJ wJ=>∃(k:Nat),lJ=(7,aI ((k:Nat):Int))::l0/\mJ=l.length - k/\k<=l.length/\(QS l=Og ((l.take k).getLast?) (l.drop k))/\Hp w S0 wJ rk) ⟨0,Y,Y,fE _,by rfl,H0⟩ rfl ?_
 rintro _ _ w1 ⟨k,rfl,rfl,hk,hri,K1⟩;refine rg<|ev (fD Y Y)<|dn<|pG Y (λhc8=>?_) (λhc8=>?_)
 ·refine jy ?_;refine aY<|cB<|bQ Y ?_
  obtain⟨x1,bN⟩:=bn (xs:=l) (i:=k) aj;refine ev (eP (i:=k) jK mH Y Y Y (aM bN) ((K1.a jE).some_ bN))<|ev (iU oU Y Y ((K1.a jE).fF bN))<|al yu Y K1 λg1 w2 K2=>jk Y<|sty Y K2 s0 Y λw3 K3=>dn<|cB<|rg<|ev (fK oU Y Y (K3.x s0))<|nD K3 Y (aaN (S0:=Any) _ x1) λw4 K4=>ev (iG Y)<|mv Y<|iO 7 23 ((!(NS x1))||(x1.gH&&x1.Bad)) ?_ ?_
  ·cases Vd:(!(NS x1)) with
   | true=>
    refine dN<|dN<|dN<|dN<|dN<|dN<|ev (dM Y Y)<|dJ Y
   | false=>
    refine wB g1 3 tV K4 s0 Y<|bE Y (bq Y) Y<|iO 3 22 (x1.gH&&x1.Bad) ?_ ?_
    ·cases ZC:x1.gH with
     | true=>
      refine wB g1 4 af0 K4 s0 Y<|bE Y (dM Y Y) Y<|dJ Y
     | false=>
      refine dN<|dN<|bE Y (dS Y Y) Y<|dJ Y
    refine ev (dS Y Y)<|dJ Y
  refine bX Y<|bP Y (λnN=>?_) (λnN=>?_)
  ·refine iT Y<|jf (iX (iX (fO (fO (iX (fO (xV Y ?_)))))))
   have fT:(false:Bool)=(QS l):=by rw [hri,Jj bN,show Yt x1=true from nN]; rfl
   exact⟨by rw [<- fT] <;> rfl,(K4.rm s0)⟩
  refine qU ak ak<|bB (bq Y) Y<|bB (sQ Y Y) Y<|bB (bq Y) Y<|qY 9 36 (acS ((l.take k).getLast?) x1) ?_ ?_
  ·cases amU:decide (0<((k:Nat):Int)) with
   | true=>
    have axK:=iY amU;refine dX Y (bq Y) Y<|dX Y (bq Y) Y<|dX Y (Ev.aue (a:=k) (b:=1) Y Y Y aj aj) Y ?_
    obtain⟨x2,lN⟩:=bn (xs:=l) (i:=k - 1) aj;refine dX Y (eP (i:=k - 1) jK mH Y Y Y (aM lN) ((K4.a jE).some_ lN)) Y<|dX Y (iU oU Y Y ((K4.a jE).fF lN)) Y<|dX Y (fK oU Y Y (K4.x s0)) Y<|Px Y (v:=aI (Kv x2 x1)) Y Y Y aqZ (λwq eq=>(aaO (S0:=Any) wq x2 x1).mono (by rintro _ _ ⟨rfl,gu⟩; exact⟨rfl,gu.ext⟩)) rfl<|dX rfl (qD rfl rfl) rfl<|bB (dM rfl rfl) rfl<|Dm (t:=36) (u:=.bool (decide (0<=Kv x2 x1))) (v:=.bool (acS ((l.take k).getLast?) x1)) rfl (aV Value.bool (by rw [TF lN aj]; rfl))<|jY rfl
   | false=>
    refine dI Y Y Y<|dI Y Y Y<|dI Y Y Y<|dI Y Y Y<|dI Y Y Y<|dI Y Y Y<|dI Y Y Y<|dI Y Y Y<|bB (dS Y Y) Y<|Dm (t:=36) (u:=.bool false) (v:=.bool (acS ((l.take k).getLast?) x1)) Y (aV Value.bool (by rw [last_zero (jS amU)]; rfl))<|jY rfl
  refine bB (pz Y) Y<|qV λw5 e5=>?_
  have K5:=K4.grow e5;refine bP Y (λhc24=>?_) (λhc24=>?_)
  ·refine iT Y<|jf (iX (iX (fO (fO (iX (fO (xV Y ?_)))))))
   have gu:(false:Bool)=(QS l):=by rw [hri,Jj bN,hc24]; simp
   exact⟨by rw [<- gu] <;> rfl,(K5.rm s0)⟩
  refine qU ak ak<|bB (bq Y) Y<|bB (sQ Y Y) Y<|bB (bq Y) Y<|qY 10 50 (QO ((l.take k).getLast?) x1) ?_ ?_
  ·cases aml:decide (0<((k:Nat):Int)) with
   | true=>
    have aLN:=iY aml;refine dX Y (bq Y) Y<|dX Y (bq Y) Y<|dX Y (Ev.aue (a:=k) (b:=1) Y Y Y aj aj) Y ?_
    obtain⟨x3,hx3⟩:=bn (xs:=l) (i:=k - 1) aj;refine dX Y (eP (i:=k - 1) jK mH Y Y Y (aM hx3) ((K5.a jE).some_ hx3)) Y<|dX Y (fQ mM Y (fV _ _ _)) Y<|dX Y (kP jN Y ((K5.a jE).fJ (j:=0) hx3 Y)) Y<|dX Y (fQ (q:=⟨g1,0,none⟩) mM Y Y) Y<|dX Y (eF jN Y (K5.x s0) Y) Y<|dX Y (iM Y Y) Y<|bB (dM Y Y) Y<|Dm (t:=50) (u:=.bool (decide (x3.aD=x1.aD))) (v:=.bool (QO ((l.take k).getLast?) x1)) Y (aV Value.bool (by rw [TF hx3 aj]; rfl))<|jY rfl
   | false=>
    refine dI Y Y Y<|dI Y Y Y<|dI Y Y Y<|dI Y Y Y<|dI Y Y Y<|dI Y Y Y<|dI Y Y Y<|dI Y Y Y<|dI Y Y Y<|bB (dS Y Y) Y<|Dm (t:=50) (u:=.bool false) (v:=.bool (QO ((l.take k).getLast?) x1)) Y (aV Value.bool (by rw [last_zero (jS aml)]; rfl))<|jY rfl
  refine bB (bq Y) Y<|qY 10 61 (LQ ((l.take k).getLast?) x1) ?_ ?_
  ·cases az3:QO ((l.take k).getLast?) x1 with
   | true=>
    have hkp:=amS az3;refine dX Y (fQ (q:=⟨g1,1,none⟩) rJ Y Y) Y<|dX Y (eF jN Y (K5.x s0) Y) Y<|dX Y (bq Y) Y<|dX Y (bq Y) Y<|dX Y (Ev.aue (a:=k) (b:=1) Y Y Y aj aj) Y ?_
    obtain⟨x4,hx4⟩:=bn (xs:=l) (i:=k - 1) aj;refine dX Y (eP (i:=k - 1) jK mH Y Y Y (aM hx4) ((K5.a jE).some_ hx4)) Y<|dX Y (fQ rJ Y (fV _ _ _)) Y<|dX Y (kP jN Y ((K5.a jE).fJ (j:=1) hx4 Y)) Y<|dX Y (u7 Y Y) Y<|bB (dM Y Y) Y<|Dm (t:=61) (u:=.bool (decide (x1.aB<=x4.aB))) (v:=.bool (LQ ((l.take k).getLast?) x1)) Y (aV Value.bool (by exact aqW az3 (TF hx4 hkp)))<|jY rfl
   | false=>
    refine dI Y Y Y<|dI Y Y Y<|dI Y Y Y<|dI Y Y Y<|dI Y Y Y<|dI Y Y Y<|dI Y Y Y<|dI Y Y Y<|dI Y Y Y<|bB (dS Y Y) Y<|Dm (t:=61) (u:=.bool false) (v:=.bool (LQ ((l.take k).getLast?) x1)) Y (aV Value.bool (by exact avB az3))<|jY rfl
  refine bB (pz Y) Y<|qV λw6 e6=>?_
  have K6:=K5.grow e6;refine bP Y (λaiQ=>?_) (λaiQ=>?_)
  ·refine iT Y<|jf (iX (iX (fO (fO (iX (fO (xV Y ?_)))))))
   have kC:(false:Bool)=(QS l):=by rw [hri,Jj bN,aiQ]; simp
   exact⟨by rw [<- kC] <;> rfl,(K6.rm s0)⟩
  refine zo (iw (iw (gy ?_)));refine jC<|ev (dP Y Y)<|mv Y<|jD<|dG ⟨(k+1),Y,Y,aj,by rw [hri,Jj bN,amT bN,show Yt x1=false from nN,hc24,aiQ]; rfl,(K6.rm s0)⟩ rfl aj
 refine xq ?_;refine iT Y<|iP Y ?_
 have nC:(true:Bool)=(QS l):=by rw [hri,Gf aj]; rfl
 exact⟨by rw [<- nC] <;> rfl,K1⟩
theorem af3(w:World){vF:Nat}{s:List aG}(nA:Sl aZ S0 w wT vF s)(hn:s.length<=1000000) :
    bO prog 401 #[.slice wT s.length vF] w λv w'=>∃(A0:ah)(c0:Nat),v=.slice A0 s.length c0/\Hp w S0 w' [aQ aZ 132 A0 c0 s]:=by
 refine lg S0 func401 ntmps401 Y λH0=>iT Y<|aY<|bQ Y<|ev (NW jK Y Y)<|dn<|bP Y (λhc4=>?_) (λhc4=>?_)
 ·refine iT Y<|wO Y ?_
  have H1:=H0.nil aZ 132;have fT:(([]:List aG):List aG)=s:=by have h1:=nA.nil (by simpa using hc4); have h2:=nA.cap; exact(qF aj).symm
  have H2:=(fT▸H1:Hp w S0 w (aQ aZ 132 none 0 s::[]));exact⟨none,0,by rw [<- fT] <;> rfl,H2⟩
 refine jy ?_;refine rg<|bs0 Y (by intro _; apply aq0) rfl H0 λg1 w1 K1=>mv rfl<|ap K1 s0 rfl rfl (K1.a nA).any jK aiP av (by first | omega | (simp; omega) | (simp; done)) rfl λpU pV w2 K2=>bX rfl<|iP rfl ?_
 have gu:((([]:List aG)++s):List aG)=s:=by simp
 rw [gu] at K2;exact⟨pU,pV,by rw [gu] <;> rfl,K2⟩
theorem QW(w:World){l:List aG}(jE:Sl aZ S0 w jU jR l)(hn:l.length<=100000) :
    bO prog 323 #[.slice jU l.length jR] w λv w'=>∃(A0:ah)(c0:Nat),v=.slice A0 ((iN l).length) c0/\Hp w S0 w' [aQ aZ 132 A0 c0 (iN l)]:=by
 refine lg S0 func323 ntmps323 Y λH0=>iT Y<|aY<|bQ Y<|nD H0 Y (avC _ (H0.a jE).any) λw1 K1=>ev (iG Y)<|dn<|bP Y (λhc5=>?_) (λhc5=>?_)
 ·try simp only [eT,dO,bK,eu,dZ,fI,bM,bV] at hc5
  refine iT Y<|wO Y ?_
  have H1:=K1.nil aZ 132;have fT:(([]:List aG):List aG)=(iN l):=by unfold iN; rw [aP (by simpa using hc5)]
  have H2:=(fT▸H1:Hp w S0 w1 (aQ aZ 132 none 0 (iN l)::[]));exact⟨none,0,by rw [<- fT] <;> rfl,H2⟩
 try simp only [eT,dO,bK,eu,dZ,fI,bM,bV] at hc5
 refine jy ?_;refine bQ Y<|gU Y (af3 _ (K1.a jE).any aj) ?_
 rintro _ w2 ⟨pI,pJ,rfl,h2⟩;have K2:=K1.f1 h2;refine bX Y<|iP Y ?_
 have gu:(l:List aG)=(iN l):=by unfold iN; rw [aS (by simpa using hc5)]
 have H3:=(gu▸K2:Hp w S0 w2 [aQ aZ 132 pI pJ (iN l)]);exact⟨pI,pJ,by rw [<- gu] <;> rfl,H3⟩
theorem Yv(w:World){vF:Nat}{s:List aG}(nA:Sl aZ S0 w wT vF s)(target:aG){BF:FuncId}{Fz:List Value}(NH:bJ prog BF)(f:aG->aG->Int)(NI:∀(w':World)(x t:aG),Ext w w'->True->bO prog BF (([.agg #[aI x.aD,aI x.aB,gP x.Sum,.bool x.gH,.bool x.Bad],.agg #[aI t.aD,aI t.aB,gP t.Sum,.bool t.gH,.bool t.Bad]]:List Value)++Fz).toArray w' λv w''=>v=aI (f x t)/\Ext w' w'')(hn:s.length<=1000000) :
    bO prog 413 #[.slice wT s.length vF,.agg #[aI target.aD,aI target.aB,gP target.Sum,.bool target.gH,.bool target.Bad],.func (.func BF) #[] Fz.toArray] w λv w'=>v=.tuple #[aI ((bsW (fun(y:aG)=>f y target) s:Nat):Int),.bool (Jd (fun(y:aG)=>f y target) s)]/\Hp w S0 w' []:=by
 refine lg S0 func413 ntmps413 Y λH0=>?_;have Sv:=nA.bC;refine rg<|bx Y Y H0 λg1 w1 K1=>jk Y<|bX Y<|bQ Y<|ev (eX jK Y)<|bX Y<|bQ Y<|jk Y<|bX Y<|aY<|cB<|Lp K1 (λl0 rk mJ lJ wJ=>∃(i j:Nat),lJ=(9,aI ((i:Nat):Int))::(10,aI ((j:Nat):Int))::l0/\mJ=j - i/\(i<=j/\j<=s.length)/\(bsW (fun(y:aG)=>f y target) s=bsG (fun(y:aG)=>f y target) s (j - i+1) i j)/\Hp w S0 wJ rk) ⟨0,s.length,Y,Y,by exact⟨fE _,kJ _⟩,by rfl,K1⟩ rfl ?_
 rintro _ _ w2 ⟨i,j,rfl,rfl,hij,hbs,K2⟩;refine aY<|bQ Y<|mv Y<|ev (fD Y Y)<|dn<|mZ Y (λhc17=>?_) (λhc17=>?_)
 ·refine jy ?_;refine cB<|bQ Y<|mv Y<|ev (dP Y Y)<|ev (Ep (m:=i+j) uL.1 uL.2.1 uL.2.2 Y (zT aj))<|ev (Ev.aox (m:=i+j) Y Y)<|ev (Ep (m:=((i+j) / 2)) uM.1 uM.2.1 uM.2.2 Y (wQ aj))<|bX Y<|qU ak ak<|bB (bq Y) Y<|bB (bq Y) Y<|bB (bq Y) Y ?_
  obtain⟨x1,bN⟩:=bn (xs:=s) (i:=((i+j) / 2)) aj;refine bB (eP (i:=((i+j) / 2)) jK mH Y Y Y (aM bN) ((K2.a nA).some_ bN)) Y<|bB (iU oU Y Y ((K2.a nA).fF bN)) Y<|bB (fK oU Y Y (K2.x s0)) Y<|KE (v:=aI (f x1 target)) Y Y Y NH (λwq eq=>NI wq x1 target (K2.ext.trans eq) trivial) Y<|bB (fD Y Y) Y<|qV λw3 e3=>?_
  have K3:=K2.grow e3;refine mZ Y (λhc31=>?_) (λhc31=>?_)
  ·refine jC<|mv Y<|ev (dP Y Y)<|jk Y<|jD<|iw<|dG ⟨(((i+j) / 2)+1),j,Y,Y,aj,by first | exact hbs.trans (aqo aj bN hc31) | exact hbs.trans (aqp aj bN hc31),K3⟩ rfl aj
  refine jC<|mv Y<|jk Y<|jD<|iw<|dG ⟨i,((i+j) / 2),Y,Y,aj,by first | exact hbs.trans (aqo aj bN hc31) | exact hbs.trans (aqp aj bN hc31),K3⟩ rfl aj
 refine xq ?_;refine qU ak ak<|bB (bq Y) Y<|bB (bq Y) Y<|bB (bq Y) Y<|bB (fD Y Y) Y<|bB (bq Y) Y<|qY 9 48 (Jd (fun(y:aG)=>f y target) s) ?_ ?_
 ·cases Xl:decide (((i:Nat):Int)<((s.length:Nat):Int)) with
  | true=>
   have aoQ:=iY Xl;refine dX Y (bq Y) Y<|dX Y (bq Y) Y<|dX Y (bq Y) Y ?_
   obtain⟨x2,lN⟩:=bn (xs:=s) (i:=i) aj;refine dX Y (eP (i:=i) jK mH Y Y Y (aM lN) ((K2.a nA).some_ lN)) Y<|dX Y (iU oU Y Y ((K2.a nA).fF lN)) Y<|dX Y (fK oU Y Y (K2.x s0)) Y<|Px Y (v:=aI (f x2 target)) Y Y Y NH (λwq eq=>NI wq x2 target (K2.ext.trans eq) trivial) Y<|dX Y (iM Y Y) Y<|bB (dM Y Y) Y<|Dm (t:=48) (u:=.bool (decide (f x2 target=0))) (v:=.bool (Jd (fun(y:aG)=>f y target) s)) Y (aV Value.bool (by have hl:=hbs.trans (acL aj); unfold Jd; rw [hl,lN]))<|jY rfl
  | false=>
   refine dI Y Y Y<|dI Y Y Y<|dI Y Y Y<|dI Y Y Y<|dI Y Y Y<|dI Y Y Y<|dI Y Y Y<|dI Y Y Y<|bB (dS Y Y) Y<|Dm (t:=48) (u:=.bool false) (v:=.bool (Jd (fun(y:aG)=>f y target) s)) Y (aV Value.bool (by have hl:=hbs.trans (acL aj); unfold Jd; rw [hl,Oj (by have:=jS Xl; omega)])) ?_
   exact jY Y
 refine bB (pz Y) Y<|bB (pz Y) Y<|qV λw4 e4=>?_
 have K4:=K2.grow e4;refine iP Y ?_;exact⟨by rw [hbs.trans (acL aj)] <;> rfl,(K4.rm s0)⟩
theorem LU(w:World){l:List aG}(jE:Sl aZ S0 w jU jR l)(aN:Int)(temp:Bool)(hn:l.length<=1000000) :
    bO prog 342 #[.slice jU l.length jR,aI aN,.bool temp] w λv w'=>v=.tuple #[aI ((atR l aN temp:Nat):Int),.bool (RQ l aN temp)]/\Hp w S0 w' []:=by
 refine lg S0 func342 ntmps342 Y λH0=>rg<|jk Y<|bX Y<|bQ Y<|mv Y<|mv Y<|ev (jX Y (by apply acT))<|nD H0 rfl (Yv _ (H0.a jE).any (⟨aN,0,0,temp,false⟩:aG) aqZ (fun(x:aG) (t:aG)=>Kv x t) (λw' x t e hm=>(aaO (S0:=Any) w' x t).mono (by rintro _ _ ⟨rfl,gu⟩; exact⟨rfl,gu.ext⟩)) aj) λw1 K1=>xt rfl rfl<|xt rfl rfl<|jk rfl<|bX rfl<|iP rfl ?_
 have fT:(bsW (fun(y:aG)=>Kv y (⟨aN,0,0,temp,false⟩:aG)) l:Nat)=(atR l aN temp):=by rfl
 have gu:(Jd (fun(y:aG)=>Kv y (⟨aN,0,0,temp,false⟩:aG)) l:Bool)=(RQ l aN temp):=by rfl
 exact⟨by rw [fT,gu] <;> rfl,K1⟩
end
section
variable {S0 S:Nat->Prop}{wT A jU:ah}{Fz:List Value}{b w:World}{F:List lG}{c jR m:Nat}{xs l:List aG}{a:BitVec 32}{k:IntKind}{z:Int}{t e:TypeId}{ps rs':Array TypeId}
theorem aiR:wz prog 132 5 24:=by
  obtain⟨i,h1,h2,h3,h4⟩:=uJ (show(prog.info? 132).map (λi=>(i.zero,i.size,i.bytes))=some (some (.agg #[aI 0,aI 0,gP 0,.bool false,.bool false]),5,24) by kernel_rfl);exact⟨i,_,h1,h2,h3,h4,Y,λv hv=>ng.1 (show(Value.cells (.agg #[aI 0,aI 0,gP 0,.bool false,.bool false])).toList.all (λv=>v.oneCell')=true from Y) v hv⟩
theorem az4:bJ prog 227:=λ_ _=>by rfl
theorem az5:bJ prog 385:=λ_ _=>by rfl
theorem az6:bJ prog 343:=λ_ _=>by rfl
theorem ZL(a0:Int)(a1:Int)(a2:Int)(a3:Bool)(a4:Bool):∀ w,(Instr.buildSlice 70 1 (List.toArray [(0,.agg #[aI a0,aI a1,gP a2,.bool a3,.bool a4])])).run prog w=.ok (.slice (some ⟨w.heap.size,0,none⟩) 1 1) (w.alloc (.cells (List.toArray [aI a0,aI a1,gP a2,.bool a3,.bool a4]) 132)):=ay
abbrev VI(iE:aG):=([.agg #[aI iE.aD,aI iE.aB,gP iE.Sum,.bool iE.gH,.bool iE.Bad]]:List Value)
theorem J2(w:World){vF:Nat}{s:List aG}(nA:Sl aZ S0 w wT vF s){BF:FuncId}(NH:bJ prog BF)(f:aG->Bool)(NI:∀(w':World)(x:aG),Ext w w'->x∈s->bO prog BF ((VI x)++Fz).toArray w' λv w''=>v=.bool (f x)/\Ext w' w'') :
    bO prog 248 #[.slice wT s.length vF,.func (.func BF) #[] Fz.toArray] w λv w'=>v=aI (idxOf f s)/\Hp w S0 w' []:=by
 refine lg S0 func248 ntmps248 Y λH0=>?_;have Sv:=nA.bC;refine iT Y<|aY<|bQ Y<|ev (eX jK Y)<|mv Y<|dn<|cB<|Lp H0 (λl0 rk mJ lJ wJ=>∃(k:Nat),lJ=(8,aI ((k:Nat):Int))::l0/\mJ=s.length - k/\k<=s.length/\(∀ y∈s.take k,f y=false)/\Hp w S0 wJ rk) ⟨0,Y,Y,fE _,av,H0⟩ rfl ?_
 rintro _ _ w1 ⟨k,rfl,rfl,hk,hno,K1⟩;refine rg<|ev (fD Y Y)<|dn<|pG Y (λFg=>?_) (λFg=>?_)
 ·refine jy ?_;refine aY<|cB<|bQ Y<|bX Y<|bQ Y<|mv Y<|mv Y ?_
  obtain⟨x1,bN⟩:=bn (xs:=s) (i:=k) aj;refine ev (eP (i:=k) jK mH Y Y Y (aM bN) ((K1.a nA).some_ bN))<|ev (iU oU Y Y ((K1.a nA).fF bN))<|zq Y Y Y NH (NI _ x1 K1.ext (bZ bN)) Y ?_
  rintro _ w2 ⟨rfl,e2⟩;have K2:=K1.grow e2;refine dn<|bP Y (λhc16=>?_) (λhc16=>?_)
  ·refine bQ Y<|bX Y<|jf (iX (fO (fO (iX (fO (xV Y ?_))))))
   exact⟨by rw [<- rF hno bN hc16] <;> rfl,K2⟩
  refine Ci ?_;refine jC<|ev (dP Y Y)<|mv Y<|jD<|dG ⟨(k+1),Y,Y,aj,by exact nY hno bN hc16,K2⟩ rfl aj
 refine xq ?_;refine iT Y<|iP Y ?_
 exact⟨by rw [uG (wo hno aj)] <;> rfl,K1⟩
theorem EP(w:World){vF:Nat}{s:List aG}(nA:Sl aZ S0 w wT vF s){BF:FuncId}(NH:bJ prog BF)(f:aG->Bool)(NI:∀(w':World)(x:aG),Ext w w'->x∈s->bO prog BF ((VI x)++Fz).toArray w' λv w''=>v=.bool (f x)/\Ext w' w'') :
    bO prog 164 #[.slice wT s.length vF,.func (.func BF) #[] Fz.toArray] w λv w'=>v=.bool (s.any f)/\Hp w S0 w' []:=by
 refine lg S0 func164 ntmps164 Y λH0=>iT Y<|bQ Y<|mv Y<|nD H0 Y (J2 _ (H0.a nA).any NH f (λw' x e hm=>NI w' x (H0.ext.trans e) hm)) λw1 K1=>ev (qD Y Y)<|bX Y<|iP Y ?_
 exact⟨by rw [VE f s] <;> rfl,K1⟩
theorem TG(H0:Hp b S w (aQ aZ 132 A c xs::F)){fd:FuncId}{kd:List Value}(qd:bJ prog fd)(p:aG->Bool)
    (hd:∀(w':World)(ys:List aG)(x:aG),ys.length=xs.length->Hp b S w' (aQ aZ 132 A c ys::F)->bO prog fd ((VI x)++kd).toArray w' λv w''=>v=.bool (p x)/\Ext w' w'') (hn:xs.length<=1000000) :
    bO prog 322 #[.slice A xs.length c,.func (.func fd) #[] kd.toArray] w λv w'=>v=.slice A (xs.filter λx=>!p x).length c/\Hp b S w' (aQ aZ 132 A c (xs.filter λx=>!p x)::F):=by
 refine rU func322 ntmps322 Y ?_;have Xg:=(H0.o s0).bC;have hcap0:=(H0.o s0).cap;have hlt:=Em (p:=p) xs;have hge:=GD (p:=p) xs;refine iT Y<|bQ Y<|mv Y<|gU Y (J2 (S0:=Any) (Fz:=kd) w ((H0.o s0)) qd p (λw' x ex _=>hd w' xs x Y (H0.grow ex))) ?_
 rintro _ w1 ⟨rfl,e1⟩;have K1:=H0.grow e1.ext;refine bX Y<|aY<|bQ Y<|ev (iM Y Y)<|dn<|mZ Y (λnN=>?_) (λnN=>?_)
 ·refine bQ Y<|bX Y<|wO Y ?_
  have hall:=PX (p:=p) (xs:=xs) aj;exact⟨by rw [hall]; rfl,by rw [hall]; exact K1⟩
 refine jy ?_;refine aY ?_;obtain⟨k0,hk0,hkl⟩:∃ k0:Nat,idxOf p xs=(k0:Int)/\k0<xs.length:=⟨(idxOf p xs).toNat,aj,aj⟩;have ah0:=PY hk0;refine lF (t:=5) Y (aV (Value.int .i64) hk0)<|bQ Y<|ev (dP Y Y)<|bX Y<|cB<|Lp (K1.rm s0) (λl0 rk mJ lJ wJ=>∃(i j:Nat)(ys:List aG),lJ=(0,.slice A ys.length c)::(5,aI ((i:Nat):Int))::(6,aI ((j:Nat):Int))::l0/\mJ=xs.length - j/\(ys.length=xs.length)/\(i<j/\j<=xs.length)/\(ys.take i=(xs.take j).filter λx=>!p x)/\(ys.drop j=xs.drop j)/\Hp b S wJ (aQ aZ 132 A c ys::rk)) ⟨k0,(k0+1),xs,Y,Y,by rfl,aj,by exact ah0.1,by rfl,K1⟩ rfl ?_
 rintro _ _ w2 ⟨i,j,ys,rfl,rfl,hys,hij,htk,hdr,K2⟩;refine aY<|bQ Y<|mv Y<|ev (eX jK Y)<|ev (fD Y Y)<|dn<|mZ Y (λhc19=>?_) (λhc19=>?_)
 ·refine jy ?_;refine aY<|cB<|bQ Y<|mv Y ?_
  obtain⟨x1,bN⟩:=bn (xs:=ys) (i:=j) aj;refine ev (eP (i:=j) jK mH Y Y Y (aM bN) ((K2.o s0).some_ bN))<|ev (iU oU Y Y ((K2.o s0).fF bN))<|al yu Y K2 λg1 w3 K3=>sty Y K3 s0 Y λw4 K4=>dn<|bQ Y<|ev (fK oU Y Y (K4.x s0))<|zq Y Y Y qd (hd _ _ x1 (by first | exact hys | omega) (K4.rm s0)) rfl ?_
  rintro _ w5 ⟨rfl,e5⟩;have K5:=K4.grow e5;refine ev (iG Y)<|dn<|bP Y (λhc29=>?_) (λhc29=>?_)
  ·try simp only [eT,dO,bK,eu,dZ,fI,bM,bV] at hc29
   refine bQ Y<|mv Y<|ev (fK oU Y Y (K5.x s0)) ?_
   obtain⟨x2,lN⟩:=bn (xs:=ys) (i:=i) aj;refine ev (eP (i:=i) jK mH Y Y Y (aM lN) ((K5.o s1).some_ lN))<|se (i:=i) (f:=0) (x:=x2) (x':=x1) (ds:=[aI x1.aD,aI x1.aB,gP x1.Sum,.bool x1.gH,.bool x1.Bad]) K5 s1 Y Y Y lN Y mH (nX Y) Y (by rintro _ _ _ ⟨⟩; rfl) λw6 K6=>?_
   have hl1:(ys.set i x1).length=ys.length:=gW ..;refine gJ (t:=0) (u:=.slice A ys.length c) (v:=.slice A ((ys.set i x1).length) c) Y (by rw [hl1])<|gJ (t:=17) (u:=.slice A ys.length c) (v:=.slice A ((ys.set i x1).length) c) rfl (by rw [hl1])<|gJ (t:=22) (u:=.slice A ys.length c) (v:=.slice A ((ys.set i x1).length) c) rfl (by rw [hl1])<|gJ (t:=30) (u:=.slice A ys.length c) (v:=.slice A ((ys.set i x1).length) c) rfl (by rw [hl1]) ?_
   have hx3:(ys.set i x1)[i]? = some x1:=rT (aM lN);refine dn<|jC<|mv Y<|ev (dP Y Y)<|jk Y<|jD<|iw (gy ?_)
   refine jC<|mv Y<|ev (dP Y Y)<|jk Y<|jD<|dG ⟨(i+1),(j+1),(ys.set i x1),Y,Y,by first | exact hys | (rw [gW]; exact hys),aj,by first | exact(sH hij.1 htk hdr bN (by simp [hc29])).1 | exact(sI htk hdr bN (by simp [hc29])).1,by first | exact(sH hij.1 htk hdr bN (by simp [hc29])).2 | exact(sI htk hdr bN (by simp [hc29])).2,(K6.rm s1)⟩ rfl aj
  try simp only [eT,dO,bK,eu,dZ,fI,bM,bV] at hc29
  refine Ci ?_;refine jC<|mv Y<|ev (dP Y Y)<|jk Y<|jD<|dG ⟨i,(j+1),ys,Y,Y,by first | exact hys | (rw [gW]; exact hys),aj,by first | exact(sH hij.1 htk hdr bN (by simp [hc29])).1 | exact(sI htk hdr bN (by simp [hc29])).1,by first | exact(sH hij.1 htk hdr bN (by simp [hc29])).2 | exact(sI htk hdr bN (by simp [hc29])).2,(K5.rm s0)⟩ rfl aj
 refine xq ?_;have hcap:ys.length<=c:=aj;have hil:(ys.take i).length=i:=by simp only [iF]; omega
 have hfin:ys.take i=xs.filter λx=>!p x:=by rw [htk,gV aj]
 refine lF (t:=5) (u:=aI ((i:Nat):Int)) (v:=aI (((ys.take i).length:Nat):Int)) Y (by rw [hil]) ?_;have H1:=K2.WS (hi:=i) s0 aj;refine bQ Y<|mv Y<|ev (Eo (lo:=(ys.take i).length) jK mH Y Y Y (by first | omega | (simp only [iF]; omega)) hcap)<|aeu (τ:=aZ) (m:=ys.length - (ys.take i).length) H1 s0 rfl jK aiR (by simp only [iF]; omega) λw7 K7=>dn<|bQ rfl<|mv rfl<|ev (R9 (hi:=(ys.take i).length) jK mH rfl rfl rfl (by simp only [iF]; omega))<|bX rfl<|iP rfl ?_
 exact⟨by rw [<- hfin]; rfl,by rw [<- hfin]; exact K7⟩
theorem az7:aeI 427 447 448 70 132 5 24 Tryz.f427.name:=⟨by rfl,⟨_,func447,by rfl,by rfl,ak,ak⟩,jK,iJ,mH,by rfl,aiP,aiR⟩
def acU:=@SC _ _ _ _ _ _ _ _ aZ az7
theorem acV(H0:Hp b S w (aQ aZ 132 A c xs::F)){i j:Nat}(hij:i<j)(hj:j<=xs.length) :
    bO prog 372 #[.slice A xs.length c,aI (i:Int),aI (j:Int)] w λv w'=>v=.slice A (xs.take i++xs.drop j).length c/\Hp b S w' (aQ aZ 132 A c (xs.take i++xs.drop j)::F):=by
 refine rU func372 ntmps372 Y ?_;have Xg:=(H0.o s0).bC;have hcap:=(H0.o s0).cap;refine iT Y<|bQ Y<|mv Y<|mv Y<|mv Y<|ev (eX jK Y)<|ev (Ev.auh jK mH Y Y Y Y Y Y Y aj hj (H0.o s0).cap)<|dn<|aY<|bQ Y<|mv Y<|ev (iM Y Y)<|dn<|mZ Y (λhc16=>?_) (λhc16=>?_)
 ·omega
 refine jy ?_;refine bQ Y<|ev (eX jK Y)<|bX Y<|He H0 (λ_ K=>(K.rm s0)) (λl0 rk lJ wJ=>lJ=(0,.slice A ((xs.take i++xs.drop j).length) c)::l0/\Hp b S wJ (aQ aZ 132 A c (xs.take i++xs.drop j)::rk)) (λhns H1=>?_) ?_
 ·have k1:=(H1.rm s0);refine lQ 0 Y Y k1<|lQ 1 Y Y k1<|lQ 3 Y Y k1<|lQ 4 Y Y k1<|Jn H1 (λl0 rk lJ wJ=>lJ=(22,.slice A ((xs.take i).length) c)::(25,.slice (sS A c j 5) ((xs.drop j).length) (c - j))::l0/\Hp b S wJ rk) 2 63 ?_ λhS1=>?_
  ·rintro _ w2 ⟨rfl,K2⟩;refine O1 6 Y<|abv K2 s0 Y Y jK aiP hij hj λw3 K3=>?_
   have k3:=(K3.rm s0);refine aO k3<|xL 7 Y Y k3<|Dn ⟨Y,K3⟩ Y
  refine O2 2 5 Y Y ?_ ?_
  ·refine ev (F7 jK mH Y Y Y aj (H1.o s0).cap)<|aO k1<|O1 5 Y<|ev (F8 jK mH Y Y Y aj (H1.o s0).cap)<|Kj hS1 k1 ⟨Y,H1⟩ Y
  ·refine ev (F8 jK mH Y Y Y aj (H1.o s0).cap)<|aO k1<|O1 2 Y<|ev (F7 jK mH Y Y Y aj (H1.o s0).cap)<|Kj hS1 k1 ⟨Y,H1⟩ Y
 rintro _ w4 ⟨rfl,K4⟩;refine bQ Y<|mv Y<|ev (eX jK Y)<|mv Y ?_
 have hln:(xs.take i++xs.drop j).length+(j - i)=xs.length:=by simp only [jG,iF,rR]; omega
 refine ev (Ev.aui jK mH Y Y Y Y Y aj hcap)<|aeu K4 s0 Y jK aiR aj λw5 K5=>dn<|bQ Y<|bX Y<|iP Y ?_
 exact⟨Y,K5⟩
theorem OQ(H0:Hp b S w (dH aZ A c l::F)){fd:FuncId}{kd:List Value}(qd:bJ prog fd)(p:aG->Bool)
    (hd:∀(w':World)(A':ah)(c':Nat)(ys:List aG)(x:aG),Hp b S w' (aQ aZ 132 A' c' ys::dH aZ A c l::F)->bO prog fd ((VI x)++kd).toArray w' λv w''=>v=.bool (p x)/\Ext w' w'') (hn:l.length<=100000) :
    bO prog 226 #[.slice A l.length c,.func (.func fd) #[] kd.toArray] w λv w'=>∃ A0 c0,v=.slice A0 ((iN l).filter λx=>!p x).length c0/\Hp b S w' (aQ aZ 132 A0 c0 ((iN l).filter λx=>!p x)::dH aZ A c l::F):=by
 refine rU func226 ntmps226 Y ?_;have hfl:=wY l;refine iT Y<|bQ Y<|gU Y (QW _ (H0.s s0).any aj) ?_
 rintro _ w1 ⟨jZ,j3,rfl,h1⟩;have K1:=H0.f1 h1;have JO:=aj;refine mv Y<|gU Y (TG (kd:=kd) K1 qd p (by grind) aj) ?_
 rintro _ w2 ⟨rfl,K2⟩;refine bX Y<|iP Y ?_
 exact⟨_,_,Y,K2⟩
theorem amV(w:World)(x:aG) :
    bO prog 227 #[.agg #[aI x.aD,aI x.aB,gP x.Sum,.bool x.gH,.bool x.Bad]] w λv w'=>v=.bool x.gH/\Hp w S0 w' []:=by
 refine lg S0 func227 ntmps227 Y λH0=>rg<|bx Y Y H0 λg1 w1 K1=>bX Y<|rg<|j6 g1 3 tV K1 s0 Y<|bX Y<|iP Y ?_
 exact⟨Y,(K1.rm s0)⟩
theorem aiS(w:World)(x:aG){iI:Nat}(c:Int)(h_c:Bx w iI 3 [aI c]) :
    bO prog 385 #[.agg #[aI x.aD,aI x.aB,gP x.Sum,.bool x.gH,.bool x.Bad],gI iI] w λv w'=>v=.bool (decide (x.aD=c)&&x.gH)/\Hp w S0 w' []:=by
 refine lg S0 func385 ntmps385 Y λH0=>rg<|bx Y Y H0 λg1 w1 K1=>bX Y<|rg<|j6 g1 0 mM K1 s0 Y<|ev (eF jN Y (h_c.ext K1.ext) Y)<|ev (iM Y Y)<|mv Y<|iO 3 11 ((decide (x.aD=c))&&x.gH) ?_ ?_
 ·cases hb8:decide (x.aD=c) with
  | true=>
   refine wB g1 3 tV K1 s0 Y<|ev (dM Y Y)<|dJ Y
  | false=>
   refine dN<|dN<|ev (dS Y Y)<|dJ Y
 refine bX Y<|iP Y ?_
 exact⟨by skip <;> rfl,(K1.rm s0)⟩
theorem aq1(w:World)(x:aG){iI:Nat}(c:Int)(h_c:Bx w iI 3 [aI c]) :
    bO prog 343 #[.agg #[aI x.aD,aI x.aB,gP x.Sum,.bool x.gH,.bool x.Bad],gI iI] w λv w'=>v=.bool (decide (x.aD=c)&&!x.gH)/\Hp w S0 w' []:=by
 refine lg S0 func343 ntmps343 Y λH0=>rg<|bx Y Y H0 λg1 w1 K1=>bX Y<|rg<|j6 g1 0 mM K1 s0 Y<|ev (eF jN Y (h_c.ext K1.ext) Y)<|ev (iM Y Y)<|mv Y<|iO 4 12 ((decide (x.aD=c))&&(!x.gH)) ?_ ?_
 ·cases hb8:decide (x.aD=c) with
  | true=>
   refine wB g1 3 tV K1 s0 Y<|bE Y (iG Y) Y<|ev (dM Y Y)<|dJ Y
  | false=>
   refine dN<|dN<|dN<|ev (dS Y Y)<|dJ Y
 refine bX Y<|iP Y ?_
 exact⟨by skip <;> rfl,(K1.rm s0)⟩
theorem af4(w:World)(jE:Sl aZ S0 w jU jR l)(hn:l.length<=100000) :
    bO prog 141 #[.slice jU l.length jR] w λv w'=>∃(A0:ah)(c0:Nat),v=.slice A0 ((dK l).length) c0/\Hp w S0 w' [aQ aZ 132 A0 c0 (dK l)]:=by
 refine lg S0 func141 ntmps141 Y λH0=>iT Y<|bQ Y ?_
 have H1:=H0.push (H0.a jE);refine gU Y (OQ H1 az4 (λx9=>x9.gH) (λw9 A9 c9 ys x9 K9=>(amV (S0:=Any) w9 x9).mono (by rintro _ w8 ⟨rfl,K8⟩; exact⟨rfl,K8.ext⟩)) aj) ?_;rintro _ w1 ⟨A_1,c_1,rfl,K1⟩;refine bX Y<|iP Y ?_
 have fT:(((iN l).filter λx9=>!(x9.gH)):List aG)=(dK l):=by rfl
 rw [fT] at K1;exact⟨A_1,c_1,by rw [fT] <;> rfl,(K1.rm s1)⟩
theorem amW(w:World)(jE:Sl aZ S0 w jU jR l)(aN:Int)(hn:l.length<=100000) :
    bO prog 281 #[.slice jU l.length jR,aI aN] w λv w'=>∃(A0:ah)(c0:Nat),v=.slice A0 ((EO l aN).length) c0/\Hp w S0 w' [aQ aZ 132 A0 c0 (EO l aN)]:=by
 refine lg S0 func281 ntmps281 Y λH0=>rg<|bx Y Y H0 λg1 w1 K1=>bX Y<|bQ Y<|ev (rE Y) ?_
 have H1:=K1.push (K1.a jE);refine gU Y (OQ H1 az5 (λx9=>decide (x9.aD=aN)&&x9.gH) (λw9 A9 c9 ys x9 K9=>(aiS (S0:=Any) w9 x9 aN (K9.x s2)).mono (by rintro _ w8 ⟨rfl,K8⟩; exact⟨rfl,K8.ext⟩)) aj) ?_;rintro _ w2 ⟨A_2,c_2,rfl,K2⟩;refine bX Y<|iP Y ?_
 have fT:(((iN l).filter λx9=>!(decide (x9.aD=aN)&&x9.gH)):List aG)=(EO l aN):=by rfl
 rw [fT] at K2;exact⟨A_2,c_2,by rw [fT] <;> rfl,(K2.cU 1 2)⟩
abbrev M9:=(([]:List aG):List aG)
theorem avD(w:World)(jE:Sl aZ S0 w jU jR l)(aN:Int)(hn:l.length<=100000) :
    bO prog 250 #[.slice jU l.length jR,aI aN] w λv w'=>∃(A0:ah)(c0:Nat),v=.tuple #[.slice A0 (((o7 l aN).1).length) c0,aI ((o7 l aN).2)]/\Hp w S0 w' [aQ aZ 132 A0 c0 ((o7 l aN).1)]:=by
 refine lg S0 func250 ntmps250 Y λH0=>?_;have hfl:=wY l;refine rg<|bx Y Y H0 λg1 w1 K1=>jk Y<|bX Y<|aY<|He K1 (λ_ K=>K) (λl0 rk lJ wJ=>lJ=(7,.bool (RQ (iN l) aN false))::l0/\Hp w S0 wJ rk) (λhns H1=>?_) ?_
 ·refine lQ 0 Y Y H1<|Db 2 s0 Y H1<|O1 1 Y<|gU Y (QW _ (H1.a jE).any aj) ?_
  rintro _ w2 ⟨pI,pJ,rfl,h2⟩;have K2:=H1.f1 h2;have UA:=(K2.o s0).bC;have k1:=(K2.rm s0);refine aO k1<|O1 3 Y<|nD K2 Y (LU _ (K2.o s0) aN false aj) λw3 K3=>?_
  have k2:=(K3.rm s0);refine aO k2<|lQ 4 Y Y k2<|xU 5 Y Y Y k2<|xU 6 Y Y Y k2<|xL 7 Y Y k2<|xL 8 Y Y k2<|Dn ⟨Y,(K3.rm s0)⟩ Y
 rintro _ w4 ⟨rfl,K4⟩;refine bQ Y<|ev (iG Y)<|dn<|bP Y (λhc16=>?_) (λhc16=>?_)
 ·try simp only [eT,dO,bK,eu,dZ,fI,bM,bV,acR,false_or,tq,true_and,uK] at hc16
  refine rg<|jk Y<|bX Y<|wO Y ?_
  have H2:=K4.nil aZ 132;have fT:M9=((o7 l aN).1):=by unfold o7; rw [aP (by simpa using hc16)]
  have H3:=(fT▸H2:Hp w S0 w4 (aQ aZ 132 none 0 ((o7 l aN).1)::[dW g1 3 [aI aN]]));have gu:(5:Int)=((o7 l aN).2):=by unfold o7; rw [aP (by simpa using hc16)]
  exact⟨none,0,by rw [<- fT,<- gu] <;> rfl,(H3.rm s1)⟩
 try simp only [eT,dO,bK,eu,dZ,fI,bM,bV,acR,false_or,tq,true_and,uK] at hc16
 refine jy ?_;refine bQ Y<|ev (rE Y) ?_
 have H4:=K4.push (K4.a jE);refine gU Y (OQ H4 az6 (λx9=>decide (x9.aD=aN)&&!x9.gH) (λw9 A9 c9 ys x9 K9=>(aq1 (S0:=Any) w9 x9 aN (K9.x s2)).mono (by rintro _ w8 ⟨rfl,K8⟩; exact⟨rfl,K8.ext⟩)) aj) ?_;rintro _ w5 ⟨A_5,c_5,rfl,K5⟩;refine jk Y<|bX Y<|iP Y ?_
 have kC:(((iN l).filter λx9=>!(decide (x9.aD=aN)&&!x9.gH)):List aG)=((o7 l aN).1):=by unfold o7; rw [aS (by simpa using hc16)]
 rw [kC] at K5;have nC:(0:Int)=((o7 l aN).2):=by unfold o7; rw [aS (by simpa using hc16)]
 exact⟨A_5,c_5,by rw [kC,<- nC] <;> rfl,(K5.cU 1 2)⟩
theorem akh(H0:Hp b S w (aQ aZ 132 jU jR l::F))(x:aG)(hn:l.length<=100000) :
    bO prog 371 #[.slice jU l.length jR,.agg #[aI x.aD,aI x.aB,gP x.Sum,.bool x.gH,.bool x.Bad]] w λv w'=>∃(A0:ah)(c0:Nat),v=.slice A0 ((Am l x).length) c0/\Hp b S w' (aQ aZ 132 A0 c0 (Am l x)::F):=by
 refine rU func371 ntmps371 Y ?_;have hat:=aqY l x.aD x.gH;refine rg<|bx Y Y H0 λg1 w1 K1=>bX Y<|bQ Y<|j6 g1 0 mM K1 s0 Y<|j6 g1 3 tV K1 s0 Y<|nD K1 Y (LU _ (K1.o s1) x.aD x.gH aj) λw2 K2=>mv Y<|xt Y Y<|xt Y Y<|jk Y<|bX Y<|aY<|bQ Y<|ev (iG Y)<|dn<|bP Y (λhc17=>?_) (λhc17=>?_)
 ·try simp only [eT,dO,bK,eu,dZ,fI,bM,bV] at hc17
  refine jC<|mv Y<|mv Y<|ev (fK oU Y Y (K2.x s0))<|Bh (τ:=aZ) (x:=x) Y (by intro _; apply ZL) rfl K2 (λ_ _=>rfl) λg2 w3 K3=>gU rfl (acU (i:=atR l x.aD x.gH) K3 s2 s0 aj aj) ?_
  rintro _ w4 ⟨pU,pV,rfl,K4⟩;refine jk Y<|jD<|gy<|bQ Y<|mv Y<|ev (fK oU Y Y (K4.x s1)) ?_
  obtain⟨x1,bN⟩:=bn (xs:=(l.take (atR l x.aD x.gH)++[x]++l.drop (atR l x.aD x.gH))) (i:=atR l x.aD x.gH) (by simp only [jG,iF,rR,oV,uE]; omega);refine ev (eP (i:=atR l x.aD x.gH) jK mH Y Y Y (aM bN) ((K4.o s0).some_ bN))<|se (i:=atR l x.aD x.gH) (f:=0) (x:=x1) (x':=x) (ds:=[aI x.aD,aI x.aB,gP x.Sum,.bool x.gH,.bool x.Bad]) K4 s0 Y Y Y bN Y mH (nX Y) Y (by rintro _ _ _ ⟨⟩; rfl) λw5 K5=>?_
  have hl1:((l.take (atR l x.aD x.gH)++[x]++l.drop (atR l x.aD x.gH)).set (atR l x.aD x.gH) x).length=(l.take (atR l x.aD x.gH)++[x]++l.drop (atR l x.aD x.gH)).length:=gW ..;refine gJ (t:=0) (u:=.slice pU ((l.take (atR l x.aD x.gH)++[x]++l.drop (atR l x.aD x.gH)).length) pV) (v:=.slice pU (((l.take (atR l x.aD x.gH)++[x]++l.drop (atR l x.aD x.gH)).set (atR l x.aD x.gH) x).length) pV) Y (by rw [hl1])<|gJ (t:=22) (u:=.slice pU ((l.take (atR l x.aD x.gH)++[x]++l.drop (atR l x.aD x.gH)).length) pV) (v:=.slice pU (((l.take (atR l x.aD x.gH)++[x]++l.drop (atR l x.aD x.gH)).set (atR l x.aD x.gH) x).length) pV) rfl (by rw [hl1])<|gJ (t:=23) (u:=.slice pU ((l.take (atR l x.aD x.gH)++[x]++l.drop (atR l x.aD x.gH)).length) pV) (v:=.slice pU (((l.take (atR l x.aD x.gH)++[x]++l.drop (atR l x.aD x.gH)).set (atR l x.aD x.gH) x).length) pV) rfl (by rw [hl1]) ?_
  have lN:((l.take (atR l x.aD x.gH)++[x]++l.drop (atR l x.aD x.gH)).set (atR l x.aD x.gH) x)[atR l x.aD x.gH]? = some x:=rT (aM bN);refine dn<|bQ Y<|bX Y<|iP Y ?_
  have fT:(((l.take (atR l x.aD x.gH)++[x]++l.drop (atR l x.aD x.gH)).set (atR l x.aD x.gH) x):List aG)=(Am l x):=by unfold Am; rw [aP (by simpa using hc17)]; exact set_mid hat
  exact⟨pU,pV,by rw [<- fT] <;> rfl,by rw [<- fT]; exact(K5.rm s1)⟩
 try simp only [eT,dO,bK,eu,dZ,fI,bM,bV] at hc17
 have hlt:=Yu (by simpa using hc17:RQ l x.aD x.gH=true);refine jy ?_;refine bQ Y<|mv Y<|ev (fK oU Y Y (K2.x s0)) ?_
 obtain⟨x2,hx3⟩:=bn (xs:=l) (i:=atR l x.aD x.gH) aj;refine ev (eP (i:=atR l x.aD x.gH) jK mH Y Y Y (aM hx3) ((K2.o s1).some_ hx3))<|se (i:=atR l x.aD x.gH) (f:=0) (x:=x2) (x':=x) (ds:=[aI x.aD,aI x.aB,gP x.Sum,.bool x.gH,.bool x.Bad]) K2 s1 Y Y Y hx3 Y mH (nX Y) Y (by rintro _ _ _ ⟨⟩; rfl) λw6 K6=>?_
 have hl2:(l.set (atR l x.aD x.gH) x).length=l.length:=gW ..;refine gJ (t:=0) (u:=.slice jU l.length jR) (v:=.slice jU ((l.set (atR l x.aD x.gH) x).length) jR) Y (by rw [hl2])<|gJ (t:=8) (u:=.slice jU l.length jR) (v:=.slice jU ((l.set (atR l x.aD x.gH) x).length) jR) rfl (by rw [hl2])<|gJ (t:=23) (u:=.slice jU l.length jR) (v:=.slice jU ((l.set (atR l x.aD x.gH) x).length) jR) rfl (by rw [hl2]) ?_
 refine dn<|bQ Y<|bX Y<|iP Y ?_
 have gu:((l.set (atR l x.aD x.gH) x):List aG)=(Am l x):=by unfold Am; rw [aS (by simpa using hc17)]
 exact⟨jU,jR,by rw [<- gu] <;> rfl,by rw [<- gu]; exact(K6.rm s1)⟩
theorem amX(w:World)(jE:Sl aZ S0 w jU jR l)(x:aG)(bG:Int)(hn:l.length<=100000) :
    bO prog 273 #[.slice jU l.length jR,.agg #[aI x.aD,aI x.aB,gP x.Sum,.bool x.gH,.bool x.Bad],aI bG] w λv w'=>∃(A0:ah)(c0:Nat),v=.tuple #[.slice A0 (((kS l x bG).1).length) c0,aI ((kS l x bG).2)]/\Hp w S0 w' [aQ aZ 132 A0 c0 ((kS l x bG).1)]:=by
 refine lg S0 func273 ntmps273 Y λH0=>?_;have hfl:=wY l;refine rg<|bx Y Y H0 λg1 w1 K1=>jk Y<|bX Y<|bQ Y<|gU Y (QW _ (K1.a jE).any aj) ?_
 rintro _ w2 ⟨pI,pJ,rfl,h2⟩;have K2:=K1.f1 h2;have UA:=(K2.o s0).bC;refine bX Y<|aY<|rg<|ev (fK oU Y Y (K2.x s1))<|nD K2 Y (aaN (S0:=Any) _ x) λw3 K3=>ev (iG Y)<|dn<|bP Y (λhc16=>?_) (λhc16=>?_)
 ·refine rg<|jk Y<|bX Y<|wO Y ?_
  have H1:=K3.nil aZ 132;have fT:M9=((kS l x bG).1):=by unfold kS; rw [aS hc16]
  have H2:=(fT▸H1:Hp w S0 w3 (aQ aZ 132 none 0 ((kS l x bG).1)::[aQ aZ 132 pI pJ (iN l),dW g1 132 [aI x.aD,aI x.aB,gP x.Sum,.bool x.gH,.bool x.Bad]]));have gu:(1:Int)=((kS l x bG).2):=by unfold kS; rw [aS hc16]
  exact⟨none,0,by rw [<- fT,<- gu] <;> rfl,(H2.cU 1 2)⟩
 refine jy ?_;refine bQ Y<|j6 g1 0 mM K3 s1 Y<|nD K3 Y (LU _ (K3.o s0) x.aD false aj) λw4 K4=>mv Y<|xt Y Y<|xt Y Y<|jk Y<|bX Y<|bQ Y<|j6 g1 0 mM K4 s1 Y<|nD K4 Y (LU _ (K4.o s0) x.aD true aj) λw5 K5=>mv Y<|xt Y Y<|xt Y Y<|jk Y<|bX Y<|aY<|cB ?_
 have hl1:=λh=>Yu (l:=iN l) (c:=x.aD) (t:=false) h;have hl2:=λh=>Yu (l:=iN l) (c:=x.aD) (t:=true) h;refine qU ak ak<|bB (bq Y) Y<|bB (bq Y) Y<|qY 9 42 (QU (CU (iN l) x.aD false) x.aB) ?_ ?_
 ·cases ay2:RQ (iN l) x.aD false with
  | true=>
   have hl3:=hl1 ay2;refine dX Y (bq Y) Y<|dX Y (bq Y) Y ?_
   obtain⟨x1,bN⟩:=bn (xs:=iN l) aj;refine dX Y (eP jK mH Y Y Y (aM bN) ((K5.o s0).some_ bN)) Y<|dX Y (fQ rJ Y (fV _ _ _)) Y<|dX Y (kP jN Y ((K5.o s0).fJ bN Y)) Y<|dX Y (fQ rJ Y Y) Y<|dX Y (eF jN Y (K5.x s1) Y) Y<|dX Y (qD Y Y) Y<|bB (dM Y Y) Y<|Dm (t:=42) (u:=.bool (decide (x.aB<=x1.aB))) (v:=.bool (QU (CU (iN l) x.aD false) x.aB)) Y (aV Value.bool (by rw [Ho (by assumption) bN]; rfl))<|jY rfl
  | false=>
   refine dI Y Y Y<|dI Y Y Y<|dI Y Y Y<|dI Y Y Y<|dI Y Y Y<|dI Y Y Y<|dI Y Y Y<|dI Y Y Y<|bB (dS Y Y) Y<|Dm (t:=42) (u:=.bool false) (v:=.bool (QU (CU (iN l) x.aD false) x.aB)) Y (aV Value.bool (by rw [QV (by assumption)]; rfl))<|jY rfl
 refine bB (pz Y) Y<|qV λw6 e6=>?_
 have K6:=K5.grow e6;refine bP Y (λhc31=>?_) (λhc31=>?_)
 ·refine rg<|jk Y<|bX Y<|Xb Y ?_
  have H3:=K6.nil aZ 132;have kC:M9=((kS l x bG).1):=by unfold kS; rw [aP (by rw [hc16]; decide),aS hc31]
  have H4:=(kC▸H3:Hp w S0 w6 (aQ aZ 132 none 0 ((kS l x bG).1)::[aQ aZ 132 pI pJ (iN l),dW g1 132 [aI x.aD,aI x.aB,gP x.Sum,.bool x.gH,.bool x.Bad]]));have nC:(9:Int)=((kS l x bG).2):=by unfold kS; rw [aP (by rw [hc16]; decide),aS hc31]
  exact⟨none,0,by rw [<- kC,<- nC] <;> rfl,(H4.cU 1 2)⟩
 refine qU ak ak<|bB (bq Y) Y<|bB (bq Y) Y<|qY 9 54 (QU (CU (iN l) x.aD true) x.aB) ?_ ?_
 ·cases ay3:RQ (iN l) x.aD true with
  | true=>
   have hl3:=hl2 ay3;refine dX Y (bq Y) Y<|dX Y (bq Y) Y ?_
   obtain⟨x2,lN⟩:=bn (xs:=iN l) (i:=atR (iN l) x.aD true) aj;refine dX Y (eP (i:=atR (iN l) x.aD true) jK mH Y Y Y (aM lN) ((K6.o s0).some_ lN)) Y<|dX Y (fQ rJ Y (fV _ _ _)) Y<|dX Y (kP jN Y ((K6.o s0).fJ (j:=1) lN Y)) Y<|dX Y (fQ (q:=⟨g1,1,none⟩) rJ Y Y) Y<|dX Y (eF jN Y (K6.x s1) Y) Y<|dX Y (qD Y Y) Y<|bB (dM Y Y) Y<|Dm (t:=54) (u:=.bool (decide (x.aB<=x2.aB))) (v:=.bool (QU (CU (iN l) x.aD true) x.aB)) Y (aV Value.bool (by rw [Ho (by assumption) lN]; rfl))<|jY rfl
  | false=>
   refine dI Y Y Y<|dI Y Y Y<|dI Y Y Y<|dI Y Y Y<|dI Y Y Y<|dI Y Y Y<|dI Y Y Y<|dI Y Y Y<|bB (dS Y Y) Y<|Dm (t:=54) (u:=.bool false) (v:=.bool (QU (CU (iN l) x.aD true) x.aB)) Y (aV Value.bool (by rw [QV (by assumption)]; rfl))<|jY rfl
 refine bB (pz Y) Y<|qV λw7 e7=>?_
 have K7:=K6.grow e7;refine bP Y (λxH=>?_) (λxH=>?_)
 ·refine rg<|jk Y<|bX Y<|Xb Y ?_
  have H5:=K7.nil aZ 132;have rV:M9=((kS l x bG).1):=by unfold kS; rw [aP (by rw [hc16]; decide),aP (by rw [hc31]; decide),aS xH]
  have H6:=(rV▸H5:Hp w S0 w7 (aQ aZ 132 none 0 ((kS l x bG).1)::[aQ aZ 132 pI pJ (iN l),dW g1 132 [aI x.aD,aI x.aB,gP x.Sum,.bool x.gH,.bool x.Bad]]));have xW:(6:Int)=((kS l x bG).2):=by unfold kS; rw [aP (by rw [hc16]; decide),aP (by rw [hc31]; decide),aS xH]
  exact⟨none,0,by rw [<- rV,<- xW] <;> rfl,(H6.cU 1 2)⟩
 refine bQ Y<|ev (iG Y)<|mv Y<|iO 5 63 ((!(RQ (iN l) x.aD true))&&(decide (bG<=(((iN l).length:Nat):Int)))) ?_ ?_
 ·cases aOw:(!(RQ (iN l) x.aD true)) with
  | true=>
   refine bE Y (bq Y) Y<|bE Y (eX jK Y) Y<|bE Y (bq Y) Y<|bE Y (qD Y Y) Y<|ev (dM Y Y)<|dJ Y
  | false=>
   refine dN<|dN<|dN<|dN<|ev (dS Y Y)<|dJ Y
 refine bX Y<|bP Y (λaq2=>?_) (λaq2=>?_)
 ·refine rg<|jk Y<|bX Y<|Xb Y ?_
  have H7:=K7.nil aZ 132;have zX:M9=((kS l x bG).1):=by unfold kS; rw [aP (by rw [hc16]; decide),aP (by rw [hc31]; decide),aP (by rw [xH]; decide),aS aq2]
  have H8:=(zX▸H7:Hp w S0 w7 (aQ aZ 132 none 0 ((kS l x bG).1)::[aQ aZ 132 pI pJ (iN l),dW g1 132 [aI x.aD,aI x.aB,gP x.Sum,.bool x.gH,.bool x.Bad]]));have hq8:(7:Int)=((kS l x bG).2):=by unfold kS; rw [aP (by rw [hc16]; decide),aP (by rw [hc31]; decide),aP (by rw [xH]; decide),aS aq2]
  exact⟨none,0,by rw [<- zX,<- hq8] <;> rfl,(H8.cU 1 2)⟩
 refine Ci ?_;refine rg<|yV g1 3 tV Y<|yD Y K7 s1 Y λw8 K8=>yV g1 4 af0 Y<|yD Y K8 s0 Y λw9 K9=>dn<|bQ Y<|ev (fK oU Y Y (K9.x s0))<|gU Y (akh ((K9.sel s0).sel s1) (⟨x.aD,x.aB,x.Sum,true,false⟩:aG) aj) ?_
 rintro _ Om ⟨Oa,Ob,rfl,K10⟩;refine jk Y<|bX Y<|iP Y ?_
 have zG:((Am (iN l) (⟨x.aD,x.aB,x.Sum,true,false⟩:aG)):List aG)=((kS l x bG).1):=by unfold kS; rw [aP (by rw [hc16]; decide),aP (by rw [hc31]; decide),aP (by rw [xH]; decide),aP (by rw [aq2]; decide)]
 rw [zG] at K10;have vg:(0:Int)=((kS l x bG).2):=by unfold kS; rw [aP (by rw [hc16]; decide),aP (by rw [hc31]; decide),aP (by rw [xH]; decide),aP (by rw [aq2]; decide)]
 exact⟨Oa,Ob,by rw [zG,<- vg] <;> rfl,(K10.rm s1)⟩
theorem aiT(w:World)(jE:Sl aZ S0 w jU jR l)(aN:Int)(bU:Int)(hn:l.length<=100000) :
    bO prog 274 #[.slice jU l.length jR,aI aN,aI bU] w λv w'=>∃(A0:ah)(c0:Nat),v=.tuple #[.slice A0 (((mW l aN bU).1).length) c0,aI ((mW l aN bU).2)]/\Hp w S0 w' [aQ aZ 132 A0 c0 ((mW l aN bU).1)]:=by
 refine lg S0 func274 ntmps274 Y λH0=>?_;have hfl:=wY l;refine rg<|jk Y<|bX Y<|bQ Y<|gU Y (QW _ (H0.a jE).any aj) ?_
 rintro _ w1 ⟨jZ,j3,rfl,h1⟩;have K1:=H0.f1 h1;have JO:=(K1.o s0).bC;refine bX Y<|bQ Y<|mv Y<|nD K1 Y (LU _ (K1.o s0) aN true aj) λw2 K2=>mv Y<|xt Y Y<|xt Y Y<|jk Y<|bX Y<|aY ?_
 have hl2:=λh=>Yu (l:=iN l) (c:=aN) (t:=true) h;refine bQ Y<|ev (iG Y)<|mv Y<|iO 8 29 (aqX (CU (iN l) aN true) bU) ?_ ?_
 ·cases U9:(!(RQ (iN l) aN true)) with
  | true=>
   refine dN<|dN<|dN<|dN<|dN<|dN<|dN<|ev (dM Y Y)<|gJ (t:=29) Y (aV Value.bool (by rw [QV (by simpa using U9)]; rfl))<|dJ rfl
  | false=>
   have hl3:=hl2 (by simpa using U9);refine bE Y (bq Y) Y<|bE Y (bq Y) Y ?_
   obtain⟨x1,bN⟩:=bn aj;refine bE Y (eP (i:=atR (iN l) aN true) jK mH Y Y Y (aM bN) ((K2.o s0).some_ bN)) Y<|bE Y (fQ rJ Y (fV _ _ _)) Y<|bE Y (kP jN Y ((K2.o s0).fJ (j:=1) bN Y)) Y<|bE Y (bq Y) Y<|bE Y (rY Y Y) Y<|ev (dS Y Y)<|gJ (t:=29) (u:=.bool (!decide (x1.aB=bU))) Y (aV Value.bool (by rw [Ho (by simpa using U9) bN]; rfl))<|dJ rfl
 refine dn<|bP Y (λhc29=>?_) (λhc29=>?_)
 ·refine rg<|jk Y<|bX Y<|wO Y ?_
  have H1:=K2.nil aZ 132;have fT:M9=((mW l aN bU).1):=by unfold mW; rw [aS hc29]
  have H2:=(fT▸H1:Hp w S0 w2 (aQ aZ 132 none 0 ((mW l aN bU).1)::[aQ aZ 132 jZ j3 (iN l)]));have gu:(5:Int)=((mW l aN bU).2):=by unfold mW; rw [aS hc29]
  exact⟨none,0,by rw [<- fT,<- gu] <;> rfl,(H2.rm s1)⟩
 obtain⟨y,hy1,hy2,hy3,hy4⟩:=afY hc29;have hl3:=aM hy2;refine jy ?_;refine bQ Y<|mv Y ?_
 obtain⟨x2,lN⟩:=bn aj;refine ev (eP jK mH Y Y Y (aM lN) ((K2.o s0).some_ lN))<|ev (iU oU Y Y ((K2.o s0).fF lN))<|al yu Y K2 λg1 w3 K3=>sty Y K3 s0 Y λw4 K4=>dn<|rg<|yV g1 3 tV Y<|yD Y K4 s0 Y λw5 K5=>dn<|He K5 (λ_ K=>(K.rm s1)) (λl0 rk lJ wJ=>∃(jW:ah)(jT:Nat),lJ=(6,.slice jW ((Am ((iN l).take (atR (iN l) aN true)++(iN l).drop (atR (iN l) aN true+1)) (⟨x2.aD,x2.aB,x2.Sum,false,x2.Bad⟩:aG)).length) jT)::l0/\Hp w S0 wJ (aQ aZ 132 jW jT (Am ((iN l).take (atR (iN l) aN true)++(iN l).drop (atR (iN l) aN true+1)) (⟨x2.aD,x2.aB,x2.Sum,false,x2.Bad⟩:aG))::rk)) (λhns H3=>?_) ?_
 ·have k1:=(H3.rm s1);refine lQ 0 Y Y k1<|lQ 1 Y Y k1<|lQ 2 Y Y k1<|l9 3 Y (λ_ _=>dP Y Y) k1<|l9 5 Y (λ_ hK=>fK oU Y Y (hK.x s0)) k1<|O1 4 Y<|gU Y (acV (i:=atR (iN l) aN true) (j:=atR (iN l) aN true+1) (H3.sel s1) aj aj) ?_
  rintro _ w6 ⟨rfl,K6⟩;have k2:=(K6.rm s0);refine aO k2<|O1 6 Y<|gU Y (akh K6 (⟨x2.aD,x2.aB,x2.Sum,false,x2.Bad⟩:aG) (by simp only [jG,iF,rR]; omega)) ?_
  rintro _ w7 ⟨aDw,aDx,rfl,K7⟩;have k3:=(K7.rm s0);refine aO k3<|xL 7 Y Y k3<|xL 8 Y Y k3<|Dn ⟨aDw,aDx,Y,K7⟩ Y
 rintro _ w8 ⟨jW,jT,rfl,K8⟩;refine iP Y ?_;have kC:((Am ((iN l).take (atR (iN l) aN true)++(iN l).drop (atR (iN l) aN true+1)) (⟨x2.aD,x2.aB,x2.Sum,false,x2.Bad⟩:aG)):List aG)=((mW l aN bU).1):=by rw [hy2] at lN; cases lN; unfold mW; rw [aP (by rw [hc29]; decide),hy4]; rfl
 rw [kC] at K8;have nC:(0:Int)=((mW l aN bU).2):=by unfold mW; rw [aP (by rw [hc29]; decide)]
 exact⟨jW,jT,by rw [kC,<- nC] <;> rfl,(K8.rm s1)⟩
section
variable {P:Program}{n:Cx}{l:List (Nat × Value)}{w:World}{t ty d e:TypeId}{x y:Operand}
theorem bvI{k:Nat}(a:BitVec k):BitVec.ofInt k (a.toNat:Int)=a:=by simp
theorem w32(a:BitVec 32):IntKind.u32.wrap (a.toNat:Int)=(a.toNat:Int):=by rw [aqU]; omega
theorem w8(a:BitVec 8):IntKind.u8.wrap (a.toNat:Int)=(a.toNat:Int):=by rw [IntKind.wrap_u8]; omega
theorem Ev.aki{b:BitVec 32}(hx:gY l x=some (gP (a.toNat:Int)))(hy:gY l y=some (gP (b.toNat:Int))):Ev P n l w (.binOp .xor t x y ty) (gP ((a ^^^ b).toNat:Int)):=
  qW hx hy (Cb ..) λw=>by
    have h:(binOp .xor t (gP (a.toNat:Int)) (gP (b.toNat:Int))).run P w=.ok (gP (IntKind.u32.wrap (((BitVec.ofInt 32 (a.toNat:Int) ^^^ BitVec.ofInt 32 (b.toNat:Int)).toNat:Nat):Int))) w:=rfl
    grind [w32]
theorem Ev.akj{b:BitVec 32}(hx:gY l x=some (gP (a.toNat:Int)))(hy:gY l y=some (gP (b.toNat:Int))):Ev P n l w (.binOp .and t x y ty) (gP ((a&&& b).toNat:Int)):=
  qW hx hy (Cb ..) λw=>by
    have h:(binOp .and t (gP (a.toNat:Int)) (gP (b.toNat:Int))).run P w=.ok (gP (IntKind.u32.wrap (((BitVec.ofInt 32 (a.toNat:Int)&&& BitVec.ofInt 32 (b.toNat:Int)).toNat:Nat):Int))) w:=rfl;rw [h,bvI,bvI,w32]
theorem Ev.aI1{a b:BitVec 8}(hx:gY l x=some (.int .u8 (a.toNat:Int)))(hy:gY l y=some (.int .u8 (b.toNat:Int))):Ev P n l w (.binOp .xor t x y ty) (.int .u8 ((a ^^^ b).toNat:Int)):=
  qW hx hy (Cb ..) λw=>by
    have h:(binOp .xor t (.int .u8 (a.toNat:Int)) (.int .u8 (b.toNat:Int))).run P w=.ok (.int .u8 (IntKind.u8.wrap (((BitVec.ofInt 8 (a.toNat:Int) ^^^ BitVec.ofInt 8 (b.toNat:Int)).toNat:Nat):Int))) w:=rfl
    grind [w8]
theorem Ev.axL(hx:gY l x=some (gP (a.toNat:Int))):Ev P n l w (.unOp .xor t x) (gP ((~~~ a).toNat:Int)):=λo a' w' ho ha _=>by
  unfold execOp; rw [ho];have h:(Op.unary .xor (gP (a.toNat:Int))).run P w'=.ok (gP (IntKind.u32.wrap (((BitVec.ofInt 32 IntKind.u32.max ^^^ BitVec.ofInt 32 (a.toNat:Int)).toNat:Nat):Int))) w':=rfl;have e:BitVec.ofInt 32 IntKind.u32.max=BitVec.allOnes 32:=au;rw [bvI,e,BitVec.allOnes_xor,w32] at h
  simp [ha.eval hx,h]
theorem Ev.aDH(hx:gY l x=some (gP (a.toNat:Int))):Ev P n l w (.unOp .neg t x) (gP ((-a).toNat:Int)):=λo a' w' ho ha _=>by
  unfold execOp; rw [ho];have h:(Op.unary .neg (gP (a.toNat:Int))).run P w'=.ok (gP (IntKind.u32.wrap (0 - (a.toNat:Int)))) w':=rfl
  have e:IntKind.u32.wrap (0 - (a.toNat:Int))=((-a).toNat:Int):=by
    rw [aqU,BitVec.toNat_neg]; have:=a.isLt; omega
  rw [e] at h
  simp [ha.eval hx,h]
theorem Ev.aq3(hx:gY l x=some (gP (a.toNat:Int)))(hy:gY l y=some (.int k (c:Int)))(hc:c<=32):Ev P n l w (.binOp .shr t x y ty) (gP ((a >>> c).toNat:Int)):=
  qW hx hy (Cb ..) λw=>by
    have h:(binOp .shr t (gP (a.toNat:Int)) (.int k (c:Int)))=Op.shift .shr .u32 (a.toNat:Int) k (c:Int):=rfl;rw [h,shift_shr_any _ _ _ _ aj,BitVec.toNat_ushiftRight,Nat.shiftRight_eq_div_pow];have e:min (c:Int).toNat IntKind.u32.bits=c:=by show min (c:Int).toNat 32=c; omega
    rw [e]; norm_cast
theorem Ev.aI2{a:BitVec 8}(hx:gY l x=some (.int .u8 (a.toNat:Int)))(hy:gY l y=some (.int k (c:Int)))(hc:c<=8):Ev P n l w (.binOp .shl t x y ty) (.int .u8 ((a <<< c).toNat:Int)):=
  qW hx hy (Cb ..) λw=>by
    have h:(binOp .shl t (.int .u8 (a.toNat:Int)) (.int k (c:Int)))=Op.shift .shl .u8 (a.toNat:Int) k (c:Int):=rfl;have e:min (c:Int).toNat IntKind.u8.bits=c:=by show min (c:Int).toNat 8=c; omega
    have e2:((a.toNat:Int)*2 ^ c) % 256=((a.toNat*2 ^ c % 2 ^ 8:Nat):Int):=by rw [Int.natCast_emod,Int.natCast_mul,Int.natCast_pow]; rfl
    rw [h,shift_shl_any _ _ _ _ aj,e,IntKind.wrap_u8,BitVec.toNat_shiftLeft,Nat.shiftLeft_eq,e2]; rfl
theorem Ev.aq4{a:BitVec 8}(hs:(P.underlying t).isSome=true)(hd:P.underlying d=some (.int (P.intKind d)))(hk:P.intKind d=.u32)(hx:gY l x=some (.int .u8 (a.toNat:Int))):Ev P n l w (.convert t d x) (gP ((a.setWidth 32).toNat:Int)):=by
  have:=Py (P:=P) (n:=n) (w:=w) hs hd hk hx
  grind [IntKind.wrap_u32]
theorem Ev.avE(hs:(P.underlying t).isSome=true)(hd:P.underlying d=some (.int (P.intKind d)))(hk:P.intKind d=.u32)(hx:gY l x=some (.int k (m:Int))):Ev P n l w (.convert t d x) (gP ((BitVec.ofNat 32 m).toNat:Int)):=by
  have:=Py (P:=P) (n:=n) (w:=w) hs hd hk hx
  grind [IntKind.wrap_u32]
theorem Ev.aDI(hx:gY l x=some (aI z))(hy:gY l y=some (.int k (c:Int)))(hc:c<=64):Ev P n l w (.binOp .shr t x y ty) (aI (z / 2 ^ c)):=
  qW hx hy (Cb ..) λw=>by
    have h:(binOp .shr t (aI z) (.int k (c:Int)))=Op.shift .shr .i64 z k (c:Int):=rfl;have e:min (c:Int).toNat IntKind.i64.bits=c:=by show min (c:Int).toNat 64=c; omega
    rw [h,shift_shr_any _ _ _ _ aj,e]; rfl
theorem Ev.aI3{a:Nat}(hx:gY l x=some (aI (a:Int)))(hy:gY l y=some (aI z))(hz:z=(c:Int))(hc:0<c)(ha:a<=9223372036854775807):Ev P n l w (.binOp .quo t x y ty) (aI ((a / c:Nat):Int)):=by
  subst hz;have e:(a:Int).tdiv (c:Int)=((a / c:Nat):Int):=rfl;have hq:∀ q:Nat,q<=a->I64 (q:Int):=by grind [I64.mk]
  have h2:=Ev.quo (P:=P) (n:=n) (w:=w) (t:=t) (ty:=ty) hx hy aj (by rw [e]; exact hq _ (Nat.div_le_self a c))
  grind
theorem Ev.aDJ{a:Nat}(hx:gY l x=some (aI (a:Int)))(hy:gY l y=some (aI z))(hz:z=(c:Int))(hc:0<c)(ha:a<=9223372036854775807):Ev P n l w (.binOp .rem t x y ty) (aI ((a % c:Nat):Int)):=
  qW hx hy (Cb ..) λw=>by
    subst hz;have e:((a % c:Nat):Int)=(a:Int).tmod (c:Int):=rfl;have hc2:c≠0:=aj
    simp_all [binOp,Op.intDiv]
theorem Ev.az8{len i g:Nat}(hu:P.underlying t=some (.array len e))(hs:Size P e 1)(hx:gY l x=some (gI g))(hy:gY l y=some (.int k z))(hz:z=(i:Int))(hi:i<len):Ev P n l w (.indexAddr t x y) (.pointer (some ⟨g,i,none⟩)):=λo a w' ho ha _=>by
  unfold execOp; rw [ho];have h1:P.arrayLen t=len:=by grind [Program.arrayLen]
  have h2:P.elem t=e:=by grind [Program.elem]
  have h3:(Instr.indexAt t (gI g) (.int k z)).run P w'=.ok (.pointer (some ⟨g,i,none⟩)) w':=by
    rw [run_indexAt_array w' t _ k z (by grind),hz,aS (by grind),h2,hs w']
    simp [Addr.add]
    intro h; exact h.symm
  simp [ha.eval hx,ha.eval hy,h3]
theorem aq5(hu:P.underlying t=some (.pointer e)):P.underlying t=some (.pointer (P.pointee t)):=by
  grind [Program.pointee]
theorem Ev.amY{p:ah}(hu:P.underlying t=some (.pointer e))(hx:gY l x=some (.pointer p))(hy:gY l y=some (.pointer none)):Ev P n l w (.binOp .eql t x y ty) (.bool p.isNone):=
  qW hx hy (eqGuard_at_pointer ..) (by grind [run_eql_pointer_nil,aq5])
theorem Ev.pnn{p:ah}(hu:P.underlying t=some (.pointer e))(hx:gY l x=some (.pointer p))(hy:gY l y=some (.pointer none)):Ev P n l w (.binOp .neq t x y ty) (.bool (!p.isNone)):=
  qW hx hy (eqGuard_at_pointer ..) (by grind [run_neq_pointer_nil,aq5])
theorem Ev.aI4{f:Fn}{azv cs:Array Value}{vr:Bool}(hu:P.underlying t=some (.func ps rs' vr))(hx:gY l x=some (.func f azv cs)):Ev P n l w (.binOp .eql t x (.const .nilFunc) ty) (.bool false):=
  qW hx rfl (eqGuard_at_func ..) λw=>by
    have h:(Op.equal t (.func f azv cs) .nilFunc).run P w=.ok false w:=Ux 9999 hu
    simp_all [binOp]
def ze:=@Ev.aI4
theorem Ev.aI5{vr:Bool}(hu:P.underlying t=some (.func ps rs' vr))(hx:gY l x=some .nilFunc):Ev P n l w (.binOp .eql t x (.const .nilFunc) ty) (.bool true):=
  qW hx rfl (eqGuard_at_nilFunc ..) λw=>by
    have h:(Op.equal t .nilFunc .nilFunc).run P w=.ok true w:=Uy 9999 hu
    simp_all [binOp]
end
section
variable {P:Program}{n:Cx}{l:List (Nat × Value)}{b w:World}{S:Nat->Prop}{rs rest:List lG}{Q:Exit->Act->World->Prop}{K:Act->World->Prop}{bY:Array Oper}{os:List Oper}{ty:TypeId}{pos:String}{mO:Array Edge}{d:Nat}
theorem ZM{g o:Nat}{t':TypeId}{cs ds:List Value}(hs:Size P t ds.length)(hb:Bx w g t' cs)(hl:o+ds.length<=cs.length)(h1:∀ u∈ds,u.oneCell'=true){v:Value}(hv:v.cells=ds.toArray) :
    (Instr.storeAt t (.pointer (some ⟨g,o,none⟩)) v).run P w=.ok () (w.setRow g (cs.take o++ds++cs.drop (o+ds.length)).toArray):=by
  have hst:=Z5 P g o t' ds 0 cs.toArray w hb (by grind) h1
  simp only [Instr.storeAt,Instr.sureAddr,storeVar,hv,jO,lK,jP,hs w]
  grind
theorem stp{t':TypeId}{x y:Operand}{g o:Nat}{v:Value}{cs ds cs':List Value}(hx:gY l x=some (.pointer (some ⟨g,o,none⟩)))(hy:gY l y=some v)(hv:v.cells=ds.toArray)(hs:Size P t ds.length)(H:Hp b S w rs)(s:pq rs (dW g t' cs) rest)(hl:Nat.ble (o+ds.length) cs.length=true)(h1:ds.all (λu=>u.oneCell')=true)(hc:cs.take o++ds++cs.drop (o+ds.length)=cs')
    (k:∀ w',Hp b S w' (dW g t' cs'::rest)->WL P n bY Q K os l w'):WL P n bY Q K (⟨none,.store t x y,ty,pos,mO,none⟩::os) l w:=
  Pv (by simp [fZ]) rfl (R:=λw'=>w'=w.setRow g (cs.take o++ds++cs.drop (o+ds.length)).toArray) (λa ha=>⟨_,by
    unfold execOp; simp [ha.eval hx,ha.eval hy,ZM (P:=P) hs (H.x s) (nX hl) (by grind) hv],rfl⟩) λw' e=>by
    subst e; subst hc;exact k _ ((H.sel s).put (r':=dW g t' (cs.take o++ds++cs.drop (o+ds.length))) (Wr.ahJ (g:=g) ⟨Y,Y,Y,av,by grind [setRow_other],kJ _⟩ rfl) (λg hg=>.inl hg) (KD w g cs.toArray _ t' (0,0) (H.x s)))
theorem WL.az9{o:Oper}{v:Value}(hw:∀ a,Has n l a->Region.wanted o (yielded bY a.tmps)=true)(hdst:o.dst=none){R:World->Prop}
    (hrun:∀ a,Has n l a->∃ w',(execOp a.eval o).run P w=.ok (.value v) w'/\R w') (k:∀ w',R w'->WL P n bY Q K os l w'):WL P n bY Q K (o::os) l w:=by
  intro a ha;obtain⟨w',hr,hR⟩:=hrun a ha;unfold WB;rw [aS (hw a ha)];refine MK hr ?_;rw [hdst];exact k w' hR a ha
end
section
variable {P:Program}{n:Cx}{l:List (Nat × Value)}{w:World}{Q:Exit->Act->World->Prop}{K:Act->World->Prop}{bY:Array Oper}{os:List Oper}{ty:TypeId}{pos:String}{mO:Array Edge}{d:Nat}{KA:Operand}{args:List Operand}{tys:Array TypeId}{f:FuncId}{fs caps vs all:List Value}{R:Value->World->Prop}
theorem Ev.aDK{xs ys:List Operand}(hx:Fp l xs=some fs)(hy:Fp l ys=some caps):Ev P n l w (.makeFunc (.func f) xs.toArray ys.toArray) (.func (.func f) fs.toArray caps.toArray):=λo a w' ho ha _=>by
  have h1:=ha.Ut hx;have h2:=ha.Ut hy;unfold execOp; rw [ho]
  simp only [wh,h1,h2]
  rfl
def zf:=@Ev.aDK
theorem amZ{a:Act}{o:Oper}(ho:o.op=.call ⟨.value KA,args.toArray,tys⟩)(ha:Has n l a)
    (hf:gY l KA=some (.func (.func f) fs.toArray caps.toArray)) (hargs:Fp l args=some vs) (hall:fs++vs++caps=all) (hc:bJ P f) (w:World):(execOp a.eval o).run P w=.ok (.enter f all.toArray) w:=by
  unfold execOp;rw [ho];have h1:=ha.eval hf;have h2:=ha.Ut hargs
  simp only [resolve,h1,Deferred.ofValue,jO,lK,jP,invoke]
  have:(fs.toArray++Array.map a.eval args.toArray++caps.toArray:Array Value)=all.toArray:=by grind
  rw [this];exact hc _ w
theorem WL.aDL(hf:gY l KA=some (.func (.func f) fs.toArray caps.toArray))(hargs:Fp l args=some vs)(hall:fs++vs++caps=all)(J8:bJ P f)(hc:bO P f all.toArray w R)(hd:Nat.blt d n.size=true)
    (k:∀ v w',R v w'->WL P n bY Q K os ((d,v)::l) w'):WL P n bY Q K (⟨some d,.call ⟨.value KA,args.toArray,tys⟩,ty,pos,mO,none⟩::os) l w:=
  λa ha=>WG (fZ a) (by grind [amZ]) hc λv w' hv=>k v w' hv _ (ha.put hd v)
def Jk:=@WL.aDL
end
section
variable {P:Program}{n:Cx}{l:List (Nat × Value)}{w:World}{Q:Exit->Act->World->Prop}
theorem cT{c:Operand}{x y z:Code}(hc:gY l c=some (.bool true))(h:WP P n x l w (Exit.then (NU P n z Q) Q)):WP P n (.seq (.cond c x y) z) l w Q:=WP.cond hc (λ_=>h) av
theorem cF{c:Operand}{x y z:Code}(hc:gY l c=some (.bool false))(h:WP P n y l w (Exit.then (NU P n z Q) Q)):WP P n (.seq (.cond c x y) z) l w Q:=WP.cond hc av (λ_=>h)
def RN(P:Program)(n:Cx)(c:Code)(Q:Exit->Act->World->Prop)(m:Nat)(l:List (Nat × Value))(w:World):Prop:=∀ a,Has n l a->Code.roundsIn n.fence 0 P c Q m a w
theorem Rn(m:Nat){c:Code}(h:RN P n c Q m l w):WP P n (.loop c) l w Q:=λa ha=>wpIn_loop_rounds m (h a ha)
theorem RN.s{c:Code}(h:WP P n c l w (Exit.then (Code.roundsIn n.fence 0 P c Q m) Q)):RN P n c Q (m+1) l w:=h
theorem l8.rnd{c:Code}(h:RN P n c Q m l w):l8 n (Exit.then (Code.roundsIn n.fence 0 P c Q m) Q) .normal l w:=h
end
end
section
variable {ms:List MapEntry}{j g:Nat}{P:Program}{kt:TypeId}{ν:Type}{S0:Nat->Prop}{A_b:ah}{v:ν}
structure LV {κ:Type} [DecidableEq κ] (P:Program) (kt:TypeId) (ek:κ->Value):Prop where
  check:∀(w:World)(e:Bool)(a:κ),(Instr.checkKey e 10000 kt (ek a)).run P w=.ok () w
  find:∀(w:World)(a:κ)(ks:List κ)(l:List MapEntry),l.map MapEntry.key=ks.map ek->((Instr.findKey kt (ek a) l).run P w=.ok none w/\a∉ks)∨∃ j e,(Instr.findKey kt (ek a) l).run P w=.ok (some (j,e.val)) w/\l[j]? = some e/\ks[j]? = some a
  stays:∀(w:World)(a:κ),(Instr.keyThatStays (ek a) (ek a)).run P w=.ok (ek a) w
section
variable {κ ν:Type}[DecidableEq κ]
def dY(k:κ)(es:List (κ × ν)):Option ν:=(es.find? λp=>decide (p.1=k)).map (·.2)
def gK(k:κ)(v:ν)(es:List (κ × ν)):List (κ × ν):=if(dY k es).isSome=true then es.map (λp=>if p.1=k then(k,v) else p) else es++[(k,v)]
def oJ(k:κ)(es:List (κ × ν)):List (κ × ν):=es.filter λp=>!decide (p.1=k)
theorem aaP{k:κ}{es:List (κ × ν)}(h:k∉es.map Prod.fst):dY k es=none:=by
  unfold dY
  grind
theorem FW{k:κ}{v:ν}:∀ {es:List (κ × ν)} {j:Nat},(es.map Prod.fst).Nodup->es[j]? = some (k,v)->dY k es=some v
  | [],_,_,h=>by simp at h
  | p::es,0,_,h=>by simp at h; subst h; simp [dY]
  | p::es,j+1,hn,h=>by
    rw [mR,EN] at hn;have h':es[j]? = some (k,v):=by simpa using h
    have hne:p.1≠k:=λe=>hn.1 (e▸gB.2 ⟨(k,v),yS h',rfl⟩);have:=FW hn.2 h';unfold dY at this ⊢;rw [zU (by simpa using hne)]; exact this
theorem acW{k:κ}{v v':ν}:∀ {es:List (κ × ν)} {j:Nat},(es.map Prod.fst).Nodup->es[j]? = some (k,v)->es.set j (k,v')=es.map (λp=>if p.1=k then(k,v') else p)
  | [],_,_,h=>by simp at h
  | p::es,0,hn,h=>by
    simp at h; subst h
    rw [mR,EN] at hn
    simp only [List.set_cons_zero,mR,if_true,List.cons.injEq,true_and]
    symm
    refine(Yq λp hp=>?_).trans (List.map_id _)
    grind
  | p::es,j+1,hn,h=>by
    rw [mR,EN] at hn;have h':es[j]? = some (k,v):=by simpa using h
    have hne:p.1≠k:=λe=>hn.1 (e▸gB.2 ⟨(k,v),yS h',rfl⟩);rw [List.set_cons_succ,mR,aP hne,acW hn.2 h']
theorem erase_filter{k:κ}{v:ν}:∀ {es:List (κ × ν)} {j:Nat},(es.map Prod.fst).Nodup->es[j]? = some (k,v)->es.eraseIdx j=oJ k es
  | [],_,_,h=>by simp at h
  | p::es,0,hn,h=>by
    simp at h; subst h
    rw [mR,EN] at hn;unfold oJ
    grind [List.filter_eq_self]
  | p::es,j+1,hn,h=>by
    rw [mR,EN] at hn;have h':es[j]? = some (k,v):=by simpa using h
    have hne:p.1≠k:=λe=>hn.1 (e▸gB.2 ⟨(k,v),yS h',rfl⟩);have:=erase_filter hn.2 h';unfold oJ at this ⊢;rw [List.eraseIdx_cons_succ,aiM (by simpa using hne),this]
theorem af5{k:κ}{es:List (κ × ν)}(h:k∉es.map Prod.fst):oJ k es=es:=by
  unfold oJ
  grind [List.filter_eq_self]
theorem LW{k:κ}{v:ν}{es:List (κ × ν)}(hn:(es.map Prod.fst).Nodup):((gK k v es).map Prod.fst).Nodup:=by
  unfold gK
  split
  · grind
  · rename_i h
    rw [tu,List.nodup_append];refine⟨hn,av,λa ha b hb=>?_⟩
    simp only [mR,xk,oG] at hb
    subst hb;intro e; subst e;obtain⟨p,hp,e⟩:=gB.1 ha;obtain⟨j,hj⟩:=TD.1 hp;obtain⟨p1,p2⟩:=p
    simp only at e; subst e
    rw [FW hn hj] at h; grind
theorem Yw{k:κ}{es:List (κ × ν)}(hn:(es.map Prod.fst).Nodup):((oJ k es).map Prod.fst).Nodup:=by
  grind [oJ]
end
def rA{κ ν:Type}(ek:κ->Value)(ev:ν->Value)(g:Nat)(es:List (κ × ν)):lG where
  W:=λx=>x=g
  ok:=λ_ w=>(es.map Prod.fst).Nodup/\∃ ms FH,w.heap[g]? = some (.map ms FH)/\ms.toList.map (λe=>(e.key,e.val))=es.map λp=>(ek p.1,ev p.2)
  sub:=λ_ h=>h
  keep:=λhm ⟨hn,ms,FH,h,h2⟩=>⟨hn,ms,FH,(hm _ (.inl rfl) (yU.1 h).1).trans h,h2⟩
section
variable {κ ν:Type}[DecidableEq κ]{ek:κ->Value}{ev:ν->Value}{g:Nat}{es:List (κ × ν)}{P:Program}{n:Cx}{l:List (Nat × Value)}{b w:World}{S:Nat->Prop}{rs rest:List lG}{Q:Exit->Act->World->Prop}{K:Act->World->Prop}{bY:Array Oper}{os:List Oper}{ty:TypeId}{pos:String}{mO:Array Edge}{d:Nat}{t kt et:TypeId}{m ky vy:Operand}{z:κ}{v:ν}
theorem Hp.mp(H:Hp b S w rs)(s:pq rs (rA ek ev g es) rest):(es.map Prod.fst).Nodup/\∃ ms FH,w.heap[g]? = some (.map ms FH)/\ms.toList.map (λe=>(e.key,e.val))=es.map λp=>(ek p.1,ev p.2):=H.ok (rA ek ev g es) (s.perm.mem_iff.2 av)
theorem Hp.af6{es':List (κ × ν)}{ms:Array MapEntry}{FH:Nat}(H:Hp b S w rs)(s:pq rs (rA ek ev g es) rest)(hn:(es'.map Prod.fst).Nodup)(hm:ms.toList.map (λe=>(e.key,e.val))=es'.map λp=>(ek p.1,ev p.2)):Hp b S (w.putObj g (.map ms FH)) (rA ek ev g es'::rest):=by
  obtain⟨_,ms0,aOx,h0,_⟩:=H.mp s;exact(H.sel s).put (r':=rA ek ev g es') ⟨Y,Y,Y,av,λk hk hn=>World.putObj_heap_other hn,kJ _⟩ (λg hg=>.inl hg) ⟨hn,ms,FH,World.putObj_heap_same (yU.1 h0).1,hm⟩
theorem acX(h:ms.map (λe=>(e.key,e.val))=es.map λp=>(ek p.1,ev p.2)):ms.map MapEntry.key=(es.map Prod.fst).map ek:=by
  have:=aV (List.map Prod.fst) h;rw [OP,OP] at this;rw [OP]; exact this
theorem aq6{e:MapEntry}{a:κ}(h:ms.map (λe=>(e.key,e.val))=es.map λp=>(ek p.1,ev p.2))(he:ms[j]? = some e)(ha:(es.map Prod.fst)[j]? = some a):∃ u,es[j]? = some (a,u)/\e.val=ev u/\e.key=ek a:=by
  have h1:=aV (λl=>l[j]?) h
  grind
theorem mkA(ek:κ->Value)(ev:ν->Value)(H:Hp b S w rs)(k:∀ g w',Hp b S w' (rA ek ev g ([]:List (κ × ν))::rs)->WL P n bY Q K os ((d,.map (some g))::l) w')(hd:Nat.blt d n.size=true:=by rfl):WL P n bY Q K (⟨some d,.makeMap t none,ty,pos,mO,none⟩::os) l w:=
  Ej (by simp [fZ]) rfl hd (λa ha=>⟨_,rfl,rfl⟩) λw2 e=>by
    subst e;exact k _ _ (H.new (Ext.alloc w _) (λg hg=>by show _/\_; rw [show g=w.heap.size from hg]; simp) ⟨av,#[],0,World.alloc_heap_new w _,rfl⟩)
def lkO(ev:ν->Value)(z:Value):Option ν->Value
  | some v=>ev v
  | none=>z
theorem Ev.aq7{zv:Value}(H:Hp b S w rs)(s:pq rs (rA ek ev g es) rest)(hk:LV P kt ek)(hm:P.underlying t=some (.map kt et))(hz:∀ w,(zeroValue et).run P w=.ok zv w)(hx:gY l m=some (.map (some g)))(hkey:gY l ky=some (ek z)):Ev P n l w (.lookup t m ky false) (lkO ev zv (dY z es)):=λo a w' ho ha ex=>by
  obtain⟨hn,ms,FH,h0,h1⟩:=H.mp s;have hb:w'.heap[g]? = some (.map ms FH):=(ex.block g (yU.1 h0).1).trans h0
  have hr:(Instr.lookup t (.map (some g)) (ek z) false).run P w'=.ok (lkO ev zv (dY z es)) w':=by
    rcases hk.find w' z (es.map Prod.fst) ms.toList (acX h1) with ⟨h2,h3⟩ | ⟨j,e,h2,h3,h4⟩
    · rw [aaP h3]
      unfold Instr.lookup
      simp only [jO,kV hm,jP,uH hb,hk.check,h2,lK,hz]
      rfl
    · obtain⟨u,h5,h6,_⟩:=aq6 h1 h3 h4
      rw [FW hn h5];unfold Instr.lookup
      simp only [jO,kV hm,jP,uH hb,hk.check,h2,lK,h6]
      rfl
  unfold execOp; rw [ho]; simp [ha.eval hx,ha.eval hkey,hr]
theorem aAa(H:Hp b S w rs)(s:pq rs (rA ek ev g es) rest)(hk:LV P kt ek)(hm:P.underlying t=some (.map kt et))(hx:gY l m=some (.map (some g)))(hkey:gY l ky=some (ek z))(hv:gY l vy=some (ev v))
    (k:∀ w',Hp b S w' (rA ek ev g (gK z v es)::rest)->WL P n bY Q K os l w'):WL P n bY Q K (⟨none,.mapUpdate t m ky vy,ty,pos,mO,none⟩::os) l w:=by
  obtain⟨hn,ms,FH,hb,h1⟩:=H.mp s
  rcases hk.find w z (es.map Prod.fst) ms.toList (acX h1) with ⟨h2,h3⟩ | ⟨j,e,h2,h3,h4⟩
  · refine Pv (by simp [fZ]) rfl (R:=λw'=>w'=w.putObj g (.map (ms.push ⟨ek z,ev v,FH⟩) (FH+1))) (λa ha=>⟨_,?_,rfl⟩) λw' e=>?_
    · have hr:(Instr.mapUpdate t (.map (some g)) (ek z) (ev v)).run P w=.ok () (w.putObj g (.map (ms.push ⟨ek z,ev v,FH⟩) (FH+1))):=by
        unfold Instr.mapUpdate
        simp only [jO,kV hm,jP,uH hb,hk.check,h2,Gi _ hb]
        rfl
      unfold execOp; simp [ha.eval hx,ha.eval hkey,ha.eval hv,hr]
    · subst e
      refine k _ (H.af6 s (LW hn) ?_)
      simp_all [gK,aaP,aP,Array.toList_push,tu]
  · obtain⟨u,h5,h6,h7⟩:=aq6 h1 h3 h4
    have hj:ms[j]? = some e:=by grind
    refine Pv (by simp [fZ]) rfl (R:=λw'=>w'=w.putObj g (.map (ms.modify j λe=>{ e with key:=ek z,val:=ev v }) FH)) (λa ha=>⟨_,?_,rfl⟩) λw' e'=>?_
    · have hr:(Instr.mapUpdate t (.map (some g)) (ek z) (ev v)).run P w=.ok () (w.putObj g (.map (ms.modify j λe=>{ e with key:=ek z,val:=ev v }) FH)):=by
        unfold Instr.mapUpdate
        simp only [jO,kV hm,jP,uH hb,hk.check,h2,hj,abx,Option.getD_some,h7,hk.stays,Gi _ hb]
        rfl
      unfold execOp; simp [ha.eval hx,ha.eval hkey,ha.eval hv,hr]
    · subst e'
      refine k _ (H.af6 s (LW hn) ?_);unfold gK;rw [FW hn h5,aS (show(some u).isSome=true from rfl),<- acW hn h5,Array.toList_modify,ChangeMaps.modify_eq_set _ _ _ _ h3,KT,KT,h1]
theorem aAb(H:Hp b S w rs)(s:pq rs (rA ek ev g es) rest)(hk:LV P kt ek)(hm:P.underlying t=some (.map kt et))(hx:gY l m=some (.map (some g)))(hkey:gY l ky=some (ek z)){t2:TypeId}
    (k:∀ w',Hp b S w' (rA ek ev g (oJ z es)::rest)->WL P n bY Q K os l w'):WL P n bY Q K (⟨none,.call ⟨.builtin .delete,#[m,ky],#[t,t2]⟩,ty,pos,mO,none⟩::os) l w:=by
  obtain⟨hn,ms,FH,hb,h1⟩:=H.mp s
  rcases hk.find w z (es.map Prod.fst) ms.toList (acX h1) with ⟨h2,h3⟩ | ⟨j,e,h2,h3,h4⟩
  · refine WL.az9 (v:=.tuple #[]) (by simp [fZ]) rfl (R:=λw'=>w'=w.putObj g (.map ms FH)) (λa ha=>⟨_,?_,rfl⟩) λw' e=>?_
    · have hr:(Builtin.delete_ #[t,t2] ty #[.map (some g),ek z]).run P w=.ok (.tuple #[]) (w.putObj g (.map ms FH)):=by
        simp [Builtin.delete_,kV hm,uH hb,hk.check,h2,Gi _ hb,Result.andThen]; try rfl
      unfold execOp
      simp only [resolve,jO,lK,jP,invoke,builtin,wh,mR,xk,ha.eval hx,ha.eval hkey,hr]
    · subst e
      refine k _ (H.af6 s (Yw hn) ?_)
      grind [af5]
  · obtain⟨u,h5,h6,h7⟩:=aq6 h1 h3 h4
    refine WL.az9 (v:=.tuple #[]) (by simp [fZ]) rfl (R:=λw'=>w'=w.putObj g (.map (ms.eraseIdxIfInBounds j) FH)) (λa ha=>⟨_,?_,rfl⟩) λw' e'=>?_
    · have hr:(Builtin.delete_ #[t,t2] ty #[.map (some g),ek z]).run P w=.ok (.tuple #[]) (w.putObj g (.map (ms.eraseIdxIfInBounds j) FH)):=by
        simp [Builtin.delete_,kV hm,uH hb,hk.check,h2,Gi _ hb,Result.andThen]; try rfl
      unfold execOp
      simp only [resolve,jO,lK,jP,invoke,builtin,wh,mR,xk,ha.eval hx,ha.eval hkey,hr]
    · subst e'
      refine k _ (H.af6 s (Yw hn) ?_);have hjl:j<ms.size:=by grind
      rw [<- erase_filter hn h5,Array.eraseIdxIfInBounds,dif_pos hjl,Array.toList_eraseIdx,aiN,h1,aiN]
theorem aI8(H:Hp b S w rs)(s:pq rs (rA ek ev g es) rest)(hm:P.underlying t=some (.map kt et))(hx:gY l m=some (.map (some g)))
    (k:∀ w',Hp b S w' (rA ek ev g ([]:List (κ × ν))::rest)->WL P n bY Q K os l w'):WL P n bY Q K (⟨none,.call ⟨.builtin .clear,#[m],#[t]⟩,ty,pos,mO,none⟩::os) l w:=by
  obtain⟨hn,ms,FH,hb,h1⟩:=H.mp s;refine WL.az9 (v:=.tuple #[]) (by simp [fZ]) rfl (R:=λw'=>w'=w.putObj g (.map #[] FH)) (λa ha=>⟨_,?_,rfl⟩) λw' e=>?_
  · have h2:(Builtin.clear_ #[t] ty #[.map (some g)]).run P w=.ok (.tuple #[]) (w.putObj g (.map #[] FH)):=by
      simp only [Builtin.clear_]
      simp [kV hm,uH hb,Gi _ hb,Result.andThen]
      rfl
    unfold execOp
    simp only [resolve,jO,lK,jP,invoke,builtin,wh,mR,xk,ha.eval hx,h2]
  · subst e
    exact k _ (H.af6 s av Y)
end
theorem avF(hk:P.underlying kt=some (.int .i64)):LV P kt (fun(z:Int)=>Value.int .i64 z) where
  check w e a:=KI (n:=9999) hk (by rfl) e
  stays w a:=ahM (d:=.int .i64) (by rfl)
  find w a ks l h:=by
    have hks:∀ x∈l,MapKept.IsKey (.int .i64) x.key:=λx hx=>by
      have:x.key∈l.map MapEntry.key:=by grind
      grind [MapKept.IsKey]
    rcases WY (d:=.int .i64) (k:=aI a) (by rfl) l 0 hks with ⟨h1,h2⟩ | ⟨j,e,h1,h2,h3⟩
    · refine .inl ⟨Da hk h1,λhm=>?_⟩
      have:(Value.int .i64 a)∈l.map MapEntry.key:=by grind
      grind
    · refine .inr ⟨j,e,by grind [MapKept.run_findKey],h2,?_⟩
      have h4:=aV (λq=>q[j]?) h
      grind
theorem key_eq{κ:Type}[DecidableEq κ]{ek:κ->Value}{d:TypeDesc}(hk:P.underlying kt=some d)(hd:∀ a b,Instr.sameNow d a b=none)(hq:∀(a b:κ)(w:World),(Op.equal kt (ek a) (ek b)).run P w=.ok (decide (a=b)) w)
    (hc:∀(w:World)(e:Bool)(a:κ),(Instr.checkKey e 10000 kt (ek a)).run P w=.ok () w) (hs:∀ a,Instr.sameBits 10000 (ek a) (ek a)=true):LV P kt ek where
  check:=hc
  stays w a:=by unfold Instr.keyThatStays; rw [aS (hs a)]; rfl
  find w a ks l h:=by
    have aI9:∀(l:List MapEntry)(ks:List κ)(i:Nat),l.map MapEntry.key=ks.map ek->((Instr.findAsking kt (ek a) l i).run P w=.ok none w/\a∉ks)∨∃ j e,(Instr.findAsking kt (ek a) l i).run P w=.ok (some (i+j,e.val)) w/\l[j]? = some e/\ks[j]? = some a:=by
      intro l
      induction l with
      | nil=>
        intro ks i h
        cases ks with
        | nil=>exact .inl ⟨rfl,av⟩
        | cons _ _=>simp at h
      | cons e l ih=>
        intro ks i h
        cases ks with
        | nil=>simp at h
        | cons c ks=>
          simp only [mR,List.cons.injEq] at h
          by_cases hac:a=c
          · refine .inr ⟨0,e,?_,Y,by rw [hac]; rfl⟩
            unfold Instr.findAsking
            simp only [jO,h.1,hq,jP,sO hac,if_true,Nat.add_zero]
            rfl
          · have hstep:(Instr.findAsking kt (ek a) (e::l) i).run P w=(Instr.findAsking kt (ek a) l (i+1)).run P w:=by
              conv=>lhs; unfold Instr.findAsking
              simp only [jO,h.1,hq,jP,XM hac]
              rfl
            rcases ih ks (i+1) h.2 with ⟨h1,h2⟩ | ⟨j,e',h1,h2,h3⟩
            · exact .inl ⟨hstep.trans h1,by simp [hac,h2]⟩
            · exact .inr ⟨j+1,e',by rw [hstep,h1,show i+1+j=i+(j+1) from by omega],by simpa using h2,by simpa using h3⟩
    have hf:(Instr.findKey kt (ek a) l).run P w=(Instr.findAsking kt (ek a) l 0).run P w:=by
      unfold Instr.findKey
      simp only [jO,kV hk,jP]
      cases l with
      | nil=>rfl
      | cons e l=>
        have:Instr.findNow d (ek a) (e::l) 0=none:=by unfold Instr.findNow; rw [hd]
        rw [this]
    rcases aI9 l ks 0 h with ⟨h1,h2⟩ | ⟨j,e,h1,h2,h3⟩
    · exact .inl ⟨hf.trans h1,h2⟩
    · exact .inr ⟨j,e,by rw [hf,h1,Ik],h2,h3⟩
theorem TH{β:Type}{l:List β}{i:Nat}{x:β}(h:l[i]? = some x):l.set i x=l:=by
  grind [List.set_getElem_self]
section
variable {κ α:Type}[DecidableEq κ]{τ:Ty α}{e:TypeId}{b w:World}{S:Nat->Prop}{rs rest xR:List lG}{es:List (κ × (Option Addr × Nat × List α))}{k k2:κ}
theorem Hp.weak{r r':lG}(H:Hp b S w (r::rs))(hW:∀ g,r'.W g->r.W g)(hok:∀ {S':Nat->Prop},r.ok S' w->r'.ok S' w):Hp b S w (r'::rs):=
  H.put ⟨rfl,rfl,rfl,kJ _,av,kJ _⟩ (by grind) (hok (H.ok r av))
def gD(k:κ)(es:List (κ × (Option Addr × Nat × List α))):Option Addr × Nat × List α:=(dY k es).getD (none,0,[])
abbrev wI(r:Option Addr × Nat × List α):Value:=.slice r.1 r.2.2.length r.2.1
theorem aAc(k:κ)(es:List (κ × (Option Addr × Nat × List α))):lkO wI (.slice none 0 0) (dY k es)=.slice (gD k es).1 (gD k es).2.2.length (gD k es).2.1:=by
  unfold gD; cases dY k es <;> rfl
theorem zA{es:List (κ × ν)}(h:dY k es=some v):∃ j:Nat,es[j]? = some (k,v):=by
  unfold dY at h
  cases hf:es.find? (λp=>decide (p.1=k)) with
  | none=>grind
  | some p=>
    grind [List.mem_iff_getElem?]
theorem Hp.aq8(H:Hp b S w rs)(s:pq rs (fU τ e (es.map Prod.snd)) rest)(k:κ):Sl τ Any w (gD k es).1 (gD k es).2.1 (gD k es).2.2:=by
  cases h:dY k es with
  | none=>grind [gD,Sl.none_]
  | some r=>
    obtain⟨j,hj⟩:=zA h;have hx:(es.map Prod.snd)[j]? = some (r.1,r.2.1,r.2.2):=by grind
    rw [show gD k es=r from by grind [gD]];exact(H.Ce s hx).o s0
theorem Hp.akk{L L':List (Option Addr × Nat × List α)}(H:Hp b S w rs)(s:pq rs (fU τ e L) rest)(h:L'.Sublist L):Hp b S w (fU τ e L'::rest):=
  Hp.weak (H.sel s) (λg ⟨r,hr,hg⟩=>⟨r,h.subset hr,hg⟩) (fun⟨h1,h2⟩=>⟨λr hr=>h1 r (h.subset hr),h2.sublist h⟩)
theorem Hp.akl(H:Hp b S w rs)(s:pq rs (fU τ e (es.map Prod.snd)) rest)(k:κ):Hp b S w (fU τ e ((oJ k es).map Prod.snd)::rest):=H.akk s (List.Sublist.map _ Yr)
theorem Hq{ν:Type}{es:List (κ × ν)}{v v':ν}{j:Nat}(hn:(es.map Prod.fst).Nodup)(h:es[j]? = some (k,v)):gK k v' es=es.set j (k,v'):=by
  unfold gK;rw [FW hn h,aS (show(some v).isSome=true from rfl),acW hn h]
theorem Hp.acY{B:ah}{d:Nat}{xs:List α}(H:Hp b S w rs)(hn:(es.map Prod.fst).Nodup)(s:pq rs (aQ τ e B d xs) rest)(s':pq rest (fU τ e (es.map Prod.snd)) xR)(k:κ):Hp b S w (fU τ e ((gK k (B,d,xs) es).map Prod.snd)::xR):=by
  cases h:dY k es with
  | none=>
    have:=H.PE s s'
    grind [gK]
  | some r=>
    obtain⟨j,hj⟩:=zA h;have hx:(es.map Prod.snd)[j]? = some (r.1,r.2.1,r.2.2):=by grind
    have H1:=(H.sel s).Ce (.t s') hx;have H2:=H1.rm s0;have H3:=H2.DC hx (.t .h) .h;rw [Hq hn hj,KT]; exact H3
theorem avG{es:List (κ × ν)}(h:k2≠k):oJ k (gK k2 v es)=gK k2 v (oJ k es):=by
  have hg:dY k2 (oJ k es)=dY k2 es:=by grind [dY,oJ]
  unfold gK;rw [hg]
  split
  · unfold oJ
    rw [List.filter_map];have:(λp:κ × ν=>!decide (p.1=k)) ∘ (λp=>if p.1=k2 then(k2,v) else p)=λp=>!decide (p.1=k):=by grind
    rw [this]
  grind [oJ]
theorem Yx{es:List (κ × ν)}(h:((gK k v es).map Prod.fst).Nodup):(es.map Prod.fst).Nodup:=by
  unfold gK at h
  grind
theorem Hp.aq9(H:Hp b S w rs)(hn:(es.map Prod.fst).Nodup)(s:pq rs (fU τ e (es.map Prod.snd)) rest)(h:k2≠k):Hp b S w (fU τ e ((oJ k (gK k2 (gD k es) es)).map Prod.snd)::rest):=by
  rw [avG h]
  cases hg:dY k es with
  | none=>
    have hk:k∉es.map Prod.fst:=λhm=>by
      obtain⟨p,hp,e⟩:=gB.1 hm;obtain⟨j,hj⟩:=TD.1 hp;obtain⟨p1,p2⟩:=p
      simp only at e; subst e
      rw [FW hn hj] at hg; cases hg
    rw [show gD k es=(none,0,[]) from by grind [gD],af5 hk];exact((H.sel s).nil τ e).acY hn .h .h k2
  | some r=>
    obtain⟨j,hj⟩:=zA hg;have hx:(es.map Prod.snd)[j]? = some (r.1,r.2.1,r.2.2):=by grind
    have H1:=H.Ce s hx;rw [show(es.map Prod.snd).eraseIdx j=(oJ k es).map Prod.snd from by rw [<- erase_filter hn hj,aiN]] at H1;rw [show gD k es=r from by grind [gD]];exact H1.acY (Yw hn) .h .h k2
theorem avH(h:(gD k es).2.2.length≠0):∃ j:Nat,es[j]? = some (k,gD k es):=by
  cases hg:dY k es with
  | none=>rw [show gD k es=(none,0,[]) from by unfold gD; rw [hg]; rfl] at h; exact absurd rfl h
  | some r=>
    grind [gD,zA]
theorem Hp.aAd{r:Option Addr × Nat × List α}(H:Hp b S w rs)(s:pq rs (fU τ e (es.map Prod.snd)) rest)(hj:es[j]? = some (k,r)):Hp b S w (aQ τ e r.1 r.2.1 r.2.2::fU τ e ((es.map Prod.snd).eraseIdx j)::rest):=
  H.Ce s (by grind)
theorem Hp.aDN{ek:κ->Value}{g j:Nat}{r:Option Addr × Nat × List α}{xs:List α}{axN:List lG}(H:Hp b S w rs)(hj:es[j]? = some (k,r))(hl:xs.length=r.2.2.length)(s:pq rs (aQ τ e r.1 r.2.1 xs) rest)(s':pq rest (fU τ e ((es.map Prod.snd).eraseIdx j)) xR)(s2:pq xR (rA ek wI g es) axN) :
    Hp b S w (rA ek wI g (gK k (r.1,r.2.1,xs) es)::fU τ e ((gK k (r.1,r.2.1,xs) es).map Prod.snd)::axN):=by
  have hx:(es.map Prod.snd)[j]? = some r:=by grind
  have H1:=H.DC hx s s';have H2:=H1.sel (.t s2);have hn:=(H2.mp .h).1;rw [show(es.map Prod.snd).set j (r.1,r.2.1,xs)=(gK k (r.1,r.2.1,xs) es).map Prod.snd from by rw [Hq hn hj,KT]] at H2;refine H2.weak (λg h=>h) ?_;rintro S' ⟨h1,ms,FH,h2,h3⟩;refine⟨LW h1,ms,FH,h2,h3.trans ?_⟩;rw [Hq h1 hj,KT]
  grind [TH]
theorem Ev.af7{n:Cx}{l:List (Nat × Value)}{ek:κ->Value}{t et:TypeId}{m ky:Operand}{z:κ}(H:Hp b S w rs)(s:pq rs (rA ek wI g es) rest)(hk:LV P kt ek)(hm:P.underlying t=some (.map kt et))(hz:∀ w,(zeroValue et).run P w=.ok (.slice none 0 0) w)(hx:gY l m=some (.map (some g)))(hkey:gY l ky=some (ek z)) :
    Ev P n l w (.lookup t m ky false) (.slice (gD z es).1 (gD z es).2.2.length (gD z es).2.1):=by
  rw [<- aAc]; exact Ev.aq7 H s hk hm hz hx hkey
end
theorem ara(x:BitVec 8):∀ u∈[Value.int .u8 (x.toNat:Int)],u.oneCell'=true:=by intro u hu; simp only [iR,mP,tq] at hu; rw [hu]; rfl
def gQ:Ty (BitVec 8):=Ty.flat 1 (λx=>[.int .u8 (x.toNat:Int)]) au av ara
instance:Flat gQ:=⟨λh=>h⟩
abbrev aAe:List (BitVec 32):=[0x00000000,0x1db71064,0x3b6e20c8,0x26d930ac,0x76dc4190,0x6b6b51f4,0x4db26158,0x5005713c,0xedb88320,0xf00f9344,0xd6d6a3e8,0xcb61b38c,0x9b64c2b0,0x86d3d2d4,0xa00ae278,0xbdbdf21c]
def J3(i:Nat):BitVec 32:=aAe.getD i 0
def aDT(x:BitVec 32):BitVec 32:=J3 (x&&& 15#32).toNat ^^^ (x >>> 4)
theorem QX(x:BitVec 32):(x&&& 15#32).toNat<16:=by
  grind [Nat.and_le_right]
def ER(x:BitVec 32)(b:BitVec 8):BitVec 32:=aDT (aDT (x ^^^ b.setWidth 32))
def acZ(s:BitVec 32)(l:List (BitVec 8)):BitVec 32:= ~~~ (l.foldl ER (~~~ s))
def iQ(l:List (BitVec 8)):BitVec 32:=acZ 0#32 l
theorem af8:∀ {i:Nat},i<16->([gP 0,gP 498536548,gP 997073096,gP 651767980,gP 1994146192,gP 1802195444,gP 1303535960,gP 1342533948,gP 3988292384,gP 4027552580,gP 3604390888,gP 3412177804,gP 2607071920,gP 2262029012,gP 2685067896,gP 3183342108]:List Value)[i]? = some (gP ((J3 i).toNat:Int))
  | 0,_=>rfl
  | 1,_=>rfl
  | 2,_=>rfl
  | 3,_=>rfl
  | 4,_=>rfl
  | 5,_=>rfl
  | 6,_=>rfl
  | 7,_=>rfl
  | 8,_=>rfl
  | 9,_=>rfl
  | 10,_=>rfl
  | 11,_=>rfl
  | 12,_=>rfl
  | 13,_=>rfl
  | 14,_=>rfl
  | 15,_=>rfl
  | _+16,h=>by omega
theorem avI{b:List (BitVec 8)}{i:Nat}{x:BitVec 8}(h:b[i]? = some x):b.getD i 0#8=x:=by grind
theorem arb  : ∀ w,(Instr.buildSlice 33 0 (List.toArray [])).run prog w=.ok (.slice (some ⟨w.heap.size,0,none⟩) 0 0) (w.alloc (.cells (List.toArray []) 5)):=ay
theorem aJc:lY prog 5 1 1:=by
  obtain⟨i,h1,h2,h3,h4⟩:=uJ (show(prog.info? 5).map (λi=>(i.zero,i.size,i.bytes))=some (some (.int .u8 0),1,1) by kernel_rfl);exact⟨i,_,h1,h2,h3,h4,Y⟩
theorem Yy:∀ w,(zeroValue 235).run prog w=.ok (.agg #[gP 0,gP 0,gP 0,gP 0,gP 0,gP 0,gP 0,gP 0,gP 0,gP 0,gP 0,gP 0,gP 0,gP 0,gP 0,gP 0]) w:=by simp
theorem aAf:Size prog 235 16:=λ_=>by rfl
theorem ard:Z9 prog 235 16:=⟨av,aAf⟩
theorem avJ:Size prog 5 1:=λ_=>by rfl
theorem aDU:mg prog 5:=λ_=>by rfl
theorem ac0:(prog.underlying 5).isSome=true/\prog.underlying 57=some (.int (prog.intKind 57))/\prog.intKind 57=.u32:=⟨by rfl,by rfl,by rfl⟩
theorem Jl(w:World){wT:ah}{vF:Nat}{s:List (BitVec 8)}(nA:Sl gQ S0 w wT vF s)(hn:s.length<=1000000) :
    bO prog 119 #[.slice wT s.length vF] w λv w'=>∃(A0:ah)(c0:Nat),v=.slice A0 s.length c0/\Hp w S0 w' [aQ gQ 5 A0 c0 s]:=by
 refine lg S0 func119 ntmps119 Y λH0=>iT Y<|aY<|bQ Y<|ev (NW Ji Y Y)<|dn<|bP Y (λhc4=>?_) (λhc4=>?_)
 ·refine iT Y<|wO Y ?_
  have H1:=H0.nil gQ 5;have fT:(([]:List (BitVec 8)):List (BitVec 8))=s:=by have h1:=nA.nil (by simpa using hc4); have h2:=nA.cap; exact(qF aj).symm
  have H2:=(fT▸H1:Hp w S0 w (aQ gQ 5 none 0 s::[]));exact⟨none,0,by rw [<- fT] <;> rfl,H2⟩
 refine jy ?_;refine rg<|bs0 Y (by intro _; apply arb) rfl H0 λg1 w1 K1=>mv rfl<|ap K1 s0 rfl rfl (K1.a nA).any Ji aJc av (by first | omega | (simp; omega) | (simp; done)) rfl λpU pV w2 K2=>bX rfl<|iP rfl ?_
 have gu:((([]:List (BitVec 8))++s):List (BitVec 8))=s:=by simp
 rw [gu] at K2;exact⟨pU,pV,by rw [gu] <;> rfl,K2⟩
instance Tk.b{α:Type}{n:Nat}{x y l xs r:List α}[h:Ap x y l][g:Tk (n+1) l xs r]:Tk (n+1) (x.append y) xs r:=⟨by rw [<- g.h]; exact h.h⟩
section
variable {P:Program}{n:Cx}{l:List (Nat × Value)}{w:World}{t e d ty:TypeId}{x y:Operand}{k:IntKind}{z:Int}
theorem Ev.aAg(hs:(P.underlying t).isSome=true)(hd:P.underlying d=some (.int (P.intKind d)))(hk:P.intKind d=.u32)(hx:gY l x=some (.int k z))(hz:z=(z.toNat:Int)):Ev P n l w (.convert t d x) (gP ((BitVec.ofNat 32 z.toNat).toNat:Int)):=
  Ev.avE hs hd hk (hz▸hx)
theorem Ev.aJd{len:Nat}(hu:P.underlying t=some (.array len e))(hs:Size P e 1)(hx:gY l x=some (gI g))(hy:gY l y=some (.int k z))(hz:z=(z.toNat:Int))(hi:Nat.blt z.toNat len=true):Ev P n l w (.indexAddr t x y) (.pointer (some ⟨g,z.toNat,none⟩)):=
  Ev.az8 hu hs hx hy hz (by grind [Nat.blt_eq])
end
theorem Hp.reC{b w:World}{S:Nat->Prop}{t:Nat}{cs ds:List Value}{F:List lG}(H:Hp b S w (dW g t cs::F))(h:cs=ds):Hp b S w (dW g t ds::F):=h▸H
theorem aAh(w:World)  :
    bO prog 197 #[] w λv w'=>v=.agg #[gP 0,gP 498536548,gP 997073096,gP 651767980,gP 1994146192,gP 1802195444,gP 1303535960,gP 1342533948,gP 3988292384,gP 4027552580,gP 3604390888,gP 3412177804,gP 2607071920,gP 2262029012,gP 2685067896,gP 3183342108]/\Hp w S0 w' []:=by
 refine lg S0 func197 ntmps197 Y λH0=>rg<|al Yy Y H0 λg1 w1 K1=>dn<|rg<|al Yy Y K1 λg2 w2 K=>dn<|aY<|bQ Y<|dn<|cB<|Rn 17 (RN.s ?_)
 iterate 16
  refine rg<|ev (fD Y Y)<|dn<|cT Y<|jy<|aY<|cB<|bQ Y<|bX Y<|bQ Y<|ev (Ev.aAg DU.1 DU.2.1 DU.2.2 Y Y)<|bX Y<|aY<|bQ Y<|dn<|cB<|Rn 5 (RN.s ?_)
  iterate 4
   refine rg<|ev (fD Y Y)<|dn<|cT Y<|jy<|aY<|cB<|jC<|mv Y<|ev (Ev.aq3 Y Y au)<|mv Y<|ev (Ev.akj (b:=1#32) Y Y)<|ev (Ev.aDH Y)<|ev (Ev.akj (b:=3988292384#32) Y Y)<|ev (Ev.aki Y Y)<|jk Y<|jD<|iw (gy ?_)
   refine jC<|ev (Ev.add Y Y (zP au au))<|mv Y<|jD<|l8.rnd (RN.s ?_)
  refine rg<|ev (fD Y Y)<|dn<|cF Y<|xq<|jC<|mv Y<|mv Y<|ev (Ev.aJd underlying235 ajC Y Y Y Y)<|yD Y K s0 Y λw K=>jD<|iw (gy ?_)
  refine jC<|ev (Ev.add Y Y (zP au au))<|mv Y<|jD<|l8.rnd (RN.s ?_)
 refine rg<|ev (fD Y Y)<|dn<|cF Y<|xq ?_
 have K:=K.reC (ds:=[gP 0,gP 498536548,gP 997073096,gP 651767980,gP 1994146192,gP 1802195444,gP 1303535960,gP 1342533948,gP 3988292384,gP 4027552580,gP 3604390888,gP 3412177804,gP 2607071920,gP 2262029012,gP 2685067896,gP 3183342108]) ak;refine rg<|ev (fK ard Y Y (K.x s0))<|sty Y K s1 Y λw19 EC=>dn<|jf (sW Y ⟨_,_,Y,⟨_,Y,kK (cs:=[gP 0,gP 498536548,gP 997073096,gP 651767980,gP 1994146192,gP 1802195444,gP 1303535960,gP 1342533948,gP 3988292384,gP 4027552580,gP 3604390888,gP 3412177804,gP 2607071920,gP 2262029012,gP 2685067896,gP 3183342108]) ard Y (EC.x s0)⟩,Y⟩ ?_)
 exact⟨Y,EC.z⟩
theorem avK(w:World)(sum:BitVec 32){c_b:Nat}{b:List (BitVec 8)}(h_b:Sl gQ S0 w A_b c_b b) :
    bO prog 120 #[gP ((sum).toNat:Int),.slice A_b b.length c_b] w λv w'=>v=gP ((acZ sum b).toNat:Int)/\Hp w S0 w' []:=by
 refine lg S0 func120 ntmps120 Y λH0=>?_;have aOz:=h_b.bC;refine iT Y<|WP.jumps (lb:=0) (λmJ lJ wJ=>∃(k:Nat)(gt:Nat),lJ=[(1,.slice A_b b.length c_b),(5,gI gt),(6,gP ((((b.take k).foldl ER (~~~sum))).toNat:Int)),(7,aI ((k:Nat):Int))]/\mJ=b.length - k/\(k<=b.length)/\Hp w S0 wJ [dW gt 235 [gP 0,gP 498536548,gP 997073096,gP 651767980,gP 1994146192,gP 1802195444,gP 1303535960,gP 1342533948,gP 3988292384,gP 4027552580,gP 3604390888,gP 3412177804,gP 2607071920,gP 2262029012,gP 2685067896,gP 3183342108]]) Y ?_ ?_
 ·rintro _ _ w4 ⟨k,gt,rfl,rfl,hk,K4⟩;refine aY<|bQ Y<|mv Y<|ev (eX Ji Y)<|ev (fD Y Y)<|dn<|mZ Y (λrz=>?_) (λrz=>?_)
  ·refine bQ Y<|mv Y<|mv Y ?_
   obtain⟨x1,bN⟩:=bn (xs:=b) (i:=k) aj;refine ev (eP (i:=k) Ji avJ Y Y Y (aM bN) ((K4.a h_b).some_ bN))<|ev (kP aDU Y ((K4.a h_b).fJ (j:=0) bN Y))<|ev (Ev.aq4 (a:=x1) ac0.1 ac0.2.1 ac0.2.2 Y)<|ev (Ev.aki (a:=((b.take k).foldl ER (~~~sum))) (b:=(x1.setWidth 32)) Y Y)<|bX Y<|bQ Y<|ev (Ev.akj Y Y)<|ev (Ev.az8 underlying235 ajC Y Y Y (by exact QX _))<|ev (eF Xo rfl (K4.x s0) (af8 (QX _)))<|mv rfl<|ev (Ev.aq3 (c:=4) rfl rfl aj)<|ev (Ev.aki (a:=J3 ((((((b.take k).foldl ER (~~~sum)) ^^^ (x1.setWidth 32))&&& 15#32)).toNat)) (b:=((((b.take k).foldl ER (~~~sum)) ^^^ (x1.setWidth 32)) >>> 4)) rfl rfl)<|bX rfl<|bQ rfl<|ev (Ev.akj (a:=(J3 ((((((b.take k).foldl ER (~~~sum)) ^^^ (x1.setWidth 32))&&& 15#32)).toNat) ^^^ ((((b.take k).foldl ER (~~~sum)) ^^^ (x1.setWidth 32)) >>> 4))) (b:=15#32) rfl rfl)<|ev (Ev.az8 (i:=(((J3 ((((((b.take k).foldl ER (~~~sum)) ^^^ (x1.setWidth 32))&&& 15#32)).toNat) ^^^ ((((b.take k).foldl ER (~~~sum)) ^^^ (x1.setWidth 32)) >>> 4))&&& 15#32)).toNat) underlying235 ajC rfl rfl rfl (by exact QX _))<|ev (eF Xo rfl (K4.x s0) (af8 (QX _)))<|mv rfl<|ev (Ev.aq3 (a:=(J3 ((((((b.take k).foldl ER (~~~sum)) ^^^ (x1.setWidth 32))&&& 15#32)).toNat) ^^^ ((((b.take k).foldl ER (~~~sum)) ^^^ (x1.setWidth 32)) >>> 4))) (c:=4) rfl rfl aj)<|ev (Ev.aki (a:=J3 ((((J3 ((((((b.take k).foldl ER (~~~sum)) ^^^ (x1.setWidth 32))&&& 15#32)).toNat) ^^^ ((((b.take k).foldl ER (~~~sum)) ^^^ (x1.setWidth 32)) >>> 4))&&& 15#32)).toNat)) (b:=((J3 ((((((b.take k).foldl ER (~~~sum)) ^^^ (x1.setWidth 32))&&& 15#32)).toNat) ^^^ ((((b.take k).foldl ER (~~~sum)) ^^^ (x1.setWidth 32)) >>> 4)) >>> 4)) rfl rfl)<|bX rfl<|bQ rfl<|ev (dP rfl rfl)<|bX rfl ?_
   refine WP.goto (l8.Z8 ?_);have gu:((((J3 ((((J3 ((((((b.take k).foldl ER (~~~sum)) ^^^ (x1.setWidth 32))&&& 15#32)).toNat) ^^^ ((((b.take k).foldl ER (~~~sum)) ^^^ (x1.setWidth 32)) >>> 4))&&& 15#32)).toNat) ^^^ ((J3 ((((((b.take k).foldl ER (~~~sum)) ^^^ (x1.setWidth 32))&&& 15#32)).toNat) ^^^ ((((b.take k).foldl ER (~~~sum)) ^^^ (x1.setWidth 32)) >>> 4)) >>> 4))).toNat:Int):Int)=((((b.take (k+1)).foldl ER (~~~sum))).toNat:Int):=by rw [fC bN,zY]; rfl
   refine jq (t:=6) Y (aV (Value.int .u32) gu)<|l8.jag ⟨(k+1),gt,Y,Y,aj,K4⟩ rfl aj
  refine jy ?_;refine bQ Y<|ev (Ev.axL (a:=((b.take k).foldl ER (~~~sum))) Y)<|bX Y<|jf (l8.WJ (xV Y ?_))
  have kC:((((~~~((b.take k).foldl ER (~~~sum)))).toNat:Int):Int)=((acZ sum b).toNat:Int):=by rw [gV aj]; rfl
  exact⟨by rw [kC] <;> rfl,(K4.rm s0)⟩
 ·intro hp0;refine rg<|nD H0 Y (aAh (S0:=Any) _) λw1 K1=>al Yy Y K1 λg1 w2 K2=>sty Y K2 s0 Y λw3 K3=>dn<|bQ Y<|ev (Ev.axL (a:=sum) Y)<|bX Y<|iT Y ?_
  have fT:((((~~~sum)).toNat:Int):Int)=((((b.take 0).foldl ER (~~~sum))).toNat:Int):=by rfl
  refine lF (t:=6) Y (aV (Value.int .u32) fT)<|WP.kp hp0 ⟨0,g1,Y,Y,by exact fE _,K3⟩ rfl
theorem Yz(w:World){c_b:Nat}{b:List (BitVec 8)}(h_b:Sl gQ S0 w A_b c_b b) :
    bO prog 55 #[.slice A_b b.length c_b] w λv w'=>v=gP ((iQ b).toNat:Int)/\Hp w S0 w' []:=by
 refine lg S0 func55 ntmps55 Y λH0=>iT Y<|bQ Y<|nD H0 Y (avK _ (0#32) (H0.a h_b).any) λw1 K1=>bX Y<|iP Y ?_
 exact⟨by skip <;> rfl,K1⟩
end
end Go.Proofs.YtlhnnmlenkahlaaGreat
