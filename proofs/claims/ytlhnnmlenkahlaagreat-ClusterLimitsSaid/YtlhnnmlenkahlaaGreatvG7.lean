/- Lemmas. -/
import Derived.Test.YtlhnnmlenkahlaaGreatvG6
set_option maxRecDepth 4000
set_option linter.all false
namespace Go.Proofs.YtlhnnmlenkahlaaGreat
open Go.RowKit Go.Proofs.Tryz
variable {S0:Nat->Prop}{jl u7:ah}{jg:Nat}
structure aW where
  ID:Int
  kM:Int
  lW:Int
  gG:Int
  deriving DecidableEq
def aW.enc(x:aW):List Value:=[.int .i64 x.ID,.int .i64 x.kM,.int .i64 x.lW,.int .i64 x.gG]
theorem aW.kC(x:aW):∀ u∈x.enc,u.oneCell'=true:=by
  intro u hu
  simp only [aW.enc,iN,kY,qW] at hu
  rcases hu with rfl | rfl | rfl | rfl <;> rfl
def bX:Ty aW:=Ty.flat 4 aW.enc au (λ_=>rfl) aW.kC
instance:Flat bX:=⟨λh=>h⟩
def Iw(n:aW):Bool:=(((decide (1<=n.ID)&&decide (n.ID<=16))&&(decide (1<=n.kM)&&decide (n.kM<=8)))&&(decide (1<=n.lW)&&decide (n.lW<=16)))&&(decide (0<=n.gG)&&decide (n.gG<=2))
def Ic:Int->List aW->Bool
  | _,[]=>true
  | z,n::l=>!(!Iw n||decide (n.ID<=z))&&Ic n.ID l
def uR(l:List aW):Bool:=Ic 0 l
def gX(l:List aW):List aW:=if uR l then l else[]
theorem UM{z:Int}{l:List aW}{k:Nat}{x:aW}(hx:l[k]? = some x):Ic z (l.drop k)=(!(!Iw x||decide (x.ID<=z))&&Ic x.ID (l.drop (k+1))):=by
  rw [yu (aJ hx),(mM.1 hx).2]; rfl
theorem NS:∀(l:List aW)(z:Int),Ic z l=true->∀ n∈l,z<n.ID/\Iw n=true
  | [],_,_,n,hn=>by simp at hn
  | m::l,z,h,n,hn=>by
    simp only [Ic,bK,eu,dN,fC,bU] at h
    rcases iN.1 hn with rfl | hn
    · exact⟨aj,h.1.1⟩
    · have:=NS l _ h.2 n hn; exact⟨aj,this.2⟩
theorem Je:∀(l:List aW)(z:Int),Ic z l=true->Up aW.ID l
  | [],_,_=>List.Pairwise.nil
  | m::l,z,h=>by
    simp only [Ic,bK,eu,dN,fC,bU] at h
    exact oU.2 ⟨λx hx=>(NS l _ h.2 x hx).1,Je l _ h.2⟩
theorem Qt(l:List aW):(gX l).length<=l.length:=by unfold gX; split <;> simp
theorem ajd(l:List aW):uR (gX l)=true:=by
  unfold gX; split
  · assumption
  · rfl
theorem NT(l:List aW):Up aW.ID (gX l):=Je _ 0 (ajd l)
theorem yw{l:List aW}(h:uR l=true):gX l=l:=by unfold gX; rw [aO h]
theorem Ye{l:List aW}(h:uR l=false):gX l=[]:=by unfold gX; rw [h]; rfl
def gP(l:List aW)(id:Int):aW:=match (gX l)[low (fun(y:aW)=>bn y.ID id) (gX l)]? with | some c=>if c.ID=id then c else⟨0,0,0,0⟩ | none=>⟨0,0,0,0⟩
def jU(l:List aW)(id:Int):Bool:=hits (fun(y:aW)=>bn y.ID id) (gX l)
theorem aje{l:List aW}{id:Int}(h:hits (fun(y:aW)=>bn y.ID id) (gX l)=false):gP l id=⟨0,0,0,0⟩:=by
  unfold gP; split
  · rename_i c hc
    rw [aK];intro e;have:=(uY (NT l) id).2 ⟨c,dA hc,e⟩;rw [h] at this; cases this
  · rfl
theorem qX{l:List aW}{id:Int}{c:aW}(h:hits (fun(y:aW)=>bn y.ID id) (gX l)=true)(hc:(gX l)[low (fun(y:aW)=>bn y.ID id) (gX l)]? = some c):gP l id=c:=by
  unfold gP; rw [hc];obtain⟨x,hx,hk⟩:=qE (key:=aW.ID) h;rw [hc] at hx; cases hx;exact aO hk
def nR(l:List aW)(n:aW):List aW × Int:=if Iw n=false∨n.gG≠0 then([],1) else if hits (fun(y:aW)=>bn y.ID n.ID) (gX l)=true then([],6) else((gX l).take (low (fun(y:aW)=>bn y.ID n.ID) (gX l))++[n]++(gX l).drop (low (fun(y:aW)=>bn y.ID n.ID) (gX l)),0)
def kL(l:List aW)(id state:Int):List aW × Int:=if hits (fun(y:aW)=>bn y.ID id) (gX l)=true then
    (if 0<=state/\state<=2 then(if(gP l id).gG=2∨(gP l id).gG=0/\state=2 then([],8) else((gX l).set (low (fun(y:aW)=>bn y.ID id) (gX l)) { gP l id with gG:=state },0)) else([],1)) else([],5)
theorem lT:dH prog 78 0 0:=ay
theorem afk:bI prog 369:=ay
theorem NU:dH prog 78 1 1:=ay
theorem NV:dH prog 78 2 2:=ay
theorem yx:dH prog 78 3 3:=ay
theorem uL:Size prog 78 4:=ay
theorem vO:XY prog 78 4:=⟨λ_=>by kernel_rfl,uL⟩
theorem rG:∀ w,(zeroValue 78).run prog w=.ok (.agg #[aD 0,aD 0,aD 0,aD 0]) w:=ay
theorem alP  : ∀ w,(Instr.buildSlice 41 0 (List.toArray [])).run prog w=.ok (.slice (some ⟨w.heap.size,0,none⟩) 0 0) (w.alloc (.cells (List.toArray []) 78)):=ay
theorem asJ:kQ prog 78 4 32:=by
  obtain⟨i,h1,h2,h3,h4⟩:=rT (show(prog.info? 78).map (λi=>(i.zero,i.size,i.bytes))=some (some (.agg #[aD 0,aD 0,aD 0,aD 0]),4,32) by kernel_rfl);exact⟨i,_,h1,h2,h3,h4,Y⟩
theorem aug:bI prog 326:=ay
theorem auh  : prog.built 78 []=some #[aD 0,aD 0,aD 0,aD 0]:=ak
theorem asK:tT prog 78 4 32:=by
  obtain⟨i,h1,h2,h3,h4⟩:=rT (show(prog.info? 78).map (λi=>(i.zero,i.size,i.bytes))=some (some (.agg #[aD 0,aD 0,aD 0,aD 0]),4,32) by kernel_rfl);exact⟨i,_,h1,h2,h3,h4,Y,λv hv=>mZ.1 (show(Value.cells (.agg #[aD 0,aD 0,aD 0,aD 0])).toList.all (λv=>v.oneCell')=true from Y) v hv⟩
theorem Zu(a0:Int)(a1:Int)(a2:Int)(a3:Int):∀ w,(Instr.buildSlice 41 1 (List.toArray [(0,.agg #[aD a0,aD a1,aD a2,aD a3])])).run prog w=.ok (.slice (some ⟨w.heap.size,0,none⟩) 1 1) (w.alloc (.cells (List.toArray [aD a0,aD a1,aD a2,aD a3]) 78)):=ay
theorem CZ(w:World)(n:Int)(Bj:Int)(most:Int) :
    bO prog 369 #[aD n,aD Bj,aD most] w λv w'=>v=.bool (decide (Bj<=n)&&decide (n<=most))/\Hp w S0 w' []:=by
 refine j4 S0 func369 ntmps369 Y λH0=>iY Y<|bQ Y<|mv Y<|ev (pK Y Y)<|mv Y<|iG 4 14 ((decide (Bj<=n))&&(decide (n<=most))) ?_ ?_
 ·cases axJ:decide (Bj<=n) with
  | true=>
   refine bG Y (bA Y) Y<|bG Y (bA Y) Y<|bG Y (uK Y Y) Y<|ev (dY Y Y)<|dI Y
  | false=>
   refine eB<|eB<|eB<|ev (eG Y Y)<|dI Y
 refine bS Y<|iI Y ?_
 have d9:(((decide (Bj<=n))&&(decide (n<=most))):Bool)=(decide (Bj<=n)&&decide (n<=most)):=by first | with_reducible rfl | (simp; done) | omega
 exact⟨by rw [d9] <;> rfl,H0⟩
theorem ag8(w:World)(n:aW) :
    bO prog 272 #[.agg #[aD n.ID,aD n.kM,aD n.lW,aD n.gG]] w λv w'=>v=.bool (Iw n)/\Hp w S0 w' []:=by
 refine j4 S0 func272 ntmps272 Y λH0=>rg<|bx Y Y H0 λg1 w1 K1=>bS Y<|rg<|jD g1 0 lT K1 s0 Y<|lF K1 Y (CZ (S0:=Any) _ n.ID 1 16) λw2 K2=>mv Y<|nA 4 10 ((decide (1<=n.ID)&&decide (n.ID<=16))&&(decide (1<=n.kM)&&decide (n.kM<=8))) ?_ ?_
 ·cases hb6:(decide (1<=n.ID)&&decide (n.ID<=16)) with
  | true=>
   have aCY:=hb6
   try simp only [bK,dZ,bL,bU] at aCY
   refine wP g1 1 NU K2 s0 Y<|nu Y Y Y Y afk (CZ (S0:=Any) _ n.kM 1 8) Y ?_
   rintro _ w3 ⟨rfl,h3⟩;refine ev (dY Y Y)<|iH Y h3.ext
  | false=>
   refine eB<|eB<|eB<|ev (eG Y Y)<|iH Y (om _)
 intro w4 e4;have K4:=K2.grow e4;refine mv Y<|nA 4 15 (((decide (1<=n.ID)&&decide (n.ID<=16))&&(decide (1<=n.kM)&&decide (n.kM<=8)))&&(decide (1<=n.lW)&&decide (n.lW<=16))) ?_ ?_
 ·cases Qu:((decide (1<=n.ID)&&decide (n.ID<=16))&&(decide (1<=n.kM)&&decide (n.kM<=8))) with
  | true=>
   have Jg:=Qu
   try simp only [bK,dZ,bL,bU] at Jg
   refine wP g1 2 NV K4 s0 Y<|nu Y Y Y Y afk (CZ (S0:=Any) _ n.lW 1 16) Y ?_
   rintro _ w5 ⟨rfl,h5⟩;refine ev (dY Y Y)<|iH Y h5.ext
  | false=>
   refine eB<|eB<|eB<|ev (eG Y Y)<|iH Y (om _)
 intro w6 e6;have K6:=K4.grow e6;refine mv Y<|nA 4 20 ((((decide (1<=n.ID)&&decide (n.ID<=16))&&(decide (1<=n.kM)&&decide (n.kM<=8)))&&(decide (1<=n.lW)&&decide (n.lW<=16)))&&(decide (0<=n.gG)&&decide (n.gG<=2))) ?_ ?_
 ·cases UN:(((decide (1<=n.ID)&&decide (n.ID<=16))&&(decide (1<=n.kM)&&decide (n.kM<=8)))&&(decide (1<=n.lW)&&decide (n.lW<=16))) with
  | true=>
   have NW:=UN
   try simp only [bK,dZ,bL,bU] at NW
   refine wP g1 3 yx K6 s0 Y<|nu Y Y Y Y afk (CZ (S0:=Any) _ n.gG 0 2) Y ?_
   rintro _ w7 ⟨rfl,h7⟩;refine ev (dY Y Y)<|iH Y h7.ext
  | false=>
   refine eB<|eB<|eB<|ev (eG Y Y)<|iH Y (om _)
 intro w8 e8;have K8:=K6.grow e8;refine bS Y<|iI Y ?_
 have d9:(((((decide (1<=n.ID)&&decide (n.ID<=16))&&(decide (1<=n.kM)&&decide (n.kM<=8)))&&(decide (1<=n.lW)&&decide (n.lW<=16)))&&(decide (0<=n.gG)&&decide (n.gG<=2))):Bool)=(Iw n):=by rfl
 exact⟨by rw [d9] <;> rfl,(K8.rm s0)⟩
theorem SE(w:World){l:List aW}(iR:Sl bX S0 w jl jg l) :
    bO prog 177 #[.slice jl l.length jg] w λv w'=>v=.bool (uR l)/\Hp w S0 w' []:=by
 refine j4 S0 func177 ntmps177 Y λH0=>?_;have EG:=iR.bN;refine iY Y<|iY Y<|aZ<|bQ Y<|ev (eY lM Y)<|mv Y<|dn<|cZ<|Lp H0 (λl0 rk mJ lJ wJ=>∃(k:Nat)(z:Int),lJ=(3,aD z)::(8,aD ((k:Nat):Int))::l0/\mJ=l.length - k/\k<=l.length/\(Ic 0 l=Ic z (l.drop k))/\Hp w S0 wJ rk) ⟨0,0,Y,Y,fK _,av,H0⟩ rfl ?_
 rintro _ _ w1 ⟨k,z,rfl,rfl,hk,hz,K1⟩;refine rg<|ev (fB Y Y)<|dn<|oC Y (λFQ=>?_) (λFQ=>?_)
 ·refine jh ?_;refine aZ<|cZ<|rg ?_
  obtain⟨x1,bP⟩:=bC (xs:=l) (i:=k) aj;refine ev (eU (i:=k) lM uL Y Y Y (aJ bP) ((K1.a iR).some_ bP))<|ev (fV vO Y Y ((K1.a iR).eX bP))<|al rG Y K1 λg1 w2 K2=>sty Y K2 s0 Y λw3 K3=>dn<|aZ<|rg<|ev (dK vO Y Y (K3.x s0))<|lF K3 Y (ag8 (S0:=Any) _ x1) λw4 K4=>ev (gZ Y)<|mv Y<|iG 5 20 ((!(Iw x1))||(decide (x1.ID<=z))) ?_ ?_
  ·cases Qm:(!(Iw x1)) with
   | true=>
    refine eB<|eB<|eB<|eB<|ev (dY Y Y)<|dI Y
   | false=>
    refine wP g1 0 lT K4 s0 Y<|bG Y (bA Y) Y<|bG Y (uK Y Y) Y<|ev (eG Y Y)<|dI Y
  refine dn<|bR Y (λkJ=>?_) (λkJ=>?_)
  ·refine iY Y<|je (gL (jH (gL (gL (jH (gL (zD Y ?_)))))))
   have d9:(false:Bool)=(uR l):=by symm; unfold uR; rw [hz,UM bP,kJ]; rfl
   exact⟨by rw [<- d9] <;> rfl,(K4.rm s0)⟩
  refine jh ?_;refine jr<|jD g1 0 lT K4 s0 Y<|iA Y<|jv<|ig (gB ?_)
  refine jr<|ev (dW Y Y)<|mv Y<|jv<|dQ ⟨(k+1),x1.ID,Y,Y,aj,by rw [hz,UM bP,kJ]; rfl,(K4.rm s0)⟩ rfl aj
 refine wQ ?_;refine iY Y<|iI Y ?_
 have fG:(true:Bool)=(uR l):=by symm; unfold uR; rw [hz,zf aj]; rfl
 exact⟨by rw [<- fG] <;> rfl,K1⟩
abbrev Jh:=(([]:List aW):List aW)
theorem l7(w:World){tN:Nat}{s:List aW}(lK:Sl bX S0 w u7 tN s)(hn:s.length<=1000000) :
    bO prog 57 #[.slice u7 s.length tN] w λv w'=>∃(A0:ah)(c0:Nat),v=.slice A0 s.length c0/\Hp w S0 w' [aR bX 78 A0 c0 s]:=by
 refine j4 S0 func57 ntmps57 Y λH0=>iY Y<|aZ<|bQ Y<|ev (Lx lM Y Y)<|dn<|bR Y (λhc4=>?_) (λhc4=>?_)
 ·refine iY Y<|vG Y ?_
  have H1:=H0.nil bX 78;have d9:Jh=s:=by have h1:=lK.nil (by simpa using hc4); have h2:=lK.cap; exact(uI aj).symm
  have H2:=(d9▸H1:Hp w S0 w (aR bX 78 none 0 s::[]));exact⟨none,0,by rw [<- d9] <;> rfl,H2⟩
 refine jh ?_;refine rg<|bs0 (τ:=bX) (vs:=[]) Y (by intro _; apply alP) rfl H0 λg1 w1 K1=>mv rfl<|ap (ys:=s) K1 s0 rfl rfl (K1.a lK).any lM asJ av (by first | omega | (simp; omega) | (simp; done)) rfl λnY nZ w2 K2=>bS rfl<|iI rfl ?_
 have fG:((([]:List aW)++s):List aW)=s:=by simp
 rw [fG] at K2;exact⟨nY,nZ,by rw [fG] <;> rfl,K2⟩
theorem UO(w:World){l:List aW}(iR:Sl bX S0 w jl jg l)(hn:l.length<=100000) :
    bO prog 231 #[.slice jl l.length jg] w λv w'=>∃(A0:ah)(c0:Nat),v=.slice A0 ((gX l).length) c0/\Hp w S0 w' [aR bX 78 A0 c0 (gX l)]:=by
 refine j4 S0 func231 ntmps231 Y λH0=>iY Y<|aZ<|bQ Y<|lF H0 Y (SE _ (H0.a iR).any) λw1 K1=>ev (gZ Y)<|dn<|bR Y (λhc5=>?_) (λhc5=>?_)
 ·try simp only [eO,dN,bK,dZ,eu,fC,bL,bU] at hc5
  refine iY Y<|vG Y ?_
  have H1:=K1.nil bX 78;have d9:Jh=(gX l):=by exact(Ye hc5).symm
  have H2:=(d9▸H1:Hp w S0 w1 (aR bX 78 none 0 (gX l)::[]));exact⟨none,0,by rw [<- d9] <;> rfl,H2⟩
 try simp only [eO,dN,bK,dZ,eu,fC,bL,bU] at hc5
 refine jh ?_;refine bQ Y<|gW Y (l7 _ (K1.a iR).any aj) ?_
 rintro _ w2 ⟨ni,nk,rfl,h2⟩;have K2:=K1.f1 h2;refine bS Y<|iI Y ?_
 have fG:(l:List aW)=(gX l):=by exact(yw hc5).symm
 have H3:=(fG▸K2:Hp w S0 w2 [aR bX 78 ni nk (gX l)]);exact⟨ni,nk,by rw [<- fG] <;> rfl,H3⟩
theorem UQ(w:World){tN:Nat}{s:List aW}(lK:Sl bX S0 w u7 tN s)(target:Int){yS:FuncId}{yV:List Value}(IG:bI prog yS)(f:aW->Int->Int)(II:∀(w':World)(x:aW)(t:Int),Ext w w'->True->bO prog yS (([.agg #[aD x.ID,aD x.kM,aD x.lW,aD x.gG],aD t]:List Value)++yV).toArray w' λv w''=>v=aD (f x t)/\Ext w' w'')(hm:Zc (fun(y:aW)=>f y target) s)(hn:s.length<=1000000) :
    bO prog 325 #[.slice u7 s.length tN,aD target,.func (.func yS) #[] yV.toArray] w λv w'=>v=.tuple #[aD ((low (fun(y:aW)=>f y target) s:Nat):Int),.bool (hits (fun(y:aW)=>f y target) s)]/\Hp w S0 w' []:=by
 refine j4 S0 func325 ntmps325 Y λH0=>?_;have NI:=lK.bN;refine rg<|iA Y<|bS Y<|bQ Y<|ev (eY lM Y)<|bS Y<|bQ Y<|iA Y<|bS Y<|aZ<|cZ<|Lp H0 (λl0 rk mJ lJ wJ=>∃(i j:Nat),lJ=(9,aD ((i:Nat):Int))::(10,aD ((j:Nat):Int))::l0/\mJ=j - i/\(i<=j/\j<=s.length)/\(∀(a:Nat)(y:aW),a<i->s[a]? = some y->f y target<0)/\(∀(a:Nat)(y:aW),j<=a->s[a]? = some y->¬ f y target<0)/\Hp w S0 wJ rk) ⟨0,s.length,Y,Y,by exact⟨fK _,kH _⟩,by intro a y ha; omega,by intro a y ha hy; have:=aJ hy; omega,H0⟩ rfl ?_
 rintro _ _ w1 ⟨i,j,rfl,rfl,hij,hlo,hhi,K1⟩;refine aZ<|bQ Y<|mv Y<|ev (fB Y Y)<|dn<|kX Y (λhc17=>?_) (λhc17=>?_)
 ·refine jh ?_;refine cZ<|bQ Y<|mv Y<|ev (dW Y Y)<|ev (zi (m:=i+j) p9.1 p9.2.1 p9.2.2 Y (vE aj))<|ev (Ev.aiM (m:=i+j) Y Y)<|ev (zi (m:=((i+j) / 2)) qb.1 qb.2.1 qb.2.2 Y (sS aj))<|bS Y<|bQ Y<|mv Y<|mv Y ?_
  obtain⟨x1,bP⟩:=bC (xs:=s) (i:=((i+j) / 2)) aj;refine ev (eU (i:=((i+j) / 2)) lM uL Y Y Y (aJ bP) ((K1.a lK).some_ bP))<|ev (fV vO Y Y ((K1.a lK).eX bP))<|mv Y<|wo Y Y Y IG (II _ x1 target K1.ext trivial) Y ?_
  rintro _ w2 ⟨rfl,e2⟩;have K2:=K1.grow e2;refine ev (fB Y Y)<|dn<|kX Y (λhc31=>?_) (λhc31=>?_)
  ·refine jr<|mv Y<|ev (dW Y Y)<|iA Y<|jv<|ig<|dQ ⟨(((i+j) / 2)+1),j,Y,Y,aj,by first | exact hlo | exact λa y ha hy=>hm a _ y x1 aj hy bP hc31,by first | exact hhi | exact λa y ha hy hlt=>hc31 (hm _ a x1 y aj bP hy hlt),K2⟩ rfl aj
  refine jr<|mv Y<|iA Y<|jv<|ig<|dQ ⟨i,((i+j) / 2),Y,Y,aj,by first | exact hlo | exact λa y ha hy=>hm a _ y x1 aj hy bP hc31,by first | exact hhi | exact λa y ha hy hlt=>hc31 (hm _ a x1 y aj bP hy hlt),K2⟩ rfl aj
 refine wQ ?_;refine bQ Y<|mv Y<|mv Y<|ev (fB Y Y)<|mv Y<|nA 9 48 (hits (λy=>f y target) s) ?_ ?_
 ·cases Me:decide (((i:Nat):Int)<((s.length:Nat):Int)) with
  | true=>
   have ag3:=jC Me;refine bG Y (bA Y) Y<|bG Y (bA Y) Y<|bG Y (bA Y) Y ?_
   obtain⟨x2,kK⟩:=bC (xs:=s) (i:=i) aj;refine bG Y (eU (i:=i) lM uL Y Y Y (aJ kK) ((K1.a lK).some_ kK)) Y<|bG Y (fV vO Y Y ((K1.a lK).eX kK)) Y<|bG Y (bA Y) Y<|nu Y Y Y Y IG (II _ x2 target K1.ext trivial) Y ?_
   rintro _ w3 ⟨rfl,e3⟩;refine bG Y (iP Y Y) Y<|ev (dY Y Y)<|fJ (t:=48) (u:=.bool (decide (f x2 target=0))) (v:=.bool (hits (λy=>f y target) s)) Y (aS Value.bool (by have hl:=vR (g:=λy=>f y target) (s:=s) (i:=i) aj hlo (λa y ha=>hhi a y aj); unfold hits; rw [hl,kK]))<|iH rfl e3
  | false=>
   refine eB<|eB<|eB<|eB<|eB<|eB<|eB<|eB<|ev (eG Y Y)<|fJ (t:=48) (u:=.bool false) (v:=.bool (hits (λy=>f y target) s)) Y (aS Value.bool (by have hl:=vR (g:=λy=>f y target) (s:=s) (i:=i) aj hlo (λa y ha=>hhi a y aj); unfold hits; rw [hl,xu (by have:=kg Me; omega)])) ?_
   exact iH Y (om _)
 intro w4 e4;have K4:=K1.grow e4;refine iA Y<|bS Y<|iI Y ?_
 have d9:(i:Nat)=(low (fun(y:aW)=>f y target) s):=by exact(vR (g:=λy=>f y target) aj hlo (λa y ha=>hhi a y aj)).symm
 have fG:(hits (λy=>f y target) s:Bool)=(hits (fun(y:aW)=>f y target) s):=by rfl
 exact⟨by rw [fG,<- d9] <;> rfl,K4⟩
theorem afl(w:World)(n:aW)(id:Int) :
    bO prog 326 #[.agg #[aD n.ID,aD n.kM,aD n.lW,aD n.gG],aD id] w λv w'=>v=aD (bn n.ID id)/\Hp w S0 w' []:=by
 refine j4 S0 func326 ntmps326 Y λH0=>rg<|bx Y Y H0 λg1 w1 K1=>bS Y<|rg<|jD g1 0 lT K1 s0 Y<|mv Y<|lF K1 Y (mF (S0:=Any) _ n.ID id) λw2 K2=>bS Y<|iI Y ?_
 exact⟨Y,(K2.rm s0)⟩
theorem Qv(w:World){l:List aW}(iR:Sl bX S0 w jl jg l)(id:Int)(hu:Up aW.ID l)(hn:l.length<=1000000) :
    bO prog 232 #[.slice jl l.length jg,aD id] w λv w'=>v=.tuple #[aD ((low (fun(y:aW)=>bn y.ID id) l:Nat):Int),.bool (hits (fun(y:aW)=>bn y.ID id) l)]/\Hp w S0 w' []:=by
 refine j4 S0 func232 ntmps232 Y λH0=>rg<|iA Y<|bS Y<|bQ Y<|mv Y<|lF H0 Y (UQ _ (H0.a iR).any id (yV:=[]) aug (fun(x:aW) (t:Int)=>bn x.ID t) (λw' x t e hm=>(afl (S0:=Any) w' x t).mono (by rintro _ _ ⟨rfl,fG⟩; exact⟨rfl,fG.ext⟩)) (hu.mono id) aj) λw1 K1=>xt rfl rfl<|xt rfl rfl<|iA rfl<|bS rfl<|iI rfl ?_
 exact⟨Y,K1⟩
theorem C8(w:World){l:List aW}(iR:Sl bX S0 w jl jg l)(id:Int)(hn:l.length<=100000) :
    bO prog 151 #[.slice jl l.length jg,aD id] w λv w'=>v=.tuple #[.agg #[aD ((gP l id).ID),aD ((gP l id).kM),aD ((gP l id).lW),aD ((gP l id).gG)],.bool (jU l id)]/\Hp w S0 w' []:=by
 refine j4 S0 func151 ntmps151 Y λH0=>?_;have EG:=iR.bN;have hf:=Qt l;have hlow:=CF (fun(y:aW)=>bn y.ID id) (gX l);refine rg<|al rG Y H0 λg1 w1 K1=>bS Y<|bQ Y<|gW Y (UO _ (K1.a iR).any aj) ?_
 rintro _ w2 ⟨ni,nk,rfl,h2⟩;have K2:=K1.f1 h2;have UD:=(K2.o s0).bN;refine bS Y<|bQ Y<|mv Y<|lF K2 Y (Qv _ (K2.o s0) id (NT l) aj) λw3 K3=>mv Y<|xt Y Y<|xt Y Y<|iA Y<|bS Y<|aZ<|bQ Y<|ev (gZ Y)<|dn<|bR Y (λhc17=>?_) (λhc17=>?_)
 ·try simp only [eO,dN,bK,dZ,eu,fC,bL,bU] at hc17
  refine rg<|ev (iE (vs:=[]) (cs:=[aD 0,aD 0,aD 0,aD 0]) Y (by apply auh))<|sty rfl K3 s1 rfl λw4 K4=>bS rfl<|je (gL (oW rfl ⟨_,_,rfl,⟨_,rfl,jm (cs:=[aD 0,aD 0,aD 0,aD 0]) vO rfl (K4.x s0)⟩,⟨_,_,rfl,rfl,rfl⟩⟩ ?_))
  have d9:((⟨0,0,0,0⟩:aW):aW)=(gP l id):=by exact(aje hc17).symm
  have fG:(0:Int)=(gP l id).ID:=by rw [<- d9]
  have jQ:(0:Int)=(gP l id).kM:=by rw [<- d9]
  have lV:(0:Int)=(gP l id).lW:=by rw [<- d9]
  have qU:(0:Int)=(gP l id).gG:=by rw [<- d9]
  have vY:(false:Bool)=(jU l id):=by unfold jU; rw [hc17]
  exact⟨by rw [<- fG,<- jQ,<- lV,<- qU,<- vY] <;> rfl,K4.z⟩
 try simp only [eO,dN,bK,dZ,eu,fC,bL,bU] at hc17
 have hc17:hits (fun(y:aW)=>bn y.ID id) (gX l)=true:=by simpa using hc17
 obtain⟨xb,hxb,hkb⟩:=qE (key:=aW.ID) hc17;have UE:=aJ hxb;refine jh ?_;refine bQ Y<|mv Y ?_
 obtain⟨x1,bP⟩:=bC (xs:=gX l) (i:=low (fun(y:aW)=>bn y.ID id) (gX l)) aj;refine ev (eU (i:=low (fun(y:aW)=>bn y.ID id) (gX l)) lM uL Y Y Y (aJ bP) ((K3.o s0).some_ bP))<|ev (fV vO Y Y ((K3.o s0).eX bP))<|sty Y K3 s1 Y λw5 K5=>bS Y<|je (oW Y ⟨_,_,Y,⟨_,Y,jm (cs:=[aD x1.ID,aD x1.kM,aD x1.lW,aD x1.gG]) vO Y (K5.x s0)⟩,⟨_,_,Y,Y,Y⟩⟩ ?_)
 have xZ:(x1:aW)=(gP l id):=by exact(qX hc17 bP).symm
 have hq8:(x1.ID:Int)=(gP l id).ID:=by rw [<- xZ]
 have yT:(x1.kM:Int)=(gP l id).kM:=by rw [<- xZ]
 have qI:(x1.lW:Int)=(gP l id).lW:=by rw [<- xZ]
 have hq11:(x1.gG:Int)=(gP l id).gG:=by rw [<- xZ]
 have hq12:(true:Bool)=(jU l id):=by unfold jU; rw [hc17]
 exact⟨by rw [hq8,yT,qI,hq11,<- hq12] <;> rfl,K5.z⟩
theorem aqa:Zo 415 439 440 41 78 4 32 Tryz.f415.name:=⟨func415.trans (aS some ak),⟨_,func439,ak,ak,ak,ak⟩,lM,iw,uL,ak,asJ,asK⟩
def Xr:=@MB _ _ _ _ _ _ _ _ bX aqa
theorem aqb(w:World){l:List aW}(iR:Sl bX S0 w jl jg l)(n:aW)(hn:l.length<=100000) :
    bO prog 348 #[.slice jl l.length jg,.agg #[aD n.ID,aD n.kM,aD n.lW,aD n.gG]] w λv w'=>∃(A0:ah)(c0:Nat),v=.tuple #[.slice A0 (((nR l n).1).length) c0,aD ((nR l n).2)]/\Hp w S0 w' [aR bX 78 A0 c0 ((nR l n).1)]:=by
 refine j4 S0 func348 ntmps348 Y λH0=>?_;have EG:=iR.bN;have hf:=Qt l;have hlow:=CF (fun(y:aW)=>bn y.ID n.ID) (gX l);refine rg<|bx Y Y H0 λg1 w1 K1=>iA Y<|bS Y<|bQ Y<|gW Y (UO _ (K1.a iR).any aj) ?_
 rintro _ w2 ⟨ni,nk,rfl,h2⟩;have K2:=K1.f1 h2;have UD:=(K2.o s0).bN;refine bS Y<|bQ Y<|jD g1 0 lT K2 s1 Y<|lF K2 Y (Qv _ (K2.o s0) n.ID (NT l) aj) λw3 K3=>mv Y<|xt Y Y<|xt Y Y<|iA Y<|bS Y<|aZ<|cZ<|rg<|ev (dK vO Y Y (K3.x s1))<|lF K3 Y (ag8 (S0:=Any) _ n) λw4 K4=>ev (gZ Y)<|mv Y<|iG 4 25 ((!(Iw n))||(!decide (n.gG=0))) ?_ ?_
 ·cases R6:(!(Iw n)) with
  | true=>
   refine eB<|eB<|eB<|ev (dY Y Y)<|dI Y
  | false=>
   refine wP g1 3 yx K4 s1 Y<|bG Y (rz Y Y) Y<|ev (eG Y Y)<|dI Y
 refine bS Y<|bR Y (λhc17=>?_) (λhc17=>?_)
 ·try simp only [eO,dN,bK,dZ,eu,fC,bL,bU] at hc17
  refine rg<|iA Y<|bS Y<|LA Y ?_
  have H1:=K4.nil bX 78;have d9:Jh=((nR l n).1):=by unfold nR; rw [aO (by simpa using hc17)]
  have H2:=(d9▸H1:Hp w S0 w4 (aR bX 78 none 0 ((nR l n).1)::[aR bX 78 ni nk (gX l),dJ g1 78 [aD n.ID,aD n.kM,aD n.lW,aD n.gG]]));have fG:(1:Int)=((nR l n).2):=by unfold nR; rw [aO (by simpa using hc17)]
  exact⟨none,0,by rw [<- d9,<- fG] <;> rfl,(H2.cU 1 2)⟩
 try simp only [eO,dN,bK,dZ,eu,fC,bL,bU] at hc17
 refine bQ Y<|bS Y<|bR Y (λLa=>?_) (λLa=>?_)
 ·refine rg<|iA Y<|bS Y<|LA Y ?_
  have H3:=K4.nil bX 78;have jQ:Jh=((nR l n).1):=by unfold nR; rw [aK (by simpa using hc17),aO La]
  have H4:=(jQ▸H3:Hp w S0 w4 (aR bX 78 none 0 ((nR l n).1)::[aR bX 78 ni nk (gX l),dJ g1 78 [aD n.ID,aD n.kM,aD n.lW,aD n.gG]]));have lV:(6:Int)=((nR l n).2):=by unfold nR; rw [aK (by simpa using hc17),aO La]
  exact⟨none,0,by rw [<- jQ,<- lV] <;> rfl,(H4.cU 1 2)⟩
 refine zF ?_;refine bQ Y<|mv Y<|ev (dK vO Y Y (K4.x s1))<|yU (τ:=bX) (x:=n) Y (by intro _; apply Zu) rfl K4 (λ_ _=>rfl) λg2 w5 K5=>gW rfl (Xr (i:=low (fun(y:aW)=>bn y.ID n.ID) (gX l)) K5 s1 s0 aj aj) ?_
 rintro _ w6 ⟨nY,nZ,rfl,K6⟩;refine iA Y<|bS Y<|iI Y ?_
 have qU:(((gX l).take (low (fun(y:aW)=>bn y.ID n.ID) (gX l))++[n]++(gX l).drop (low (fun(y:aW)=>bn y.ID n.ID) (gX l))):List aW)=((nR l n).1):=by unfold nR; rw [aK (by simpa using hc17),aK (by rw [La]; decide)]
 rw [qU] at K6;have vY:(0:Int)=((nR l n).2):=by unfold nR; rw [aK (by simpa using hc17),aK (by rw [La]; decide)]
 exact⟨nY,nZ,by rw [qU,<- vY] <;> rfl,(K6.rm s1)⟩
abbrev xw(gJ:Int)(iK:List aW):=low (fun(y:aW)=>bn y.ID gJ) (gX iK)
theorem ag9(w:World){l:List aW}(iR:Sl bX S0 w jl jg l)(id:Int)(state:Int)(hn:l.length<=100000) :
    bO prog 351 #[.slice jl l.length jg,aD id,aD state] w λv w'=>∃(A0:ah)(c0:Nat),v=.tuple #[.slice A0 (((kL l id state).1).length) c0,aD ((kL l id state).2)]/\Hp w S0 w' [aR bX 78 A0 c0 ((kL l id state).1)]:=by
 refine j4 S0 func351 ntmps351 Y λH0=>?_;have EG:=iR.bN;have hf:=Qt l;have hlow:=CF (fun(y:aW)=>bn y.ID id) (gX l);refine rg<|iA Y<|bS Y<|bQ Y<|gW Y (UO _ (H0.a iR).any aj) ?_
 rintro _ w1 ⟨jK,jL,rfl,h1⟩;have K1:=H0.f1 h1;have LC:=(K1.o s0).bN;refine bS Y<|bQ Y<|mv Y<|lF K1 Y (Qv _ (K1.o s0) id (NT l) aj) λw2 K2=>mv Y<|xt Y Y<|xt Y Y<|iA Y<|bS Y<|aZ<|cZ<|bQ Y<|ev (gZ Y)<|bS Y<|bR Y (λhc18=>?_) (λhc18=>?_)
 ·try simp only [eO,dN,bK,dZ,eu,fC,bL,bU] at hc18
  refine rg<|iA Y<|bS Y<|LA Y ?_
  have H1:=K2.nil bX 78;have d9:Jh=((kL l id state).1):=by unfold kL; rw [aK (by simp_all)]
  have H2:=(d9▸H1:Hp w S0 w2 (aR bX 78 none 0 ((kL l id state).1)::[aR bX 78 jK jL (gX l)]));have fG:(5:Int)=((kL l id state).2):=by unfold kL; rw [aK (by simp_all)]
  exact⟨none,0,by rw [<- d9,<- fG] <;> rfl,(H2.rm s1)⟩
 try simp only [eO,dN,bK,dZ,eu,fC,bL,bU] at hc18
 have hc18:hits (fun(y:aW)=>bn y.ID id) (gX l)=true:=by simpa using hc18
 obtain⟨xb,hxb,hkb⟩:=qE (key:=aW.ID) hc18;have UE:=aJ hxb;refine bQ Y<|lF K2 Y (CZ (S0:=Any) _ state 0 2) λw3 K3=>ev (gZ Y)<|bS Y<|bR Y (λhc21=>?_) (λhc21=>?_)
 ·try simp only [eO,dN,bK,dZ,eu,fC,bL,bU] at hc21
  refine rg<|iA Y<|bS Y<|LA Y ?_
  have H3:=K3.nil bX 78;have jQ:Jh=((kL l id state).1):=by unfold kL; rw [aO hc18,aK (by simp_all)]
  have H4:=(jQ▸H3:Hp w S0 w3 (aR bX 78 none 0 ((kL l id state).1)::[aR bX 78 jK jL (gX l)]));have lV:(1:Int)=((kL l id state).2):=by unfold kL; rw [aO hc18,aK (by simp_all)]
  exact⟨none,0,by rw [<- jQ,<- lV] <;> rfl,(H4.rm s1)⟩
 try simp only [eO,dN,bK,dZ,eu,fC,bL,bU] at hc21
 refine aZ<|bQ Y<|mv Y ?_
 obtain⟨x1,bP⟩:=bC (xs:=gX l) (i:=low (fun(y:aW)=>bn y.ID id) (gX l)) aj;refine ev (eU (i:=low (fun(y:aW)=>bn y.ID id) (gX l)) lM uL Y Y Y (aJ bP) ((K3.o s0).some_ bP))<|ev (eF yx Y (gI _ _ _))<|ev (jq jG Y ((K3.o s0).fZ (j:=3) bP Y))<|ev (iP Y Y)<|bS Y<|bR Y (λhc25=>?_) (λhc25=>?_)
 ·replace hc25:=jC hc25;refine jh ?_;refine bR Y (λhc25=>?_) (λhc25=>?_)
  ·replace hc25:=jC hc25;refine rg<|iA Y<|bS Y<|LA Y ?_
   have H5:=K3.nil bX 78;have qU:Jh=((kL l id state).1):=by unfold kL; rw [aO hc18,aO hc21,qX hc18 bP,aO (by first | exact .inl hc25 | exact .inr hc25)]
   have H6:=(qU▸H5:Hp w S0 w3 (aR bX 78 none 0 ((kL l id state).1)::[aR bX 78 jK jL (gX l)]));have vY:(8:Int)=((kL l id state).2):=by unfold kL; rw [aO hc18,aO hc21,qX hc18 bP,aO (by first | exact .inl hc25 | exact .inr hc25)]
   exact⟨none,0,by rw [<- qU,<- vY] <;> rfl,(H6.rm s1)⟩
  replace hc25:=kg hc25;refine zF ?_;refine bQ Y<|mv Y<|mv Y<|ev (eU (i:=low (fun(y:aW)=>bn y.ID id) (gX l)) lM uL Y Y Y (aJ bP) ((K3.o s0).some_ bP))<|ev (eF yx Y (gI _ _ _))<|se (i:=low (fun(y:aW)=>bn y.ID id) (gX l)) (f:=3) (x:=x1) (x':={ x1 with gG:=state }) (ds:=[aD state]) K3 s0 Y Y Y bP Y sZ (oJ Y) Y (by rintro _ _ _ ⟨⟩; rfl) λw4 K4=>?_
  have hl1:((gX l).set (xw id l) ({ x1 with gG:=state })).length=(gX l).length:=fQ ..;refine fJ (t:=0) (u:=.slice jK ((gX l).length) jL) (v:=.slice jK (((gX l).set (xw id l) ({ x1 with gG:=state })).length) jL) Y (by rw [hl1])<|fJ (t:=11) (u:=.slice jK ((gX l).length) jL) (v:=.slice jK (((gX l).set (xw id l) ({ x1 with gG:=state })).length) jL) rfl (by rw [hl1])<|fJ (t:=13) (u:=.slice jK ((gX l).length) jL) (v:=.slice jK (((gX l).set (xw id l) ({ x1 with gG:=state })).length) jL) rfl (by rw [hl1])<|fJ (t:=26) (u:=.slice jK ((gX l).length) jL) (v:=.slice jK (((gX l).set (xw id l) ({ x1 with gG:=state })).length) jL) rfl (by rw [hl1])<|fJ (t:=42) (u:=.slice jK ((gX l).length) jL) (v:=.slice jK (((gX l).set (xw id l) ({ x1 with gG:=state })).length) jL) rfl (by rw [hl1])<|dn<|bQ rfl<|iA rfl<|bS rfl<|iI rfl ?_
  have xZ:(((gX l).set (xw id l) ({ x1 with gG:=state })):List aW)=((kL l id state).1):=by exact absurd ‹x1.gG=2› hc25
  rw [xZ] at K4;have hq8:(0:Int)=((kL l id state).2):=by exact absurd ‹x1.gG=2› hc25
  exact⟨jK,jL,by rw [xZ,<- hq8] <;> rfl,K4⟩
 replace hc25:=kg hc25;refine jr<|mv Y<|mv Y<|ev (eU (i:=low (fun(y:aW)=>bn y.ID id) (gX l)) lM uL Y Y Y (aJ bP) ((K3.o s0).some_ bP))<|ev (eF yx Y (gI _ _ _))<|ev (jq jG Y ((K3.o s0).fZ (j:=3) bP Y))<|ev (iP Y Y)<|mv Y<|iG 3 41 ((decide (x1.gG=0))&&(decide (state=2))) ?_ ?_
 ·cases aui:decide (x1.gG=0) with
  | true=>
   refine bG Y (bA Y) Y<|bG Y (iP Y Y) Y<|ev (dY Y Y)<|dI Y
  | false=>
   refine eB<|eB<|ev (eG Y Y)<|dI Y
 refine iA Y<|jv<|gB<|bR Y (λhc25=>?_) (λhc25=>?_)
 ·try simp only [bK,dZ,bL,bU] at hc25
  refine rg<|iA Y<|bS Y<|LA Y ?_
  have H7:=K3.nil bX 78;have yT:Jh=((kL l id state).1):=by unfold kL; rw [aO hc18,aO hc21,qX hc18 bP,aO (by first | exact .inl hc25 | exact .inr hc25)]
  have H8:=(yT▸H7:Hp w S0 w3 (aR bX 78 none 0 ((kL l id state).1)::[aR bX 78 jK jL (gX l)]));have qI:(8:Int)=((kL l id state).2):=by unfold kL; rw [aO hc18,aO hc21,qX hc18 bP,aO (by first | exact .inl hc25 | exact .inr hc25)]
  exact⟨none,0,by rw [<- yT,<- qI] <;> rfl,(H8.rm s1)⟩
 try simp only [bK,dZ,bL,bU] at hc25
 refine zF ?_;refine bQ Y<|mv Y<|mv Y<|ev (eU (i:=low (fun(y:aW)=>bn y.ID id) (gX l)) lM uL Y Y Y (aJ bP) ((K3.o s0).some_ bP))<|ev (eF yx Y (gI _ _ _))<|se (i:=low (fun(y:aW)=>bn y.ID id) (gX l)) (f:=3) (x:=x1) (x':={ x1 with gG:=state }) (ds:=[aD state]) K3 s0 Y Y Y bP Y sZ (oJ Y) Y (by rintro _ _ _ ⟨⟩; rfl) λw5 K5=>?_
 have hl2:((gX l).set (xw id l) ({ x1 with gG:=state })).length=(gX l).length:=fQ ..;refine fJ (t:=0) (u:=.slice jK ((gX l).length) jL) (v:=.slice jK (((gX l).set (xw id l) ({ x1 with gG:=state })).length) jL) Y (by rw [hl2])<|fJ (t:=11) (u:=.slice jK ((gX l).length) jL) (v:=.slice jK (((gX l).set (xw id l) ({ x1 with gG:=state })).length) jL) rfl (by rw [hl2])<|fJ (t:=13) (u:=.slice jK ((gX l).length) jL) (v:=.slice jK (((gX l).set (xw id l) ({ x1 with gG:=state })).length) jL) rfl (by rw [hl2])<|fJ (t:=26) (u:=.slice jK ((gX l).length) jL) (v:=.slice jK (((gX l).set (xw id l) ({ x1 with gG:=state })).length) jL) rfl (by rw [hl2])<|fJ (t:=32) (u:=.slice jK ((gX l).length) jL) (v:=.slice jK (((gX l).set (xw id l) ({ x1 with gG:=state })).length) jL) rfl (by rw [hl2])<|fJ (t:=42) (u:=.slice jK ((gX l).length) jL) (v:=.slice jK (((gX l).set (xw id l) ({ x1 with gG:=state })).length) jL) rfl (by rw [hl2])<|dn<|bQ rfl<|iA rfl<|bS rfl<|iI rfl ?_
 have hq11:(((gX l).set (xw id l) ({ x1 with gG:=state })):List aW)=((kL l id state).1):=by unfold kL; rw [aO hc18,aO hc21,qX hc18 bP,aK (by rintro(h | h); contradiction; exact hc25 h.1 h.2)]
 rw [hq11] at K5;have hq12:(0:Int)=((kL l id state).2):=by unfold kL; rw [aO hc18,aO hc21,qX hc18 bP,aK (by rintro(h | h); contradiction; exact hc25 h.1 h.2)]
 exact⟨jK,jL,by rw [hq11,<- hq12] <;> rfl,K5⟩
end Go.Proofs.YtlhnnmlenkahlaaGreat
