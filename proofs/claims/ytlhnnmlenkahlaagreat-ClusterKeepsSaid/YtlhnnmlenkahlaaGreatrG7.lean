/- Lemmas. -/
import Derived.Test.YtlhnnmlenkahlaaGreatrG6
set_option maxRecDepth 4000
set_option linter.all false
namespace Go.Proofs.YtlhnnmlenkahlaaGreat
open Go.RowKit Go.Proofs.Tryz
variable {S0:Nat->Prop}{jl vY:ah}{jk:Nat}
structure aV where
  ID:Int
  lT:Int
  l6:Int
  gP:Int
  deriving DecidableEq
def aV.enc(x:aV):List Value:=[.int .i64 x.ID,.int .i64 x.lT,.int .i64 x.l6,.int .i64 x.gP]
theorem aV.lF(x:aV):∀ u∈x.enc,u.oneCell'=true:=by
  intro u hu
  simp only [aV.enc,iX,lM,sN] at hu
  rcases hu with rfl | rfl | rfl | rfl <;> rfl
def cZ:Ty aV:=Ty.flat 4 aV.enc au (λ_=>rfl) aV.lF
instance:Flat cZ:=⟨λh=>h⟩
def Ky(n:aV):Bool:=(((decide (1<=n.ID)&&decide (n.ID<=16))&&(decide (1<=n.lT)&&decide (n.lT<=8)))&&(decide (1<=n.l6)&&decide (n.l6<=16)))&&(decide (0<=n.gP)&&decide (n.gP<=2))
def BP:Int->List aV->Bool
  | _,[]=>true
  | z,n::l=>!(!Ky n||decide (n.ID<=z))&&BP n.ID l
def uy(l:List aV):Bool:=BP 0 l
def iK(l:List aV):List aV:=if uy l then l else[]
theorem Xk{z:Int}{l:List aV}{k:Nat}{x:aV}(hx:l[k]? = some x):BP z (l.drop k)=(!(!Ky x||decide (x.ID<=z))&&BP x.ID (l.drop (k+1))):=by
  rw [zO (aJ hx),(nP.1 hx).2]; rfl
theorem Qt:∀(l:List aV)(z:Int),BP z l=true->∀ n∈l,z<n.ID/\Ky n=true
  | [],_,_,n,hn=>by simp at hn
  | m::l,z,h,n,hn=>by
    simp only [BP,bN,eG,dX,fP,bV] at h
    rcases iX.1 hn with rfl | hn
    · exact⟨aj,h.1.1⟩
    · have:=Qt l _ h.2 n hn; exact⟨aj,this.2⟩
theorem Em:∀(l:List aV)(z:Int),BP z l=true->Up aV.ID l
  | [],_,_=>List.Pairwise.nil
  | m::l,z,h=>by
    simp only [BP,bN,eG,dX,fP,bV] at h
    exact pG.2 ⟨λx hx=>(Qt l _ h.2 x hx).1,Em l _ h.2⟩
theorem Tt(l:List aV):(iK l).length<=l.length:=by unfold iK; split <;> simp
theorem amE(l:List aV):uy (iK l)=true:=by
  unfold iK; split
  · assumption
  · rfl
theorem Qu(l:List aV):Up aV.ID (iK l):=Em _ 0 (amE l)
theorem wh{l:List aV}(h:uy l=true):iK l=l:=by unfold iK; rw [aO h]
theorem aaL{l:List aV}(h:uy l=false):iK l=[]:=by unfold iK; rw [h]; rfl
def gU(l:List aV)(id:Int):aV:=match (iK l)[low (fun(y:aV)=>bB y.ID id) (iK l)]? with | some c=>if c.ID=id then c else⟨0,0,0,0⟩ | none=>⟨0,0,0,0⟩
def jU(l:List aV)(id:Int):Bool:=hits (fun(y:aV)=>bB y.ID id) (iK l)
theorem amF{l:List aV}{id:Int}(h:hits (fun(y:aV)=>bB y.ID id) (iK l)=false):gU l id=⟨0,0,0,0⟩:=by
  unfold gU; split
  · rename_i c hc
    rw [aK];intro e;have:=(uZ (Qu l) id).2 ⟨c,bT hc,e⟩;rw [h] at this; cases this
  · rfl
theorem qM{l:List aV}{id:Int}{c:aV}(h:hits (fun(y:aV)=>bB y.ID id) (iK l)=true)(hc:(iK l)[low (fun(y:aV)=>bB y.ID id) (iK l)]? = some c):gU l id=c:=by
  unfold gU; rw [hc];obtain⟨x,hx,hk⟩:=qU (key:=aV.ID) h;rw [hc] at hx; cases hx;exact aO hk
def oO(l:List aV)(n:aV):List aV × Int:=if Ky n=false∨n.gP≠0 then([],1) else if hits (fun(y:aV)=>bB y.ID n.ID) (iK l)=true then([],6) else((iK l).take (low (fun(y:aV)=>bB y.ID n.ID) (iK l))++[n]++(iK l).drop (low (fun(y:aV)=>bB y.ID n.ID) (iK l)),0)
def lS(l:List aV)(id state:Int):List aV × Int:=if hits (fun(y:aV)=>bB y.ID id) (iK l)=true then
    (if 0<=state/\state<=2 then(if(gU l id).gP=2∨(gU l id).gP=0/\state=2 then([],8) else((iK l).set (low (fun(y:aV)=>bB y.ID id) (iK l)) { gU l id with gP:=state },0)) else([],1)) else([],5)
theorem nk:eu prog 78 0 0:=ay
theorem aik:bF prog 369:=ay
theorem Qv:eu prog 78 1 1:=ay
theorem Vu:eu prog 78 2 2:=ay
theorem zS:eu prog 78 3 3:=ay
theorem wT:Size prog 78 4:=ay
theorem wU:Agg prog 78 4:=⟨λ_=>by kernel_rfl,wT⟩
theorem tJ:∀ w,(zeroValue 78).run prog w=.ok (.agg #[aF 0,aF 0,aF 0,aF 0]) w:=ay
theorem apm  : ∀ w,(Instr.buildSlice 41 0 (List.toArray [])).run prog w=.ok (.slice (some ⟨w.heap.size,0,none⟩) 0 0) (w.alloc (.cells (List.toArray []) 78)):=ay
theorem axi:lW prog 78 4 32:=by
  obtain⟨i,h1,h2,h3,h4⟩:=tX (show(prog.info? 78).map (λi=>(i.zero,i.size,i.bytes))=some (some (.agg #[aF 0,aF 0,aF 0,aF 0]),4,32) by kernel_rfl);exact⟨i,_,h1,h2,h3,h4,Y⟩
theorem ayC:bF prog 326:=ay
theorem ayD  : prog.built 78 []=some #[aF 0,aF 0,aF 0,aF 0]:=ak
theorem axj:u6 prog 78 4 32:=by
  obtain⟨i,h1,h2,h3,h4⟩:=tX (show(prog.info? 78).map (λi=>(i.zero,i.size,i.bytes))=some (some (.agg #[aF 0,aF 0,aF 0,aF 0]),4,32) by kernel_rfl);exact⟨i,_,h1,h2,h3,h4,Y,λv hv=>lI.1 (show(Value.cells (.agg #[aF 0,aF 0,aF 0,aF 0])).toList.all (λv=>v.oneCell')=true from Y) v hv⟩
theorem acf(a0:Int)(a1:Int)(a2:Int)(a3:Int):∀ w,(Instr.buildSlice 41 1 (List.toArray [(0,.agg #[aF a0,aF a1,aF a2,aF a3])])).run prog w=.ok (.slice (some ⟨w.heap.size,0,none⟩) 1 1) (w.alloc (.cells (List.toArray [aF a0,aF a1,aF a2,aF a3]) 78)):=ay
theorem En(w:World)(n:Int)(Dh:Int)(most:Int) :
    bS prog 369 #[aF n,aF Dh,aF most] w λv w'=>v=.bool (decide (Dh<=n)&&decide (n<=most))/\Hp w S0 w' []:=by
 refine kP S0 func369 ntmps369 Y λH0=>iZ Y<|bQ Y<|mv Y<|ev (qK Y Y)<|mv Y<|iP 4 14 ((decide (Dh<=n))&&(decide (n<=most))) ?_ ?_
 ·cases aB4:decide (Dh<=n) with
  | true=>
   refine bn Y (bf Y) Y<|bn Y (bf Y) Y<|bn Y (vS Y Y) Y<|ev (dH Y Y)<|dM Y
  | false=>
   refine dN<|dN<|dN<|ev (dL Y Y)<|dM Y
 refine bU Y<|jc Y ?_
 have eO:(((decide (Dh<=n))&&(decide (n<=most))):Bool)=(decide (Dh<=n)&&decide (n<=most)):=by first | with_reducible rfl | (simp; done) | omega
 exact⟨by rw [eO] <;> rfl,H0⟩
theorem aj6(w:World)(n:aV) :
    bS prog 272 #[.agg #[aF n.ID,aF n.lT,aF n.l6,aF n.gP]] w λv w'=>v=.bool (Ky n)/\Hp w S0 w' []:=by
 refine kP S0 func272 ntmps272 Y λH0=>rg<|bx Y Y H0 λg1 w1 K1=>bU Y<|rg<|jT g1 0 nk K1 s0 Y<|mU K1 Y (En (S0:=Any) _ n.ID 1 16) λw2 K2=>mv Y<|oG 4 10 ((decide (1<=n.ID)&&decide (n.ID<=16))&&(decide (1<=n.lT)&&decide (n.lT<=8))) ?_ ?_
 ·cases hb6:(decide (1<=n.ID)&&decide (n.ID<=16)) with
  | true=>
   have aG3:=hb6
   try simp only [bN,eH,bO,bV] at aG3
   refine wL g1 1 Qv K2 s0 Y<|oh Y Y Y Y aik (En (S0:=Any) _ n.lT 1 8) Y ?_
   rintro _ w3 ⟨rfl,h3⟩;refine ev (dH Y Y)<|jh Y h3.ext
  | false=>
   refine dN<|dN<|dN<|ev (dL Y Y)<|jh Y (pI _)
 intro w4 e4;have K4:=K2.grow e4;refine mv Y<|oG 4 15 (((decide (1<=n.ID)&&decide (n.ID<=16))&&(decide (1<=n.lT)&&decide (n.lT<=8)))&&(decide (1<=n.l6)&&decide (n.l6<=16))) ?_ ?_
 ·cases Tv:((decide (1<=n.ID)&&decide (n.ID<=16))&&(decide (1<=n.lT)&&decide (n.lT<=8))) with
  | true=>
   have Lm:=Tv
   try simp only [bN,eH,bO,bV] at Lm
   refine wL g1 2 Vu K4 s0 Y<|oh Y Y Y Y aik (En (S0:=Any) _ n.l6 1 16) Y ?_
   rintro _ w5 ⟨rfl,h5⟩;refine ev (dH Y Y)<|jh Y h5.ext
  | false=>
   refine dN<|dN<|dN<|ev (dL Y Y)<|jh Y (pI _)
 intro w6 e6;have K6:=K4.grow e6;refine mv Y<|oG 4 20 ((((decide (1<=n.ID)&&decide (n.ID<=16))&&(decide (1<=n.lT)&&decide (n.lT<=8)))&&(decide (1<=n.l6)&&decide (n.l6<=16)))&&(decide (0<=n.gP)&&decide (n.gP<=2))) ?_ ?_
 ·cases Vd:(((decide (1<=n.ID)&&decide (n.ID<=16))&&(decide (1<=n.lT)&&decide (n.lT<=8)))&&(decide (1<=n.l6)&&decide (n.l6<=16))) with
  | true=>
   have Qw:=Vd
   try simp only [bN,eH,bO,bV] at Qw
   refine wL g1 3 zS K6 s0 Y<|oh Y Y Y Y aik (En (S0:=Any) _ n.gP 0 2) Y ?_
   rintro _ w7 ⟨rfl,h7⟩;refine ev (dH Y Y)<|jh Y h7.ext
  | false=>
   refine dN<|dN<|dN<|ev (dL Y Y)<|jh Y (pI _)
 intro w8 e8;have K8:=K6.grow e8;refine bU Y<|jc Y ?_
 have eO:(((((decide (1<=n.ID)&&decide (n.ID<=16))&&(decide (1<=n.lT)&&decide (n.lT<=8)))&&(decide (1<=n.l6)&&decide (n.l6<=16)))&&(decide (0<=n.gP)&&decide (n.gP<=2))):Bool)=(Ky n):=by rfl
 exact⟨by rw [eO] <;> rfl,(K8.rm s0)⟩
theorem Vv(w:World){l:List aV}(jo:Sl cZ S0 w jl jk l) :
    bS prog 177 #[.slice jl l.length jk] w λv w'=>v=.bool (uy l)/\Hp w S0 w' []:=by
 refine kP S0 func177 ntmps177 Y λH0=>?_;have EY:=jo.bH;refine iZ Y<|iZ Y<|aW<|bQ Y<|ev (eU nW Y)<|mv Y<|dn<|cB<|Lp H0 (λl0 rk mJ lJ wJ=>∃(k:Nat)(z:Int),lJ=(3,aF z)::(8,aF ((k:Nat):Int))::l0/\mJ=l.length - k/\k<=l.length/\(BP 0 l=BP z (l.drop k))/\Hp w S0 wJ rk) ⟨0,0,Y,Y,fJ _,av,H0⟩ rfl ?_
 rintro _ _ w1 ⟨k,z,rfl,rfl,hk,hz,K1⟩;refine rg<|ev (fC Y Y)<|dn<|pQ Y (λER=>?_) (λER=>?_)
 ·refine jm ?_;refine aW<|cB<|rg ?_
  obtain⟨x1,bP⟩:=bC (xs:=l) (i:=k) aj;refine ev (cu (i:=k) nW wT Y Y Y (aJ bP) ((K1.a jo).some_ bP))<|ev (gI wU Y Y ((K1.a jo).fE bP))<|al tJ Y K1 λg1 w2 K2=>sty Y K2 s0 Y λw3 K3=>dn<|aW<|rg<|ev (dU wU Y Y (K3.x s0))<|mU K3 Y (aj6 (S0:=Any) _ x1) λw4 K4=>ev (iB Y)<|mv Y<|iP 5 20 ((!(Ky x1))||(decide (x1.ID<=z))) ?_ ?_
  ·cases Tc:(!(Ky x1)) with
   | true=>
    refine dN<|dN<|dN<|dN<|ev (dH Y Y)<|dM Y
   | false=>
    refine wL g1 0 nk K4 s0 Y<|bn Y (bf Y) Y<|bn Y (vS Y Y) Y<|ev (dL Y Y)<|dM Y
  refine dn<|bK Y (λlN=>?_) (λlN=>?_)
  ·refine iZ Y<|jf (fT (jg (fT (fT (jg (fT (zA Y ?_)))))))
   have eO:(false:Bool)=(uy l):=by symm; unfold uy; rw [hz,Xk bP,lN]; rfl
   exact⟨by rw [<- eO] <;> rfl,(K4.rm s0)⟩
  refine jm ?_;refine jy<|jT g1 0 nk K4 s0 Y<|iI Y<|jA<|iE (gG ?_)
  refine jy<|ev (dO Y Y)<|mv Y<|jA<|dI ⟨(k+1),x1.ID,Y,Y,aj,by rw [hz,Xk bP,lN]; rfl,(K4.rm s0)⟩ rfl aj
 refine wE ?_;refine iZ Y<|jc Y ?_
 have fQ:(true:Bool)=(uy l):=by symm; unfold uy; rw [hz,Bj aj]; rfl
 exact⟨by rw [<- fQ] <;> rfl,K1⟩
abbrev Lr:=(([]:List aV):List aV)
theorem nu(w:World){uY:Nat}{s:List aV}(mP:Sl cZ S0 w vY uY s)(hn:s.length<=1000000) :
    bS prog 57 #[.slice vY s.length uY] w λv w'=>∃(A0:ah)(c0:Nat),v=.slice A0 s.length c0/\Hp w S0 w' [aS cZ 78 A0 c0 s]:=by
 refine kP S0 func57 ntmps57 Y λH0=>iZ Y<|aW<|bQ Y<|ev (Ov nW Y Y)<|dn<|bK Y (λhc4=>?_) (λhc4=>?_)
 ·refine iZ Y<|uX Y ?_
  have H1:=H0.nil cZ 78;have eO:Lr=s:=by have h1:=mP.nil (by simpa using hc4); have h2:=mP.cap; exact(uE aj).symm
  have H2:=(eO▸H1:Hp w S0 w (aS cZ 78 none 0 s::[]));exact⟨none,0,by rw [<- eO] <;> rfl,H2⟩
 refine jm ?_;refine rg<|bs0 (τ:=cZ) (vs:=[]) Y (by intro _; apply apm) rfl H0 λg1 w1 K1=>mv rfl<|ap (ys:=s) K1 s0 rfl rfl (K1.a mP).any nW axi av (by first | omega | (simp; omega) | (simp; done)) rfl λoL oM w2 K2=>bU rfl<|jc rfl ?_
 have fQ:((([]:List aV)++s):List aV)=s:=by simp
 rw [fQ] at K2;exact⟨oL,oM,by rw [fQ] <;> rfl,K2⟩
theorem Xl(w:World){l:List aV}(jo:Sl cZ S0 w jl jk l)(hn:l.length<=100000) :
    bS prog 231 #[.slice jl l.length jk] w λv w'=>∃(A0:ah)(c0:Nat),v=.slice A0 ((iK l).length) c0/\Hp w S0 w' [aS cZ 78 A0 c0 (iK l)]:=by
 refine kP S0 func231 ntmps231 Y λH0=>iZ Y<|aW<|bQ Y<|mU H0 Y (Vv _ (H0.a jo).any) λw1 K1=>ev (iB Y)<|dn<|bK Y (λhc5=>?_) (λhc5=>?_)
 ·try simp only [fq,dX,bN,eH,eG,fP,bO,bV] at hc5
  refine iZ Y<|uX Y ?_
  have H1:=K1.nil cZ 78;have eO:Lr=(iK l):=by exact(aaL hc5).symm
  have H2:=(eO▸H1:Hp w S0 w1 (aS cZ 78 none 0 (iK l)::[]));exact⟨none,0,by rw [<- eO] <;> rfl,H2⟩
 try simp only [fq,dX,bN,eH,eG,fP,bO,bV] at hc5
 refine jm ?_;refine bQ Y<|gX Y (nu _ (K1.a jo).any aj) ?_
 rintro _ w2 ⟨oo,oq,rfl,h2⟩;have K2:=K1.f1 h2;refine bU Y<|jc Y ?_
 have fQ:(l:List aV)=(iK l):=by exact(wh hc5).symm
 have H3:=(fQ▸K2:Hp w S0 w2 [aS cZ 78 oo oq (iK l)]);exact⟨oo,oq,by rw [<- fQ] <;> rfl,H3⟩
theorem Xm(w:World){uY:Nat}{s:List aV}(mP:Sl cZ S0 w vY uY s)(target:Int){AA:FuncId}{AX:List Value}(KI:bF prog AA)(f:aV->Int->Int)(KJ:∀(w':World)(x:aV)(t:Int),Ext w w'->True->bS prog AA (([.agg #[aF x.ID,aF x.lT,aF x.l6,aF x.gP],aF t]:List Value)++AX).toArray w' λv w''=>v=aF (f x t)/\Ext w' w'')(hm:abR (fun(y:aV)=>f y target) s)(hn:s.length<=1000000) :
    bS prog 325 #[.slice vY s.length uY,aF target,.func (.func AA) #[] AX.toArray] w λv w'=>v=.tuple #[aF ((low (fun(y:aV)=>f y target) s:Nat):Int),.bool (hits (fun(y:aV)=>f y target) s)]/\Hp w S0 w' []:=by
 refine kP S0 func325 ntmps325 Y λH0=>?_;have Qm:=mP.bH;refine rg<|iI Y<|bU Y<|bQ Y<|ev (eU nW Y)<|bU Y<|bQ Y<|iI Y<|bU Y<|aW<|cB<|Lp H0 (λl0 rk mJ lJ wJ=>∃(i j:Nat),lJ=(9,aF ((i:Nat):Int))::(10,aF ((j:Nat):Int))::l0/\mJ=j - i/\(i<=j/\j<=s.length)/\(∀(a:Nat)(y:aV),a<i->s[a]? = some y->f y target<0)/\(∀(a:Nat)(y:aV),j<=a->s[a]? = some y->¬ f y target<0)/\Hp w S0 wJ rk) ⟨0,s.length,Y,Y,by exact⟨fJ _,kV _⟩,by intro a y ha; omega,by intro a y ha hy; have:=aJ hy; omega,H0⟩ rfl ?_
 rintro _ _ w1 ⟨i,j,rfl,rfl,hij,hlo,hhi,K1⟩;refine aW<|bQ Y<|mv Y<|ev (fC Y Y)<|dn<|mQ Y (λhc17=>?_) (λhc17=>?_)
 ·refine jm ?_;refine cB<|bQ Y<|mv Y<|ev (dO Y Y)<|ev (Bl (m:=i+j) qW.1 qW.2.1 qW.2.2 Y (wH aj))<|ev (Ev.ama (m:=i+j) Y Y)<|ev (Bl (m:=((i+j) / 2)) qX.1 qX.2.1 qX.2.2 Y (uL aj))<|bU Y<|bQ Y<|mv Y<|mv Y ?_
  obtain⟨x1,bP⟩:=bC (xs:=s) (i:=((i+j) / 2)) aj;refine ev (cu (i:=((i+j) / 2)) nW wT Y Y Y (aJ bP) ((K1.a mP).some_ bP))<|ev (gI wU Y Y ((K1.a mP).fE bP))<|mv Y<|xK Y Y Y KI (KJ _ x1 target K1.ext trivial) Y ?_
  rintro _ w2 ⟨rfl,e2⟩;have K2:=K1.grow e2;refine ev (fC Y Y)<|dn<|mQ Y (λhc31=>?_) (λhc31=>?_)
  ·refine jy<|mv Y<|ev (dO Y Y)<|iI Y<|jA<|iE<|dI ⟨(((i+j) / 2)+1),j,Y,Y,aj,by first | exact hlo | exact λa y ha hy=>hm a _ y x1 aj hy bP hc31,by first | exact hhi | exact λa y ha hy hlt=>hc31 (hm _ a x1 y aj bP hy hlt),K2⟩ rfl aj
  refine jy<|mv Y<|iI Y<|jA<|iE<|dI ⟨i,((i+j) / 2),Y,Y,aj,by first | exact hlo | exact λa y ha hy=>hm a _ y x1 aj hy bP hc31,by first | exact hhi | exact λa y ha hy hlt=>hc31 (hm _ a x1 y aj bP hy hlt),K2⟩ rfl aj
 refine wE ?_;refine bQ Y<|mv Y<|mv Y<|ev (fC Y Y)<|mv Y<|oG 9 48 (hits (λy=>f y target) s) ?_ ?_
 ·cases OX:decide (((i:Nat):Int)<((s.length:Nat):Int)) with
  | true=>
   have aj1:=gW OX;refine bn Y (bf Y) Y<|bn Y (bf Y) Y<|bn Y (bf Y) Y ?_
   obtain⟨x2,kZ⟩:=bC (xs:=s) (i:=i) aj;refine bn Y (cu (i:=i) nW wT Y Y Y (aJ kZ) ((K1.a mP).some_ kZ)) Y<|bn Y (gI wU Y Y ((K1.a mP).fE kZ)) Y<|bn Y (bf Y) Y<|oh Y Y Y Y KI (KJ _ x2 target K1.ext trivial) Y ?_
   rintro _ w3 ⟨rfl,e3⟩;refine bn Y (iA Y Y) Y<|ev (dH Y Y)<|fU (t:=48) (u:=.bool (decide (f x2 target=0))) (v:=.bool (hits (λy=>f y target) s)) Y (aR Value.bool (by have hl:=xk (g:=λy=>f y target) (s:=s) (i:=i) aj hlo (λa y ha=>hhi a y aj); unfold hits; rw [hl,kZ]))<|jh rfl e3
  | false=>
   refine dN<|dN<|dN<|dN<|dN<|dN<|dN<|dN<|ev (dL Y Y)<|fU (t:=48) (u:=.bool false) (v:=.bool (hits (λy=>f y target) s)) Y (aR Value.bool (by have hl:=xk (g:=λy=>f y target) (s:=s) (i:=i) aj hlo (λa y ha=>hhi a y aj); unfold hits; rw [hl,yP (by have:=iJ OX; omega)])) ?_
   exact jh Y (pI _)
 intro w4 e4;have K4:=K1.grow e4;refine iI Y<|bU Y<|jc Y ?_
 have eO:(i:Nat)=(low (fun(y:aV)=>f y target) s):=by exact(xk (g:=λy=>f y target) aj hlo (λa y ha=>hhi a y aj)).symm
 have fQ:(hits (λy=>f y target) s:Bool)=(hits (fun(y:aV)=>f y target) s):=by rfl
 exact⟨by rw [fQ,<- eO] <;> rfl,K4⟩
theorem ail(w:World)(n:aV)(id:Int) :
    bS prog 326 #[.agg #[aF n.ID,aF n.lT,aF n.l6,aF n.gP],aF id] w λv w'=>v=aF (bB n.ID id)/\Hp w S0 w' []:=by
 refine kP S0 func326 ntmps326 Y λH0=>rg<|bx Y Y H0 λg1 w1 K1=>bU Y<|rg<|jT g1 0 nk K1 s0 Y<|mv Y<|mU K1 Y (nK (S0:=Any) _ n.ID id) λw2 K2=>bU Y<|jc Y ?_
 exact⟨Y,(K2.rm s0)⟩
theorem Tz(w:World){l:List aV}(jo:Sl cZ S0 w jl jk l)(id:Int)(hu:Up aV.ID l)(hn:l.length<=1000000) :
    bS prog 232 #[.slice jl l.length jk,aF id] w λv w'=>v=.tuple #[aF ((low (fun(y:aV)=>bB y.ID id) l:Nat):Int),.bool (hits (fun(y:aV)=>bB y.ID id) l)]/\Hp w S0 w' []:=by
 refine kP S0 func232 ntmps232 Y λH0=>rg<|iI Y<|bU Y<|bQ Y<|mv Y<|mU H0 Y (Xm _ (H0.a jo).any id (AX:=[]) ayC (fun(x:aV) (t:Int)=>bB x.ID t) (λw' x t e hm=>(ail (S0:=Any) w' x t).mono (by rintro _ _ ⟨rfl,fQ⟩; exact⟨rfl,fQ.ext⟩)) (hu.mono id) aj) λw1 K1=>xt rfl rfl<|xt rfl rfl<|iI rfl<|bU rfl<|jc rfl ?_
 exact⟨Y,K1⟩
theorem Eo(w:World){l:List aV}(jo:Sl cZ S0 w jl jk l)(id:Int)(hn:l.length<=100000) :
    bS prog 151 #[.slice jl l.length jk,aF id] w λv w'=>v=.tuple #[.agg #[aF ((gU l id).ID),aF ((gU l id).lT),aF ((gU l id).l6),aF ((gU l id).gP)],.bool (jU l id)]/\Hp w S0 w' []:=by
 refine kP S0 func151 ntmps151 Y λH0=>?_;have EY:=jo.bH;have hf:=Tt l;have hlow:=D8 (fun(y:aV)=>bB y.ID id) (iK l);refine rg<|al tJ Y H0 λg1 w1 K1=>bU Y<|bQ Y<|gX Y (Xl _ (K1.a jo).any aj) ?_
 rintro _ w2 ⟨oo,oq,rfl,h2⟩;have K2:=K1.f1 h2;have Xc:=(K2.o s0).bH;refine bU Y<|bQ Y<|mv Y<|mU K2 Y (Tz _ (K2.o s0) id (Qu l) aj) λw3 K3=>mv Y<|xt Y Y<|xt Y Y<|iI Y<|bU Y<|aW<|bQ Y<|ev (iB Y)<|dn<|bK Y (λhc17=>?_) (λhc17=>?_)
 ·try simp only [fq,dX,bN,eH,eG,fP,bO,bV] at hc17
  refine rg<|ev (iY (vs:=[]) (cs:=[aF 0,aF 0,aF 0,aF 0]) Y (by apply ayD))<|sty rfl K3 s1 rfl λw4 K4=>bU rfl<|jf (fT (qA rfl ⟨_,_,rfl,⟨_,rfl,jL (cs:=[aF 0,aF 0,aF 0,aF 0]) wU rfl (K4.x s0)⟩,⟨_,_,rfl,rfl,rfl⟩⟩ ?_))
  have eO:((⟨0,0,0,0⟩:aV):aV)=(gU l id):=by exact(amF hc17).symm
  have fQ:(0:Int)=(gU l id).ID:=by rw [<- eO]
  have jW:(0:Int)=(gU l id).lT:=by rw [<- eO]
  have mH:(0:Int)=(gU l id).l6:=by rw [<- eO]
  have rR:(0:Int)=(gU l id).gP:=by rw [<- eO]
  have wM:(false:Bool)=(jU l id):=by unfold jU; rw [hc17]
  exact⟨by rw [<- fQ,<- jW,<- mH,<- rR,<- wM] <;> rfl,K4.z⟩
 try simp only [fq,dX,bN,eH,eG,fP,bO,bV] at hc17
 have hc17:hits (fun(y:aV)=>bB y.ID id) (iK l)=true:=by simpa using hc17
 obtain⟨xb,hxb,hkb⟩:=qU (key:=aV.ID) hc17;have Xd:=aJ hxb;refine jm ?_;refine bQ Y<|mv Y ?_
 obtain⟨x1,bP⟩:=bC (xs:=iK l) (i:=low (fun(y:aV)=>bB y.ID id) (iK l)) aj;refine ev (cu (i:=low (fun(y:aV)=>bB y.ID id) (iK l)) nW wT Y Y Y (aJ bP) ((K3.o s0).some_ bP))<|ev (gI wU Y Y ((K3.o s0).fE bP))<|sty Y K3 s1 Y λw5 K5=>bU Y<|jf (qA Y ⟨_,_,Y,⟨_,Y,jL (cs:=[aF x1.ID,aF x1.lT,aF x1.l6,aF x1.gP]) wU Y (K5.x s0)⟩,⟨_,_,Y,Y,Y⟩⟩ ?_)
 have zk:(x1:aV)=(gU l id):=by exact(qM hc17 bP).symm
 have hq8:(x1.ID:Int)=(gU l id).ID:=by rw [<- zk]
 have AJ:(x1.lT:Int)=(gU l id).lT:=by rw [<- zk]
 have r9:(x1.l6:Int)=(gU l id).l6:=by rw [<- zk]
 have hq11:(x1.gP:Int)=(gU l id).gP:=by rw [<- zk]
 have hq12:(true:Bool)=(jU l id):=by unfold jU; rw [hc17]
 exact⟨by rw [hq8,AJ,r9,hq11,<- hq12] <;> rfl,K5.z⟩
theorem auA:ab7 415 439 440 41 78 4 32 Tryz.f415.name:=⟨func415.trans (aR some ak),⟨_,func439,ak,ak,ak,ak⟩,nW,iQ,wT,ak,axi,axj⟩
def ZW:=@OY _ _ _ _ _ _ _ _ cZ auA
theorem auB(w:World){l:List aV}(jo:Sl cZ S0 w jl jk l)(n:aV)(hn:l.length<=100000) :
    bS prog 348 #[.slice jl l.length jk,.agg #[aF n.ID,aF n.lT,aF n.l6,aF n.gP]] w λv w'=>∃(A0:ah)(c0:Nat),v=.tuple #[.slice A0 (((oO l n).1).length) c0,aF ((oO l n).2)]/\Hp w S0 w' [aS cZ 78 A0 c0 ((oO l n).1)]:=by
 refine kP S0 func348 ntmps348 Y λH0=>?_;have EY:=jo.bH;have hf:=Tt l;have hlow:=D8 (fun(y:aV)=>bB y.ID n.ID) (iK l);refine rg<|bx Y Y H0 λg1 w1 K1=>iI Y<|bU Y<|bQ Y<|gX Y (Xl _ (K1.a jo).any aj) ?_
 rintro _ w2 ⟨oo,oq,rfl,h2⟩;have K2:=K1.f1 h2;have Xc:=(K2.o s0).bH;refine bU Y<|bQ Y<|jT g1 0 nk K2 s1 Y<|mU K2 Y (Tz _ (K2.o s0) n.ID (Qu l) aj) λw3 K3=>mv Y<|xt Y Y<|xt Y Y<|iI Y<|bU Y<|aW<|cB<|rg<|ev (dU wU Y Y (K3.x s1))<|mU K3 Y (aj6 (S0:=Any) _ n) λw4 K4=>ev (iB Y)<|mv Y<|iP 4 25 ((!(Ky n))||(!decide (n.gP=0))) ?_ ?_
 ·cases Vb:(!(Ky n)) with
  | true=>
   refine dN<|dN<|dN<|ev (dH Y Y)<|dM Y
  | false=>
   refine wL g1 3 zS K4 s1 Y<|bn Y (nQ Y Y) Y<|ev (dL Y Y)<|dM Y
 refine bU Y<|bK Y (λhc17=>?_) (λhc17=>?_)
 ·try simp only [fq,dX,bN,eH,eG,fP,bO,bV] at hc17
  refine rg<|iI Y<|bU Y<|Ox Y ?_
  have H1:=K4.nil cZ 78;have eO:Lr=((oO l n).1):=by unfold oO; rw [aO (by simpa using hc17)]
  have H2:=(eO▸H1:Hp w S0 w4 (aS cZ 78 none 0 ((oO l n).1)::[aS cZ 78 oo oq (iK l),dY g1 78 [aF n.ID,aF n.lT,aF n.l6,aF n.gP]]));have fQ:(1:Int)=((oO l n).2):=by unfold oO; rw [aO (by simpa using hc17)]
  exact⟨none,0,by rw [<- eO,<- fQ] <;> rfl,(H2.cU 1 2)⟩
 try simp only [fq,dX,bN,eH,eG,fP,bO,bV] at hc17
 refine bQ Y<|bU Y<|bK Y (λOi=>?_) (λOi=>?_)
 ·refine rg<|iI Y<|bU Y<|Ox Y ?_
  have H3:=K4.nil cZ 78;have jW:Lr=((oO l n).1):=by unfold oO; rw [aK (by simpa using hc17),aO Oi]
  have H4:=(jW▸H3:Hp w S0 w4 (aS cZ 78 none 0 ((oO l n).1)::[aS cZ 78 oo oq (iK l),dY g1 78 [aF n.ID,aF n.lT,aF n.l6,aF n.gP]]));have mH:(6:Int)=((oO l n).2):=by unfold oO; rw [aK (by simpa using hc17),aO Oi]
  exact⟨none,0,by rw [<- jW,<- mH] <;> rfl,(H4.cU 1 2)⟩
 refine xQ ?_;refine bQ Y<|mv Y<|ev (dU wU Y Y (K4.x s1))<|Az (τ:=cZ) (x:=n) Y (by intro _; apply acf) rfl K4 (λ_ _=>rfl) λg2 w5 K5=>gX rfl (ZW (i:=low (fun(y:aV)=>bB y.ID n.ID) (iK l)) K5 s1 s0 aj aj) ?_
 rintro _ w6 ⟨oL,oM,rfl,K6⟩;refine iI Y<|bU Y<|jc Y ?_
 have rR:(((iK l).take (low (fun(y:aV)=>bB y.ID n.ID) (iK l))++[n]++(iK l).drop (low (fun(y:aV)=>bB y.ID n.ID) (iK l))):List aV)=((oO l n).1):=by unfold oO; rw [aK (by simpa using hc17),aK (by rw [Oi]; decide)]
 rw [rR] at K6;have wM:(0:Int)=((oO l n).2):=by unfold oO; rw [aK (by simpa using hc17),aK (by rw [Oi]; decide)]
 exact⟨oL,oM,by rw [rR,<- wM] <;> rfl,(K6.rm s1)⟩
abbrev yR(iD:Int)(ji:List aV):=low (fun(y:aV)=>bB y.ID iD) (iK ji)
theorem aj7(w:World){l:List aV}(jo:Sl cZ S0 w jl jk l)(id:Int)(state:Int)(hn:l.length<=100000) :
    bS prog 351 #[.slice jl l.length jk,aF id,aF state] w λv w'=>∃(A0:ah)(c0:Nat),v=.tuple #[.slice A0 (((lS l id state).1).length) c0,aF ((lS l id state).2)]/\Hp w S0 w' [aS cZ 78 A0 c0 ((lS l id state).1)]:=by
 refine kP S0 func351 ntmps351 Y λH0=>?_;have EY:=jo.bH;have hf:=Tt l;have hlow:=D8 (fun(y:aV)=>bB y.ID id) (iK l);refine rg<|iI Y<|bU Y<|bQ Y<|gX Y (Xl _ (H0.a jo).any aj) ?_
 rintro _ w1 ⟨j6,kg,rfl,h1⟩;have K1:=H0.f1 h1;have Lj:=(K1.o s0).bH;refine bU Y<|bQ Y<|mv Y<|mU K1 Y (Tz _ (K1.o s0) id (Qu l) aj) λw2 K2=>mv Y<|xt Y Y<|xt Y Y<|iI Y<|bU Y<|aW<|cB<|bQ Y<|ev (iB Y)<|bU Y<|bK Y (λhc18=>?_) (λhc18=>?_)
 ·try simp only [fq,dX,bN,eH,eG,fP,bO,bV] at hc18
  refine rg<|iI Y<|bU Y<|Ox Y ?_
  have H1:=K2.nil cZ 78;have eO:Lr=((lS l id state).1):=by unfold lS; rw [aK (by simp_all)]
  have H2:=(eO▸H1:Hp w S0 w2 (aS cZ 78 none 0 ((lS l id state).1)::[aS cZ 78 j6 kg (iK l)]));have fQ:(5:Int)=((lS l id state).2):=by unfold lS; rw [aK (by simp_all)]
  exact⟨none,0,by rw [<- eO,<- fQ] <;> rfl,(H2.rm s1)⟩
 try simp only [fq,dX,bN,eH,eG,fP,bO,bV] at hc18
 have hc18:hits (fun(y:aV)=>bB y.ID id) (iK l)=true:=by simpa using hc18
 obtain⟨xb,hxb,hkb⟩:=qU (key:=aV.ID) hc18;have Xd:=aJ hxb;refine bQ Y<|mU K2 Y (En (S0:=Any) _ state 0 2) λw3 K3=>ev (iB Y)<|bU Y<|bK Y (λhc21=>?_) (λhc21=>?_)
 ·try simp only [fq,dX,bN,eH,eG,fP,bO,bV] at hc21
  refine rg<|iI Y<|bU Y<|Ox Y ?_
  have H3:=K3.nil cZ 78;have jW:Lr=((lS l id state).1):=by unfold lS; rw [aO hc18,aK (by simp_all)]
  have H4:=(jW▸H3:Hp w S0 w3 (aS cZ 78 none 0 ((lS l id state).1)::[aS cZ 78 j6 kg (iK l)]));have mH:(1:Int)=((lS l id state).2):=by unfold lS; rw [aO hc18,aK (by simp_all)]
  exact⟨none,0,by rw [<- jW,<- mH] <;> rfl,(H4.rm s1)⟩
 try simp only [fq,dX,bN,eH,eG,fP,bO,bV] at hc21
 refine aW<|bQ Y<|mv Y ?_
 obtain⟨x1,bP⟩:=bC (xs:=iK l) (i:=low (fun(y:aV)=>bB y.ID id) (iK l)) aj;refine ev (cu (i:=low (fun(y:aV)=>bB y.ID id) (iK l)) nW wT Y Y Y (aJ bP) ((K3.o s0).some_ bP))<|ev (dW zS Y (fH _ _ _))<|ev (iL jD Y ((K3.o s0).fF (j:=3) bP Y))<|ev (iA Y Y)<|bU Y<|bK Y (λhc25=>?_) (λhc25=>?_)
 ·replace hc25:=gW hc25;refine jm ?_;refine bK Y (λhc25=>?_) (λhc25=>?_)
  ·replace hc25:=gW hc25;refine rg<|iI Y<|bU Y<|Ox Y ?_
   have H5:=K3.nil cZ 78;have rR:Lr=((lS l id state).1):=by unfold lS; rw [aO hc18,aO hc21,qM hc18 bP,aO (by first | exact .inl hc25 | exact .inr hc25)]
   have H6:=(rR▸H5:Hp w S0 w3 (aS cZ 78 none 0 ((lS l id state).1)::[aS cZ 78 j6 kg (iK l)]));have wM:(8:Int)=((lS l id state).2):=by unfold lS; rw [aO hc18,aO hc21,qM hc18 bP,aO (by first | exact .inl hc25 | exact .inr hc25)]
   exact⟨none,0,by rw [<- rR,<- wM] <;> rfl,(H6.rm s1)⟩
  replace hc25:=iJ hc25;refine xQ ?_;refine bQ Y<|mv Y<|mv Y<|ev (cu (i:=low (fun(y:aV)=>bB y.ID id) (iK l)) nW wT Y Y Y (aJ bP) ((K3.o s0).some_ bP))<|ev (dW zS Y (fH _ _ _))<|se (i:=low (fun(y:aV)=>bB y.ID id) (iK l)) (f:=3) (x:=x1) (x':={ x1 with gP:=state }) (ds:=[aF state]) K3 s0 Y Y Y bP Y rZ (pU Y) Y (by rintro _ _ _ ⟨⟩; rfl) λw4 K4=>?_
  have hl1:((iK l).set (yR id l) ({ x1 with gP:=state })).length=(iK l).length:=gJ ..;refine fU (t:=0) (u:=.slice j6 ((iK l).length) kg) (v:=.slice j6 (((iK l).set (yR id l) ({ x1 with gP:=state })).length) kg) Y (by rw [hl1])<|fU (t:=11) (u:=.slice j6 ((iK l).length) kg) (v:=.slice j6 (((iK l).set (yR id l) ({ x1 with gP:=state })).length) kg) rfl (by rw [hl1])<|fU (t:=13) (u:=.slice j6 ((iK l).length) kg) (v:=.slice j6 (((iK l).set (yR id l) ({ x1 with gP:=state })).length) kg) rfl (by rw [hl1])<|fU (t:=26) (u:=.slice j6 ((iK l).length) kg) (v:=.slice j6 (((iK l).set (yR id l) ({ x1 with gP:=state })).length) kg) rfl (by rw [hl1])<|fU (t:=42) (u:=.slice j6 ((iK l).length) kg) (v:=.slice j6 (((iK l).set (yR id l) ({ x1 with gP:=state })).length) kg) rfl (by rw [hl1])<|dn<|bQ rfl<|iI rfl<|bU rfl<|jc rfl ?_
  have zk:(((iK l).set (yR id l) ({ x1 with gP:=state })):List aV)=((lS l id state).1):=by exact absurd ‹x1.gP=2› hc25
  rw [zk] at K4;have hq8:(0:Int)=((lS l id state).2):=by exact absurd ‹x1.gP=2› hc25
  exact⟨j6,kg,by rw [zk,<- hq8] <;> rfl,K4⟩
 replace hc25:=iJ hc25;refine jy<|mv Y<|mv Y<|ev (cu (i:=low (fun(y:aV)=>bB y.ID id) (iK l)) nW wT Y Y Y (aJ bP) ((K3.o s0).some_ bP))<|ev (dW zS Y (fH _ _ _))<|ev (iL jD Y ((K3.o s0).fF (j:=3) bP Y))<|ev (iA Y Y)<|mv Y<|iP 3 41 ((decide (x1.gP=0))&&(decide (state=2))) ?_ ?_
 ·cases ayE:decide (x1.gP=0) with
  | true=>
   refine bn Y (bf Y) Y<|bn Y (iA Y Y) Y<|ev (dH Y Y)<|dM Y
  | false=>
   refine dN<|dN<|ev (dL Y Y)<|dM Y
 refine iI Y<|jA<|gG<|bK Y (λhc25=>?_) (λhc25=>?_)
 ·try simp only [bN,eH,bO,bV] at hc25
  refine rg<|iI Y<|bU Y<|Ox Y ?_
  have H7:=K3.nil cZ 78;have AJ:Lr=((lS l id state).1):=by unfold lS; rw [aO hc18,aO hc21,qM hc18 bP,aO (by first | exact .inl hc25 | exact .inr hc25)]
  have H8:=(AJ▸H7:Hp w S0 w3 (aS cZ 78 none 0 ((lS l id state).1)::[aS cZ 78 j6 kg (iK l)]));have r9:(8:Int)=((lS l id state).2):=by unfold lS; rw [aO hc18,aO hc21,qM hc18 bP,aO (by first | exact .inl hc25 | exact .inr hc25)]
  exact⟨none,0,by rw [<- AJ,<- r9] <;> rfl,(H8.rm s1)⟩
 try simp only [bN,eH,bO,bV] at hc25
 refine xQ ?_;refine bQ Y<|mv Y<|mv Y<|ev (cu (i:=low (fun(y:aV)=>bB y.ID id) (iK l)) nW wT Y Y Y (aJ bP) ((K3.o s0).some_ bP))<|ev (dW zS Y (fH _ _ _))<|se (i:=low (fun(y:aV)=>bB y.ID id) (iK l)) (f:=3) (x:=x1) (x':={ x1 with gP:=state }) (ds:=[aF state]) K3 s0 Y Y Y bP Y rZ (pU Y) Y (by rintro _ _ _ ⟨⟩; rfl) λw5 K5=>?_
 have hl2:((iK l).set (yR id l) ({ x1 with gP:=state })).length=(iK l).length:=gJ ..;refine fU (t:=0) (u:=.slice j6 ((iK l).length) kg) (v:=.slice j6 (((iK l).set (yR id l) ({ x1 with gP:=state })).length) kg) Y (by rw [hl2])<|fU (t:=11) (u:=.slice j6 ((iK l).length) kg) (v:=.slice j6 (((iK l).set (yR id l) ({ x1 with gP:=state })).length) kg) rfl (by rw [hl2])<|fU (t:=13) (u:=.slice j6 ((iK l).length) kg) (v:=.slice j6 (((iK l).set (yR id l) ({ x1 with gP:=state })).length) kg) rfl (by rw [hl2])<|fU (t:=26) (u:=.slice j6 ((iK l).length) kg) (v:=.slice j6 (((iK l).set (yR id l) ({ x1 with gP:=state })).length) kg) rfl (by rw [hl2])<|fU (t:=32) (u:=.slice j6 ((iK l).length) kg) (v:=.slice j6 (((iK l).set (yR id l) ({ x1 with gP:=state })).length) kg) rfl (by rw [hl2])<|fU (t:=42) (u:=.slice j6 ((iK l).length) kg) (v:=.slice j6 (((iK l).set (yR id l) ({ x1 with gP:=state })).length) kg) rfl (by rw [hl2])<|dn<|bQ rfl<|iI rfl<|bU rfl<|jc rfl ?_
 have hq11:(((iK l).set (yR id l) ({ x1 with gP:=state })):List aV)=((lS l id state).1):=by unfold lS; rw [aO hc18,aO hc21,qM hc18 bP,aK (by rintro(h | h); contradiction; exact hc25 h.1 h.2)]
 rw [hq11] at K5;have hq12:(0:Int)=((lS l id state).2):=by unfold lS; rw [aO hc18,aO hc21,qM hc18 bP,aK (by rintro(h | h); contradiction; exact hc25 h.1 h.2)]
 exact⟨j6,kg,by rw [hq11,<- hq12] <;> rfl,K5⟩
end Go.Proofs.YtlhnnmlenkahlaaGreat
