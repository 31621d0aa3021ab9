/- Lemmas. -/
import Derived.Test.YtlhnnmlenkahlaaGreathG3
set_option maxRecDepth 4000
set_option linter.all false
namespace Go.Proofs.YtlhnnmlenkahlaaGreat
open Go.RowKit Go.Proofs.Tryz
def Gl:=@List.find?_eq_none
def KX:=@List.find?_append
def Gm:=@List.filter_eq_self
def Oo:=@underlying154
def abM:=@underlying291
section
variable {S0:Nat->Prop}{jU wT:ah}{jR:Nat}
structure aR where
  ID:Int
  mI:Int
  lD:Int
  gq:Int
  deriving DecidableEq
def aR.enc(x:aR):List Value:=[.int .i64 x.ID,.int .i64 x.mI,.int .i64 x.lD,.int .i64 x.gq]
theorem aR.mD(x:aR):∀ u∈x.enc,u.oneCell'=true:=by
  intro u hu
  simp only [aR.enc,iR,mP,tq] at hu
  rcases hu with rfl | rfl | rfl | rfl <;> rfl
def bW:Ty aR:=Ty.flat 4 aR.enc au (λ_=>rfl) aR.mD
instance:Flat bW:=⟨λh=>h⟩
def J9(n:aR):Bool:=(((decide (1<=n.ID)&&decide (n.ID<=16))&&(decide (1<=n.mI)&&decide (n.mI<=8)))&&(decide (1<=n.lD)&&decide (n.lD<=16)))&&(decide (0<=n.gq)&&decide (n.gq<=2))
def CF:Int->List aR->Bool
  | _,[]=>true
  | z,n::l=>!(!J9 n||decide (n.ID<=z))&&CF n.ID l
def sj(l:List aR):Bool:=CF 0 l
def iy(l:List aR):List aR:=if sj l then l else[]
theorem Xr{z:Int}{l:List aR}{k:Nat}{x:aR}(hx:l[k]? = some x):CF z (l.drop k)=(!(!J9 x||decide (x.ID<=z))&&CF x.ID (l.drop (k+1))):=by
  rw [BA (aM hx),(sN.1 hx).2]; rfl
theorem PS:∀(l:List aR)(z:Int),CF z l=true->∀ n∈l,z<n.ID/\J9 n=true
  | [],_,_,n,hn=>by simp at hn
  | m::l,z,h,n,hn=>by
    simp only [CF,bK,dZ,dO,fI,bV] at h
    rcases iR.1 hn with rfl | hn
    · exact⟨aj,h.1.1⟩
    · have:=PS l _ h.2 n hn; exact⟨aj,this.2⟩
theorem Ey:∀(l:List aR)(z:Int),CF z l=true->Up aR.ID l
  | [],_,_=>List.Pairwise.nil
  | m::l,z,h=>by
    simp only [CF,bK,dZ,dO,fI,bV] at h
    exact nW.2 ⟨λx hx=>(PS l _ h.2 x hx).1,Ey l _ h.2⟩
theorem SG(l:List aR):(iy l).length<=l.length:=by unfold iy; split <;> simp
theorem al5(l:List aR):sj (iy l)=true:=by
  unfold iy; split
  · assumption
  · rfl
theorem PU(l:List aR):Up aR.ID (iy l):=Ey _ 0 (al5 l)
theorem wE{l:List aR}(h:sj l=true):iy l=l:=by unfold iy; rw [aS h]
theorem aao{l:List aR}(h:sj l=false):iy l=[]:=by unfold iy; rw [h]; rfl
def gX(l:List aR)(id:Int):aR:=match (iy l)[low (fun(y:aR)=>bL y.ID id) (iy l)]? with | some c=>if c.ID=id then c else⟨0,0,0,0⟩ | none=>⟨0,0,0,0⟩
def kg(l:List aR)(id:Int):Bool:=hits (fun(y:aR)=>bL y.ID id) (iy l)
theorem al6{l:List aR}{id:Int}(h:hits (fun(y:aR)=>bL y.ID id) (iy l)=false):gX l id=⟨0,0,0,0⟩:=by
  unfold gX; split
  · rename_i c hc
    rw [aP];intro e;have:=(sU (PU l) id).2 ⟨c,bZ hc,e⟩;rw [h] at this; cases this
  · rfl
theorem qG{l:List aR}{id:Int}{c:aR}(h:hits (fun(y:aR)=>bL y.ID id) (iy l)=true)(hc:(iy l)[low (fun(y:aR)=>bL y.ID id) (iy l)]? = some c):gX l id=c:=by
  unfold gX; rw [hc];obtain⟨x,hx,hk⟩:=qh h;rw [hc] at hx; cases hx;exact aS hk
def oM(l:List aR)(n:aR):List aR × Int:=if J9 n=false∨n.gq≠0 then([],1) else if hits (fun(y:aR)=>bL y.ID n.ID) (iy l)=true then([],6) else((iy l).take (low (fun(y:aR)=>bL y.ID n.ID) (iy l))++[n]++(iy l).drop (low (fun(y:aR)=>bL y.ID n.ID) (iy l)),0)
def lV(l:List aR)(id state:Int):List aR × Int:=if hits (fun(y:aR)=>bL y.ID id) (iy l)=true then
    (if 0<=state/\state<=2 then(if(gX l id).gq=2∨(gX l id).gq=0/\state=2 then([],8) else((iy l).set (low (fun(y:aR)=>bL y.ID id) (iy l)) { gX l id with gq:=state },0)) else([],1)) else([],5)
theorem mF:dL prog 78 0 0:=ay
theorem ahX:bJ prog 369:=ay
theorem PV:dL prog 78 1 1:=ay
theorem MW:dL prog 78 2 2:=ay
theorem yE:dL prog 78 3 3:=ay
theorem tC:Size prog 78 4:=ay
theorem xu:Z9 prog 78 4:=⟨λ_=>by kernel_rfl,tC⟩
theorem sM:∀ w,(zeroValue 78).run prog w=.ok (.agg #[aI 0,aI 0,aI 0,aI 0]) w:=ay
theorem ao0  : ∀ w,(Instr.buildSlice 41 0 (List.toArray [])).run prog w=.ok (.slice (some ⟨w.heap.size,0,none⟩) 0 0) (w.alloc (.cells (List.toArray []) 78)):=ay
theorem aw7:lY prog 78 4 32:=by
  obtain⟨i,h1,h2,h3,h4⟩:=uJ (show(prog.info? 78).map (λi=>(i.zero,i.size,i.bytes))=some (some (.agg #[aI 0,aI 0,aI 0,aI 0]),4,32) by kernel_rfl);exact⟨i,_,h1,h2,h3,h4,Y⟩
theorem ayB:bJ prog 326:=ay
theorem ayC  : prog.built 78 []=some #[aI 0,aI 0,aI 0,aI 0]:=ak
theorem aw8:wz prog 78 4 32:=by
  obtain⟨i,h1,h2,h3,h4⟩:=uJ (show(prog.info? 78).map (λi=>(i.zero,i.size,i.bytes))=some (some (.agg #[aI 0,aI 0,aI 0,aI 0]),4,32) by kernel_rfl);exact⟨i,_,h1,h2,h3,h4,Y,λv hv=>ng.1 (show(Value.cells (.agg #[aI 0,aI 0,aI 0,aI 0])).toList.all (λv=>v.oneCell')=true from Y) v hv⟩
theorem abN(a0:Int)(a1:Int)(a2:Int)(a3:Int):∀ w,(Instr.buildSlice 41 1 (List.toArray [(0,.agg #[aI a0,aI a1,aI a2,aI a3])])).run prog w=.ok (.slice (some ⟨w.heap.size,0,none⟩) 1 1) (w.alloc (.cells (List.toArray [aI a0,aI a1,aI a2,aI a3]) 78)):=ay
theorem Ez(w:World)(n:Int)(Dy:Int)(most:Int) :
    bO prog 369 #[aI n,aI Dy,aI most] w λv w'=>v=.bool (decide (Dy<=n)&&decide (n<=most))/\Hp w S0 w' []:=by
 refine lg S0 func369 ntmps369 Y λH0=>iT Y<|bQ Y<|mv Y<|ev (qD Y Y)<|mv Y<|iO 4 14 ((decide (Dy<=n))&&(decide (n<=most))) ?_ ?_
 ·cases aCn:decide (Dy<=n) with
  | true=>
   refine bE Y (bq Y) Y<|bE Y (bq Y) Y<|bE Y (u7 Y Y) Y<|ev (dM Y Y)<|dJ Y
  | false=>
   refine dN<|dN<|dN<|ev (dS Y Y)<|dJ Y
 refine bX Y<|iP Y ?_
 have fT:(((decide (Dy<=n))&&(decide (n<=most))):Bool)=(decide (Dy<=n)&&decide (n<=most)):=by first | with_reducible rfl | (simp; done) | omega
 exact⟨by rw [fT] <;> rfl,H0⟩
theorem ajF(w:World)(n:aR) :
    bO prog 272 #[.agg #[aI n.ID,aI n.mI,aI n.lD,aI n.gq]] w λv w'=>v=.bool (J9 n)/\Hp w S0 w' []:=by
 refine lg S0 func272 ntmps272 Y λH0=>rg<|bx Y Y H0 λg1 w1 K1=>bX Y<|rg<|j6 g1 0 mF K1 s0 Y<|nD K1 Y (Ez (S0:=Any) _ n.ID 1 16) λw2 K2=>mv Y<|pF 4 10 ((decide (1<=n.ID)&&decide (n.ID<=16))&&(decide (1<=n.mI)&&decide (n.mI<=8))) ?_ ?_
 ·cases hb6:(decide (1<=n.ID)&&decide (n.ID<=16)) with
  | true=>
   have aH3:=hb6
   try simp only [bK,eu,bM,bV] at aH3
   refine wB g1 1 PV K2 s0 Y<|oD Y Y Y Y ahX (Ez (S0:=Any) _ n.mI 1 8) Y ?_
   rintro _ w3 ⟨rfl,h3⟩;refine ev (dM Y Y)<|jo Y h3.ext
  | false=>
   refine dN<|dN<|dN<|ev (dS Y Y)<|jo Y (pW _)
 intro w4 e4;have K4:=K2.grow e4;refine mv Y<|pF 4 15 (((decide (1<=n.ID)&&decide (n.ID<=16))&&(decide (1<=n.mI)&&decide (n.mI<=8)))&&(decide (1<=n.lD)&&decide (n.lD<=16))) ?_ ?_
 ·cases SH:((decide (1<=n.ID)&&decide (n.ID<=16))&&(decide (1<=n.mI)&&decide (n.mI<=8))) with
  | true=>
   have KY:=SH
   try simp only [bK,eu,bM,bV] at KY
   refine wB g1 2 MW K4 s0 Y<|oD Y Y Y Y ahX (Ez (S0:=Any) _ n.lD 1 16) Y ?_
   rintro _ w5 ⟨rfl,h5⟩;refine ev (dM Y Y)<|jo Y h5.ext
  | false=>
   refine dN<|dN<|dN<|ev (dS Y Y)<|jo Y (pW _)
 intro w6 e6;have K6:=K4.grow e6;refine mv Y<|pF 4 20 ((((decide (1<=n.ID)&&decide (n.ID<=16))&&(decide (1<=n.mI)&&decide (n.mI<=8)))&&(decide (1<=n.lD)&&decide (n.lD<=16)))&&(decide (0<=n.gq)&&decide (n.gq<=2))) ?_ ?_
 ·cases Vd:(((decide (1<=n.ID)&&decide (n.ID<=16))&&(decide (1<=n.mI)&&decide (n.mI<=8)))&&(decide (1<=n.lD)&&decide (n.lD<=16))) with
  | true=>
   have PW:=Vd
   try simp only [bK,eu,bM,bV] at PW
   refine wB g1 3 yE K6 s0 Y<|oD Y Y Y Y ahX (Ez (S0:=Any) _ n.gq 0 2) Y ?_
   rintro _ w7 ⟨rfl,h7⟩;refine ev (dM Y Y)<|jo Y h7.ext
  | false=>
   refine dN<|dN<|dN<|ev (dS Y Y)<|jo Y (pW _)
 intro w8 e8;have K8:=K6.grow e8;refine bX Y<|iP Y ?_
 have fT:(((((decide (1<=n.ID)&&decide (n.ID<=16))&&(decide (1<=n.mI)&&decide (n.mI<=8)))&&(decide (1<=n.lD)&&decide (n.lD<=16)))&&(decide (0<=n.gq)&&decide (n.gq<=2))):Bool)=(J9 n):=by rfl
 exact⟨by rw [fT] <;> rfl,(K8.rm s0)⟩
theorem Vn(w:World){l:List aR}(jE:Sl bW S0 w jU jR l) :
    bO prog 177 #[.slice jU l.length jR] w λv w'=>v=.bool (sj l)/\Hp w S0 w' []:=by
 refine lg S0 func177 ntmps177 Y λH0=>?_;have GJ:=jE.bC;refine iT Y<|iT Y<|aY<|bQ Y<|ev (eX lq Y)<|mv Y<|dn<|cB<|Lp H0 (λl0 rk mJ lJ wJ=>∃(k:Nat)(z:Int),lJ=(3,aI z)::(8,aI ((k:Nat):Int))::l0/\mJ=l.length - k/\k<=l.length/\(CF 0 l=CF z (l.drop k))/\Hp w S0 wJ rk) ⟨0,0,Y,Y,fE _,av,H0⟩ rfl ?_
 rintro _ _ w1 ⟨k,z,rfl,rfl,hk,hz,K1⟩;refine rg<|ev (fD Y Y)<|dn<|pG Y (λFg=>?_) (λFg=>?_)
 ·refine jy ?_;refine aY<|cB<|rg ?_
  obtain⟨x1,bN⟩:=bn (xs:=l) (i:=k) aj;refine ev (eP lq tC Y Y Y (aM bN) ((K1.a jE).some_ bN))<|ev (iU xu Y Y ((K1.a jE).fF bN))<|al sM Y K1 λg1 w2 K2=>sty Y K2 s0 Y λw3 K3=>dn<|aY<|rg<|ev (fK xu Y Y (K3.x s0))<|nD K3 Y (ajF (S0:=Any) _ x1) λw4 K4=>ev (iG Y)<|mv Y<|iO 5 20 ((!(J9 x1))||(decide (x1.ID<=z))) ?_ ?_
  ·cases U7:(!(J9 x1)) with
   | true=>
    refine dN<|dN<|dN<|dN<|ev (dM Y Y)<|dJ Y
   | false=>
    refine wB g1 0 mF K4 s0 Y<|bE Y (bq Y) Y<|bE Y (u7 Y Y) Y<|ev (dS Y Y)<|dJ Y
  refine dn<|bP Y (λlW=>?_) (λlW=>?_)
  ·refine iT Y<|jf (fO (iX (fO (fO (iX (fO (xV Y ?_)))))))
   have fT:(false:Bool)=(sj l):=by symm; unfold sj; rw [hz,Xr bN,lW]; rfl
   exact⟨by rw [<- fT] <;> rfl,(K4.rm s0)⟩
  refine jy ?_;refine jC<|j6 g1 0 mF K4 s0 Y<|jk Y<|jD<|iw (gy ?_)
  refine jC<|ev (dP Y Y)<|mv Y<|jD<|dG ⟨(k+1),x1.ID,Y,Y,aj,by rw [hz,Xr bN,lW]; rfl,(K4.rm s0)⟩ rfl aj
 refine xq ?_;refine iT Y<|iP Y ?_
 have gu:(true:Bool)=(sj l):=by symm; unfold sj; rw [hz,Gf aj]; rfl
 exact⟨by rw [<- gu] <;> rfl,K1⟩
abbrev La:=(([]:List aR):List aR)
theorem nE(w:World){vF:Nat}{s:List aR}(nA:Sl bW S0 w wT vF s)(hn:s.length<=1000000) :
    bO prog 57 #[.slice wT s.length vF] w λv w'=>∃(A0:ah)(c0:Nat),v=.slice A0 s.length c0/\Hp w S0 w' [aQ bW 78 A0 c0 s]:=by
 refine lg S0 func57 ntmps57 Y λH0=>iT Y<|aY<|bQ Y<|ev (NW lq Y Y)<|dn<|bP Y (λhc4=>?_) (λhc4=>?_)
 ·refine iT Y<|wO Y ?_
  have H1:=H0.nil bW 78;have fT:La=s:=by have h1:=nA.nil (by simpa using hc4); have h2:=nA.cap; exact(qF aj).symm
  have H2:=(fT▸H1:Hp w S0 w (aQ bW 78 none 0 s::[]));exact⟨none,0,by rw [<- fT] <;> rfl,H2⟩
 refine jy ?_;refine rg<|bs0 Y (by intro _; apply ao0) rfl H0 λg1 w1 K1=>mv rfl<|ap K1 s0 rfl rfl (K1.a nA).any lq aw7 av (by first | omega | (simp; omega) | (simp; done)) rfl λpU pV w2 K2=>bX rfl<|iP rfl ?_
 have gu:((([]:List aR)++s):List aR)=s:=by simp
 rw [gu] at K2;exact⟨pU,pV,by rw [gu] <;> rfl,K2⟩
theorem Xt(w:World){l:List aR}(jE:Sl bW S0 w jU jR l)(hn:l.length<=100000) :
    bO prog 231 #[.slice jU l.length jR] w λv w'=>∃(A0:ah)(c0:Nat),v=.slice A0 ((iy l).length) c0/\Hp w S0 w' [aQ bW 78 A0 c0 (iy l)]:=by
 refine lg S0 func231 ntmps231 Y λH0=>iT Y<|aY<|bQ Y<|nD H0 Y (Vn _ (H0.a jE).any) λw1 K1=>ev (iG Y)<|dn<|bP Y (λhc5=>?_) (λhc5=>?_)
 ·try simp only [eT,dO,bK,eu,dZ,fI,bM,bV] at hc5
  refine iT Y<|wO Y ?_
  have H1:=K1.nil bW 78;have fT:La=(iy l):=by exact(aao hc5).symm
  have H2:=(fT▸H1:Hp w S0 w1 (aQ bW 78 none 0 (iy l)::[]));exact⟨none,0,by rw [<- fT] <;> rfl,H2⟩
 try simp only [eT,dO,bK,eu,dZ,fI,bM,bV] at hc5
 refine jy ?_;refine bQ Y<|gU Y (nE _ (K1.a jE).any aj) ?_
 rintro _ w2 ⟨pI,pJ,rfl,h2⟩;have K2:=K1.f1 h2;refine bX Y<|iP Y ?_
 have gu:(l:List aR)=(iy l):=by exact(wE hc5).symm
 have H3:=(gu▸K2:Hp w S0 w2 [aQ bW 78 pI pJ (iy l)]);exact⟨pI,pJ,by rw [<- gu] <;> rfl,H3⟩
theorem Xu(w:World){vF:Nat}{s:List aR}(nA:Sl bW S0 w wT vF s)(target:Int){BF:FuncId}{Fz:List Value}(NH:bJ prog BF)(f:aR->Int->Int)(NI:∀(w':World)(x:aR)(t:Int),Ext w w'->True->bO prog BF (([.agg #[aI x.ID,aI x.mI,aI x.lD,aI x.gq],aI t]:List Value)++Fz).toArray w' λv w''=>v=aI (f x t)/\Ext w' w'')(hm:abr (fun(y:aR)=>f y target) s)(hn:s.length<=1000000) :
    bO prog 325 #[.slice wT s.length vF,aI target,.func (.func BF) #[] Fz.toArray] w λv w'=>v=.tuple #[aI ((low (fun(y:aR)=>f y target) s:Nat):Int),.bool (hits (fun(y:aR)=>f y target) s)]/\Hp w S0 w' []:=by
 refine lg S0 func325 ntmps325 Y λH0=>?_;have Sv:=nA.bC;refine rg<|jk Y<|bX Y<|bQ Y<|ev (eX lq Y)<|bX Y<|bQ Y<|jk Y<|bX Y<|aY<|cB<|Lp H0 (λl0 rk mJ lJ wJ=>∃(i j:Nat),lJ=(9,aI ((i:Nat):Int))::(10,aI ((j:Nat):Int))::l0/\mJ=j - i/\(i<=j/\j<=s.length)/\(∀(a:Nat)(y:aR),a<i->s[a]? = some y->f y target<0)/\(∀(a:Nat)(y:aR),j<=a->s[a]? = some y->¬ f y target<0)/\Hp w S0 wJ rk) ⟨0,s.length,Y,Y,by exact⟨fE _,kJ _⟩,by intro a y ha; omega,by intro a y ha hy; have:=aM hy; omega,H0⟩ rfl ?_
 rintro _ _ w1 ⟨i,j,rfl,rfl,hij,hlo,hhi,K1⟩;refine aY<|bQ Y<|mv Y<|ev (fD Y Y)<|dn<|mZ Y (λhc17=>?_) (λhc17=>?_)
 ·refine jy ?_;refine cB<|bQ Y<|mv Y<|ev (dP Y Y)<|ev (Ep (m:=i+j) uL.1 uL.2.1 uL.2.2 Y (zT aj))<|ev (Ev.aox (m:=i+j) Y Y)<|ev (Ep (m:=((i+j) / 2)) uM.1 uM.2.1 uM.2.2 Y (wQ aj))<|bX Y<|bQ Y<|mv Y<|mv Y ?_
  obtain⟨x1,bN⟩:=bn (xs:=s) (i:=((i+j) / 2)) aj;refine ev (eP (i:=((i+j) / 2)) lq tC Y Y Y (aM bN) ((K1.a nA).some_ bN))<|ev (iU xu Y Y ((K1.a nA).fF bN))<|mv Y<|zq Y Y Y NH (NI _ x1 target K1.ext trivial) Y ?_
  rintro _ w2 ⟨rfl,e2⟩;have K2:=K1.grow e2;refine ev (fD Y Y)<|dn<|mZ Y (λhc31=>?_) (λhc31=>?_)
  ·refine jC<|mv Y<|ev (dP Y Y)<|jk Y<|jD<|iw<|dG ⟨(((i+j) / 2)+1),j,Y,Y,aj,by first | exact hlo | exact λa y ha hy=>hm a _ y x1 aj hy bN hc31,by first | exact hhi | exact λa y ha hy hlt=>hc31 (hm _ a x1 y aj bN hy hlt),K2⟩ rfl aj
  refine jC<|mv Y<|jk Y<|jD<|iw<|dG ⟨i,((i+j) / 2),Y,Y,aj,by first | exact hlo | exact λa y ha hy=>hm a _ y x1 aj hy bN hc31,by first | exact hhi | exact λa y ha hy hlt=>hc31 (hm _ a x1 y aj bN hy hlt),K2⟩ rfl aj
 refine xq ?_;refine bQ Y<|mv Y<|mv Y<|ev (fD Y Y)<|mv Y<|pF 9 48 (hits (λy=>f y target) s) ?_ ?_
 ·cases Xl:decide (((i:Nat):Int)<((s.length:Nat):Int)) with
  | true=>
   have aoQ:=iY Xl;refine bE Y (bq Y) Y<|bE Y (bq Y) Y<|bE Y (bq Y) Y ?_
   obtain⟨x2,lN⟩:=bn (xs:=s) (i:=i) aj;refine bE Y (eP (i:=i) lq tC Y Y Y (aM lN) ((K1.a nA).some_ lN)) Y<|bE Y (iU xu Y Y ((K1.a nA).fF lN)) Y<|bE Y (bq Y) Y<|oD Y Y Y Y NH (NI _ x2 target K1.ext trivial) Y ?_
   rintro _ w3 ⟨rfl,e3⟩;refine bE Y (iM Y Y) Y<|ev (dM Y Y)<|gJ (t:=48) (u:=.bool (decide (f x2 target=0))) (v:=.bool (hits (λy=>f y target) s)) Y (aV Value.bool (by have hl:=xB (g:=λy=>f y target) (s:=s) (i:=i) aj hlo (λa y ha=>hhi a y aj); unfold hits; rw [hl,lN]))<|jo rfl e3
  | false=>
   refine dN<|dN<|dN<|dN<|dN<|dN<|dN<|dN<|ev (dS Y Y)<|gJ (t:=48) (u:=.bool false) (v:=.bool (hits (λy=>f y target) s)) Y (aV Value.bool (by have hl:=xB (g:=λy=>f y target) (s:=s) (i:=i) aj hlo (λa y ha=>hhi a y aj); unfold hits; rw [hl,Oj (by have:=jS Xl; omega)])) ?_
   exact jo Y (pW _)
 intro w4 e4;have K4:=K1.grow e4;refine jk Y<|bX Y<|iP Y ?_
 have fT:(i:Nat)=(low (fun(y:aR)=>f y target) s):=by exact(xB (g:=λy=>f y target) aj hlo (λa y ha=>hhi a y aj)).symm
 have gu:(hits (λy=>f y target) s:Bool)=(hits (fun(y:aR)=>f y target) s):=by rfl
 exact⟨by rw [gu,<- fT] <;> rfl,K4⟩
theorem ahY(w:World)(n:aR)(id:Int) :
    bO prog 326 #[.agg #[aI n.ID,aI n.mI,aI n.lD,aI n.gq],aI id] w λv w'=>v=aI (bL n.ID id)/\Hp w S0 w' []:=by
 refine lg S0 func326 ntmps326 Y λH0=>rg<|bx Y Y H0 λg1 w1 K1=>bX Y<|rg<|j6 g1 0 mF K1 s0 Y<|mv Y<|nD K1 Y (nZ (S0:=Any) _ n.ID id) λw2 K2=>bX Y<|iP Y ?_
 exact⟨Y,(K2.rm s0)⟩
theorem SI(w:World){l:List aR}(jE:Sl bW S0 w jU jR l)(id:Int)(hu:Up aR.ID l)(hn:l.length<=1000000) :
    bO prog 232 #[.slice jU l.length jR,aI id] w λv w'=>v=.tuple #[aI ((low (fun(y:aR)=>bL y.ID id) l:Nat):Int),.bool (hits (fun(y:aR)=>bL y.ID id) l)]/\Hp w S0 w' []:=by
 refine lg S0 func232 ntmps232 Y λH0=>rg<|jk Y<|bX Y<|bQ Y<|mv Y<|nD H0 Y (Xu _ (H0.a jE).any id ayB (fun(x:aR) (t:Int)=>bL x.ID t) (λw' x t e hm=>(ahY (S0:=Any) w' x t).mono (by rintro _ _ ⟨rfl,gu⟩; exact⟨rfl,gu.ext⟩)) (hu.mono id) aj) λw1 K1=>xt rfl rfl<|xt rfl rfl<|jk rfl<|bX rfl<|iP rfl ?_
 exact⟨Y,K1⟩
theorem EA(w:World){l:List aR}(jE:Sl bW S0 w jU jR l)(id:Int)(hn:l.length<=100000) :
    bO prog 151 #[.slice jU l.length jR,aI id] w λv w'=>v=.tuple #[.agg #[aI ((gX l id).ID),aI ((gX l id).mI),aI ((gX l id).lD),aI ((gX l id).gq)],.bool (kg l id)]/\Hp w S0 w' []:=by
 refine lg S0 func151 ntmps151 Y λH0=>?_;have GJ:=jE.bC;have hf:=SG l;have hlow:=F9 (fun(y:aR)=>bL y.ID id) (iy l);refine rg<|al sM Y H0 λg1 w1 K1=>bX Y<|bQ Y<|gU Y (Xt _ (K1.a jE).any aj) ?_
 rintro _ w2 ⟨pI,pJ,rfl,h2⟩;have K2:=K1.f1 h2;have UA:=(K2.o s0).bC;refine bX Y<|bQ Y<|mv Y<|nD K2 Y (SI _ (K2.o s0) id (PU l) aj) λw3 K3=>mv Y<|xt Y Y<|xt Y Y<|jk Y<|bX Y<|aY<|bQ Y<|ev (iG Y)<|dn<|bP Y (λhc17=>?_) (λhc17=>?_)
 ·try simp only [eT,dO,bK,eu,dZ,fI,bM,bV] at hc17
  refine rg<|ev (jX Y (by apply ayC))<|sty rfl K3 s1 rfl λw4 K4=>bX rfl<|jf (fO (sW rfl ⟨_,_,rfl,⟨_,rfl,kK xu rfl (K4.x s0)⟩,⟨_,_,rfl,rfl,rfl⟩⟩ ?_))
  have fT:((⟨0,0,0,0⟩:aR):aR)=(gX l id):=by exact(al6 hc17).symm
  have gu:(0:Int)=(gX l id).ID:=by rw [<- fT]
  have kC:(0:Int)=(gX l id).mI:=by rw [<- fT]
  have nC:(0:Int)=(gX l id).lD:=by rw [<- fT]
  have rV:(0:Int)=(gX l id).gq:=by rw [<- fT]
  have xW:(false:Bool)=(kg l id):=by unfold kg; rw [hc17]
  exact⟨by rw [<- gu,<- kC,<- nC,<- rV,<- xW] <;> rfl,K4.z⟩
 try simp only [eT,dO,bK,eu,dZ,fI,bM,bV] at hc17
 have hc17:hits (fun(y:aR)=>bL y.ID id) (iy l)=true:=by simpa using hc17
 obtain⟨xb,hxb,hkb⟩:=qh hc17;have abH:=aM hxb;refine jy ?_;refine bQ Y<|mv Y ?_
 obtain⟨x1,bN⟩:=bn (xs:=iy l) (i:=low (fun(y:aR)=>bL y.ID id) (iy l)) aj;refine ev (eP (i:=low (fun(y:aR)=>bL y.ID id) (iy l)) lq tC Y Y Y (aM bN) ((K3.o s0).some_ bN))<|ev (iU xu Y Y ((K3.o s0).fF bN))<|sty Y K3 s1 Y λw5 K5=>bX Y<|jf (sW Y ⟨_,_,Y,⟨_,Y,kK (cs:=[aI x1.ID,aI x1.mI,aI x1.lD,aI x1.gq]) xu Y (K5.x s0)⟩,⟨_,_,Y,Y,Y⟩⟩ ?_)
 have zX:(x1:aR)=(gX l id):=by exact(qG hc17 bN).symm
 have hq8:(x1.ID:Int)=(gX l id).ID:=by rw [<- zX]
 have zG:(x1.mI:Int)=(gX l id).mI:=by rw [<- zX]
 have vg:(x1.lD:Int)=(gX l id).lD:=by rw [<- zX]
 have hq11:(x1.gq:Int)=(gX l id).gq:=by rw [<- zX]
 exact⟨by unfold kg; rw [hq8,zG,vg,hq11,hc17] <;> rfl,K5.z⟩
theorem auz:aeI 415 439 440 41 78 4 32 Tryz.f415.name:=⟨func415.trans (aV some ak),⟨_,func439,ak,ak,ak,ak⟩,lq,iJ,tC,ak,aw7,aw8⟩
def Zz:=@SC _ _ _ _ _ _ _ _ bW auz
theorem auA(w:World){l:List aR}(jE:Sl bW S0 w jU jR l)(n:aR)(hn:l.length<=100000) :
    bO prog 348 #[.slice jU l.length jR,.agg #[aI n.ID,aI n.mI,aI n.lD,aI n.gq]] w λv w'=>∃(A0:ah)(c0:Nat),v=.tuple #[.slice A0 (((oM l n).1).length) c0,aI ((oM l n).2)]/\Hp w S0 w' [aQ bW 78 A0 c0 ((oM l n).1)]:=by
 refine lg S0 func348 ntmps348 Y λH0=>?_;have GJ:=jE.bC;have hf:=SG l;have hlow:=F9 (fun(y:aR)=>bL y.ID n.ID) (iy l);refine rg<|bx Y Y H0 λg1 w1 K1=>jk Y<|bX Y<|bQ Y<|gU Y (Xt _ (K1.a jE).any aj) ?_
 rintro _ w2 ⟨pI,pJ,rfl,h2⟩;have K2:=K1.f1 h2;have UA:=(K2.o s0).bC;refine bX Y<|bQ Y<|j6 g1 0 mF K2 s1 Y<|nD K2 Y (SI _ (K2.o s0) n.ID (PU l) aj) λw3 K3=>mv Y<|xt Y Y<|xt Y Y<|jk Y<|bX Y<|aY<|cB<|rg<|ev (fK xu Y Y (K3.x s1))<|nD K3 Y (ajF (S0:=Any) _ n) λw4 K4=>ev (iG Y)<|mv Y<|iO 4 25 ((!(J9 n))||(!decide (n.gq=0))) ?_ ?_
 ·cases U9:(!(J9 n)) with
  | true=>
   refine dN<|dN<|dN<|ev (dM Y Y)<|dJ Y
  | false=>
   refine wB g1 3 yE K4 s1 Y<|bE Y (rY Y Y) Y<|ev (dS Y Y)<|dJ Y
 refine bX Y<|bP Y (λhc17=>?_) (λhc17=>?_)
 ·try simp only [eT,dO,bK,eu,dZ,fI,bM,bV] at hc17
  refine rg<|jk Y<|bX Y<|Xb Y ?_
  have H1:=K4.nil bW 78;have fT:La=((oM l n).1):=by unfold oM; rw [aS (by simpa using hc17)]
  have H2:=(fT▸H1:Hp w S0 w4 (aQ bW 78 none 0 ((oM l n).1)::[aQ bW 78 pI pJ (iy l),dW g1 78 [aI n.ID,aI n.mI,aI n.lD,aI n.gq]]));have gu:(1:Int)=((oM l n).2):=by unfold oM; rw [aS (by simpa using hc17)]
  exact⟨none,0,by rw [<- fT,<- gu] <;> rfl,(H2.cU 1 2)⟩
 try simp only [eT,dO,bK,eu,dZ,fI,bM,bV] at hc17
 refine bQ Y<|bX Y<|bP Y (λNJ=>?_) (λNJ=>?_)
 ·refine rg<|jk Y<|bX Y<|Xb Y ?_
  have H3:=K4.nil bW 78;have kC:La=((oM l n).1):=by unfold oM; rw [aP (by simpa using hc17),aS NJ]
  have H4:=(kC▸H3:Hp w S0 w4 (aQ bW 78 none 0 ((oM l n).1)::[aQ bW 78 pI pJ (iy l),dW g1 78 [aI n.ID,aI n.mI,aI n.lD,aI n.gq]]));have nC:(6:Int)=((oM l n).2):=by unfold oM; rw [aP (by simpa using hc17),aS NJ]
  exact⟨none,0,by rw [<- kC,<- nC] <;> rfl,(H4.cU 1 2)⟩
 refine Ci ?_;refine bQ Y<|mv Y<|ev (fK xu Y Y (K4.x s1))<|Bh Y (by intro _; apply abN) rfl K4 (λ_ _=>rfl) λg2 w5 K5=>gU rfl (Zz (i:=low (fun(y:aR)=>bL y.ID n.ID) (iy l)) K5 s1 s0 aj aj) ?_
 rintro _ w6 ⟨pU,pV,rfl,K6⟩;refine jk Y<|bX Y<|iP Y ?_
 have rV:(((iy l).take (low (fun(y:aR)=>bL y.ID n.ID) (iy l))++[n]++(iy l).drop (low (fun(y:aR)=>bL y.ID n.ID) (iy l))):List aR)=((oM l n).1):=by unfold oM; rw [aP (by simpa using hc17),aP (by rw [NJ]; decide)]
 rw [rV] at K6;have xW:(0:Int)=((oM l n).2):=by unfold oM; rw [aP (by simpa using hc17),aP (by rw [NJ]; decide)]
 exact⟨pU,pV,by rw [rV,<- xW] <;> rfl,(K6.rm s1)⟩
abbrev yZ(iE:Int)(je:List aR):=low (fun(y:aR)=>bL y.ID iE) (iy je)
theorem ajG(w:World){l:List aR}(jE:Sl bW S0 w jU jR l)(id:Int)(state:Int)(hn:l.length<=100000) :
    bO prog 351 #[.slice jU l.length jR,aI id,aI state] w λv w'=>∃(A0:ah)(c0:Nat),v=.tuple #[.slice A0 (((lV l id state).1).length) c0,aI ((lV l id state).2)]/\Hp w S0 w' [aQ bW 78 A0 c0 ((lV l id state).1)]:=by
 refine lg S0 func351 ntmps351 Y λH0=>?_;have GJ:=jE.bC;have hf:=SG l;have hlow:=F9 (fun(y:aR)=>bL y.ID id) (iy l);refine rg<|jk Y<|bX Y<|bQ Y<|gU Y (Xt _ (H0.a jE).any aj) ?_
 rintro _ w1 ⟨jZ,j3,rfl,h1⟩;have K1:=H0.f1 h1;have JO:=(K1.o s0).bC;refine bX Y<|bQ Y<|mv Y<|nD K1 Y (SI _ (K1.o s0) id (PU l) aj) λw2 K2=>mv Y<|xt Y Y<|xt Y Y<|jk Y<|bX Y<|aY<|cB<|bQ Y<|ev (iG Y)<|bX Y<|bP Y (λhc18=>?_) (λhc18=>?_)
 ·try simp only [eT,dO,bK,eu,dZ,fI,bM,bV] at hc18
  refine rg<|jk Y<|bX Y<|Xb Y ?_
  have H1:=K2.nil bW 78;have fT:La=((lV l id state).1):=by unfold lV; rw [aP (by simp_all)]
  have H2:=(fT▸H1:Hp w S0 w2 (aQ bW 78 none 0 ((lV l id state).1)::[aQ bW 78 jZ j3 (iy l)]));have gu:(5:Int)=((lV l id state).2):=by unfold lV; rw [aP (by simp_all)]
  exact⟨none,0,by rw [<- fT,<- gu] <;> rfl,(H2.rm s1)⟩
 try simp only [eT,dO,bK,eu,dZ,fI,bM,bV] at hc18
 have hc18:hits (fun(y:aR)=>bL y.ID id) (iy l)=true:=by simpa using hc18
 obtain⟨xb,hxb,hkb⟩:=qh (key:=aR.ID) hc18;have abH:=aM hxb;refine bQ Y<|nD K2 Y (Ez (S0:=Any) _ state 0 2) λw3 K3=>ev (iG Y)<|bX Y<|bP Y (λhc21=>?_) (λhc21=>?_)
 ·try simp only [eT,dO,bK,eu,dZ,fI,bM,bV] at hc21
  refine rg<|jk Y<|bX Y<|Xb Y ?_
  have H3:=K3.nil bW 78;have kC:La=((lV l id state).1):=by unfold lV; rw [aS hc18,aP (by simp_all)]
  have H4:=(kC▸H3:Hp w S0 w3 (aQ bW 78 none 0 ((lV l id state).1)::[aQ bW 78 jZ j3 (iy l)]));have nC:(1:Int)=((lV l id state).2):=by unfold lV; rw [aS hc18,aP (by simp_all)]
  exact⟨none,0,by rw [<- kC,<- nC] <;> rfl,(H4.rm s1)⟩
 try simp only [eT,dO,bK,eu,dZ,fI,bM,bV] at hc21
 refine aY<|bQ Y<|mv Y ?_
 obtain⟨x1,bN⟩:=bn (xs:=iy l) (i:=low (fun(y:aR)=>bL y.ID id) (iy l)) aj;refine ev (eP (i:=low (fun(y:aR)=>bL y.ID id) (iy l)) lq tC Y Y Y (aM bN) ((K3.o s0).some_ bN))<|ev (fQ yE Y (fV _ _ _))<|ev (kP jN Y ((K3.o s0).fJ (j:=3) bN Y))<|ev (iM Y Y)<|bX Y<|bP Y (λhc25=>?_) (λhc25=>?_)
 ·replace hc25:=iY hc25;refine jy ?_;refine bP Y (λhc25=>?_) (λhc25=>?_)
  ·replace hc25:=iY hc25;refine rg<|jk Y<|bX Y<|Xb Y ?_
   have H5:=K3.nil bW 78;have rV:La=((lV l id state).1):=by unfold lV; rw [aS hc18,aS hc21,qG hc18 bN,aS (by first | exact .inl hc25 | exact .inr hc25)]
   have H6:=(rV▸H5:Hp w S0 w3 (aQ bW 78 none 0 ((lV l id state).1)::[aQ bW 78 jZ j3 (iy l)]));have xW:(8:Int)=((lV l id state).2):=by unfold lV; rw [aS hc18,aS hc21,qG hc18 bN,aS (by first | exact .inl hc25 | exact .inr hc25)]
   exact⟨none,0,by rw [<- rV,<- xW] <;> rfl,(H6.rm s1)⟩
  replace hc25:=jS hc25;refine Ci ?_;refine bQ Y<|mv Y<|mv Y<|ev (eP (i:=low (fun(y:aR)=>bL y.ID id) (iy l)) lq tC Y Y Y (aM bN) ((K3.o s0).some_ bN))<|ev (fQ yE Y (fV _ _ _))<|se (i:=low (fun(y:aR)=>bL y.ID id) (iy l)) (f:=3) (x:=x1) (x':={ x1 with gq:=state }) (ds:=[aI state]) K3 s0 Y Y Y bN Y uf (nX Y) Y (by rintro _ _ _ ⟨⟩; rfl) λw4 K4=>?_
  have hl1:((iy l).set (yZ id l) ({ x1 with gq:=state })).length=(iy l).length:=gW ..;refine gJ (t:=0) (u:=.slice jZ ((iy l).length) j3) (v:=.slice jZ (((iy l).set (yZ id l) ({ x1 with gq:=state })).length) j3) Y (by rw [hl1])<|gJ (t:=11) (u:=.slice jZ ((iy l).length) j3) (v:=.slice jZ (((iy l).set (yZ id l) ({ x1 with gq:=state })).length) j3) rfl (by rw [hl1])<|gJ (t:=13) (u:=.slice jZ ((iy l).length) j3) (v:=.slice jZ (((iy l).set (yZ id l) ({ x1 with gq:=state })).length) j3) rfl (by rw [hl1])<|gJ (t:=26) (u:=.slice jZ ((iy l).length) j3) (v:=.slice jZ (((iy l).set (yZ id l) ({ x1 with gq:=state })).length) j3) rfl (by rw [hl1])<|gJ (t:=42) (u:=.slice jZ ((iy l).length) j3) (v:=.slice jZ (((iy l).set (yZ id l) ({ x1 with gq:=state })).length) j3) rfl (by rw [hl1])<|dn<|bQ rfl<|jk rfl<|bX rfl<|iP rfl ?_
  have zX:(((iy l).set (yZ id l) ({ x1 with gq:=state })):List aR)=((lV l id state).1):=by exact absurd ‹x1.gq=2› hc25
  rw [zX] at K4;have hq8:(0:Int)=((lV l id state).2):=by exact absurd ‹x1.gq=2› hc25
  exact⟨jZ,j3,by rw [zX,<- hq8] <;> rfl,K4⟩
 replace hc25:=jS hc25;refine jC<|mv Y<|mv Y<|ev (eP (i:=low (fun(y:aR)=>bL y.ID id) (iy l)) lq tC Y Y Y (aM bN) ((K3.o s0).some_ bN))<|ev (fQ yE Y (fV _ _ _))<|ev (kP jN Y ((K3.o s0).fJ (j:=3) bN Y))<|ev (iM Y Y)<|mv Y<|iO 3 41 ((decide (x1.gq=0))&&(decide (state=2))) ?_ ?_
 ·cases ayD:decide (x1.gq=0) with
  | true=>
   refine bE Y (bq Y) Y<|bE Y (iM Y Y) Y<|ev (dM Y Y)<|dJ Y
  | false=>
   refine dN<|dN<|ev (dS Y Y)<|dJ Y
 refine jk Y<|jD<|gy<|bP Y (λhc25=>?_) (λhc25=>?_)
 ·try simp only [bK,eu,bM,bV] at hc25
  refine rg<|jk Y<|bX Y<|Xb Y ?_
  have H7:=K3.nil bW 78;have zG:La=((lV l id state).1):=by unfold lV; rw [aS hc18,aS hc21,qG hc18 bN,aS (by first | exact .inl hc25 | exact .inr hc25)]
  have H8:=(zG▸H7:Hp w S0 w3 (aQ bW 78 none 0 ((lV l id state).1)::[aQ bW 78 jZ j3 (iy l)]));have vg:(8:Int)=((lV l id state).2):=by unfold lV; rw [aS hc18,aS hc21,qG hc18 bN,aS (by first | exact .inl hc25 | exact .inr hc25)]
  exact⟨none,0,by rw [<- zG,<- vg] <;> rfl,(H8.rm s1)⟩
 try simp only [bK,eu,bM,bV] at hc25
 refine Ci ?_;refine bQ Y<|mv Y<|mv Y<|ev (eP (i:=low (fun(y:aR)=>bL y.ID id) (iy l)) lq tC Y Y Y (aM bN) ((K3.o s0).some_ bN))<|ev (fQ yE Y (fV _ _ _))<|se (i:=low (fun(y:aR)=>bL y.ID id) (iy l)) (f:=3) (x:=x1) (x':={ x1 with gq:=state }) (ds:=[aI state]) K3 s0 Y Y Y bN Y uf (nX Y) Y (by rintro _ _ _ ⟨⟩; rfl) λw5 K5=>?_
 have hl2:((iy l).set (yZ id l) ({ x1 with gq:=state })).length=(iy l).length:=gW ..;refine gJ (t:=0) (u:=.slice jZ ((iy l).length) j3) (v:=.slice jZ (((iy l).set (yZ id l) ({ x1 with gq:=state })).length) j3) Y (by rw [hl2])<|gJ (t:=11) (u:=.slice jZ ((iy l).length) j3) (v:=.slice jZ (((iy l).set (yZ id l) ({ x1 with gq:=state })).length) j3) rfl (by rw [hl2])<|gJ (t:=13) (u:=.slice jZ ((iy l).length) j3) (v:=.slice jZ (((iy l).set (yZ id l) ({ x1 with gq:=state })).length) j3) rfl (by rw [hl2])<|gJ (t:=26) (u:=.slice jZ ((iy l).length) j3) (v:=.slice jZ (((iy l).set (yZ id l) ({ x1 with gq:=state })).length) j3) rfl (by rw [hl2])<|gJ (t:=32) (u:=.slice jZ ((iy l).length) j3) (v:=.slice jZ (((iy l).set (yZ id l) ({ x1 with gq:=state })).length) j3) rfl (by rw [hl2])<|gJ (t:=42) (u:=.slice jZ ((iy l).length) j3) (v:=.slice jZ (((iy l).set (yZ id l) ({ x1 with gq:=state })).length) j3) rfl (by rw [hl2])<|dn<|bQ rfl<|jk rfl<|bX rfl<|iP rfl ?_
 have hq11:(((iy l).set (yZ id l) ({ x1 with gq:=state })):List aR)=((lV l id state).1):=by unfold lV; rw [aS hc18,aS hc21,qG hc18 bN,aP (by rintro(h | h); contradiction; exact hc25 h.1 h.2)]
 rw [hq11] at K5;have hq12:(0:Int)=((lV l id state).2):=by unfold lV; rw [aS hc18,aS hc21,qG hc18 bN,aP (by rintro(h | h); contradiction; exact hc25 h.1 h.2)]
 exact⟨jZ,j3,by rw [hq11,<- hq12] <;> rfl,K5⟩
end
section
variable {k vF jR tF kr IG nG:Nat}{xs l ys:List aR}{S0 S:Nat->Prop}{wT jU tH ku nH:ah}{BF:FuncId}{Fz:List Value}{dx:List aF}{aH:List Int}
structure fP where
  Node:Int
  N:Int
  deriving DecidableEq
def fP.enc(x:fP):List Value:=[.int .i64 x.Node,.int .i64 x.N]
theorem fP.mD(x:fP):∀ u∈x.enc,u.oneCell'=true:=by
  intro u hu
  simp only [fP.enc,iR,mP,tq] at hu
  rcases hu with rfl | rfl <;> rfl
def nO:Ty fP:=Ty.flat 2 fP.enc au (λ_=>rfl) fP.mD
instance:Flat nO:=⟨λh=>h⟩
structure aK where
  Kind:Int
  aD:Int
  aB:Int
  Sum:Int
  jM:Int
  To:Int
  ji:Int
  deriving DecidableEq
def aK.enc(x:aK):List Value:=[.int .i64 x.Kind,.int .i64 x.aD,.int .i64 x.aB,.int .u32 x.Sum,.int .i64 x.jM,.int .i64 x.To,.int .i64 x.ji]
theorem aK.mD(x:aK):∀ u∈x.enc,u.oneCell'=true:=by
  intro u hu
  simp only [aK.enc,iR,mP,tq] at hu
  rcases hu with rfl | rfl | rfl | rfl | rfl | rfl | rfl <;> rfl
def bg:Ty aK:=Ty.flat 7 aK.enc au (λ_=>rfl) aK.mD
instance:Flat bg:=⟨λh=>h⟩
def oW(cs:List aF)(id:Int):Nat:=(cs.filter fun(c:aF)=>c.aC.contains id).length
def oH(cs:List aF)(l:List aR):List fP:=if sj l=true then l.map fun(n:aR)=>⟨n.ID,(oW cs n.ID:Int)⟩ else[]
def ao1(aH:List Int)(n:aR):Bool:=!decide (n.gq=0)||!aH.contains n.ID
def wU(l:List aR)(aH:List Int):List aR:=if sj l=true then l.filter fun(n:aR)=>!ao1 aH n else[]
def nU(aX:List fP)(id:Int):Int:=match aX.find? (fun(x:fP)=>decide (x.Node=id)) with | some x=>x.N | none=>0
theorem ayE{aX:List fP}{id:Int}(h:idxOf (fun(x:fP)=>decide (x.Node=id)) aX<0):nU aX id=0:=by
  rcases wm (fun(x:fP)=>decide (x.Node=id)) aX with ⟨_,h2⟩ | ⟨k,x,h1,_,_,_⟩
  · unfold nU; rw [Gl.2 (λx hx=>by simp [h2 x hx])]
  · omega
theorem auB{aX:List fP}{id:Int}{x:fP}(h:idxOf (fun(x:fP)=>decide (x.Node=id)) aX=(k:Int))(hx:aX[k]? = some x):nU aX id=x.N:=by
  rcases wm (fun(x:fP)=>decide (x.Node=id)) aX with ⟨h1,_⟩ | ⟨k',x',h1,h2,h3,h4⟩
  · omega
  · have:k=k':=aj
    subst this;rw [hx] at h2; cases h2
    have hs:aX=aX.take k++x::aX.drop (k+1):=by
      conv=>lhs; rw [<- FC k aX]
      rw [BA (aM hx),(sN.1 hx).2]
    unfold nU;rw [hs,KX,Gl.2 (λy hy=>by simp [h4 y hy])]
    simp only [Option.none_or,List.find?_cons,h3]
def ig(cs:List aF)(l:List aR)(aH:List Int):List fP:=oH cs (wU l aH)
theorem abO:Size prog 219 2:=ay
theorem ayF:Z9 prog 219 2:=⟨λ_=>by kernel_rfl,abO⟩
theorem ao2:dL prog 219 0 0:=ay
theorem ayG:bJ prog 271:=ay
theorem ao3:dL prog 219 1 1:=ay
theorem II(a0:Int)(a1:Int):prog.built 219 [(0,aI a0),(1,aI a1)]=some #[aI a0,aI a1]:=ak
theorem Lc(a0:Int)(a1:Int):∀ w,(Instr.buildSlice 154 1 (List.toArray [(0,.agg #[aI a0,aI a1])])).run prog w=.ok (.slice (some ⟨w.heap.size,0,none⟩) 1 1) (w.alloc (.cells (List.toArray [aI a0,aI a1]) 219)):=ay
theorem ahZ:lY prog 219 2 16:=by
  obtain⟨i,h1,h2,h3,h4⟩:=uJ (show(prog.info? 219).map (λi=>(i.zero,i.size,i.bytes))=some (some (.agg #[aI 0,aI 0]),2,16) by kernel_rfl);exact⟨i,_,h1,h2,h3,h4,Y⟩
theorem ayH:bJ prog 404:=ay
theorem PX{α:Type}{p:α->Bool}{xs:List α}(h:idxOf p xs<0):(xs.filter λx=>!p x)=xs:=by
  rcases wm p xs with ⟨_,h2⟩ | ⟨k,x,h1,_⟩
  · exact Gm.2 (λx hx=>by simp [h2 x hx])
  · omega
theorem PY{α:Type}{p:α->Bool}{xs:List α}(h:idxOf p xs=(k:Int)):xs.take k=(xs.take (k+1)).filter (λx=>!p x)/\k<xs.length:=by
  rcases wm p xs with ⟨h1,_⟩ | ⟨k',x,h1,h2,h3,h4⟩
  · omega
  · have:k=k':=aj
    subst this;refine⟨?_,aM h2⟩;rw [fC h2,Bz,Gm.2 (λx hx=>by simp [h4 x hx])]
    simp [h3]
theorem SK(w:World){s:List fP}(nA:Sl nO S0 w wT vF s)(NH:bJ prog BF)(f:fP->Bool)(NI:∀(w':World)(x:fP),Ext w w'->x∈s->bO prog BF (([.agg #[aI x.Node,aI x.N]]:List Value)++Fz).toArray w' λv w''=>v=.bool (f x)/\Ext w' w'') :
    bO prog 270 #[.slice wT s.length vF,.func (.func BF) #[] Fz.toArray] w λv w'=>v=aI (idxOf f s)/\Hp w S0 w' []:=by
 refine lg S0 func270 ntmps270 Y λH0=>?_;have Sv:=nA.bC;refine iT Y<|aY<|bQ Y<|ev (eX Oo Y)<|mv Y<|dn<|cB<|Lp H0 (λl0 rk mJ lJ wJ=>∃(k:Nat),lJ=(8,aI ((k:Nat):Int))::l0/\mJ=s.length - k/\k<=s.length/\(∀ y∈s.take k,f y=false)/\Hp w S0 wJ rk) ⟨0,Y,Y,fE _,av,H0⟩ rfl ?_
 rintro _ _ w1 ⟨k,rfl,rfl,hk,hno,K1⟩;refine rg<|ev (fD Y Y)<|dn<|pG Y (λFg=>?_) (λFg=>?_)
 ·refine jy ?_;refine aY<|cB<|bQ Y<|bX Y<|bQ Y<|mv Y<|mv Y ?_
  obtain⟨x1,bN⟩:=bn (xs:=s) (i:=k) aj;refine ev (eP (i:=k) Oo abO Y Y Y (aM bN) ((K1.a nA).some_ bN))<|ev (iU ayF Y Y ((K1.a nA).fF bN))<|zq Y Y Y NH (NI _ x1 K1.ext (bZ bN)) Y ?_
  rintro _ w2 ⟨rfl,e2⟩;have K2:=K1.grow e2;refine dn<|bP Y (λhc16=>?_) (λhc16=>?_)
  ·refine bQ Y<|bX Y<|jf (iX (fO (fO (iX (fO (xV Y ?_))))))
   exact⟨by rw [<- rF hno bN hc16] <;> rfl,K2⟩
  refine Ci ?_;refine jC<|ev (dP Y Y)<|mv Y<|jD<|dG ⟨(k+1),Y,Y,aj,by exact nY hno bN hc16,K2⟩ rfl aj
 refine xq ?_;refine iT Y<|iP Y ?_
 exact⟨by rw [uG (wo hno aj)] <;> rfl,K1⟩
theorem al7(w:World)(x:fP){Eu:Nat}(bH:Int)(KW:Bx w Eu 3 [aI bH]) :
    bO prog 271 #[.agg #[aI x.Node,aI x.N],gI Eu] w λv w'=>v=.bool (decide (x.Node=bH))/\Hp w S0 w' []:=by
 refine lg S0 func271 ntmps271 Y λH0=>rg<|bx Y Y H0 λg1 w1 K1=>bX Y<|rg<|j6 g1 0 ao2 K1 s0 Y<|ev (eF jN Y (KW.ext K1.ext) Y)<|ev (iM Y Y)<|bX Y<|iP Y ?_
 exact⟨Y,(K1.rm s0)⟩
theorem vk(w:World){l:List fP}(jE:Sl nO S0 w jU jR l)(bH:Int) :
    bO prog 176 #[.slice jU l.length jR,aI bH] w λv w'=>v=aI (nU l bH)/\Hp w S0 w' []:=by
 refine lg S0 func176 ntmps176 Y λH0=>?_;have hge:=GD (p:=fun(x:fP)=>decide (x.Node=bH)) l;have hlt:=Em (p:=fun(x:fP)=>decide (x.Node=bH)) l;refine rg<|bx Y Y H0 λg1 w1 K1=>bX Y<|bQ Y<|ev (rE Y)<|nD K1 Y (SK _ (K1.a jE).any (Fz:=[gI g1]) ayG (fun(x:fP)=>decide (x.Node=bH)) (λw' x e hm=>(al7 (S0:=Any) w' x bH ((K1.x s0).ext e)).mono (by rintro _ _ ⟨rfl,gu⟩; exact⟨rfl,gu.ext⟩))) λw2 K2=>bX rfl<|aY<|bQ rfl<|ev (fD rfl rfl)<|dn<|mZ rfl (λOq=>?_) (λOq=>?_)
 ·refine iT Y<|wO Y ?_
  exact⟨by rw [ayE aj] <;> rfl,(K2.rm s0)⟩
 refine jy ?_;obtain⟨k0,hk0,hkl⟩:∃ k0:Nat,idxOf (fun(x:fP)=>decide (x.Node=bH)) l=(k0:Int)/\k0<l.length:=⟨(idxOf (fun(x:fP)=>decide (x.Node=bH)) l).toNat,aj,aj⟩;refine lF (t:=5) Y (aV (Value.int .i64) hk0)<|bQ Y<|mv Y ?_
 obtain⟨x1,bN⟩:=bn (xs:=l) (i:=k0) aj;refine ev (eP (i:=k0) Oo abO Y Y Y (aM bN) ((K2.a jE).some_ bN))<|ev (fQ ao3 Y (fV _ _ _))<|ev (kP jN Y ((K2.a jE).fJ bN Y))<|bX Y<|iP Y ?_
 exact⟨by rw [<- auB hk0 bN] <;> rfl,(K2.rm s0)⟩
theorem ao4(w:World)(tJ:Sl bD S0 w tH tF dx)(id:Int) :
    bO prog 178 #[.slice tH dx.length tF,aI id] w λv w'=>v=aI ((oW dx id:Nat):Int)/\Hp w S0 w' []:=by
 refine lg S0 func178 ntmps178 Y λH0=>?_;have al8:=tJ.bC;have hq:=λk=>ni (fun(c:aF)=>c.aC.contains id) (dx.take k)
 simp only [iF] at hq
 refine iT Y<|iT Y<|aY<|bQ Y<|ev (eX iV Y)<|mv Y<|dn<|cB ?_
 have fT:(0:Int)=((((dx.take 0).filter fun(c:aF)=>c.aC.contains id).length:Nat):Int):=by rfl
 refine lF (t:=5) Y (aV (Value.int .i64) fT)<|Lp H0 (λl0 rk mJ lJ wJ=>∃(k:Nat),lJ=(5,aI ((((dx.take k).filter fun(c:aF)=>c.aC.contains id).length:Nat):Int))::(10,aI ((k:Nat):Int))::l0/\mJ=dx.length - k/\k<=dx.length/\Hp w S0 wJ rk) ⟨0,Y,Y,fE _,H0⟩ Y ?_
 rintro _ _ w1 ⟨k,rfl,rfl,hk,K1⟩;refine rg<|ev (fD Y Y)<|dn<|pG Y (λy7=>?_) (λy7=>?_)
 ·refine jy ?_;refine aY<|cB<|rg ?_
  obtain⟨x1,bN⟩:=bn (xs:=dx) (i:=k) aj;refine ev (eP iV qy Y Y Y (aM bN) ((K1.a tJ).some_ bN)) ?_;obtain⟨B1,d1,zF,hi1⟩:=zW (tJ.row bN);refine ev (iU pQ Y Y (FE (λj u hu=>K1.ext.cell (zF j u hu))))<|al lX Y K1 λg1 w2 K2=>sty Y K2 s0 Y λw3 K3=>dn ?_
  have hqk:=hq k;refine rg<|j6 g1 3 kH K3 s0 Y<|mv Y<|nD K3 Y (kL _ (K3.a hi1).any id) λw4 K4=>dn<|bP Y (λhc17=>?_) (λhc17=>?_)
  ·refine jC<|mv Y<|ev (dP Y Y)<|jk Y<|jD<|iw (gy ?_)
   refine jC<|ev (dP Y Y)<|mv Y<|jD ?_
   have gu:(((((dx.take k).filter fun(c:aF)=>c.aC.contains id).length+1:Nat):Int):Int)=((((dx.take (k+1)).filter fun(c:aF)=>c.aC.contains id).length:Nat):Int):=by rw [nM bN]; first | (rw [aS hc17]; simp; done) | (rw [aP (by rw [hc17]; decide)]; simp)
   refine jq (t:=5) Y (aV (Value.int .i64) gu)<|dG ⟨(k+1),Y,Y,aj,(K4.rm s0)⟩ rfl aj
  refine Ci ?_;refine jC<|ev (dP Y Y)<|mv Y<|jD ?_
  have kC:(((((dx.take k).filter fun(c:aF)=>c.aC.contains id).length:Nat):Int):Int)=((((dx.take (k+1)).filter fun(c:aF)=>c.aC.contains id).length:Nat):Int):=by rw [nM bN]; first | (rw [aS hc17]; simp; done) | (rw [aP (by rw [hc17]; decide)]; simp)
  refine jq (t:=5) Y (aV (Value.int .i64) kC)<|dG ⟨(k+1),Y,Y,aj,(K4.rm s0)⟩ rfl aj
 refine xq ?_;refine bQ Y<|bX Y<|iP Y ?_
 have nC:(((dx.take k).filter fun(c:aF)=>c.aC.contains id).length:Nat)=(oW dx id):=by rw [gV aj]; rfl
 exact⟨by rw [nC] <;> rfl,K1⟩
abbrev IJ(iE:aR)(je:List aF):=(⟨iE.ID,(oW je iE.ID:Int)⟩:fP)
theorem SL(w:World)(tJ:Sl bD S0 w tH tF dx)(jE:Sl bW S0 w jU jR l)(hn:l.length<=100000) :
    bO prog 104 #[.slice tH dx.length tF,.slice jU l.length jR] w λv w'=>∃(A0:ah)(c0:Nat),v=.slice A0 ((oH dx l).length) c0/\Hp w S0 w' [aQ nO 219 A0 c0 (oH dx l)]:=by
 refine lg S0 func104 ntmps104 Y λH0=>iT Y<|aY<|bQ Y<|nD H0 Y (Vn _ (H0.a jE).any) λw1 K1=>ev (iG Y)<|dn<|bP Y (λOq=>?_) (λOq=>?_)
 ·try simp only [eT,dO,bK,eu,dZ,fI,bM,bV] at Oq
  refine iT Y<|wO Y ?_
  have H1:=K1.nil nO 219;have fT:(([]:List fP):List fP)=(oH dx l):=by unfold oH; rw [aP (by rw [Oq]; decide)]
  have H2:=(fT▸H1:Hp w S0 w1 (aQ nO 219 none 0 (oH dx l)::[]));exact⟨none,0,by rw [<- fT] <;> rfl,H2⟩
 try simp only [eT,dO,bK,eu,dZ,fI,bM,bV] at Oq
 refine jy ?_;refine iT Y<|aY<|bQ Y<|ev (eX lq Y)<|mv Y<|dn<|cB ?_
 have H3:=K1.nil nO 219;have gu:(([]:List fP):List fP)=((l.take 0).map fun(n:aR)=>(IJ n dx)):=by rfl
 refine lF (t:=5) Y (aV (λz=>Value.slice none (List.length z) 0) gu) ?_;have H4:=H3.nil nO 219;have H5:=(gu▸H4:Hp w S0 w1 (aQ nO 219 none 0 ((l.take 0).map fun(n:aR)=>(IJ n dx))::[aQ nO 219 none 0 []]));refine qZ (λmJ lJ wJ=>∃(k:Nat)(A5:ah)(c5:Nat),lJ=[(0,.slice tH dx.length tF),(5,.slice A5 (((l.take k).map fun(n:aR)=>(IJ n dx)).length) c5),(11,.slice jU l.length jR),(12,aI ((l.length:Nat):Int)),(13,aI ((k:Nat):Int))]/\mJ=l.length - k/\k<=l.length/\Hp w S0 wJ [aQ nO 219 A5 c5 ((l.take k).map fun(n:aR)=>(IJ n dx))]) ⟨0,none,0,Y,Y,fE _,(H5.rm s1)⟩ Y ?_;rintro _ _ w2 ⟨k,A5,c5,rfl,rfl,hk,K2⟩;refine rg<|ev (fD Y Y)<|dn<|pG Y (λrz=>?_) (λrz=>?_)
 ·refine jy ?_;refine aY<|cB<|rg ?_
  obtain⟨x1,bN⟩:=bn (xs:=l) (i:=k) aj;refine ev (eP (i:=k) lq tC Y Y Y (aM bN) ((K2.a jE).some_ bN))<|ev (iU xu Y Y ((K2.a jE).fF bN))<|al sM Y K2 λg1 w3 K3=>sty Y K3 s0 Y λw4 K4=>dn<|Hf K4 (λ_ K=>(K.rm s1)) (λl0 rk lJ wJ=>∃(jW:ah)(jT:Nat),lJ=(5,.slice jW ((((l.take k).map fun(n:aR)=>(IJ n dx))++([(⟨x1.ID,((oW dx x1.ID:Nat):Int)⟩:fP)]:List fP)).length) jT)::l0/\Hp w S0 wJ (aQ nO 219 jW jT (((l.take k).map fun(n:aR)=>(IJ n dx))++([(⟨x1.ID,((oW dx x1.ID:Nat):Int)⟩:fP)]:List fP))::rk)) (λhns H6=>?_) ?_
  ·have k1:=(H6.rm s1);refine lQ 0 Y Y k1<|nJ 1 2 g1 0 mF s0 Y k1<|lQ 3 Y Y k1<|nJ 4 5 g1 0 mF s0 Y k1<|O1 6 Y<|nD H6 Y (ao4 _ (H6.a tJ).any x1.ID) λw5 K5=>?_
   have k2:=(K5.rm s1);refine aO k2<|l9 7 Y (λ_ _=>jX (vs:=[(0,aI x1.ID),(1,aI ((oW dx x1.ID:Nat):Int))]) (cs:=[aI x1.ID,aI ((oW dx x1.ID:Nat):Int)]) Y (by apply II)) k2<|O1 8 rfl<|Bh (τ:=nO) (x:=(⟨x1.ID,((oW dx x1.ID:Nat):Int)⟩:fP)) rfl (by intro _; apply Lc) rfl K5 (λ_ _=>rfl) λg2 w6 K6=>?_
   have k3:=((K6.rm s2).rm s0);refine aO k3<|O1 9 Y<|ap K6 s2 Y Y (K6.o s0) Oo ahZ (by first | omega | (simp; omega) | (simp; done)) av rfl λpU pV w7 K7=>?_
   have k4:=(K7.cU 0 2);refine aO k4<|xL 10 Y Y k4<|Dn ⟨pU,pV,Y,(K7.rm s1)⟩ Y
  rintro _ w8 ⟨jW,jT,rfl,K8⟩;refine iw (gy ?_);refine jC<|ev (dP Y Y)<|mv Y<|jD ?_
  have kC:((((l.take k).map fun(n:aR)=>(IJ n dx))++([(⟨x1.ID,((oW dx x1.ID:Nat):Int)⟩:fP)]:List fP)):List fP)=((l.take (k+1)).map fun(n:aR)=>(IJ n dx)):=by rw [fC bN,tu]; rfl
  refine jq (t:=5) Y (aV (λz=>Value.slice jW (List.length z) jT) kC) ?_;rw [kC] at K8;exact dG ⟨(k+1),jW,jT,Y,Y,aj,(K8.rm s1)⟩ rfl aj
 refine xq ?_;refine bQ Y<|bX Y<|iP Y ?_
 have nC:(((l.take k).map fun(n:aR)=>(IJ n dx)):List fP)=(oH dx l):=by rw [gV aj]; unfold oH; rw [aS Oq]
 rw [nC] at K2;exact⟨A5,c5,by rw [nC] <;> rfl,K2⟩
theorem auC(w:World)(n:aR){IK:Nat}(kQ:Bx w IK 55 [.slice ku aH.length kr])(PZ:Sl dQ S0 w ku kr aH) :
    bO prog 404 #[.agg #[aI n.ID,aI n.mI,aI n.lD,aI n.gq],gI IK] w λv w'=>v=.bool (ao1 aH n)/\Hp w S0 w' []:=by
 refine lg S0 func404 ntmps404 Y λH0=>rg<|bx Y Y H0 λg1 w1 K1=>bX Y<|rg<|j6 g1 3 yE K1 s0 Y<|ev (rY Y Y)<|mv Y<|pF 6 13 ((!decide (n.gq=0))||(!(aH.contains n.ID))) ?_ ?_
 ·cases hb7:(!decide (n.gq=0)) with
  | true=>
   refine dN<|dN<|dN<|dN<|dN<|ev (dM Y Y)<|jo Y (pW _)
  | false=>
   refine bE Y (eF Dp Y (kQ.ext K1.ext) Y) Y<|wB g1 0 mF K1 s0 Y<|oD Y Y Y Y Xf (kL _ (K1.a PZ).any n.ID) Y ?_
   rintro _ w2 ⟨rfl,h2⟩;refine bE Y (iG Y) Y<|ev (dS Y Y)<|jo Y h2.ext
 intro w3 e3;have K3:=K1.grow e3;refine bX Y<|iP Y ?_
 exact⟨by skip <;> rfl,(K3.rm s0)⟩
theorem SN(w:World){s:List aR}(nA:Sl bW S0 w wT vF s)(NH:bJ prog BF)(f:aR->Bool)(NI:∀(w':World)(x:aR),Ext w w'->x∈s->bO prog BF (([.agg #[aI x.ID,aI x.mI,aI x.lD,aI x.gq]]:List Value)++Fz).toArray w' λv w''=>v=.bool (f x)/\Ext w' w'') :
    bO prog 435 #[.slice wT s.length vF,.func (.func BF) #[] Fz.toArray] w λv w'=>v=aI (idxOf f s)/\Hp w S0 w' []:=by
 refine lg S0 func435 ntmps435 Y λH0=>?_;have Sv:=nA.bC;refine iT Y<|aY<|bQ Y<|ev (eX lq Y)<|mv Y<|dn<|cB<|Lp H0 (λl0 rk mJ lJ wJ=>∃(k:Nat),lJ=(8,aI ((k:Nat):Int))::l0/\mJ=s.length - k/\k<=s.length/\(∀ y∈s.take k,f y=false)/\Hp w S0 wJ rk) ⟨0,Y,Y,fE _,av,H0⟩ rfl ?_
 rintro _ _ w1 ⟨k,rfl,rfl,hk,hno,K1⟩;refine rg<|ev (fD Y Y)<|dn<|pG Y (λFg=>?_) (λFg=>?_)
 ·refine jy ?_;refine aY<|cB<|bQ Y<|bX Y<|bQ Y<|mv Y<|mv Y ?_
  obtain⟨x1,bN⟩:=bn (xs:=s) (i:=k) aj;refine ev (eP (i:=k) lq tC Y Y Y (aM bN) ((K1.a nA).some_ bN))<|ev (iU xu Y Y ((K1.a nA).fF bN))<|zq Y Y Y NH (NI _ x1 K1.ext (bZ bN)) Y ?_
  rintro _ w2 ⟨rfl,e2⟩;have K2:=K1.grow e2;refine dn<|bP Y (λhc16=>?_) (λhc16=>?_)
  ·refine bQ Y<|bX Y<|jf (iX (fO (fO (iX (fO (xV Y ?_))))))
   exact⟨by rw [<- rF hno bN hc16] <;> rfl,K2⟩
  refine Ci ?_;refine jC<|ev (dP Y Y)<|mv Y<|jD<|dG ⟨(k+1),Y,Y,aj,by exact nY hno bN hc16,K2⟩ rfl aj
 refine xq ?_;refine iT Y<|iP Y ?_
 exact⟨by rw [uG (wo hno aj)] <;> rfl,K1⟩
theorem P5{b w:World}{F:List lG}{A:ah}{c:Nat}(H0:Hp b S w (aQ bW 78 A c xs::F)){fd:FuncId}{kd:List Value}(qd:bJ prog fd)(p:aR->Bool)
    (hd:∀(w':World)(ys:List aR)(x:aR),ys.length=xs.length->Hp b S w' (aQ bW 78 A c ys::F)->bO prog fd (([.agg #[aI x.ID,aI x.mI,aI x.lD,aI x.gq]]:List Value)++kd).toArray w' λv w''=>v=.bool (p x)/\Ext w' w'') (hn:xs.length<=1000000) :
    bO prog 405 #[.slice A xs.length c,.func (.func fd) #[] kd.toArray] w λv w'=>v=.slice A (xs.filter λx=>!p x).length c/\Hp b S w' (aQ bW 78 A c (xs.filter λx=>!p x)::F):=by
 refine rU func405 ntmps405 Y ?_;have Xg:=(H0.o s0).bC;have hcap0:=(H0.o s0).cap;have hlt:=Em (p:=p) xs;have hge:=GD (p:=p) xs;refine iT Y<|bQ Y<|mv Y<|gU Y (SN (S0:=Any) (Fz:=kd) w ((H0.o s0)) qd p (λw' x ex _=>hd w' xs x Y (H0.grow ex))) ?_
 rintro _ w1 ⟨rfl,e1⟩;have K1:=H0.grow e1.ext;refine bX Y<|aY<|bQ Y<|ev (iM Y Y)<|dn<|mZ Y (λnN=>?_) (λnN=>?_)
 ·refine bQ Y<|bX Y<|wO Y ?_
  have hall:=PX (p:=p) (xs:=xs) aj;exact⟨by rw [hall]; rfl,by rw [hall]; exact K1⟩
 refine jy ?_;refine aY ?_;obtain⟨k0,hk0,hkl⟩:∃ k0:Nat,idxOf p xs=(k0:Int)/\k0<xs.length:=⟨(idxOf p xs).toNat,aj,aj⟩;have ah0:=PY hk0;refine lF (t:=5) Y (aV (Value.int .i64) hk0)<|bQ Y<|ev (dP Y Y)<|bX Y<|cB<|Lp (K1.rm s0) (λl0 rk mJ lJ wJ=>∃(i j:Nat)(ys:List aR),lJ=(0,.slice A ys.length c)::(5,aI ((i:Nat):Int))::(6,aI ((j:Nat):Int))::l0/\mJ=xs.length - j/\(ys.length=xs.length)/\(i<j/\j<=xs.length)/\(ys.take i=(xs.take j).filter λx=>!p x)/\(ys.drop j=xs.drop j)/\Hp b S wJ (aQ bW 78 A c ys::rk)) ⟨k0,(k0+1),xs,Y,Y,by rfl,aj,by exact ah0.1,by rfl,K1⟩ rfl ?_
 rintro _ _ w2 ⟨i,j,ys,rfl,rfl,hys,hij,htk,hdr,K2⟩;refine aY<|bQ Y<|mv Y<|ev (eX lq Y)<|ev (fD Y Y)<|dn<|mZ Y (λhc19=>?_) (λhc19=>?_)
 ·refine jy ?_;refine aY<|cB<|bQ Y<|mv Y ?_
  obtain⟨x1,bN⟩:=bn (xs:=ys) (i:=j) aj;refine ev (eP (i:=j) lq tC Y Y Y (aM bN) ((K2.o s0).some_ bN))<|ev (iU xu Y Y ((K2.o s0).fF bN))<|al sM Y K2 λg1 w3 K3=>sty Y K3 s0 Y λw4 K4=>dn<|bQ Y<|ev (fK xu Y Y (K4.x s0))<|zq Y Y Y qd (hd _ _ x1 (by first | exact hys | omega) (K4.rm s0)) rfl ?_
  rintro _ w5 ⟨rfl,e5⟩;have K5:=K4.grow e5;refine ev (iG Y)<|dn<|bP Y (λhc29=>?_) (λhc29=>?_)
  ·try simp only [eT,dO,bK,eu,dZ,fI,bM,bV] at hc29
   refine bQ Y<|mv Y<|ev (fK xu Y Y (K5.x s0)) ?_
   obtain⟨x2,lN⟩:=bn (xs:=ys) (i:=i) aj;refine ev (eP (i:=i) lq tC Y Y Y (aM lN) ((K5.o s1).some_ lN))<|se (i:=i) (f:=0) (x:=x2) (x':=x1) (ds:=[aI x1.ID,aI x1.mI,aI x1.lD,aI x1.gq]) K5 s1 Y Y Y lN Y tC (nX Y) Y (by rintro _ _ _ ⟨⟩; rfl) λw6 K6=>?_
   have hl1:(ys.set i x1).length=ys.length:=gW ..;refine gJ (t:=0) (u:=.slice A ys.length c) (v:=.slice A ((ys.set i x1).length) c) Y (by rw [hl1])<|gJ (t:=17) (u:=.slice A ys.length c) (v:=.slice A ((ys.set i x1).length) c) rfl (by rw [hl1])<|gJ (t:=22) (u:=.slice A ys.length c) (v:=.slice A ((ys.set i x1).length) c) rfl (by rw [hl1])<|gJ (t:=30) (u:=.slice A ys.length c) (v:=.slice A ((ys.set i x1).length) c) rfl (by rw [hl1]) ?_
   have hx3:(ys.set i x1)[i]? = some x1:=rT (aM lN);refine dn<|jC<|mv Y<|ev (dP Y Y)<|jk Y<|jD<|iw (gy ?_)
   refine jC<|mv Y<|ev (dP Y Y)<|jk Y<|jD<|dG ⟨(i+1),(j+1),(ys.set i x1),Y,Y,by first | exact hys | (rw [gW]; exact hys),aj,by first | exact(sH hij.1 htk hdr bN (by simp [hc29])).1 | exact(sI htk hdr bN (by simp [hc29])).1,by first | exact(sH hij.1 htk hdr bN (by simp [hc29])).2 | exact(sI htk hdr bN (by simp [hc29])).2,(K6.rm s1)⟩ rfl aj
  try simp only [eT,dO,bK,eu,dZ,fI,bM,bV] at hc29
  refine Ci ?_;refine jC<|mv Y<|ev (dP Y Y)<|jk Y<|jD<|dG ⟨i,(j+1),ys,Y,Y,by first | exact hys | (rw [gW]; exact hys),aj,by first | exact(sH hij.1 htk hdr bN (by simp [hc29])).1 | exact(sI htk hdr bN (by simp [hc29])).1,by first | exact(sH hij.1 htk hdr bN (by simp [hc29])).2 | exact(sI htk hdr bN (by simp [hc29])).2,(K5.rm s0)⟩ rfl aj
 refine xq ?_;have hcap:ys.length<=c:=aj;have hil:(ys.take i).length=i:=by simp only [iF]; omega
 have hfin:ys.take i=xs.filter λx=>!p x:=by rw [htk,gV aj]
 refine lF (t:=5) (u:=aI ((i:Nat):Int)) (v:=aI (((ys.take i).length:Nat):Int)) Y (by rw [hil]) ?_;have H1:=K2.WS (hi:=i) s0 aj;refine bQ Y<|mv Y<|ev (Eo (lo:=(ys.take i).length) lq tC Y Y Y (by first | omega | (simp only [iF]; omega)) hcap)<|aeu (τ:=bW) (m:=ys.length - (ys.take i).length) H1 s0 rfl lq aw8 (by simp only [iF]; omega) λw7 K7=>dn<|bQ rfl<|mv rfl<|ev (R9 (hi:=(ys.take i).length) lq tC rfl rfl rfl (by simp only [iF]; omega))<|bX rfl<|iP rfl ?_
 exact⟨by rw [<- hfin]; rfl,by rw [<- hfin]; exact K7⟩
theorem ayI(w:World)(tJ:Sl bD S0 w tH tF dx)(jE:Sl bW S0 w jU jR l)(kQ:Sl dQ S0 w ku kr aH)(hn:l.length<=100000) :
    bO prog 338 #[.slice tH dx.length tF,.slice jU l.length jR,.slice ku aH.length kr] w λv w'=>∃(A0:ah)(c0:Nat)(A1:ah)(c1:Nat),v=.tuple #[.slice A0 ((wU l aH).length) c0,.slice A1 ((ig dx l aH).length) c1]/\Hp w S0 w' [aQ bW 78 A0 c0 (wU l aH),aQ nO 219 A1 c1 (ig dx l aH)]:=by
 refine lg S0 func338 ntmps338 Y λH0=>?_;have ao5:=kQ.bC;refine rg<|bx Y Y H0 λg1 w1 K1=>jk Y<|bX Y<|aY<|bQ Y<|nD K1 Y (Vn _ (K1.a jE).any) λw2 K2=>ev (iG Y)<|dn<|bP Y (λy7=>?_) (λy7=>?_)
 ·try simp only [eT,dO,bK,eu,dZ,fI,bM,bV] at y7
  refine rg<|jk Y<|bX Y<|wO Y ?_
  have H1:=K2.nil bW 78;have fT:(([]:List aR):List aR)=(wU l aH):=by unfold wU; rw [aP (by rw [y7]; decide)]
  have H2:=(fT▸H1:Hp w S0 w2 (aQ bW 78 none 0 (wU l aH)::[dW g1 55 [.slice ku aH.length kr]]));have H3:=H2.nil nO 219;have gu:(([]:List fP):List fP)=(ig dx l aH):=by unfold ig wU; rw [aP (by rw [y7]; decide)]; rfl
  have H4:=(gu▸H3:Hp w S0 w2 (aQ nO 219 none 0 (ig dx l aH)::[aQ bW 78 none 0 (wU l aH),dW g1 55 [.slice ku aH.length kr]]));exact⟨none,0,none,0,by rw [<- fT,<- gu] <;> rfl,(((H4.rm s2).sel s0).sel s1)⟩
 try simp only [eT,dO,bK,eu,dZ,fI,bM,bV] at y7
 refine jy ?_;refine rg<|ev (rE Y)<|bX Y<|bQ Y<|gU Y (nE _ (K2.a jE).any aj) ?_
 rintro _ w3 ⟨qQ,qR,rfl,h3⟩;have K3:=K2.f1 h3;refine mv Y<|gU Y (P5 (K3.sel s0) ayH (λx9=>ao1 aH x9) (λw9 ys x9 hl9 K9=>(auC w9 x9 (K9.x s1) (K9.a kQ).any).mono (by rintro _ w8 ⟨rfl,K8⟩; exact⟨rfl,K8.ext⟩)) aj) ?_
 rintro _ w4 ⟨rfl,K4⟩;refine bX Y ?_;have hfl:(wU l aH).length<=l.length:=by unfold wU; rw [aS y7]; exact ni _ _
 have hfe:((l.filter λx9=>!(ao1 aH x9)):List aR)=wU l aH:=by unfold wU; rw [aS y7]
 rw [hfe] at K4;refine lF (t:=1) Y (aV (fun(z:List aR)=>Value.slice qQ z.length qR) hfe)<|bQ Y<|mv Y<|mv Y<|gU Y (SL _ (K4.a tJ).any (K4.o s0) aj) ?_
 rintro _ w5 ⟨CG,CJ,rfl,h5⟩;have K5:=K4.f1 h5;refine jk Y<|bX Y<|iP Y ?_
 have kC:(oH dx (wU l aH):List fP)=(ig dx l aH):=by rfl
 rw [kC] at K5;exact⟨qQ,qR,CG,CJ,by rw [kC] <;> rfl,(((K5.rm s2).sel s0).sel s1)⟩
theorem P6(cs:List aF)(id:Int):oW cs id<=cs.length:=ni _ _
theorem ah1{cs:List aF}{x:fP}(h:x∈ig cs l aH):0<=x.N/\x.N<=cs.length:=by
  unfold ig oH at h
  split at h
  · obtain⟨n,_,rfl⟩:=gB.1 h
    have:=P6 cs n.ID;exact⟨Int.natCast_nonneg _,by simp only; omega⟩
  · simp at h
def aeM(h:List Int)(fr nV:Int):List Int:=((h.filter fun(x9:Int)=>!(decide (x9=fr)))++[nV]).mergeSort fun(x y:Int)=>decide (x<=y)
def aap(l:List aR)(s:List Int)(id:Int):List Int:=if kg l id=true then Sn s (gX l id).mI else s
def kW(l:List aR)(ids:List Int):List Int:=ids.foldl (aap l) []
def SQ(l:List aR)(ids:List Int):Nat:=(kW l ids).length
theorem FL{ids:List Int}{x:Int}(hx:ids[k]? = some x):kW l (ids.take (k+1))=aap l (kW l (ids.take k)) x:=by
  rw [fC hx]; simp [kW]
def Bn(c:aF)(l:List aR)(fr nV:Int):Bool:=c.aC.contains fr&&!c.aC.contains nV&&decide (SQ l c.aC<=SQ l (aeM c.aC fr nV))
theorem ayJ:bJ prog 437:=ay
theorem ayK:bJ prog 411:=ay
theorem ao6:bJ prog 410:=ay
theorem JQ(w:World){s:List Int}(nA:Sl dQ S0 w wT vF s)(NH:bJ prog BF)(f:Int->Bool)(NI:∀(w':World)(x:Int),Ext w w'->x∈s->bO prog BF (([aI x]:List Value)++Fz).toArray w' λv w''=>v=.bool (f x)/\Ext w' w'') :
    bO prog 171 #[.slice wT s.length vF,.func (.func BF) #[] Fz.toArray] w λv w'=>v=aI (idxOf f s)/\Hp w S0 w' []:=by
 refine lg S0 func171 ntmps171 Y λH0=>?_;have Sv:=nA.bC;refine iT Y<|aY<|bQ Y<|ev (eX fA Y)<|mv Y<|dn<|cB<|Lp H0 (λl0 rk mJ lJ wJ=>∃(k:Nat),lJ=(8,aI ((k:Nat):Int))::l0/\mJ=s.length - k/\k<=s.length/\(∀ y∈s.take k,f y=false)/\Hp w S0 wJ rk) ⟨0,Y,Y,fE _,av,H0⟩ rfl ?_
 rintro _ _ w1 ⟨k,rfl,rfl,hk,hno,K1⟩;refine rg<|ev (fD Y Y)<|dn<|pG Y (λFg=>?_) (λFg=>?_)
 ·refine jy ?_;refine aY<|cB<|bQ Y<|bX Y<|bQ Y<|mv Y<|mv Y ?_
  obtain⟨x1,bN⟩:=bn (xs:=s) (i:=k) aj;refine ev (eP (i:=k) fA uf Y Y Y (aM bN) ((K1.a nA).some_ bN))<|ev (kP jN Y ((K1.a nA).fJ (j:=0) bN Y))<|zq Y Y Y NH (NI _ x1 K1.ext (bZ bN)) Y ?_
  rintro _ w2 ⟨rfl,e2⟩;have K2:=K1.grow e2;refine dn<|bP Y (λhc16=>?_) (λhc16=>?_)
  ·refine bQ Y<|bX Y<|jf (iX (fO (fO (iX (fO (xV Y ?_))))))
   have fT:(((k:Nat):Int):Int)=(idxOf f s):=by exact(rF hno bN hc16).symm
   exact⟨by rw [fT] <;> rfl,K2⟩
  refine Ci ?_;refine jC<|ev (dP Y Y)<|mv Y<|jD<|dG ⟨(k+1),Y,Y,aj,by exact nY (q:=λy=>f y=false) hno bN hc16,K2⟩ rfl aj
 refine xq ?_;refine iT Y<|iP Y ?_
 have gu:((-1):Int)=(idxOf f s):=by exact(uG (wo hno aj)).symm
 exact⟨by rw [<- gu] <;> rfl,K1⟩
theorem oQ{b w:World}{F:List lG}{A:ah}{c:Nat}{xs:List Int}(H0:Hp b S w (aQ dQ 3 A c xs::F)){fd:FuncId}{kd:List Value}(qd:bJ prog fd)(p:Int->Bool)
    (hd:∀(w':World)(ys:List Int)(x:Int),ys.length=xs.length->Hp b S w' (aQ dQ 3 A c ys::F)->bO prog fd (([aI x]:List Value)++kd).toArray w' λv w''=>v=.bool (p x)/\Ext w' w'') (hn:xs.length<=1000000) :
    bO prog 101 #[.slice A xs.length c,.func (.func fd) #[] kd.toArray] w λv w'=>v=.slice A (xs.filter λx=>!p x).length c/\Hp b S w' (aQ dQ 3 A c (xs.filter λx=>!p x)::F):=by
 refine rU func101 ntmps101 Y ?_;have Xg:=(H0.o s0).bC;have hcap0:=(H0.o s0).cap;have hlt:=Em (p:=p) xs;have hge:=GD (p:=p) xs;refine iT Y<|bQ Y<|mv Y<|gU Y (JQ (S0:=Any) (Fz:=kd) w ((H0.o s0)) qd p (λw' x ex _=>hd w' xs x Y (H0.grow ex))) ?_
 rintro _ w1 ⟨rfl,e1⟩;have K1:=H0.grow e1.ext;refine bX Y<|aY<|bQ Y<|ev (iM Y Y)<|dn<|mZ Y (λnN=>?_) (λnN=>?_)
 ·refine bQ Y<|bX Y<|wO Y ?_
  have hall:=PX (p:=p) (xs:=xs) aj;exact⟨by rw [hall]; rfl,by rw [hall]; exact K1⟩
 refine jy ?_;refine aY ?_;obtain⟨k0,hk0,hkl⟩:∃ k0:Nat,idxOf p xs=(k0:Int)/\k0<xs.length:=⟨(idxOf p xs).toNat,aj,aj⟩;have ah0:=PY hk0;refine lF (t:=5) Y (aV (Value.int .i64) hk0)<|bQ Y<|ev (dP Y Y)<|bX Y<|cB<|Lp (K1.rm s0) (λl0 rk mJ lJ wJ=>∃(i j:Nat)(ys:List Int),lJ=(0,.slice A ys.length c)::(5,aI ((i:Nat):Int))::(6,aI ((j:Nat):Int))::l0/\mJ=xs.length - j/\(ys.length=xs.length)/\(i<j/\j<=xs.length)/\(ys.take i=(xs.take j).filter λx=>!p x)/\(ys.drop j=xs.drop j)/\Hp b S wJ (aQ dQ 3 A c ys::rk)) ⟨k0,(k0+1),xs,Y,Y,by rfl,aj,by exact ah0.1,by rfl,K1⟩ rfl ?_
 rintro _ _ w2 ⟨i,j,ys,rfl,rfl,hys,hij,htk,hdr,K2⟩;refine aY<|bQ Y<|mv Y<|ev (eX fA Y)<|ev (fD Y Y)<|dn<|mZ Y (λhc19=>?_) (λhc19=>?_)
 ·refine jy ?_;refine aY<|cB<|bQ Y<|mv Y ?_
  obtain⟨x1,bN⟩:=bn (xs:=ys) (i:=j) aj;refine ev (eP (i:=j) fA uf Y Y Y (aM bN) ((K2.o s0).some_ bN))<|ev (kP jN Y ((K2.o s0).fJ (j:=0) bN Y))<|bX Y<|bQ Y<|mv Y<|zq Y Y Y qd (hd _ _ x1 (by first | exact hys | omega) K2) rfl ?_
  rintro _ w3 ⟨rfl,e3⟩;have K3:=K2.grow e3;refine ev (iG Y)<|dn<|bP Y (λhc29=>?_) (λhc29=>?_)
  ·try simp only [eT,dO,bK,eu,dZ,fI,bM,bV] at hc29
   refine bQ Y<|mv Y<|mv Y ?_
   obtain⟨x2,lN⟩:=bn (xs:=ys) (i:=i) aj;refine ev (eP (i:=i) fA uf Y Y Y (aM lN) ((K3.o s0).some_ lN))<|se (i:=i) (f:=0) (x:=x2) (x':=x1) (ds:=[aI x1]) K3 s0 Y Y Y lN Y uf (nX Y) Y (by rintro _ _ _ ⟨⟩; rfl) λw4 K4=>?_
   have hl1:(ys.set i x1).length=ys.length:=gW ..;refine gJ (t:=0) (u:=.slice A ys.length c) (v:=.slice A ((ys.set i x1).length) c) Y (by rw [hl1])<|gJ (t:=17) (u:=.slice A ys.length c) (v:=.slice A ((ys.set i x1).length) c) rfl (by rw [hl1])<|gJ (t:=22) (u:=.slice A ys.length c) (v:=.slice A ((ys.set i x1).length) c) rfl (by rw [hl1])<|gJ (t:=30) (u:=.slice A ys.length c) (v:=.slice A ((ys.set i x1).length) c) rfl (by rw [hl1]) ?_
   have hx3:(ys.set i x1)[i]? = some x1:=rT (aM lN);refine dn<|jC<|mv Y<|ev (dP Y Y)<|jk Y<|jD<|iw (gy ?_)
   refine jC<|mv Y<|ev (dP Y Y)<|jk Y<|jD<|dG ⟨(i+1),(j+1),(ys.set i x1),Y,Y,by first | exact hys | (rw [gW]; exact hys),aj,by first | exact(sH hij.1 htk hdr bN (by simp [hc29])).1 | exact(sI htk hdr bN (by simp [hc29])).1,by first | exact(sH hij.1 htk hdr bN (by simp [hc29])).2 | exact(sI htk hdr bN (by simp [hc29])).2,K4⟩ rfl aj
  try simp only [eT,dO,bK,eu,dZ,fI,bM,bV] at hc29
  refine Ci ?_;refine jC<|mv Y<|ev (dP Y Y)<|jk Y<|jD<|dG ⟨i,(j+1),ys,Y,Y,by first | exact hys | (rw [gW]; exact hys),aj,by first | exact(sH hij.1 htk hdr bN (by simp [hc29])).1 | exact(sI htk hdr bN (by simp [hc29])).1,by first | exact(sH hij.1 htk hdr bN (by simp [hc29])).2 | exact(sI htk hdr bN (by simp [hc29])).2,K3⟩ rfl aj
 refine xq ?_;have hcap:ys.length<=c:=aj;have hil:(ys.take i).length=i:=by simp only [iF]; omega
 have hfin:ys.take i=xs.filter λx=>!p x:=by rw [htk,gV aj]
 refine lF (t:=5) (u:=aI ((i:Nat):Int)) (v:=aI (((ys.take i).length:Nat):Int)) Y (by rw [hil]) ?_;have H1:=K2.WS (hi:=i) s0 aj;refine bQ Y<|mv Y<|ev (Eo (lo:=(ys.take i).length) fA uf Y Y Y (by first | omega | (simp only [iF]; omega)) hcap)<|aeu (τ:=dQ) (m:=ys.length - (ys.take i).length) H1 s0 rfl fA ayt (by simp only [iF]; omega) λw5 K5=>dn<|bQ rfl<|mv rfl<|ev (R9 (hi:=(ys.take i).length) fA uf rfl rfl rfl (by simp only [iF]; omega))<|bX rfl<|iP rfl ?_
 exact⟨by rw [<- hfin]; rfl,by rw [<- hfin]; exact K5⟩
theorem aeN(w:World)(n:Int){aCp:Nat}(fr:Int)(aH4:Bx w aCp 3 [aI fr]) :
    bO prog 437 #[aI n,gI aCp] w λv w'=>v=.bool (decide (n=fr))/\Hp w S0 w' []:=by
 refine lg S0 func437 ntmps437 Y λH0=>iT Y<|bQ Y<|ev (eF jN Y (aH4.ext H0.ext) Y)<|ev (iM Y Y)<|bX Y<|iP Y ?_
 exact⟨Y,H0⟩
theorem ah2(w:World){A_h:ah}{c_h:Nat}{h:List Int}(h_h:Sl dQ S0 w A_h c_h h)(fr:Int)(nV:Int)(hn:h.length<=100000) :
    bO prog 411 #[.slice A_h h.length c_h,aI fr,aI nV] w λv w'=>∃(A0:ah)(c0:Nat),v=.slice A0 ((aeM h fr nV).length) c0/\Hp w S0 w' [aQ dQ 3 A0 c0 (aeM h fr nV)]:=by
 refine lg S0 func411 ntmps411 Y λH0=>?_;have aNg:=h_h.bC;refine rg<|bx Y Y H0 λg1 w1 K1=>bX Y<|bQ Y<|gU Y (uq _ (K1.a h_h).any aj) ?_
 rintro _ w2 ⟨pI,pJ,rfl,h2⟩;have K2:=K1.f1 h2;refine ev (rE Y)<|gU Y (oQ (kd:=[gI g1]) (K2.sel s0) ayJ (λx9=>decide (x9=fr)) (λw9 ys x9 hl9 K9=>(aeN (S0:=Any) w9 x9 fr (K9.x s1)).mono (by rintro _ w8 ⟨rfl,K8⟩; exact⟨rfl,K8.ext⟩)) aj) ?_
 rintro _ w3 ⟨rfl,K3⟩;refine bX Y ?_;have hfl:=ni (fun(x9:Int)=>!(decide (x9=fr))) h;refine bQ Y<|mv Y<|Bh Y (by intro _; apply pR) rfl K3 (λ_ _=>rfl) λg2 w4 K4=>ap (ys:=([nV]:List Int)) K4 s1 rfl rfl (K4.o s0) fA KU aj av rfl λpU pV w5 K5=>bX rfl<|bQ rfl<|gU rfl (sorti Tryz.lays189 (K5.sel s0) (by simp only [jG,oV,uE]; omega)) ?_
 rintro _ w6 ⟨rfl,K6⟩;have hl1:(((h.filter λx9=>!(decide (x9=fr)))++([nV]:List Int)).mergeSort fun(x y:Int)=>decide (x<=y)).length=((h.filter λx9=>!(decide (x9=fr)))++([nV]:List Int)).length:=KH _;refine gJ (t:=0) (u:=.slice pU (((h.filter λx9=>!(decide (x9=fr)))++([nV]:List Int)).length) pV) (v:=.slice pU ((((h.filter λx9=>!(decide (x9=fr)))++([nV]:List Int)).mergeSort fun(x y:Int)=>decide (x<=y)).length) pV) Y (by rw [hl1])<|gJ (t:=14) (u:=.slice pU (((h.filter λx9=>!(decide (x9=fr)))++([nV]:List Int)).length) pV) (v:=.slice pU ((((h.filter λx9=>!(decide (x9=fr)))++([nV]:List Int)).mergeSort fun(x y:Int)=>decide (x<=y)).length) pV) rfl (by rw [hl1])<|gJ (t:=15) (u:=.slice pU (((h.filter λx9=>!(decide (x9=fr)))++([nV]:List Int)).length) pV) (v:=.slice pU ((((h.filter λx9=>!(decide (x9=fr)))++([nV]:List Int)).mergeSort fun(x y:Int)=>decide (x<=y)).length) pV) rfl (by rw [hl1])<|dn<|bQ rfl<|bX rfl<|iP rfl ?_
 have fT:((((h.filter λx9=>!(decide (x9=fr)))++([nV]:List Int)).mergeSort fun(x y:Int)=>decide (x<=y)):List Int)=(aeM h fr nV):=by rfl
 rw [fT] at K6;exact⟨pU,pV,by rw [fT] <;> rfl,(K6.cU 1 2)⟩
theorem aeO(w:World)(jE:Sl bW S0 w jU jR l){aeP:ah}{aeQ:Nat}{ids:List Int}(Xv:Sl dQ S0 w aeP aeQ ids)(hn:l.length<=100000) :
    bO prog 410 #[.slice jU l.length jR,.slice aeP ids.length aeQ] w λv w'=>v=aI ((SQ l ids:Nat):Int)/\Hp w S0 w' []:=by
 refine lg S0 func410 ntmps410 Y λH0=>?_;have GJ:=jE.bC;have ayL:=Xv.bC;refine iT Y<|rg<|mks H0 Y λg1 w1 K1=>bX Y<|aY<|bQ Y<|ev (eX fA Y)<|mv Y<|dn<|cB ?_
 have fT:[]=(kW l (ids.take 0)):=by rfl
 rw [fT] at K1;refine Lp (K1.rm s0) (λl0 rk mJ lJ wJ=>∃(k:Nat),lJ=(13,aI ((k:Nat):Int))::l0/\mJ=ids.length - k/\k<=ids.length/\Hp w S0 wJ (aoE g1 (kW l (ids.take k))::rk)) ⟨0,Y,Y,fE _,K1⟩ Y ?_;rintro _ _ w2 ⟨k,rfl,rfl,hk,K2⟩;refine rg<|ev (fD Y Y)<|dn<|pG Y (λrz=>?_) (λrz=>?_)
 ·refine jy ?_;refine aY<|cB<|rg ?_
  obtain⟨x1,bN⟩:=bn (xs:=ids) (i:=k) aj;refine ev (eP fA uf Y Y Y (aM bN) ((K2.a Xv).some_ bN))<|ev (kP jN Y ((K2.a Xv).fJ (j:=0) bN Y))<|bX Y<|bQ Y<|mv Y<|nD K2 Y (EA _ (K2.a jE).any x1 aj) λw3 K3=>mv Y<|xt Y Y<|xt Y Y<|al sM Y K3 λg2 w4 K4=>sty Y K4 s0 Y λw5 K5=>bX Y<|bQ Y<|dn<|bP Y (λqP=>?_) (λqP=>?_)
  ·refine jC<|mv Y<|j6 g2 1 PV K5 s0 Y<|aB5 K5 s1 Y Y Y abM iJ λw6 K6=>jD<|iw (gy ?_)
   refine jC<|ev (dP Y Y)<|mv Y<|jD ?_
   have gu:(Sn (kW l (ids.take k)) ((gX l x1).mI))=(kW l (ids.take (k+1))):=by rw [FL bN]; unfold aap; first | rw [aS qP] | rw [aP (by rw [qP]; decide)]
   rw [gu] at K6;exact dG ⟨(k+1),Y,Y,aj,(K6.rm s1)⟩ rfl aj
  refine Ci ?_;refine jC<|ev (dP Y Y)<|mv Y<|jD ?_
  have kC:(kW l (ids.take k))=(kW l (ids.take (k+1))):=by rw [FL bN]; unfold aap; first | rw [aS qP] | rw [aP (by rw [qP]; decide)]
  rw [kC] at K5;exact dG ⟨(k+1),Y,Y,aj,(K5.rm s0)⟩ rfl aj
 refine xq ?_;refine bQ Y<|ev (Ev.aHS K2 s0 abM Y)<|bX Y<|iP Y ?_
 have nC:(((kW l (ids.take k))).length:Nat)=(SQ l ids):=by rw [gV aj]; rfl
 exact⟨by rw [nC] <;> rfl,(K2.rm s0)⟩
theorem auE(w:World)(c:aF){Cm:ah}{BG:Nat}(GK:Sl dQ S0 w Cm BG c.aC)(jE:Sl bW S0 w jU jR l)(fr:Int)(nV:Int)(hn:l.length<=100000)(hh:c.aC.length<=100000) :
    bO prog 340 #[.agg #[aI c.ID,aI c.aB,gP c.Sum,.slice Cm c.aC.length BG],.slice jU l.length jR,aI fr,aI nV] w λv w'=>v=.bool (Bn c l fr nV)/\Hp w S0 w' []:=by
 refine lg S0 func340 ntmps340 Y λH0=>rg<|bx Y Y H0 λg1 w1 K1=>bX Y<|He K1 (λ_ K=>K) (λl0 rk lJ wJ=>lJ=(8,.bool (Bn c l fr nV))::l0/\Hp w S0 wJ rk) (λhns H1=>?_) ?_
 ·refine nJ 0 1 g1 3 kH s0 Y H1<|lQ 2 Y Y H1<|O1 3 Y<|nD H1 Y (kL _ (H1.a GK).any fr) λw2 K2=>aO K2<|lQ 4 Y Y K2 ?_
  cases aNh:c.aC.contains fr with
  | true=>
   refine tgz 5 Y Y (λ_ _=>fQ kH Y Y) K2<|tgz 6 Y Y (λ_ hK=>eF Dp Y (hK.x s0) Y) K2<|tgz 7 Y Y (λ_ _=>bq Y) K2<|O1 8 Y<|oD Y Y Y Y Xf (kL _ (K2.a GK).any nV) Y ?_
   rintro _ w3 ⟨rfl,h3⟩;have K3:=K2.c0 h3;refine aO K3<|tgz 9 Y Y (λ_ _=>iG Y) K3<|l9 10 Y (λ_ _=>dM Y Y) K3<|lQ 11 Y Y K3 ?_
   cases abG:(!(c.aC.contains nV)) with
   | true=>
    refine tgz 12 Y Y (λ_ _=>bq Y) K3<|tgz 13 Y Y (λ_ _=>fQ kH Y Y) K3<|tgz 14 Y Y (λ_ hK=>eF Dp Y (hK.x s0) Y) K3<|tgz 15 Y Y (λ_ _=>bq Y) K3<|tgz 16 Y Y (λ_ _=>bq Y) K3<|tgz 19 Y Y (λ_ _=>bq Y) K3<|tgz 20 Y Y (λ_ _=>fQ kH Y Y) K3<|tgz 21 Y Y (λ_ hK=>eF Dp Y (hK.x s0) Y) K3<|O1 17 Y<|oD Y Y Y Y ayK (ah2 _ (K3.a GK).any fr nV aj) Y ?_
    rintro _ w4 ⟨uP,uQ,rfl,h4⟩;have K4:=K3.f1 h4;have k1:=(K4.rm s0);refine aO k1<|O1 18 Y<|oD Y Y Y Y ao6 (aeO _ (K4.a jE).any (K4.o s0) aj) Y ?_
    rintro _ w5 ⟨rfl,h5⟩;have K5:=K4.c0 h5;have k2:=(K5.rm s0);refine aO k2<|O1 22 Y<|oD Y Y Y Y ao6 (aeO _ (K5.a jE).any (K5.a GK).any aj) Y ?_
    rintro _ w6 ⟨rfl,h6⟩;have K6:=K5.c0 h6;have k3:=(K6.rm s0);refine aO k3<|tgz 23 Y Y (λ_ _=>qD Y Y) k3<|l9 24 Y (λ_ _=>dM Y Y) k3<|xL 25 Y Y k3 ?_
    have fT:(decide (((SQ l c.aC:Nat):Int)<=((SQ l (aeM c.aC fr nV):Nat):Int)):Bool)=Bn c l fr nV:=by unfold Bn; simp_all
    refine WH.re2 (t:=8) Y (aV Value.bool fT)<|Dn ⟨Y,(K6.rm s0)⟩ Y
   | false=>
    refine MN 12 Y Y Y K3<|MN 13 Y Y Y K3<|MN 14 Y Y Y K3<|MN 15 Y Y Y K3<|MN 16 Y Y Y K3<|MN 19 Y Y Y K3<|MN 20 Y Y Y K3<|MN 21 Y Y Y K3<|O1 17 Y<|dN<|aO K3<|O1 18 Y<|dN<|aO K3<|O1 22 Y<|dN<|aO K3<|MN 23 Y Y Y K3<|l9 24 Y (λ_ _=>dS Y Y) K3<|xL 25 Y Y K3 ?_
    have gu:(false:Bool)=Bn c l fr nV:=by unfold Bn; simp_all
    refine WH.re2 (t:=8) Y (aV Value.bool gu)<|Dn ⟨Y,K3⟩ Y
  | false=>
   refine MN 5 Y Y Y K2<|MN 6 Y Y Y K2<|MN 7 Y Y Y K2<|O1 8 Y<|dN<|aO K2<|MN 9 Y Y Y K2<|l9 10 Y (λ_ _=>dS Y Y) K2<|lQ 11 Y Y K2<|MN 12 Y Y Y K2<|MN 13 Y Y Y K2<|MN 14 Y Y Y K2<|MN 15 Y Y Y K2<|MN 16 Y Y Y K2<|MN 19 Y Y Y K2<|MN 20 Y Y Y K2<|MN 21 Y Y Y K2<|O1 17 Y<|dN<|aO K2<|O1 18 Y<|dN<|aO K2<|O1 22 Y<|dN<|aO K2<|MN 23 Y Y Y K2 ?_
   refine l9 24 Y (λ_ _=>dS Y Y) K2<|xL 25 Y Y K2 ?_
   have kC:(false:Bool)=Bn c l fr nV:=by unfold Bn; simp_all
   refine WH.re2 (t:=8) Y (aV Value.bool kC)<|Dn ⟨Y,K2⟩ Y
 rintro _ w7 ⟨rfl,K7⟩;refine iP Y ?_;exact⟨Y,(K7.rm s0)⟩
def P7(l:List Int):Int:=(l.find? (fun(x:Int)=>!decide (x=0))).getD 0
theorem ayM{l:List Int}{x:Int}(h:∀ y∈l.take k,y=0)(hx:l[k]? = some x)(h0:x≠0):P7 l=x:=by
  have hs:l=l.take k++x::l.drop (k+1):=by
    conv=>lhs; rw [<- FC k l]
    rw [BA (aM hx),(sN.1 hx).2]
  unfold P7;rw [hs,KX,Gl.2 (λy hy=>by simp [h y hy])]
  simp [h0]
theorem ayN{l:List Int}(h:∀ y∈l,y=0):P7 l=0:=by unfold P7; rw [Gl.2 (λy hy=>by simp [h y hy])]; rfl
def toC(aX:List fP)(a b:aR):Int:=P7 [bL (nU aX a.ID) (nU aX b.ID),bL a.ID b.ID]
def frC(aX:List fP)(a b:aR):Int:=-(toC aX a b)
theorem Ld{aX:List fP}{a b:aR}:toC aX a b<0↔nU aX a.ID<nU aX b.ID∨nU aX a.ID=nU aX b.ID/\a.ID<b.ID:=by
  unfold toC P7
  by_cases h1:bL (nU aX a.ID) (nU aX b.ID)=0
  · have h2:=zu.1 h1
    by_cases h3:bL a.ID b.ID=0
    · have h4:=zu.1 h3
      simp [h1,h3]; omega
    · simp [h1,h3,qE]; omega
  · simp [h1,qE]
    have h2:nU aX a.ID≠nU aX b.ID:=λe=>h1 (zu.2 e);omega
theorem aeR{aX:List fP}{a b:aR}:toC aX b a=-(toC aX a b):=by
  have h:∀ x y:Int,bL y x=-(bL x y):=by intro x y; unfold bL; split <;> (try split) <;> (try split) <;> omega
  unfold toC P7;rw [h (nU aX a.ID) (nU aX b.ID),h a.ID b.ID]
  by_cases h1:bL (nU aX a.ID) (nU aX b.ID)=0
  · by_cases h3:bL a.ID b.ID=0 <;> simp [h1,h3]
  · simp [h1]
theorem ajI(x y:Int):-1<=bL x y/\bL x y<=1:=by unfold bL; split <;> (try split) <;> omega
theorem ayO(x y:Int)(h1:-1<=x/\x<=1)(h2:-1<=y/\y<=1):-1<=P7 [x,y]/\P7 [x,y]<=1:=by
  unfold P7
  by_cases a:x=0
  · by_cases b:y=0
    · simp [a,b]
    · simp [a,b]; omega
  · simp [a]; omega
open Go.Sort in
theorem ayP(aX:List fP):SWO (ltOf (toC aX)):=by
  refine⟨λx=>?_,λx y z h1 h2=>?_,λx y z h1 h2=>?_⟩
  · simp only [ltOf,bV,Ld]; omega
  · simp only [ltOf,bM,Ld] at h1 h2 ⊢; omega
  · simp only [ltOf,bV,Ld] at h1 h2 ⊢; omega
open Go.Sort in
theorem ayQ(aX:List fP):SWO (ltOf (frC aX)):=by
  have e:∀ a b,frC aX a b=toC aX b a:=λa b=>aeR.symm;refine⟨λx=>?_,λx y z h1 h2=>?_,λx y z h1 h2=>?_⟩
  · simp only [ltOf,bV,e,Ld]; omega
  · simp only [ltOf,bM,e,Ld] at h1 h2 ⊢; omega
  · simp only [ltOf,bV,e,Ld] at h1 h2 ⊢; omega
theorem P8(hu:Up aR.ID l){x y:aR}(hx:x∈l)(hy:y∈l)(h:x.ID=y.ID):x=y:=by
  obtain⟨i,hi⟩:=sZ hx;obtain⟨j,hj⟩:=sZ hy
  rcases abA i j with h1 | h1 | h1
  · have:=hu.get h1 hi hj; omega
  · subst h1; rw [hi] at hj; cases hj; rfl
  · have:=hu.get h1 hj hi; omega
theorem auF{aX:List fP}(hu:Up aR.ID l):∀ x∈l,∀ y∈l,¬ toC aX x y<0->¬ toC aX y x<0->x=y:=by
  intro x hx y hy h1 h2;rw [Ld] at h1 h2;exact P8 hu hx hy aj
theorem auG{aX:List fP}(hu:Up aR.ID l):∀ x∈l,∀ y∈l,¬ frC aX x y<0->¬ frC aX y x<0->x=y:=by
  intro x hx y hy h1 h2;have e:∀ a b,frC aX a b=toC aX b a:=λa b=>aeR.symm;rw [e,Ld] at h1 h2;exact P8 hu hx hy aj
instance:Inhabited aR:=⟨⟨0,0,0,0⟩⟩
def Ko(cf:aR->aR->Int)(l:List aR):List aR:=l.mergeSort λx y=>!decide (cf y x<0)
def vN(xs ys:List aR):List (aR × aR):=xs.flatMap λx=>ys.map λy=>(x,y)
theorem ama{j:Nat}{x y:aR}(hx:xs[k]? = some x)(hy:ys[j]? = some y):vN (xs.take k) ys++(ys.take j).map (λy=>(x,y))++[(x,y)] <+: vN xs ys:=by
  have hs:xs=xs.take k++x::xs.drop (k+1):=by
    conv=>lhs; rw [<- FC k xs]
    rw [BA (aM hx),(sN.1 hx).2]
  have ht:ys=ys.take j++y::ys.drop (j+1):=by
    conv=>lhs; rw [<- FC j ys]
    rw [BA (aM hy),(sN.1 hy).2]
  refine⟨(ys.drop (j+1)).map (λy=>(x,y))++vN (xs.drop (k+1)) ys,?_⟩
  have h1:vN xs ys=vN (xs.take k) ys++(ys.map (λy=>(x,y))++vN (xs.drop (k+1)) ys):=by
    conv=>lhs; rw [hs]
    simp [vN]
  have h2:ys.map (λy=>(x,y))=(ys.take j).map (λy=>(x,y))++(x,y)::(ys.drop (j+1)).map (λy=>(x,y)):=by
    conv=>lhs; rw [ht]
    simp
  rw [h1,h2]; simp
theorem ah3{x:aR}(hx:xs[k]? = some x):vN (xs.take (k+1)) ys=vN (xs.take k) ys++ys.map (λy=>(x,y)):=by
  rw [fC hx]; simp [vN]
theorem Ot:mg prog 154:=ay
theorem ah4:bJ prog 176:=ay
theorem IL(a0:Int)(a1:Int):∀ w,(Instr.buildSlice 55 2 (List.toArray [(0,aI a0),(1,aI a1)])).run prog w=.ok (.slice (some ⟨w.heap.size,0,none⟩) 2 2) (w.alloc (.cells (List.toArray [aI a0,aI a1]) 3)):=ay
theorem ajJ:∀ w,(zeroValue 41).run prog w=.ok (.slice none 0 0) w:=ay
theorem aaq:mg prog 41:=ay
theorem ayR:bJ prog 407:=ay
theorem ayS:bJ prog 408:=ay
theorem aeS(w:World){ao7:ah}{ao8:Nat}{vals:List Int}(ah5:Sl dQ S0 w ao7 ao8 vals) :
    bO prog 337 #[.slice ao7 vals.length ao8] w λv w'=>v=aI (P7 vals)/\Hp w S0 w' []:=by
 refine lg S0 func337 ntmps337 Y λH0=>?_;have aG7:=ah5.bC;refine iT Y<|iT Y<|aY<|bQ Y<|ev (eX fA Y)<|mv Y<|dn<|cB<|Lp H0 (λl0 rk mJ lJ wJ=>∃(k:Nat),lJ=(8,aI ((k:Nat):Int))::l0/\mJ=vals.length - k/\k<=vals.length/\(∀ y∈vals.take k,y=0)/\Hp w S0 wJ rk) ⟨0,Y,Y,fE _,av,H0⟩ rfl ?_
 rintro _ _ w1 ⟨k,rfl,rfl,hk,hno,K1⟩;refine rg<|ev (fD Y Y)<|dn<|pG Y (λFg=>?_) (λFg=>?_)
 ·refine jy ?_;refine aY<|cB<|rg ?_
  obtain⟨x1,bN⟩:=bn (xs:=vals) (i:=k) aj;refine ev (eP (i:=k) fA uf Y Y Y (aM bN) ((K1.a ah5).some_ bN))<|ev (kP jN Y ((K1.a ah5).fJ (j:=0) bN Y))<|bX Y<|bQ Y<|mv Y<|ev (rY Y Y)<|dn<|bP Y (λrz=>?_) (λrz=>?_)
  ·replace rz:=oO rz;refine bQ Y<|bX Y<|jf (iX (fO (fO (iX (fO (xV Y ?_))))))
   have fT:(x1:Int)=(P7 vals):=by exact(ayM hno bN aj).symm
   exact⟨by rw [<- fT] <;> rfl,K1⟩
  replace rz:=oP rz;refine Ci ?_;refine jC<|ev (dP Y Y)<|mv Y<|jD<|dG ⟨(k+1),Y,Y,aj,by exact nY (q:=λy=>y=0) hno bN aj,K1⟩ rfl aj
 refine xq ?_;refine bQ Y<|bX Y<|iP Y ?_
 have gu:(0:Int)=(P7 vals):=by exact(ayN (wo hno aj)).symm
 exact⟨by rw [<- gu] <;> rfl,K1⟩
theorem amb(w:World)(a:aR)(b:aR){aX:List fP}(oK:Bx w IG 154 [.slice nH aX.length nG])(DJ:Sl nO S0 w nH nG aX) :
    bO prog 407 #[.agg #[aI a.ID,aI a.mI,aI a.lD,aI a.gq],.agg #[aI b.ID,aI b.mI,aI b.lD,aI b.gq],gI IG] w λv w'=>v=aI (frC aX a b)/\Hp w S0 w' []:=by
 refine lg S0 func407 ntmps407 Y λH0=>?_;have aCq:=DJ.bC;have hbd:=ayO (bL (nU aX a.ID) (nU aX b.ID)) (bL a.ID b.ID) (ajI _ _) (ajI _ _);refine rg<|bx Y Y H0 λg1 w1 K1=>bx Y Y K1 λg2 w2 K2=>bX Y<|He K2 (λ_ K=>K) (λl0 rk lJ wJ=>lJ=(5,aI (-(P7 ([bL (nU aX a.ID) (nU aX b.ID),bL a.ID b.ID]:List Int))))::l0/\Hp w S0 wJ rk) (λhns H1=>?_) ?_
 ·refine l9 0 Y (λ_ hK=>eF Ot Y (oK.ext hK.ext) Y) H1<|nJ 1 2 g1 0 mF s1 Y H1<|l9 4 Y (λ_ hK=>eF Ot Y (oK.ext hK.ext) Y) H1<|nJ 5 6 g2 0 mF s0 Y H1<|nJ 9 10 g1 0 mF s1 Y H1<|nJ 11 12 g2 0 mF s0 Y H1<|O1 3 Y<|nD H1 Y (vk _ (H1.a DJ).any a.ID) λw3 K3=>aO K3<|O1 7 Y<|nD K3 Y (vk _ (K3.a DJ).any b.ID) λw4 K4=>aO K4<|O1 8 Y<|nD K4 Y (nZ (S0:=Any) _ (nU aX a.ID) (nU aX b.ID)) λw5 K5=>aO K5<|O1 13 Y<|nD K5 Y (nZ (S0:=Any) _ a.ID b.ID) λw6 K6=>aO K6<|O1 14 Y<|bsn (τ:=dQ) (xs:=([bL (nU aX a.ID) (nU aX b.ID),bL a.ID b.ID]:List Int)) (vs:=[(0,aI (bL (nU aX a.ID) (nU aX b.ID))),(1,aI (bL a.ID b.ID))]) (css:=[[aI (bL (nU aX a.ID) (nU aX b.ID))],[aI (bL a.ID b.ID)]]) Y (by intro _; apply IL) rfl rfl K6 (λ_ e=>⟨rfl,rfl,trivial⟩) λg3 w7 K7=>?_
  have k1:=(K7.rm s0);refine aO k1<|O1 15 Y<|nD K7 Y (aeS _ (K7.o s0)) λw8 K8=>?_
  have k2:=(K8.rm s0);refine aO k2<|l9 16 Y (λ_ _=>Ev.neg Y (zP aj aj)) k2<|xL 17 Y Y k2<|Dn ⟨Y,(K8.rm s0)⟩ Y
 rintro _ w9 ⟨rfl,K9⟩;refine iP Y ?_;have fT:(-(P7 ([bL (nU aX a.ID) (nU aX b.ID),bL a.ID b.ID]:List Int)):Int)=(frC aX a b):=by rfl
 exact⟨by rw [fT] <;> rfl,K9.z⟩
abbrev ah6(iE:List fP)(je wP:aR):=([bL (nU iE je.ID) (nU iE wP.ID),bL je.ID wP.ID]:List Int)
theorem amc(w:World)(a:aR)(b:aR){aX:List fP}(oK:Bx w IG 154 [.slice nH aX.length nG])(DJ:Sl nO S0 w nH nG aX) :
    bO prog 408 #[.agg #[aI a.ID,aI a.mI,aI a.lD,aI a.gq],.agg #[aI b.ID,aI b.mI,aI b.lD,aI b.gq],gI IG] w λv w'=>v=aI (toC aX a b)/\Hp w S0 w' []:=by
 refine lg S0 func408 ntmps408 Y λH0=>rg<|bx Y Y H0 λg1 w1 K1=>bx Y Y K1 λg2 w2 K2=>bX Y<|He K2 (λ_ K=>K) (λl0 rk lJ wJ=>lJ=(5,aI (P7 (ah6 aX a b)))::l0/\Hp w S0 wJ rk) (λhns H1=>?_) ?_
 ·refine l9 0 Y (λ_ hK=>eF Ot Y (oK.ext hK.ext) Y) H1<|nJ 1 2 g1 0 mF s1 Y H1<|l9 4 Y (λ_ hK=>eF Ot Y (oK.ext hK.ext) Y) H1<|nJ 5 6 g2 0 mF s0 Y H1<|nJ 9 10 g1 0 mF s1 Y H1<|nJ 11 12 g2 0 mF s0 Y H1<|O1 3 Y<|nD H1 Y (vk _ (H1.a DJ).any a.ID) λw3 K3=>aO K3<|O1 7 Y<|nD K3 Y (vk _ (K3.a DJ).any b.ID) λw4 K4=>aO K4<|O1 8 Y<|nD K4 Y (nZ (S0:=Any) _ (nU aX a.ID) (nU aX b.ID)) λw5 K5=>aO K5<|O1 13 Y<|nD K5 Y (nZ (S0:=Any) _ a.ID b.ID) λw6 K6=>aO K6<|O1 14 Y<|bsn (τ:=dQ) (xs:=(ah6 aX a b)) (vs:=[(0,aI (bL (nU aX a.ID) (nU aX b.ID))),(1,aI (bL a.ID b.ID))]) (css:=[[aI (bL (nU aX a.ID) (nU aX b.ID))],[aI (bL a.ID b.ID)]]) Y (by intro _; apply IL) rfl rfl K6 (λ_ e=>⟨rfl,rfl,trivial⟩) λg3 w7 K7=>?_
  have k1:=(K7.rm s0);refine aO k1<|O1 15 Y<|nD K7 Y (aeS _ (K7.o s0)) λw8 K8=>?_
  have k2:=(K8.rm s0);refine aO k2<|xL 16 Y Y k2<|Dn ⟨Y,(K8.rm s0)⟩ Y
 rintro _ w9 ⟨rfl,K9⟩;refine iP Y ?_;have fT:(P7 (ah6 aX a b):Int)=(toC aX a b):=by rfl
 exact⟨by rw [fT] <;> rfl,K9.z⟩
theorem ao9(w:World)(jE:Sl bW S0 w jU jR l){aX:List fP}(oK:Sl nO S0 w nH nG aX)(hn:l.length<=100000)(hu:Up aR.ID l) :
    bO prog 339 #[.slice jU l.length jR,.slice nH aX.length nG] w λv w'=>∃(aeT:Nat)(aCr:ah)(aCs:Nat)(aeU:Nat)(jZ:ah)(j3:Nat),v=.func (.func 409) #[] #[gI aeT,gI aeU]/\Hp w S0 w' [dW aeT 41 [.slice aCr ((Ko (frC aX) l).length) aCs],dW aeU 41 [.slice jZ ((Ko (toC aX) l).length) j3],aQ bW 78 aCr aCs (Ko (frC aX) l),aQ bW 78 jZ j3 (Ko (toC aX) l)]:=by
 refine lg S0 func339 ntmps339 Y λH0=>rg<|bx Y Y H0 λg1 w1 K1=>bX Y<|bQ Y<|gU Y (nE _ (K1.a jE).any aj) ?_
 rintro _ w2 ⟨pI,pJ,rfl,h2⟩;have K2:=K1.f1 h2;refine mv Y<|gU Y (nE _ (K2.a jE).any aj) ?_
 rintro _ w3 ⟨qQ,qR,rfl,h3⟩;have K3:=K2.f1 h3;refine al ajJ Y K3 λg2 w4 K4=>al ajJ Y K4 λg3 w5 K5=>yD Y K5 s1 Y λw6 K6=>yD Y K6 s1 Y λw7 K7=>dn<|rg<|nL K7 s1 Y<|ev (rE Y)<|gU Y (aw0 Tryz.laysF6 xu.1 tC (ayQ aX) (K7.sel s3) ayR aj (auG hu) (λw9 ys hl9 K9 x9 y9=>(amb w9 x9 y9 (K9.x s4) (K9.a oK).any).mono (by rintro _ w8 ⟨rfl,K8⟩; exact⟨rfl,K8.ext⟩))) ?_
 rintro _ w8 ⟨rfl,K8⟩;refine dn<|rg<|nL K8 s1 Y<|ev (rE Y)<|gU Y (aw0 Tryz.laysF6 xu.1 tC (ayP aX) (K8.sel s3) ayS aj (auF hu) (λw9 ys hl9 K9 x9 y9=>(amc w9 x9 y9 (K9.x s4) (K9.a oK).any).mono (by rintro _ w8 ⟨rfl,K8⟩; exact⟨rfl,K8.ext⟩))) ?_
 rintro _ w9 ⟨rfl,K9⟩;refine dn<|rg<|ev (rE Y)<|bX Y<|iP Y ?_
 have hl1:(Ko (frC aX) l).length=l.length:=KH _;have hl2:(Ko (toC aX) l).length=l.length:=KH _;have H1:Hp w S0 w9 [aQ bW 78 qQ qR (Ko (toC aX) l),aQ bW 78 pI pJ (Ko (frC aX) l),dW g3 41 [.slice qQ ((Ko (toC aX) l).length) qR],dW g2 41 [.slice pI ((Ko (frC aX) l).length) pJ],dW g1 154 [.slice nH aX.length nG]]:=by rw [hl1,hl2]; exact K9
 exact⟨g2,pI,pJ,g3,qQ,qR,Y,(((((H1.rm s4).sel s0).sel s1).sel s2).sel s3)⟩
theorem aeV{b:World}{gp1 gp2:Nat}{A_1 A_2:ah}{c_1 c_2:Nat}(hn1:xs.length<=1000000)(hn2:ys.length<=1000000) :
    Iter prog 409 [gI gp1,gI gp2] (fun(x:aR × aR)=>[.agg #[aI x.1.ID,aI x.1.mI,aI x.1.lD,aI x.1.gq],.agg #[aI x.2.ID,aI x.2.mI,aI x.2.lD,aI x.2.gq]]) (vN xs ys) b S [dW gp1 41 [.slice A_1 xs.length c_1],dW gp2 41 [.slice A_2 ys.length c_2],aQ bW 78 A_1 c_1 xs,aQ bW 78 A_2 c_2 ys]:=by
 intro lr Jf Jx w F0 H0 h0 hY;refine WP.ahK func409 Y ntmps409 Y ?_;have K0:=uI (F:=F0) H0;refine rg<|nL K0 s0 Y<|ev (eX lq Y)<|mv Y<|dn<|cB<|qZ (λmJ lJ wJ=>∃(k:Nat)(F:List lG),lJ=[(0,.func (.yield lr) #[] #[]),(2,gI gp2),(8,.slice A_1 xs.length c_1),(9,aI ((xs.length:Nat):Int)),(10,aI ((k:Nat):Int))]/\mJ=xs.length - k/\k<=xs.length/\(Jf (vN (xs.take k) ys) F)/\Hp b S wJ (dW gp1 41 [.slice A_1 xs.length c_1]::dW gp2 41 [.slice A_2 ys.length c_2]::aQ bW 78 A_1 c_1 xs::aQ bW 78 A_2 c_2 ys::F)) ⟨0,F0,Y,Y,fE _,by simpa [vN] using h0,K0⟩ rfl ?_
 rintro _ _ w1 ⟨k,F,rfl,rfl,hk,hJt,K1⟩;refine rg<|ev (fD Y Y)<|dn<|pG Y (λy7=>?_) (λy7=>?_)
 ·refine jy ?_;refine aY<|cB<|rg ?_
  obtain⟨x1,bN⟩:=bn (xs:=xs) (i:=k) aj;refine ev (eP (i:=k) lq tC Y Y Y (aM bN) ((K1.o s2).some_ bN))<|ev (iU xu Y Y ((K1.o s2).fF bN))<|al sM Y K1 λg1 w2 K2=>sty Y K2 s0 Y λw3 K3=>dn<|rg<|nL K3 s2 Y<|ev (eX lq Y)<|mv Y<|dn<|cB<|qZ (λmJ lJ wJ=>∃(k2:Nat)(F2:List lG),lJ=[(0,.func (.yield lr) #[] #[]),(2,gI gp2),(5,gI g1),(8,.slice A_1 xs.length c_1),(9,aI ((xs.length:Nat):Int)),(10,aI ((k:Nat):Int)),(14,.slice A_2 ys.length c_2),(15,aI ((ys.length:Nat):Int)),(16,aI ((k2:Nat):Int))]/\mJ=ys.length - k2/\k2<=ys.length/\(Jf (vN (xs.take k) ys++(ys.take k2).map (λy=>(x1,y))) F2)/\Hp b S wJ (dW g1 78 [aI x1.ID,aI x1.mI,aI x1.lD,aI x1.gq]::dW gp1 41 [.slice A_1 xs.length c_1]::dW gp2 41 [.slice A_2 ys.length c_2]::aQ bW 78 A_1 c_1 xs::aQ bW 78 A_2 c_2 ys::F2)) ⟨0,F,Y,Y,fE _,by simpa using hJt,K3⟩ rfl ?_
  rintro _ _ w4 ⟨k2,F2,rfl,rfl,hk2,ayU,K4⟩;refine rg<|ev (fD Y Y)<|dn<|pG Y (λhc17=>?_) (λhc17=>?_)
  ·refine jy ?_;refine aY<|cB<|rg ?_
   obtain⟨x2,lN⟩:=bn (xs:=ys) (i:=k2) aj;refine ev (eP (i:=k2) lq tC Y Y Y (aM lN) ((K4.o s4).some_ lN))<|ev (iU xu Y Y ((K4.o s4).fF lN))<|al sM Y K4 λg2 w5 K5=>sty Y K5 s0 Y λw6 K6=>dn<|bQ Y<|ev (fK xu Y Y (K6.x s1))<|ev (fK xu Y Y (K6.x s0)) ?_
   have hy1:=hY (vN (xs.take k) ys++(ys.take k2).map (λy=>(x1,y))) (x1,x2) _ _ [dW g2 78 [aI x2.ID,aI x2.mI,aI x2.lD,aI x2.gq],dW g1 78 [aI x1.ID,aI x1.mI,aI x1.lD,aI x1.gq]] ayU (ama bN lN) (uI (F:=[dW gp1 41 [.slice A_1 xs.length c_1],dW gp2 41 [.slice A_2 ys.length c_2],aQ bW 78 A_1 c_1 xs,aQ bW 78 A_2 c_2 ys,dW g2 78 [aI x2.ID,aI x2.mI,aI x2.lD,aI x2.gq],dW g1 78 [aI x1.ID,aI x1.mI,aI x1.lD,aI x1.gq]]) ((K6.mV 0 2).mV 2 4));refine WL.yield trivial Y Y hy1 (by rintro e w' (⟨rfl,_⟩ | ⟨rfl,_⟩) <;> exact⟨_,rfl⟩) rfl rfl rfl ?_;rintro v w7 (⟨hv,F1,hJ1,K7⟩ | ⟨hv,F1,hJ1,K7⟩)
   ·cases hv
    have K7c:=uI K7;refine ev (iG Y)<|dn<|bP Y nofun (λ_h=>?_)
    refine Ci ?_;refine jC<|ev (dP Y Y)<|mv Y<|jD<|dG ⟨(k2+1),F1,Y,Y,aj,by rw [fC lN,tu,<- pE]; assumption,(((K7c.rm s4).mV 0 4).sel s4)⟩ rfl aj
   ·cases hv
    have K7c:=uI K7;refine ev (iG Y)<|dn<|bP Y (λ_h=>?_) nofun
    exact jf (iX (fO (fO (iX (iX (fO (fO (iX (l8.alK Y ⟨⟨_,Y⟩,.inr ⟨_,_,hJ1,(uI (K7c.cU 4 2))⟩⟩)))))))))
  refine sP (mY (mY (um (iw (gy ?_)))));refine jC<|ev (dP Y Y)<|mv Y<|jD<|dG ⟨(k+1),F2,Y,Y,aj,by rw [ah3 bN]; rw [gV (show ys.length<=k2 by omega)] at ayU; exact ayU,(K4.rm s0)⟩ rfl aj
 exact sP (mY (mY (um (l8.aoB (l8.alK Y ⟨⟨_,Y⟩,.inl ⟨_,by rw [gV aj] at hJt; exact hJt,(uI K1)⟩⟩)))))
end
end Go.Proofs.YtlhnnmlenkahlaaGreat
