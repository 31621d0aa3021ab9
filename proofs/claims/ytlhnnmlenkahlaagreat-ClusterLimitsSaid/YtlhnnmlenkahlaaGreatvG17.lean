/- Lemmas. -/
import Derived.Test.YtlhnnmlenkahlaaGreatvG16
set_option maxRecDepth 4000
set_option linter.all false
namespace Go.Proofs.YtlhnnmlenkahlaaGreat
open Go.RowKit Go.Proofs.Tryz
def aat:=@List.any_eq_false
variable {m:dU}{c:gD}{f:aI->aI × Int}{S0:Nat->Prop}{uS tZ r9:ah}{α:Type}{l:List aW}{id:Int}{key:α->Int}{x:α}
theorem yG:∀ w,(zeroValue 45).run prog w=.ok (.agg #[.slice none 0 0,.slice none 0 0,.slice none 0 0]) w:=ay
theorem ajW(Vl:ah)(RI RJ:Nat)(adg:ah)(adh adi:Nat)(adk:ah)(adl adn:Nat):prog.built 283 [(0,.agg #[.slice Vl RI RJ,.slice adg adh adi,.slice adk adl adn])]=some #[.slice Vl RI RJ,.slice adg adh adi,.slice adk adl adn,aD 0,aD 0]:=ak
theorem VT:dH prog 120 2 2:=ay
theorem avp:Size prog 281 2:=ay
theorem avq:XY prog 281 2:=⟨λ_=>by kernel_rfl,avp⟩
theorem ang:∀ w,(zeroValue 284).run prog w=.ok (.nilFunc) w:=ay
def EN(m:dU)(c:gD):List aW × List aI × Int × Int:=
  if c.Kind=0 then((m.aY),(m.aA),(0),(0)) else if c.Kind=1 then((if(nR m.aY ⟨c.A,c.B,c.C,0⟩).2=0 then(nR m.aY ⟨c.A,c.B,c.C,0⟩).1 else m.aY),(m.aA),((nR m.aY ⟨c.A,c.B,c.C,0⟩).2),(0)) else if c.Kind=2 then((if c.B=2/\(ofL m.aA c.A).length>0 then m.aY else if(kL m.aY c.A c.B).2=0 then(kL m.aY c.A c.B).1 else m.aY),(m.aA),(if c.B=2/\(ofL m.aA c.A).length>0 then 8 else(kL m.aY c.A c.B).2),(0)) else if c.Kind=3 then((m.aY),((vH eD m.aA c).1),((vH eD m.aA c).2.1),((vH eD m.aA c).2.2)) else if c.Kind=4 then((m.aY),((vH (fun(l:List aI) (id sum:Int)=>gy l id (dz sum)) m.aA c).1),((vH (fun(l:List aI) (id sum:Int)=>gy l id (dz sum)) m.aA c).2.1),((vH (fun(l:List aI) (id sum:Int)=>gy l id (dz sum)) m.aA c).2.2)) else if c.Kind=5 then((m.aY),(if lq m.aY c.B=true then(if(lN m.aA c.A c.B c.C).2=0 then(lN m.aA c.A c.B c.C).1 else m.aA) else m.aA),(if lq m.aY c.B=true then(lN m.aA c.A c.B c.C).2 else 5),(0)) else if c.Kind=6 then((m.aY),(if(gy m.aA c.A (jZ c.B)).2=0 then(gy m.aA c.A (jZ c.B)).1 else m.aA),((gy m.aA c.A (jZ c.B)).2),(0)) else if c.Kind=7 then((m.aY),(if(iB m.aA c.A).2=0 then(iB m.aA c.A).1 else m.aA),((iB m.aA c.A).2),(0)) else(m.aY,m.aA,1,0)
def og(m:dU)(c:gD):dU × Int:=(⟨(EN m c).1,(EN m c).2.1,m.aQ⟩,QY (EN m c).2.2.1 (EN m c).2.2.2)
theorem adA(h:c.Kind=0):EN m c=((m.aY),(m.aA),(0),(0)):=by unfold EN; rw [h]; rfl
abbrev OT(gJ:dU)(iK:gD):=nR gJ.aY ⟨iK.A,iK.B,iK.C,0⟩
abbrev aq4(gJ:dU)(iK:gD):=if(OT gJ iK).2=0 then(OT gJ iK).1 else gJ.aY
theorem adB(h:c.Kind=1):EN m c=((aq4 m c),(m.aA),((OT m c).2),(0)):=by unfold EN; rw [h]; rfl
abbrev aq5(gJ:gD)(iK:dU):=if gJ.B=2/\(ofL iK.aA gJ.A).length>0 then iK.aY else if(kL iK.aY gJ.A gJ.B).2=0 then(kL iK.aY gJ.A gJ.B).1 else iK.aY
abbrev aq6(gJ:gD)(iK:dU):=if gJ.B=2/\(ofL iK.aA gJ.A).length>0 then 8 else(kL iK.aY gJ.A gJ.B).2
theorem adC(h:c.Kind=2):EN m c=((aq5 c m),(m.aA),(aq6 c m),(0)):=by unfold EN; rw [h]; rfl
theorem VU(h:c.Kind=3):EN m c=((m.aY),((vH eD m.aA c).1),((vH eD m.aA c).2.1),((vH eD m.aA c).2.2)):=by unfold EN; rw [h]; rfl
theorem VW(h:c.Kind=4):EN m c=((m.aY),((vH (fun(l:List aI) (id sum:Int)=>gy l id (dz sum)) m.aA c).1),((vH (fun(l:List aI) (id sum:Int)=>gy l id (dz sum)) m.aA c).2.1),((vH (fun(l:List aI) (id sum:Int)=>gy l id (dz sum)) m.aA c).2.2)):=by unfold EN; rw [h]; rfl
abbrev aq7(gJ:dU)(iK:gD):=if lq gJ.aY iK.B=true then(if(lN gJ.aA iK.A iK.B iK.C).2=0 then(lN gJ.aA iK.A iK.B iK.C).1 else gJ.aA) else gJ.aA
abbrev aq8(gJ:dU)(iK:gD):=if lq gJ.aY iK.B=true then(lN gJ.aA iK.A iK.B iK.C).2 else 5
theorem adD(h:c.Kind=5):EN m c=((m.aY),(aq7 m c),(aq8 m c),(0)):=by unfold EN; rw [h]; rfl
abbrev OU(gJ:dU)(iK:gD):=gy gJ.aA iK.A (jZ iK.B)
abbrev anh(gJ:dU)(iK:gD):=if(OU gJ iK).2=0 then(OU gJ iK).1 else gJ.aA
theorem adE(h:c.Kind=6):EN m c=((m.aY),(anh m c),((OU m c).2),(0)):=by unfold EN; rw [h]; rfl
abbrev aq9(gJ:dU)(iK:gD):=if(iB gJ.aA iK.A).2=0 then(iB gJ.aA iK.A).1 else gJ.aA
theorem adF(h:c.Kind=7):EN m c=((m.aY),(aq9 m c),((iB m.aA c.A).2),(0)):=by unfold EN; rw [h]; rfl
theorem adG(h:c.Kind≠0/\c.Kind≠1/\c.Kind≠2/\c.Kind≠3/\c.Kind≠4/\c.Kind≠5/\c.Kind≠6/\c.Kind≠7):EN m c=(m.aY,m.aA,1,0):=by
  obtain⟨k0,k1,k2,k3,k4,k5,k6,k7⟩:=h;unfold EN; rw [aK k0,aK k1,aK k2,aK k3,aK k4,aK k5,aK k6,aK k7]
theorem kinds(k:Int):k=0∨k=1∨k=2∨k=3∨k=4∨k=5∨k=6∨k=7∨(k≠0/\k≠1/\k≠2/\k≠3/\k≠4/\k≠5/\k≠6/\k≠7):=aj
theorem avr(l:List aW)(n:aW):0<=(nR l n).2/\(nR l n).2<=10:=by unfold nR; split <;> (try split) <;> simp
theorem avs(l:List aW)(id st:Int):0<=(kL l id st).2/\(kL l id st).2<=10:=by unfold kL; split <;> (try split) <;> (try split) <;> simp
theorem ani(l:List aI)(id sum:Int):0<=(eD l id sum).2/\(eD l id sum).2<=10:=by unfold eD; split <;> (try split) <;> (try split) <;> simp
theorem anj(l:List aI)(id:Int):0<=(iB l id).2/\(iB l id).2<=10:=by unfold iB; split <;> simp
theorem ank(l:List aI)(id:Int)(hf:∀ c,0<=(f c).2/\(f c).2<=10):0<=(gy l id f).2/\(gy l id f).2<=10:=by
  rcases Yd l id f with ⟨_,h⟩ | ⟨_,_,h⟩ | ⟨_,_,n,_,_,h⟩
  · rw [h]; simp
  · rw [h]; exact hf _
  · rw [h]; simp
theorem ara(sum:Int)(c:aI):0<=(dz sum c).2/\(dz sum c).2<=10:=by unfold dz; split <;> simp
theorem anl(n v:Int)(c:aI):0<=(uF n v c).2/\(uF n v c).2<=10:=by unfold uF; split <;> (try split) <;> simp
theorem ajX(n:Int)(c:aI):0<=(jZ n c).2/\(jZ n c).2<=10:=by unfold jZ; split <;> simp
theorem arb(l:List aI)(id n v:Int):0<=(lN l id n v).2/\(lN l id n v).2<=10:=by
  unfold lN; split
  · simp
  · exact ank _ _ (anl n v)
theorem anm(m:dU)(c:gD):0<=(0:Int)/\(0:Int)<=10:=by exact⟨au,au⟩
theorem ano(m:dU)(c:gD):0<=((OT m c).2:Int)/\((OT m c).2:Int)<=10:=by exact avr _ _
theorem anp(m:dU)(c:gD):0<=(if c.B=2/\(ofL m.aA c.A).length>0 then 8 else(kL m.aY c.A c.B).2:Int)/\(if c.B=2/\(ofL m.aA c.A).length>0 then 8 else(kL m.aY c.A c.B).2:Int)<=10:=by split <;> first | exact avs _ _ _ | simp
theorem anq(m:dU)(c:gD):0<=((vH eD m.aA c).2.1:Int)/\((vH eD m.aA c).2.1:Int)<=10:=by unfold vH; split <;> first | exact ani _ _ _ | simp
theorem anr(m:dU)(c:gD):0<=((vH (fun(l:List aI) (id sum:Int)=>gy l id (dz sum)) m.aA c).2.1:Int)/\((vH (fun(l:List aI) (id sum:Int)=>gy l id (dz sum)) m.aA c).2.1:Int)<=10:=by unfold vH; split <;> first | exact ank _ _ (ara _) | simp
theorem ant(m:dU)(c:gD):0<=(if lq m.aY c.B=true then(lN m.aA c.A c.B c.C).2 else 5:Int)/\(if lq m.aY c.B=true then(lN m.aA c.A c.B c.C).2 else 5:Int)<=10:=by split <;> first | exact arb _ _ _ _ | simp
theorem anu(m:dU)(c:gD):0<=((OU m c).2:Int)/\((OU m c).2:Int)<=10:=by exact ank _ _ (ajX _)
theorem anv(m:dU)(c:gD):0<=((iB m.aA c.A).2:Int)/\((iB m.aA c.A).2:Int)<=10:=by exact anj _ _
abbrev ahF:=Array.push (Array.push (Array.push (Array.push (Array.push (Array.push (Array.push (Array.push (#[]:Array MapEntry) ⟨aD 0,.func (.func 345) #[] #[],0⟩) ⟨aD 1,.func (.func 346) #[] #[],1⟩) ⟨aD 2,.func (.func 349) #[] #[],2⟩) ⟨aD 3,.func (.func 352) #[] #[],3⟩) ⟨aD 4,.func (.func 355) #[] #[],4⟩) ⟨aD 5,.func (.func 357) #[] #[],5⟩) ⟨aD 6,.func (.func 360) #[] #[],6⟩) ⟨aD 7,.func (.func 362) #[] #[],7⟩
abbrev ayT(gJ:dU)(iK:gD):=(⟨((vH eD gJ.aA iK).2.1),((vH eD gJ.aA iK).2.2)⟩:VI)
theorem Ev.ayU{P:Program}{n:Cx}{l:List (Nat × Value)}{b w:World}{S:Nat->Prop}{rs rest:List lC}{g DU:Nat}{es:Array MapEntry}{ky:Operand}{k:Int}{t kt et:TypeId}{m:Operand}{z:Value}{r:Option (Nat × Value)}(H:Hp b S w rs)(s:ou rs (oH g (.map es DU)) rest)(hx:gQ l m=some (.map (some g)))(hkey:gQ l ky=some (aD k))
    (hm:P.underlying t=some (.map kt et)) (hk:P.underlying kt=some (.int .i64)) (hz:∀ w,(zeroValue et).run P w=.ok z w) (hf:Instr.findNow (.int .i64) (aD k) es.toList 0=some r):Ev P n l w (.lookup t m ky false) (r.elim z (·.2)):=by
  cases r
  · exact Ev.asD H s hx hkey hm hk hz hf
  · exact vU H s hx hkey hm hk hf
def aDJ(m:dU)(c:gD)(N:List aW)(C:List aI)(e n:Int)(f:FuncId):Prop:=∀ {b w:World} {S:Nat->Prop} {g:Nat} {An:ah} {cn:Nat} {Ac:ah} {cc:Nat} {As:ah} {cs:Nat} {F:List lC},Hp b S w (BG g An m cn Ac cc As cs F)->
  bO prog f #[fP g,.agg #[aD c.Client,aD c.Seq,aD c.Kind,aD c.A,aD c.B,aD c.C]] w λv w'=>∃(MS:ah)(MV:Nat)(Le:ah)(Lh:Nat),v=.tuple #[]/\Hp b S w' (dJ g 283 [.slice MS N.length MV,.slice Le C.length Lh,.slice As m.aQ.length cs,aD e,aD n]::dP bX MS MV N::dP bH Le Lh C::dP bZ As cs m.aQ::F)
theorem anw{m:dU}{c:gD}(hn:m.aY.length<=100000)(hc:m.aA.length<=100000)(hh:∀ x∈m.aA,x.aF.length<=100000){N:List aW}{C:List aI}{e n:Int}(hD:EN m c=(N,C,e,n)) :
    (0<=e/\e<=10)/\∃ r,Instr.findNow (.int .i64) (aD c.Kind) ahF.toList 0=some r/\((r=none/\N=m.aY/\C=m.aA/\e=1/\n=0)∨∃ i f,r=some (i,.func (.func f) #[] #[])/\bI prog f/\aDJ m c N C e n f):=by
  rcases kinds c.Kind with h | h | h | h | h | h | h | h | h
  · rw [adA h] at hD; cases hD; exact⟨anm m c,_,by rw [h]; rfl,.inr ⟨0,345,rfl,λ_ _=>by kernel_rfl,λH=>aqU H hn hc hh⟩⟩
  · rw [adB h] at hD; cases hD; exact⟨ano m c,_,by rw [h]; rfl,.inr ⟨1,346,rfl,λ_ _=>by kernel_rfl,λH=>aqV H hn hc hh⟩⟩
  · rw [adC h] at hD; cases hD; exact⟨anp m c,_,by rw [h]; rfl,.inr ⟨2,349,rfl,λ_ _=>by kernel_rfl,λH=>aqW H hn hc hh⟩⟩
  · rw [VU h] at hD; cases hD; exact⟨anq m c,_,by rw [h]; rfl,.inr ⟨3,352,rfl,λ_ _=>by kernel_rfl,λH=>aqZ H hn hc hh⟩⟩
  · rw [VW h] at hD; cases hD; exact⟨anr m c,_,by rw [h]; rfl,.inr ⟨4,355,rfl,λ_ _=>by kernel_rfl,λH=>aq0 H hn hc hh⟩⟩
  · rw [adD h] at hD; cases hD; exact⟨ant m c,_,by rw [h]; rfl,.inr ⟨5,357,rfl,λ_ _=>by kernel_rfl,λH=>aq1 H hn hc hh⟩⟩
  · rw [adE h] at hD; cases hD; exact⟨anu m c,_,by rw [h]; rfl,.inr ⟨6,360,rfl,λ_ _=>by kernel_rfl,λH=>aq2 H hn hc hh⟩⟩
  · rw [adF h] at hD; cases hD; exact⟨anv m c,_,by rw [h]; rfl,.inr ⟨7,362,rfl,λ_ _=>by kernel_rfl,λH=>aq3 H hn hc hh⟩⟩
  · rw [adG h] at hD; cases hD; exact⟨⟨au,au⟩,none,(by obtain⟨k0,k1,k2,k3,k4,k5,k6,k7⟩:=h; have e0:(c.Kind == 0)=false:=(by simpa using k0); have e1:(c.Kind == 1)=false:=(by simpa using k1); have e2:(c.Kind == 2)=false:=(by simpa using k2); have e3:(c.Kind == 3)=false:=(by simpa using k3); have e4:(c.Kind == 4)=false:=(by simpa using k4); have e5:(c.Kind == 5)=false:=(by simpa using k5); have e6:(c.Kind == 6)=false:=(by simpa using k6); have e7:(c.Kind == 7)=false:=(by simpa using k7); simp [Instr.findNow,Instr.sameNow,e0,e1,e2,e3,e4,e5,e6,e7]),.inl ⟨rfl,rfl,rfl,rfl,rfl⟩⟩
theorem ahG(w:World)(m:dU){uG:Nat}(GD:Sl bX S0 w uS uG m.aY){tJ:Nat}(IB:Sl bH S0 w tZ tJ m.aA){rC:Nat}(OJ:Sl bZ S0 w r9 rC m.aQ)(c:gD)(hn:m.aY.length<=100000)(hc:m.aA.length<=100000)(hh:∀ x∈m.aA,x.aF.length<=100000) :
    bO prog 168 #[.agg #[.slice uS m.aY.length uG,.slice tZ m.aA.length tJ,.slice r9 m.aQ.length rC],.agg #[aD c.Client,aD c.Seq,aD c.Kind,aD c.A,aD c.B,aD c.C]] w λv w'=>∃(uP:ah)(uQ:Nat)(xU:ah)(xV:Nat)(xW:ah)(xX:Nat),v=.tuple #[.agg #[.slice uP ((((og m c).1).aY).length) uQ,.slice xU ((((og m c).1).aA).length) xV,.slice xW ((((og m c).1).aQ).length) xX],aD ((og m c).2)]/\Hp w S0 w' [dP bX uP uQ (((og m c).1).aY),dP bH xU xV (((og m c).1).aA),dP bZ xW xX (((og m c).1).aQ)]:=by
 obtain⟨⟨N,C,e,n⟩,hD⟩:∃ y,EN m c=y:=⟨_,rfl⟩;obtain⟨he,r,hf,hr⟩:=anw hn hc hh hD;refine j4 S0 func168 ntmps168 Y λH0=>rg<|bx Y Y H0 λg1 w1 K1=>bx Y Y K1 λg2 w2 K2=>al yG Y K2 λg3 w3 K3=>bS Y<|rg<|ev (dK qO Y Y (K3.x s2))<|ev (iE (vs:=[(0,.agg #[.slice uS m.aY.length uG,.slice tZ m.aA.length tJ,.slice r9 m.aQ.length rC])]) (cs:=[.slice uS m.aY.length uG,.slice tZ m.aA.length tJ,.slice r9 m.aQ.length rC,aD 0,aD 0]) Y (by apply ajW))<|bx rfl rfl K3 λg4 w4 K4=>bS rfl<|aZ<|cjz K4 (λ_ K=>K.rm s0) (λl0 rk lJ wJ=>lJ=l0/\∃(An:ah)(cn:Nat)(Ac:ah)(cc:Nat),Hp w S0 wJ (dJ g4 283 [.slice An N.length cn,.slice Ac C.length cc,.slice r9 m.aQ.length rC,aD e,aD n]::dP bX An cn N::dP bH Ac cc C::dP bZ r9 rC m.aQ::rk)) ?_ λtl=>?_
 ·rintro _ _ ⟨rfl,An,cn,Ac,cc,K7⟩;refine He K7 (λ_ K=>(K.rm s4)) (λl0 rk lJ wJ=>lJ=(5,aD (QY e n))::l0/\Hp w S0 wJ (dJ g3 45 [.slice An N.length cn,.slice Ac C.length cc,.slice r9 m.aQ.length rC]::rk)) (λhns H5=>?_) ?_
  ·have k2:=(H5.rm s4);refine sw 0 g4 0 pW Y k2<|lH 3 Y (λ_ hK=>Cm (cs':=[.slice An N.length cn,.slice Ac C.length cc,.slice r9 m.aQ.length rC]) qO Y Y (hK.x s0) Y) k2<|sw 4 g4 3 wM Y k2<|lH 7 Y (λ_ hK=>Cm (cs':=[aD e,aD n]) avq Y Y (hK.x s0) Y) k2<|O1 8 Y<|lF H5 Y (ajU (S0:=Any) _ (⟨e,n⟩:VI) he) λw8 K8=>?_
   have k3:=(K8.rm s4);refine aP k3<|O1 9 Y<|sty Y K8 s4 Y λw9 K9=>?_
   have k4:=(K9.rm s0);refine aP k4<|xJ 10 Y Y k4<|Dn ⟨Y,K9⟩ Y
  rintro _ Nn ⟨rfl,K10⟩;refine je (oW Y ⟨_,_,Y,⟨_,Y,jm (cs:=[.slice An N.length cn,.slice Ac C.length cc,.slice r9 m.aQ.length rC]) qO Y (K10.x s0)⟩,⟨_,_,Y,Y,Y⟩⟩ ?_);have hd:og m c=(⟨N,C,m.aQ⟩,QY e n):=by unfold og; rw [hD]
  rw [hd];exact⟨An,cn,Ac,cc,r9,rC,Y,((K10.cU 5 2).cU 0 2)⟩
 refine He K4 (λ_ K=>K) (λl0 rk lJ wJ=>∃(rH:Nat),lJ=(7,r.elim .nilFunc (·.2))::l0/\Hp w S0 wJ (oH rH (.map ahF 8)::rk)) (λhns H1=>?_) ?_
 ·refine mD 1 2 g2 2 VT s2 Y H1<|O1 0 Y<|gW Y (adx (S0:=Any) _ ) ?_
  rintro _ w5 ⟨aDK,rfl,h5⟩;have K5:=H1.f1 h5;have k1:=(K5.rm s0);refine aP k1<|O1 3 Y<|ev (Ev.ayU K5 s0 Y Y GH iw ang hf)<|aP k1<|xJ 4 Y Y k1<|Dn ⟨aDK,Y,K5⟩ Y
 rintro _ w6 ⟨rH,rfl,K6⟩
 rcases hr with ⟨rfl,rfl,rfl,rfl,rfl⟩ | ⟨i,f,rfl,Cj,hR⟩
 ·refine bQ Y<|ev (Ev.aCM underlying284 Y)<|dn<|bR Y nofun (λ_h=>?_)
  refine jr<|mv Y<|ev (dS Y)<|wC g4 3 wM Y<|wC g4 3 yE Y<|wD Y K6 s1 Y λw55 K55=>jv<|gB ?_
  have H2:=K55.push (K55.a GD);have H3:=H2.push (H2.a IB);have H4:=H3.push (H3.a OJ);exact(tl _ _ ⟨Y,uS,uG,tZ,tJ,((((H4.rm s4).sel s1).sel s2).sel s3)⟩).kz Y
 refine bQ Y<|ev (Ev.aCL underlying284 Y)<|dn<|bR Y (λ_h=>?_) nofun
 refine jr<|mv Y<|mv Y<|ev (dK AA Y Y (K6.x s3)) ?_
 have H2:=K6.push (K6.a GD);have H3:=H2.push (H2.a IB);have H4:=H3.push (H3.a OJ);refine wo Y Y Y Cj (hR (((((H4.sel s3).sel s1).sel s2).sel s3).sel s4)) Y ?_;rintro _ w7 ⟨An7,cn7,Ac7,cc7,rfl,K7⟩;exact jv<|gB<|(tl _ _ ⟨Y,An7,cn7,Ac7,cc7,K7.rm s4⟩).kz Y
theorem adH{l:List α}(hu:Up key l){k:Nat}(hx:l[k]? = some x):key x<id↔k<low (fun(y:α)=>bn (key y) id) l:=by
  have hm:=hu.mono id
  constructor
  · intro h
    rcases Nr k (low (fun(y:α)=>bn (key y) id) l) with h1 | h1
    · exact h1
    · exfalso
      have h2:low (fun(y:α)=>bn (key y) id) l≥k+1:=by
        have e:l=l.take (k+1)++l.drop (k+1):=(sJ _ _).symm
        have h3:(l.take (k+1)).countP (fun(y:α)=>decide (bn (key y) id<0))=(l.take (k+1)).length:=by
          rw [List.countP_eq_length];intro y hy;obtain⟨a,ha⟩:=qV hy;have ha1:=aJ ha
          simp only [fE] at ha1
          rw [Qc aj] at ha
          simp only [bL]
          exact hm a k y x aj ha hx (pO.2 h)
        unfold low;rw [e,LZ,h3,fE];have:=aJ hx;omega
      omega
  · intro h
    rcases(by omega:key x<id∨id<=key x) with h1 | h1
    · exact h1
    · exfalso
      have h2:low (fun(y:α)=>bn (key y) id) l<=k:=by
        have e:l=l.take k++l.drop k:=(sJ _ _).symm
        have h3:(l.drop k).countP (fun(y:α)=>decide (bn (key y) id<0))=0:=by
          rw [List.countP_eq_zero];intro y hy;obtain⟨a,ha⟩:=qV hy;rw [Cc] at ha
          simp only [bL]
          intro hlt;have:=pO.1 (hm k (k+a) x y aj hx ha hlt);omega
        simp only [low]
        rw [e,LZ,h3];have:=Y9 (p:=fun(y:α)=>decide (bn (key y) id<0)) (l:=l.take k)
        simp only [fE] at this
        omega
      omega
theorem YD{l:List α}(hu:Up key l)(h:x∈l.take (low (fun(y:α)=>bn (key y) id) l)):key x<id:=by
  obtain⟨a,ha⟩:=qV h;have h1:=aJ ha
  simp only [fE] at h1
  rw [Qc aj] at ha;exact(adH hu ha).2 aj
theorem YE{l:List α}(hu:Up key l)(h:x∈l.drop (low (fun(y:α)=>bn (key y) id) l)):id<=key x:=by
  obtain⟨a,ha⟩:=qV h;rw [Cc] at ha;have h1:=(adH (id:=id) hu ha)
  rcases Int.lt_or_le (key x) id with h2 | h2
  · have:=h1.1 h2; omega
  · exact h2
theorem zX{l:List α}{c:α}(n:Nat):x∈l.take n++[c]++l.drop n↔x=c∨x∈l:=by
  have h:x∈l↔x∈l.take n∨x∈l.drop n:=by rw [<- kU,sJ]
  simp only [kU,nL,h]
  constructor
  · rintro((h | h) | h)
    · exact .inr (.inl h)
    · exact .inl h
    · exact .inr (.inr h)
  · rintro(h | h | h)
    · exact .inl (.inr h)
    · exact .inl (.inl h)
    · exact .inr h
theorem ahH{l:List α}(hu:Up key l){c:α}(hn:∀ x∈l,key x≠key c):Up key (l.take (low (fun(y:α)=>bn (key y) (key c)) l)++[c]++l.drop (low (fun(y:α)=>bn (key y) (key c)) l)):=by
  have h5:(l.take (low (fun(y:α)=>bn (key y) (key c)) l)++l.drop (low (fun(y:α)=>bn (key y) (key c)) l)).Pairwise (λx y=>key x<key y):=by rw [sJ]; exact hu
  have h6:=x8.1 h5
  have h2':∀ x∈l.drop (low (fun(y:α)=>bn (key y) (key c)) l),key c<key x:=λx hx=>by
    have h3:=YE hu hx;have h4:=hn x (Zq hx);omega
  unfold Up;rw [nU];refine x8.2 ⟨h6.1,x8.2 ⟨Qb _ _,h6.2.1,λx hx y hy=>?_⟩,λx hx y hy=>?_⟩
  · rw [nL.1 hx]; exact h2' y hy
  · rcases kU.1 hy with hy | hy
    · rw [nL.1 hy]; exact YD hu hx
    · exact h6.2.2 x hx y hy
theorem ahI{l:List α}(hu:Up key l){i:Nat}{y:α}(hx:l[i]? = some x)(hk:key y=key x):Up key (l.set i y):=by
  have h1:(l.set i y).map key=l.map key:=by
    rw [EF,hk]; exact EZ (by rw [kI,hx]; rfl)
  have h2:(l.map key).Pairwise (λa b=>a<b):=by rw [I8]; exact hu
  rw [<- h1,I8] at h2;exact h2
theorem adI:∀(l:List aW)(z:Int),Up aW.ID l->(∀ n∈l,z<n.ID/\Iw n=true)->Ic z l=true
  | [],_,_,_=>rfl
  | m::l,z,hu,h=>by
    have h1:=oU.1 hu;have h2:=h m av
    simp only [Ic,bK,eu,dN,fC,bU]
    exact⟨⟨h2.2,aj⟩,adI l _ h1.2 λn hn=>⟨h1.1 n hn,(h n (by simp [hn])).2⟩⟩
theorem ahJ{n:aW}(h:Iw n=true):1<=n.ID/\n.ID<=16:=by simp only [Iw,bK,bL] at h; omega
theorem yH:uR l=true↔Up aW.ID l/\∀ n∈l,Iw n=true:=
  ⟨λh=>⟨Je l 0 h,λn hn=>(NS l 0 h n hn).2⟩,λh=>adI l 0 h.1 λn hn=>⟨by have:=ahJ (h.2 n hn); omega,h.2 n hn⟩⟩
theorem FE(h:uR l=true):l.length<=16:=by
  have h1:=yH.1 h
  have h2:nC 16 1 (l.map aW.ID)=true:=(zu _ _).2 ⟨by rw [I8]; exact h1.1,λx hx=>by
    obtain⟨n,hn,rfl⟩:=jI.1 hx; exact ahJ (h1.2 n hn)⟩
  rcases F8 _ _ h2 with h3 | h3
  · rw [<- jN (f:=aW.ID),h3]; simp
  · rw [jN] at h3; omega
theorem ajY(h:uR l=true):jU l id=true↔∃ n∈l,n.ID=id:=by
  unfold jU; rw [yw h]; exact uY (yH.1 h).1 id
theorem OV(h:uR l=true)(hb:jU l id=true):gP l id∈l/\(gP l id).ID=id:=by
  obtain⟨x,hx,hk⟩:=qE (key:=aW.ID) hb;rw [qX hb hx]; rw [yw h] at hx; exact⟨dA hx,hk⟩
theorem anx(h:uR l=true){n:aW}(hn:n∈l):jU l n.ID=true/\gP l n.ID=n:=by
  have hb:=(ajY h).2 ⟨n,hn,rfl⟩;have h1:=OV h hb;exact⟨hb,UJ (yH.1 h).1 h1.1 hn h1.2⟩
theorem MW(h:uR l=true):lq l id=true↔∃ n∈l,n.ID=id/\n.gG≠2:=by
  unfold lq
  simp only [bK,eu,bU]
  constructor
  · rintro⟨h1,h2⟩
    have h3:=OV h h1;exact⟨_,h3.1,h3.2,h2⟩
  · rintro⟨n,hn,rfl,hs⟩
    have h1:=anx h hn;exact⟨h1.1,by rw [h1.2]; exact hs⟩
theorem MX(h:uR l=true)(n:aW):(nR l n).2≠0∨((nR l n).2=0/\uR (nR l n).1=true/\∀ x,x∈(nR l n).1↔x=n∨x∈l):=by
  have h1:=yH.1 h;unfold nR; rw [yw h]
  split
  · left; simp
  · rename_i hn
    split
    · left; simp
    · rename_i hh
      right
      have hno:∀ x∈l,x.ID≠n.ID:=λx hx e=>hh ((uY h1.1 n.ID).2 ⟨x,hx,e⟩);refine⟨Y,yH.2 ⟨ahH h1.1 hno,λx hx=>?_⟩,λx=>zX _⟩
      rcases(zX _).1 hx with rfl | hx
      · simpa using λe=>hn (.inl e)
      · exact h1.2 x hx
theorem VX(h:uR l=true)(id st:Int):(kL l id st).2≠0∨((kL l id st).2=0/\uR (kL l id st).1=true/\(0<=st/\st<=2)/\jU l id=true/\(gP l id).gG≠2/\{ gP l id with gG:=st }∈(kL l id st).1/\(∀ x∈l,x.ID≠id->x∈(kL l id st).1)/\∀ x∈(kL l id st).1,x={ gP l id with gG:=st }∨(x∈l/\x.ID≠id)):=by
  have h1:=yH.1 h;unfold kL; rw [yw h]
  split
  · rename_i hb
    split
    · rename_i hst
      split
      · left; simp
      · rename_i hs
        right
        have hb':jU l id=true:=by unfold jU; rw [yw h]; exact hb
        obtain⟨x,hx,hk⟩:=qE (key:=aW.ID) hb;have hlt:=aJ hx;have hfx:gP l id=x:=qX hb' (by rw [yw h]; exact hx);have hone:=h1.2 x (dA hx);refine⟨Y,yH.2 ⟨ahI h1.1 hx (by rw [hfx]),λy hy=>?_⟩,hst,hb',λe=>hs (.inl e),dA (pQ hlt),λy hy hne=>?_,λy hy=>?_⟩
        · rcases Zp hy with hy | rfl
          · exact h1.2 y hy
          · rw [hfx]; simp only [Iw,bK,bL] at hone ⊢; omega
        · obtain⟨q,hq⟩:=qV hy
          by_cases e:low (fun(y:aW)=>bn y.ID id) l=q
          · rw [<- e] at hq; rw [hq] at hx; cases hx; exact absurd hk hne
          · exact dA (show(l.set _ _)[q]? = some y by rw [CJ e]; exact hq)
        · obtain⟨q,hq⟩:=qV hy
          by_cases e:low (fun(y:aW)=>bn y.ID id) l=q
          · subst e; rw [pQ hlt] at hq; cases hq; exact .inl rfl
          · rw [CJ e] at hq
            refine .inr ⟨dA hq,λhid=>?_⟩
            rcases UG q (low (fun(y:aW)=>bn y.ID id) l) with h3 | h3 | h3
            · have:=h1.1.get h3 hq hx; omega
            · omega
            · have:=h1.1.get h3 hx hq; omega
    · left; simp
  · left; simp
theorem ard{l:List aI}(h:lY l=true){n:Int}(h0:¬ (ofL l n).length>0):∀ c∈l,n∉c.aF:=by
  intro c hc hn;apply h0
  have:c.ID∈ofL l n:=by
    unfold ofL; rw [wE h];exact jI.2 ⟨c,zk.2 ⟨hc,by rw [sU]; exact hn⟩,rfl⟩
  exact List.length_pos_of_mem this
def ahK(ns:List aW)(cs:List aI):Prop:=∀ c∈cs,∀ id∈c.aF,∃ n∈ns,n.ID=id/\n.gG≠2
theorem nG:qz m=true↔uR m.aY=true/\lY m.aA=true/\Az m.aQ=true/\ahK m.aY m.aA:=by
  unfold qz
  simp only [bK,eu]
  constructor
  · rintro⟨⟨⟨h1,h2⟩,h3⟩,h4⟩
    refine⟨h1,h2,h3,λc hc id hid=>(MW h1).1 ?_⟩;rw [aat] at h4;have h5:=h4 c hc;rw [Bool.not_eq_true,aat] at h5
    simpa using h5 id hid
  · rintro⟨h1,h2,h3,h4⟩
    refine⟨⟨⟨h1,h2⟩,h3⟩,?_⟩;rw [aat];intro c hc;rw [Bool.not_eq_true,aat];intro id hid;rw [(MW h1).2 (h4 c hc id hid)]; simp
theorem JE{ns:List aW}{cs cs':List aI}(h:ahK ns cs)(hs:∀ c'∈cs',∀ id∈c'.aF,(∃ c∈cs,id∈c.aF)∨∃ n∈ns,n.ID=id/\n.gG≠2):ahK ns cs':=by
  intro c' hc' id hid
  rcases hs c' hc' id hid with ⟨c,hc,h1⟩ | h1
  · exact h c hc id h1
  · exact h1
theorem adJ{l:List aI}(hl:lY l=true)(id sum:Int):∀ c'∈(eD l id sum).1,∀ n∈c'.aF,∃ c∈l,n∈c.aF:=by
  intro c' hc' n hn
  rcases Gf l id sum with ⟨h1,_⟩ | ⟨_,_,_,_,h1⟩
  · rw [h1] at hc'; simp at hc'
  · rw [h1,wE hl] at hc'
    rcases(zX _).1 hc' with rfl | h2
    · simp at hn
    · exact⟨c',h2,hn⟩
theorem VY{l:List aI}(hl:lY l=true)(id:Int){Q:Int->Prop}(hf:∀ c,pF c=true->(f c).2=0->∀ n∈(f c).1.aF,n∈c.aF∨Q n):∀ c'∈(gy l id f).1,∀ n∈c'.aF,(∃ c∈l,n∈c.aF)∨Q n:=by
  intro c' hc' n hn
  cases hb:gU l id with
  | false=>rw [aff hb] at hc'; simp at hc'
  | true=>
    rw [alN hl hb] at hc'
    split at hc'
    · rename_i he
      rcases Zp hc' with h1 | rfl
      · exact .inl ⟨c',h1,hn⟩
      · rcases hf _ (Zt hl _ (DW hl hb)) he n hn with h2 | h2
        · exact .inl ⟨_,DW hl hb,h2⟩
        · exact .inr h2
    · simp at hc'
theorem agk(sum:Int)(c:aI)(ho:pF c=true)(he:(dz sum c).2=0):∀ n∈(dz sum c).1.aF,n∈c.aF∨False:=by
  intro n hn; rw [(Qr ho he).1] at hn; simp at hn
theorem aau(bq:Int)(c:aI)(ho:pF c=true)(he:(jZ bq c).2=0):∀ n∈(jZ bq c).1.aF,n∈c.aF∨False:=by
  intro n hn; rw [(Jd ho he).2.1] at hn; exact .inl ((NQ _ _).subset hn)
theorem agl{l:List aI}(hl:lY l=true)(id bq v:Int):∀ c'∈(lN l id bq v).1,∀ n∈c'.aF,(∃ c∈l,n∈c.aF)∨n=bq:=by
  unfold lN; split
  · intro c' hc'; simp at hc'
  · rename_i hr
    refine VY hl id (Q:=λn=>n=bq) λc ho he n hn=>?_;rw [(Qs ho aj aj he).2.2.1] at hn
    rcases(zX _).1 hn with h | h
    · exact .inr h
    · exact .inl h
theorem adK{l:List aI}(hl:lY l=true)(id:Int):∀ c'∈(iB l id).1,∀ n∈c'.aF,∃ c∈l,n∈c.aF:=by
  intro c' hc' n hn;unfold iB at hc'; rw [wE hl] at hc'
  split at hc'
  · exact⟨c',(NQ _ _).subset hc',hn⟩
  · simp at hc'
theorem arf(hm:qz m=true)(c:gD):uR (EN m c).1=true/\lY (EN m c).2.1=true/\ahK (EN m c).1 (EN m c).2.1/\((EN m c).2.2.1≠0->(EN m c).1=m.aY/\(EN m c).2.1=m.aA):=by
  obtain⟨h1,h2,h3,h4⟩:=nG.1 hm
  rcases kinds c.Kind with hk | hk | hk | hk | hk | hk | hk | hk | hk
  · rw [adA hk]; exact⟨h1,h2,h4,λ_=>⟨rfl,rfl⟩⟩
  · rw [adB hk]
    rcases MX h1 ⟨c.A,c.B,c.C,0⟩ with h5 | ⟨h5,h6,h7⟩
    · simp only [aK h5]; exact⟨h1,h2,h4,λ_=>⟨trivial,trivial⟩⟩
    · simp only [aO h5]
      refine⟨h6,h2,λx hx id hid=>?_,λh=>absurd h5 h⟩;obtain⟨n,hn,h8⟩:=h4 x hx id hid;exact⟨n,(h7 n).2 (.inr hn),h8⟩
  · rw [adC hk]
    by_cases h0:c.B=2/\(ofL m.aA c.A).length>0
    · simp only [aO h0]; exact⟨h1,h2,h4,λ_=>⟨trivial,trivial⟩⟩
    · simp only [aK h0]
      rcases VX h1 c.A c.B with h5 | ⟨h5,h6,h7,h8,h9,h10,h11,_⟩
      · simp only [aK h5]; exact⟨h1,h2,h4,λ_=>⟨trivial,trivial⟩⟩
      · simp only [aO h5]
        refine⟨h6,h2,λx hx id hid=>?_,λh=>absurd h5 h⟩;obtain⟨n,hn,h12,h13⟩:=h4 x hx id hid
        by_cases e:id=c.A
        · refine⟨_,h10,by rw [e]; exact(OV h1 h8).2,λh14=>?_⟩
          have h15:c.B=2:=h14;exact ard h2 (λh16=>h0 ⟨h15,h16⟩) x hx (e▸hid)
        · exact⟨n,h11 n hn aj,h12,h13⟩
  · rw [VU hk]; unfold vH
    split
    · exact⟨h1,h2,h4,λ_=>⟨Y,Y⟩⟩
    · by_cases he:(eD m.aA c.A (IntKind.u32.wrap c.B)).2=0
      · simp only [aO he]
        exact⟨h1,(CY _ _ _).1,JE h4 λc' hc' n hn=>.inl (adJ h2 _ _ c' hc' n hn),λh=>absurd he h⟩
      · simp only [aK he]; exact⟨h1,h2,h4,λ_=>⟨trivial,trivial⟩⟩
  · rw [VW hk]; unfold vH
    split
    · exact⟨h1,h2,h4,λ_=>⟨Y,Y⟩⟩
    · by_cases he:(gy m.aA c.A (dz (IntKind.u32.wrap c.B))).2=0
      · simp only [aO he]
        refine⟨h1,(F9 _ _ (zw _)).1,JE h4 λc' hc' n hn=>?_,λh=>absurd he h⟩
        rcases VY h2 c.A (agk _) c' hc' n hn with h | h
        · exact .inl h
        · exact h.elim
      · simp only [aK he]; exact⟨h1,h2,h4,λ_=>⟨trivial,trivial⟩⟩
  · rw [adD hk]
    by_cases hs:lq m.aY c.B=true
    · simp only [aO hs]
      by_cases he:(lN m.aA c.A c.B c.C).2=0
      · simp only [aO he]
        refine⟨h1,(ajc _ _ _ _).1,JE h4 λc' hc' n hn=>?_,λh=>absurd he h⟩
        rcases agl h2 c.A c.B c.C c' hc' n hn with h | h
        · exact .inl h
        · exact .inr (h▸(MW h1).1 hs)
      · simp only [aK he]; exact⟨h1,h2,h4,λ_=>⟨trivial,trivial⟩⟩
    · simp only [aK hs]; exact⟨h1,h2,h4,λ_=>⟨trivial,trivial⟩⟩
  · rw [adE hk]
    by_cases he:(gy m.aA c.A (jZ c.B)).2=0
    · simp only [aO he]
      refine⟨h1,(F9 _ _ (NR _)).1,JE h4 λc' hc' n hn=>?_,λh=>absurd he h⟩
      rcases VY h2 c.A (aau _) c' hc' n hn with h | h
      · exact .inl h
      · exact h.elim
    · simp only [aK he]; exact⟨h1,h2,h4,λ_=>⟨trivial,trivial⟩⟩
  · rw [adF hk]
    by_cases he:(iB m.aA c.A).2=0
    · simp only [aO he]
      exact⟨h1,(afj _ _).1,JE h4 λc' hc' n hn=>.inl (adK h2 _ c' hc' n hn),λh=>absurd he h⟩
    · simp only [aK he]; exact⟨h1,h2,h4,λ_=>⟨trivial,trivial⟩⟩
  · rw [adG hk]; exact⟨h1,h2,h4,λ_=>⟨rfl,rfl⟩⟩
theorem arh(m:dU)(c:gD):0<=(EN m c).2.2.1/\(EN m c).2.2.1<=10:=by
  rcases kinds c.Kind with hk | hk | hk | hk | hk | hk | hk | hk | hk
  · rw [adA hk]; exact anm m c
  · rw [adB hk]; exact ano m c
  · rw [adC hk]; exact anp m c
  · rw [VU hk]; exact anq m c
  · rw [VW hk]; exact anr m c
  · rw [adD hk]; exact ant m c
  · rw [adE hk]; exact anu m c
  · rw [adF hk]; exact anv m c
  · rw [adG hk]; exact⟨(by decide:(0:Int)<=1),(by decide:(1:Int)<=10)⟩
theorem adL:∀(l:List aU)(z:Int),Up aU.Client l->(∀ n∈l,z<n.Client/\GI n=true)->FB z l=true
  | [],_,_,_=>rfl
  | m::l,z,hu,h=>by
    have h1:=oU.1 hu;have h2:=h m av
    simp only [FB,bK,eu,dN,fC,bU]
    exact⟨⟨h2.2,aj⟩,adL l _ h1.2 λn hn=>⟨h1.1 n hn,(h n (by simp [hn])).2⟩⟩
theorem ari{n:aU}(h:GI n=true):1<=n.Client/\n.Client<=1048576/\1<=n.Seq/\n.Seq<=1099511627776:=by simp only [GI,bK,bL] at h; omega
theorem JF{l:List aU}:Az l=true↔Up aU.Client l/\(∀ n∈l,GI n=true)/\l.length<=16:=by
  unfold Az; simp only [bK,bL];exact⟨λh=>⟨adp l 0 h.1,λn hn=>(OL l 0 h.1 n hn).2,h.2⟩,λh=>⟨adL l 0 h.1 λn hn=>⟨by have:=ari (h.2.1 n hn); omega,h.2.1 n hn⟩,h.2.2⟩⟩
theorem anz{l:List aU}(hu:Up aU.Client l){x:aU}(hx:x∈l):Io l x.Client=x:=by
  have hb:wL (fun(y:aU)=>bn y.Client x.Client) l=true:=by rw [QV (hu.mono x.Client)]; exact(uY hu _).2 ⟨x,hx,rfl⟩
  obtain⟨y,hy,hk⟩:=yC hb;rw [QW hb hy]; exact UJ hu (dA hy) hx (xI.1 hk)
theorem arj{l:List α}{n:Nat}(hn:n<=l.length)(z c:α):(l.take n++[z]++l.drop n).set n c=l.take n++[c]++l.drop n:=by
  have e:(l.take n).length=n:=by simp; omega
  rw [nU,af2 _ _ aj,e,Nat.sub_self]; simp
theorem adM(l:List aU)(bg seq:Int):(iy l bg seq).2.2=0∨(iy l bg seq).2.2=1∨(iy l bg seq).2.2=9∨(iy l bg seq).2.2=10:=by
  unfold iy; repeat' split
  all_goals simp
theorem ark(l:List aU)(bg seq a b:Int):(oP l bg seq a).2=(oP l bg seq b).2:=by
  unfold oP; repeat' split
  all_goals rfl
theorem adN{l:List aU}{bg seq a:Int}(h1:(iy l bg seq).2.2=0)(h2:(iy l bg seq).2.1=false):(oP l bg seq a).2=0∨(oP l bg seq a).2=7:=by
  unfold oP; rw [aK aj,aK (by rw [h2]; decide)]; split <;> simp
abbrev KE(gJ:Int)(iK:List aU):=low (fun(y:aU)=>bn y.Client gJ) iK
theorem avu{l:List aU}{bg seq a:Int}(h:(oP l bg seq a).2=0):Az l=true/\GI ⟨bg,seq,0⟩=true/\Az (oP l bg seq a).1=true/\iy (oP l bg seq a).1 bg seq=(a,true,0)/\
    (oP l bg seq a).1=if hits (fun(y:aU)=>bn y.Client bg) l=true then l.set (KE bg l) ⟨bg,seq,a⟩ else l.take (KE bg l)++[⟨bg,seq,a⟩]++l.drop (KE bg l):=by
  unfold oP at h
  by_cases h1:(iy l bg seq).2.2=0
  · rw [aK aj] at h
    by_cases h2:(iy l bg seq).2.1=true
    · rw [aO h2] at h; cases h
    · rw [aK h2] at h
      by_cases h3:wL (fun(y:aU)=>bn y.Client bg) l=false/\16<=l.length
      · rw [aO h3] at h; cases h
      · have hno:¬ (!Az l||!GI ⟨bg,seq,0⟩)=true:=by
          intro h4; unfold iy at h1; rw [aO h4] at h1; cases h1
        have hsm:Az l=true/\GI ⟨bg,seq,0⟩=true:=by simpa using hno
        have hiff:=JF.1 hsm.1;have hmo:=hiff.1.mono bg;have hso:GI ⟨bg,seq,a⟩=true:=hsm.2;have hlow:=CF (fun(y:aU)=>bn y.Client bg) l
        have e:(oP l bg seq a).1=if hits (fun(y:aU)=>bn y.Client bg) l=true then l.set (KE bg l) ⟨bg,seq,a⟩ else l.take (KE bg l)++[⟨bg,seq,a⟩]++l.drop (KE bg l):=by
          unfold oP; rw [aK aj,aK h2,aK h3,QV hmo,Td hmo]
          simp only
          split
          · rfl
          · exact arj hlow _ _
        rw [QV hmo] at h3
        have hres:Az (oP l bg seq a).1=true/\(⟨bg,seq,a⟩:aU)∈(oP l bg seq a).1:=by
          rw [e]
          by_cases hh:hits (fun(y:aU)=>bn y.Client bg) l=true
          · rw [aO hh]
            obtain⟨x,hx,hk⟩:=qE (key:=aU.Client) hh;refine⟨JF.2 ⟨ahI hiff.1 hx hk.symm,λy hy=>?_,by rw [fQ]; exact hiff.2.2⟩,dA (pQ (aJ hx))⟩
            rcases Zp hy with hy | rfl
            · exact hiff.2.1 y hy
            · exact hso
          · rw [aK hh]
            have hl:l.length<16:=by
              rcases Nr l.length 16 with h5 | h5
              · exact h5
              · exact absurd ⟨by simpa using hh,h5⟩ h3
            refine⟨JF.2 ⟨ahH (key:=aU.Client) (c:=⟨bg,seq,a⟩) hiff.1 (λx hx e=>hh ((uY hiff.1 bg).2 ⟨x,hx,e⟩)),λy hy=>?_,?_⟩,(zX _).2 (.inl Y)⟩
            · rcases(zX _).1 hy with rfl | hy
              · exact hso
              · exact hiff.2.1 y hy
            · simp only [iO,fE,kN,oI,qx]; omega
        refine⟨hsm.1,hsm.2,hres.1,?_,e⟩;have hf:=anz (JF.1 hres.1).1 hres.2;unfold iy;have hf':Io (oP l bg seq a).1 bg=⟨bg,seq,a⟩:=hf;rw [hf',aK (by rw [hres.1,hsm.2]; decide),aK av,aO rfl]
  · rw [aO h1] at h; exact absurd h h1
def dO(m:dU)(c:gD):dU × Int:=if qz m=false then(m,-1) else if c.Client=0 then og m c else if(iy m.aQ c.Client c.Seq).2.2≠0 then(m,-(iy m.aQ c.Client c.Seq).2.2) else if(iy m.aQ c.Client c.Seq).2.1=true then(m,(iy m.aQ c.Client c.Seq).1) else
  if(oP m.aQ c.Client c.Seq 0).2≠0 then(m,-(oP m.aQ c.Client c.Seq 0).2) else(⟨(og m c).1.aY,(og m c).1.aA,(oP m.aQ c.Client c.Seq (og m c).2).1⟩,(og m c).2)
theorem QZ(hm:qz m=true)(c:gD):qz (og m c).1=true:=by
  obtain⟨h1,h2,h3,_⟩:=arf hm c;exact nG.2 ⟨h1,h2,(nG.1 hm).2.2.1,h3⟩
theorem VZ(hm:qz m=true)(c:gD):qz (dO m c).1=true:=by
  have hd:=nG.1 (QZ hm c);unfold dO;rw [aK (by rw [hm]; decide)]
  split
  · exact QZ hm c
  · split
    · exact hm
    · split
      · exact hm
      · split
        · exact hm
        · rename_i h
          have h0:(oP m.aQ c.Client c.Seq (og m c).2).2=0:=by rw [ark _ _ _ _ 0]; omega
          exact nG.2 ⟨hd.1,hd.2.1,(avu h0).2.2.1,hd.2.2.2⟩
theorem anA:qz ⟨[],[],[]⟩=true:=au
def mSz(m:dU):Prop:=m.aY.length<=100000/\m.aA.length<=100000/\(∀ x∈m.aA,x.aF.length<=100000)/\m.aQ.length<=100000
theorem Ee(hm:qz m=true):mSz m:=by
  obtain⟨h1,h2,h3,_⟩:=nG.1 hm;have h4:=FE h1;have h5:=zq h2;have h6:=(JF.1 h3).2.2;exact⟨aj,aj,λx hx=>by have:=h5.2 x hx; omega,aj⟩
set_option maxHeartbeats 1000000 in
theorem ajZ(w:World)(m:dU){uG:Nat}(GD:Sl bX S0 w uS uG m.aY){tJ:Nat}(IB:Sl bH S0 w tZ tJ m.aA){rC:Nat}(OJ:Sl bZ S0 w r9 rC m.aQ)(hn:m.aY.length<=100000)(hc:m.aA.length<=100000)(hh:∀ x∈m.aA,x.aF.length<=100000)(hs:m.aQ.length<=100000) :
    bO prog 166 #[.agg #[.slice uS m.aY.length uG,.slice tZ m.aA.length tJ,.slice r9 m.aQ.length rC]] w λv w'=>∃(uP:ah)(uQ:Nat)(xU:ah)(xV:Nat)(xW:ah)(xX:Nat),v=.agg #[.slice uP m.aY.length uQ,.slice xU m.aA.length xV,.slice xW m.aQ.length xX]/\Hp w S0 w' [dP bX uP uQ m.aY,dP bH xU xV m.aA,dP bZ xW xX m.aQ]:=by
 refine j4 S0 func166 ntmps166 Y λH0=>rg<|bx Y Y H0 λg1 w1 K1=>al yG Y K1 λg2 w2 K2=>dn<|He K2 (λ_ K=>(K.rm s1)) (λl0 rk lJ wJ=>∃(jE:ah)(jB:Nat)(oQ:ah)(cj2:Nat)(wm:ah)(vD:Nat),lJ=l0/\Hp w S0 wJ (dJ g1 45 [.slice wm m.aY.length vD,.slice oQ m.aA.length cj2,.slice jE m.aQ.length jB]::aR bZ 102 jE jB m.aQ::aR bH 59 oQ cj2 m.aA::aR bX 78 wm vD m.aY::rk)) (λhns H1=>?_) ?_
 ·have k1:=(H1.rm s1);refine Ko 0 g1 0 nD Y k1<|Ko 3 g1 1 kE Y k1<|Ko 6 g1 2 BD Y k1<|Jn H1 (λl0 rk lJ wJ=>∃(xA:ah)(xB:Nat)(qY:ah)(qZ:Nat)(mR:ah)(mU:Nat),lJ=(7,.slice mR m.aY.length mU)::(10,.slice qY m.aA.length qZ)::(13,.slice xA m.aQ.length xB)::(14,fP g1)::l0/\Hp w S0 wJ (aR bZ 102 xA xB m.aQ::aR bH 59 qY qZ m.aA::aR bX 78 mR mU m.aY::rk)) 5 1023 ?_ λhS1=>?_
  ·rintro _ Xv ⟨xA,xB,qY,qZ,mR,mU,rfl,vo⟩;refine O1 10 Y<|wD Y vo s4 Y λYg yX=>?_
   have k9:=(yX.cU 0 4);refine aP k9<|Ko 11 g1 1 kE Y k9<|O1 12 Y<|wD Y yX s0 Y λw16 Bv=>?_
   have k10:=(Bv.cU 0 4);refine aP k10<|Ko 13 g1 2 BD Y k10<|O1 14 Y<|wD Y Bv s0 Y λw17 xS=>?_
   have k11:=(xS.cU 0 4);refine aP k11<|Dn ⟨xA,xB,qY,qZ,mR,mU,Y,xS⟩ Y
  refine Jn H1 (λl0 rk lJ wJ=>∃(mR:ah)(mU:Nat),lJ=(7,.slice mR m.aY.length mU)::(9,.slice tZ m.aA.length tJ)::(12,.slice r9 m.aQ.length rC)::l0/\Hp w S0 wJ (aR bX 78 mR mU m.aY::rk)) 8 223 ?_ λhS2=>?_
  ·rintro _ w18 ⟨mR,mU,rfl,FR⟩;have k12:=((FR.rm s2).rm s0);refine Ko 9 g1 0 nD Y k12<|O1 5 Y<|gW Y (uw _ (FR.a IB) aj) ?_
   rintro _ w19 ⟨am6,am7,rfl,h19⟩;have Bf:=FR.c1 h19;have k13:=((Bf.rm s3).cU 0 2);refine aP k13<|O1 8 Y<|gW Y (yD _ (Bf.a OJ).any aj) ?_
   rintro _ w20 ⟨anB,anC,rfl,h20⟩;have DL:=Bf.f1 h20;have k14:=((DL.rm s4).cU 0 3);exact Kj hS1 k14 ⟨anB,anC,am6,am7,mR,mU,Y,DL⟩ Y
  refine Jn H1 (λl0 rk lJ wJ=>∃(mR:ah)(mU:Nat),lJ=(7,.slice mR m.aY.length mU)::(9,.slice tZ m.aA.length tJ)::l0/\Hp w S0 wJ (aR bX 78 mR mU m.aY::rk)) 9 95 ?_ λhS3=>?_
  ·rintro _ w21 ⟨mR,mU,rfl,Gp⟩;refine O2 5 7 Y Y ?_ ?_
   ·refine gW Y (uw _ (Gp.a IB) aj) ?_;rintro _ w22 ⟨acR,acS,rfl,h22⟩;have Fa:=Gp.c1 h22;have k15:=((Fa.rm s3).cU 0 2);refine aP k15<|O1 7 Y<|mK Fa s3 Y<|aP k15<|Ko 9 g1 0 nD Y k15<|O1 8 Y<|gW Y (yD _ (Fa.a OJ).any aj) ?_
    rintro _ w23 ⟨anD,anE,rfl,h23⟩;have Jk:=Fa.f1 h23;have k16:=((Jk.rm s4).cU 0 3);exact Kj hS1 k16 ⟨anD,anE,acR,acS,mR,mU,Y,Jk⟩ Y
   ·refine mK Gp s2 Y ?_;have k17:=((Gp.rm s2).rm s0);exact Kj hS2 k17 ⟨mR,mU,Y,Gp⟩ Y
  refine Jn H1 (λl0 rk lJ wJ=>∃(mR:ah)(mU:Nat),lJ=(7,.slice mR m.aY.length mU)::(12,.slice r9 m.aQ.length rC)::l0/\Hp w S0 wJ (aR bX 78 mR mU m.aY::rk)) 9 207 ?_ λhS4=>?_
  ·rintro _ w24 ⟨mR,mU,rfl,pG⟩;refine O1 4 Y<|mK pG s2 Y ?_
   have k18:=((pG.rm s2).rm s0);exact Kj hS2 k18 ⟨mR,mU,Y,pG⟩ Y
  refine Jn H1 (λl0 rk lJ wJ=>lJ=(6,.slice uS m.aY.length uG)::(9,.slice tZ m.aA.length tJ)::(12,.slice r9 m.aQ.length rC)::l0/\Hp w S0 wJ rk) 9 219 ?_ λhS5=>?_
  ·rintro _ w25 ⟨rfl,FT⟩;refine O1 2 Y<|gW Y (l7 _ (FT.a GD).any aj) ?_
   rintro _ w26 ⟨ayV,ayW,rfl,h26⟩;have Np:=FT.f1 h26;have avb:=(Np.o s0).bN;have k19:=((Np.rm s2).rm s0);exact Kj hS2 k19 ⟨ayV,ayW,Y,Np⟩ Y
  refine Jn H1 (λl0 rk lJ wJ=>lJ=(6,.slice uS m.aY.length uG)::(9,.slice tZ m.aA.length tJ)::l0/\Hp w S0 wJ rk) 10 91 ?_ λhS6=>?_
  ·rintro _ w27 ⟨rfl,N9⟩;refine O2 2 7 Y Y ?_ ?_
   ·refine gW Y (l7 _ (N9.a GD).any aj) ?_;rintro _ w28 ⟨ayX,ayY,rfl,h28⟩;have Ig:=N9.f1 h28;have aDM:=(Ig.o s0).bN;have k20:=((Ig.rm s2).rm s0);exact Kj hS3 k20 ⟨ayX,ayY,Y,Ig⟩ Y
   ·refine mK N9 s1 Y ?_;have k21:=(N9.rm s1);exact Kj hS5 k21 ⟨Y,N9⟩ Y
  refine Jn H1 (λl0 rk lJ wJ=>lJ=(6,.slice uS m.aY.length uG)::(12,.slice r9 m.aQ.length rC)::l0/\Hp w S0 wJ rk) 10 203 ?_ λhS7=>?_
  ·rintro _ w29 ⟨rfl,Ld⟩;refine O2 2 4 Y Y ?_ ?_
   ·refine gW Y (l7 _ (Ld.a GD).any aj) ?_;rintro _ w30 ⟨ayZ,ay0,rfl,h30⟩;have LG:=Ld.f1 h30;have avc:=(LG.o s0).bN;have k22:=((LG.rm s2).rm s0);exact Kj hS4 k22 ⟨ayZ,ay0,Y,LG⟩ Y
   ·refine mK Ld s1 Y ?_;have k23:=(Ld.rm s1);exact Kj hS5 k23 ⟨Y,Ld⟩ Y
  refine Jn H1 (λl0 rk lJ wJ=>lJ=(9,.slice tZ m.aA.length tJ)::(12,.slice r9 m.aQ.length rC)::l0/\Hp w S0 wJ rk) 10 217 ?_ λhS8=>?_
  ·rintro _ w31 ⟨rfl,SG⟩;refine O1 1 Y<|mK SG s1 Y ?_
   have k24:=(SG.rm s1);exact Kj hS5 k24 ⟨Y,SG⟩ Y
  refine xq (fuel:=11) (rs:=[1,4,7]) ak au ?_
  simp only [vV,kY,vW,vX,tq]
  refine⟨?_,?_,?_⟩
  ·refine⟨_,Y,?_⟩;refine mK H1 s1 Y<|aP k1<|xq (fuel:=10) (rs:=[2,4,7]) ak au ?_
   simp only [vV,kY,vW,vX,tq]
   refine⟨?_,?_,?_⟩
   ·refine⟨_,Y,?_⟩;refine gW Y (l7 _ (H1.a GD).any aj) ?_;rintro _ w32 ⟨ato,atp,rfl,h32⟩;have QD:=H1.f1 h32;have aDN:=(QD.o s0).bN;have k25:=((QD.rm s2).rm s0);refine aP k25<|O2 4 7 Y Y ?_ ?_
    ·refine mK QD s2 Y<|Kj hS3 k25 ⟨ato,atp,Y,QD⟩ Y
    ·refine mK QD s2 Y<|Kj hS4 k25 ⟨ato,atp,Y,QD⟩ Y
   ·refine⟨_,Y,?_⟩;refine mK H1 s1 Y<|Kj hS6 k1 ⟨Y,H1⟩ Y
   ·refine⟨_,Y,?_⟩;refine mK H1 s1 Y<|Kj hS7 k1 ⟨Y,H1⟩ Y
  ·refine⟨_,Y,?_⟩;refine mK H1 s1 Y<|aP k1<|O2 1 7 Y Y ?_ ?_
   ·refine mK H1 s1 Y<|Kj hS6 k1 ⟨Y,H1⟩ Y
   ·refine mK H1 s1 Y<|Kj hS8 k1 ⟨Y,H1⟩ Y
  ·refine⟨_,Y,?_⟩;refine mK H1 s1 Y<|aP k1<|O2 1 4 Y Y ?_ ?_
   ·refine mK H1 s1 Y<|Kj hS7 k1 ⟨Y,H1⟩ Y
   ·refine mK H1 s1 Y<|Kj hS8 k1 ⟨Y,H1⟩ Y
 rintro _ w33 ⟨jE,jB,oQ,cj2,wm,vD,rfl,Xx⟩;refine aZ ?_;obtain⟨NJ,ab6,HK1⟩:=Hp.toK Xx s2;have HK2:=HK1.abW dL 3;have afa:NJ.length=m.aA.length:=by rw [<- ab6,jN]
 rw [<- afa] at HK2;refine rg<|jD g1 1 kE HK2 s3 Y<|ev (eY jf Y)<|mv Y<|dn<|cZ ?_
 have d9:[]=((NJ.take 0).map qg):=by rfl
 rw [d9] at HK2;refine rR (λmJ lJ wJ=>∃(k:Nat)(ks:List bE),lJ=[(1,fP g1),(2,fP g2),(18,.slice oQ ks.length cj2),(19,aD ((NJ.length:Nat):Int)),(20,aD ((k:Nat):Int))]/\mJ=NJ.length - k/\k<=NJ.length/\(ks.length=NJ.length)/\(ks.map bE.c=m.aA)/\(∀ j,k<=j->ks[j]? = NJ[j]?)/\Hp w S0 wJ [aR tK 59 oQ cj2 ks,fD dL 3 ((ks.take k).map qg),Qd dL (NJ.map qg),dJ g1 45 [.slice wm m.aY.length vD,.slice oQ NJ.length cj2,.slice jE m.aQ.length jB],aR bZ 102 jE jB m.aQ,aR bX 78 wm vD m.aY,dJ g2 45 [.slice none 0 0,.slice none 0 0,.slice none 0 0]]) ⟨0,NJ,Y,Y,fK _,by rfl,by exact ab6,by intro j _; rfl,((HK2.sel s0).sel s1)⟩ rfl ?_;rintro _ _ w34 ⟨k,ks,rfl,rfl,hk,hkn,hka,hkb,K34⟩;refine rg<|ev (fB Y Y)<|dn<|oC Y (λhc21=>?_) (λhc21=>?_)
 ·refine jh ?_;refine aZ<|cZ<|bQ Y ?_
  obtain⟨x1,bP⟩:=bC (xs:=ks) (i:=k) aj;refine ev (eU (i:=k) jf qG Y Y Y (aJ bP) ((K34.o s0).some_ bP))<|ev (fV pU Y Y ((K34.o s0).eX bP))<|al kZ Y K34 λg3 w35 K35=>iA Y<|sty Y K35 s0 Y λw36 K36=>dn ?_
  have hin:=K36.atV s3 (jI.2 ⟨x1,dA (by rw [<- hkb k (kH _)]; exact bP),rfl⟩:(x1.B,x1.d,x1.c.aF)∈_);have hHl:x1.c.aF.length<=100000:=hh x1.c (by rw [<- hka]; exact jI.2 ⟨x1,dA bP,rfl⟩);have H2:=K36.push hin;refine Hf H2 (λ_ K=>(K.rm s2)) (λl0 rk lJ wJ=>∃(Au:ah)(Aw:Nat),lJ=(18,.slice oQ ((ks.set k ({ x1 with B:=Au,d:=Aw }:bE)).length) cj2)::l0/\Hp w S0 wJ (aR tK 59 oQ cj2 (ks.set k ({ x1 with B:=Au,d:=Aw }:bE))::aR dL 3 Au Aw x1.c.aF::rk)) (λhns H3=>?_) ?_
  ·have k26:=(H3.rm s2);refine Ko 0 g1 1 kE Y k26<|lH 1 Y (λ_ hK=>show Ev _ _ _ _ _ (.slice oQ ks.length cj2) from by rw [hkn]; exact(cu al2 rfl (hK.x s4) rfl)) k26<|kT 2 rfl rfl k26<|mD 3 4 g3 3 kD s1 rfl k26<|O1 5 rfl<|gW rfl (sM _ (H3.s s0).any aj) ?_
   rintro _ w37 ⟨YF,YG,rfl,h37⟩;have K37:=H3.f1 h37;have k27:=((K37.rm s3).rm s0);refine aP k27<|O1 6 Y<|ev (eU (i:=k) jf qG Y Y Y (aJ bP) ((K37.o s3).some_ bP))<|aP k27<|lH 7 Y (λ_ _=>eF kD Y (gI _ _ _)) k27<|O1 8 Y<|se (i:=k) (f:=3) (x:=x1) (x':=({ x1 with B:=YF,d:=YG }:bE)) (ds:=[.slice YF x1.c.aF.length YG]) K37 s3 Y Y Y bP Y NH (oJ Y) Y (by rintro _ _ _ ⟨⟩; rfl) λw38 K38=>?_
   have hl1:(ks.set k ({ x1 with B:=YF,d:=YG }:bE)).length=ks.length:=fQ ..;refine fJ (t:=18) (u:=.slice oQ ks.length cj2) (v:=.slice oQ ((ks.set k ({ x1 with B:=YF,d:=YG }:bE)).length) cj2) Y (by rw [hl1])<|fJ (t:=26) (u:=.slice oQ ks.length cj2) (v:=.slice oQ ((ks.set k ({ x1 with B:=YF,d:=YG }:bE)).length) cj2) rfl (by rw [hl1]) ?_
   have k28:=(K38.cU 0 2);refine aP k28<|Dn ⟨YF,YG,Y,K38⟩ Y
  rintro _ w39 ⟨Au,Aw,rfl,K39⟩;refine ig (gB ?_);have H4:=K39.NG s1 s3;refine jr<|ev (dW Y Y)<|mv Y<|jv ?_
  have fG:((ks.take k).map qg)++[(Au,Aw,x1.c.aF)]=(((ks.set k ({ x1 with B:=Au,d:=Aw }:bE)).take (k+1)).map qg):=by rw [Qn bP]; rfl
  rw [fG] at H4;exact dQ ⟨(k+1),(ks.set k ({ x1 with B:=Au,d:=Aw }:bE)),Y,Y,aj,by rw [fQ]; exact hkn,by refine(Uz bP ?_).trans hka; rfl,by intro j hj; rw [CJ aj]; exact hkb j aj,(((H4.cU 2 2).sel s0).sel s1)⟩ rfl aj
 refine wQ ?_;have hfin:ks.take k=ks:=iD aj;rw [hfin] at K34;have H5:=K34.Uk s1;have H6:=H5.ofK s1 s0;rw [hka,afa] at H6;refine rg<|ev (dK qO Y Y (H6.x s2))<|sty Y H6 s5 Y λw40 K40=>dn<|je (oW Y ⟨_,_,Y,⟨_,Y,jm (cs:=[.slice wm m.aY.length vD,.slice oQ m.aA.length cj2,.slice jE m.aQ.length jB]) qO Y (K40.x s0)⟩,Y⟩ ?_)
 have H7:=K40.fz s5;have H8:=H7.fz s2;have H9:=H8.fz s5;exact⟨wm,vD,oQ,cj2,jE,jB,Y,((((H9.cU 3 3).sel s0).sel s1).sel s2)⟩
end Go.Proofs.YtlhnnmlenkahlaaGreat
