/- Lemmas. -/
import Derived.Test.YtlhnnmlenkahlaaGreatrG16
set_option maxRecDepth 4000
set_option linter.all false
namespace Go.Proofs.YtlhnnmlenkahlaaGreat
open Go.RowKit Go.Proofs.Tryz
def TW:=@List.any_eq_false
variable {m:dF}{c:fV}{f:aH->aH × Int}{S0:Nat->Prop}{vR vk uh:ah}{α:Type}{l:List aV}{id:Int}{key:α->Int}{x:α}
theorem yL:∀ w,(zeroValue 45).run prog w=.ok (.agg #[.slice none 0 0,.slice none 0 0,.slice none 0 0]) w:=ay
theorem anj(XW:ah)(UK UL:Nat)(afW:ah)(afX afY:Nat)(afZ:ah)(af0 af2:Nat):prog.built 283 [(0,.agg #[.slice XW UK UL,.slice afW afX afY,.slice afZ af0 af2])]=some #[.slice XW UK UL,.slice afW afX afY,.slice afZ af0 af2,aF 0,aF 0]:=ak
theorem Yr:eu prog 120 2 2:=ay
theorem azM:Size prog 281 2:=ay
theorem azN:Agg prog 281 2:=⟨λ_=>by kernel_rfl,azM⟩
theorem aqR:∀ w,(zeroValue 284).run prog w=.ok (.nilFunc) w:=ay
def xJ(m:dF)(c:fV):List aV × List aH × Int × Int:=
  if c.Kind=0 then((m.aT),(m.aA),(0),(0)) else if c.Kind=1 then((if(oO m.aT ⟨c.A,c.B,c.C,0⟩).2=0 then(oO m.aT ⟨c.A,c.B,c.C,0⟩).1 else m.aT),(m.aA),((oO m.aT ⟨c.A,c.B,c.C,0⟩).2),(0)) else if c.Kind=2 then((if c.B=2/\(Xb m.aA c.A).length>0 then m.aT else if(lS m.aT c.A c.B).2=0 then(lS m.aT c.A c.B).1 else m.aT),(m.aA),(if c.B=2/\(Xb m.aA c.A).length>0 then 8 else(lS m.aT c.A c.B).2),(0)) else if c.Kind=3 then((m.aT),((um eB m.aA c).1),((um eB m.aA c).2.1),((um eB m.aA c).2.2)) else if c.Kind=4 then((m.aT),((um (fun(l:List aH) (id sum:Int)=>gy l id (dB sum)) m.aA c).1),((um (fun(l:List aH) (id sum:Int)=>gy l id (dB sum)) m.aA c).2.1),((um (fun(l:List aH) (id sum:Int)=>gy l id (dB sum)) m.aA c).2.2)) else if c.Kind=5 then((m.aT),(if kI m.aT c.B=true then(if(kS m.aA c.A c.B c.C).2=0 then(kS m.aA c.A c.B c.C).1 else m.aA) else m.aA),(if kI m.aT c.B=true then(kS m.aA c.A c.B c.C).2 else 5),(0)) else if c.Kind=6 then((m.aT),(if(gy m.aA c.A (jw c.B)).2=0 then(gy m.aA c.A (jw c.B)).1 else m.aA),((gy m.aA c.A (jw c.B)).2),(0)) else if c.Kind=7 then((m.aT),(if(iV m.aA c.A).2=0 then(iV m.aA c.A).1 else m.aA),((iV m.aA c.A).2),(0)) else(m.aT,m.aA,1,0)
def nT(m:dF)(c:fV):dF × Int:=(⟨(xJ m c).1,(xJ m c).2.1,m.aP⟩,Gy (xJ m c).2.2.1 (xJ m c).2.2.2)
theorem agh(h:c.Kind=0):xJ m c=((m.aT),(m.aA),(0),(0)):=by unfold xJ; rw [h]; rfl
abbrev Rl(iD:dF)(ji:fV):=oO iD.aT ⟨ji.A,ji.B,ji.C,0⟩
abbrev avv(iD:dF)(ji:fV):=if(Rl iD ji).2=0 then(Rl iD ji).1 else iD.aT
theorem agi(h:c.Kind=1):xJ m c=((avv m c),(m.aA),((Rl m c).2),(0)):=by unfold xJ; rw [h]; rfl
abbrev avw(iD:fV)(ji:dF):=if iD.B=2/\(Xb ji.aA iD.A).length>0 then ji.aT else if(lS ji.aT iD.A iD.B).2=0 then(lS ji.aT iD.A iD.B).1 else ji.aT
abbrev avx(iD:fV)(ji:dF):=if iD.B=2/\(Xb ji.aA iD.A).length>0 then 8 else(lS ji.aT iD.A iD.B).2
theorem agj(h:c.Kind=2):xJ m c=((avw c m),(m.aA),(avx c m),(0)):=by unfold xJ; rw [h]; rfl
theorem Yt(h:c.Kind=3):xJ m c=((m.aT),((um eB m.aA c).1),((um eB m.aA c).2.1),((um eB m.aA c).2.2)):=by unfold xJ; rw [h]; rfl
theorem UQ(h:c.Kind=4):xJ m c=((m.aT),((um (fun(l:List aH) (id sum:Int)=>gy l id (dB sum)) m.aA c).1),((um (fun(l:List aH) (id sum:Int)=>gy l id (dB sum)) m.aA c).2.1),((um (fun(l:List aH) (id sum:Int)=>gy l id (dB sum)) m.aA c).2.2)):=by unfold xJ; rw [h]; rfl
abbrev avy(iD:dF)(ji:fV):=if kI iD.aT ji.B=true then(if(kS iD.aA ji.A ji.B ji.C).2=0 then(kS iD.aA ji.A ji.B ji.C).1 else iD.aA) else iD.aA
abbrev avz(iD:dF)(ji:fV):=if kI iD.aT ji.B=true then(kS iD.aA ji.A ji.B ji.C).2 else 5
theorem UR(h:c.Kind=5):xJ m c=((m.aT),(avy m c),(avz m c),(0)):=by unfold xJ; rw [h]; rfl
abbrev Ro(iD:dF)(ji:fV):=gy iD.aA ji.A (jw ji.B)
abbrev aqS(iD:dF)(ji:fV):=if(Ro iD ji).2=0 then(Ro iD ji).1 else iD.aA
theorem UU(h:c.Kind=6):xJ m c=((m.aT),(aqS m c),((Ro m c).2),(0)):=by unfold xJ; rw [h]; rfl
abbrev avA(iD:dF)(ji:fV):=if(iV iD.aA ji.A).2=0 then(iV iD.aA ji.A).1 else iD.aA
theorem agk(h:c.Kind=7):xJ m c=((m.aT),(avA m c),((iV m.aA c.A).2),(0)):=by unfold xJ; rw [h]; rfl
theorem agl(h:c.Kind≠0/\c.Kind≠1/\c.Kind≠2/\c.Kind≠3/\c.Kind≠4/\c.Kind≠5/\c.Kind≠6/\c.Kind≠7):xJ m c=(m.aT,m.aA,1,0):=by
  obtain⟨k0,k1,k2,k3,k4,k5,k6,k7⟩:=h;unfold xJ; rw [aK k0,aK k1,aK k2,aK k3,aK k4,aK k5,aK k6,aK k7]
theorem kinds(k:Int):k=0∨k=1∨k=2∨k=3∨k=4∨k=5∨k=6∨k=7∨(k≠0/\k≠1/\k≠2/\k≠3/\k≠4/\k≠5/\k≠6/\k≠7):=aj
theorem azO(l:List aV)(n:aV):0<=(oO l n).2/\(oO l n).2<=10:=by unfold oO; split <;> (try split) <;> simp
theorem azP(l:List aV)(id st:Int):0<=(lS l id st).2/\(lS l id st).2<=10:=by unfold lS; split <;> (try split) <;> (try split) <;> simp
theorem aqT(l:List aH)(id sum:Int):0<=(eB l id sum).2/\(eB l id sum).2<=10:=by unfold eB; split <;> (try split) <;> (try split) <;> simp
theorem aqU(l:List aH)(id:Int):0<=(iV l id).2/\(iV l id).2<=10:=by unfold iV; split <;> simp
theorem aqV(l:List aH)(id:Int)(hf:∀ c,0<=(f c).2/\(f c).2<=10):0<=(gy l id f).2/\(gy l id f).2<=10:=by
  rcases aaK l id f with ⟨_,h⟩ | ⟨_,_,h⟩ | ⟨_,_,n,_,_,h⟩
  · rw [h]; simp
  · rw [h]; exact hf _
  · rw [h]; simp
theorem avB(sum:Int)(c:aH):0<=(dB sum c).2/\(dB sum c).2<=10:=by unfold dB; split <;> simp
theorem aqW(n v:Int)(c:aH):0<=(qg n v c).2/\(qg n v c).2<=10:=by unfold qg; split <;> (try split) <;> simp
theorem ank(n:Int)(c:aH):0<=(jw n c).2/\(jw n c).2<=10:=by unfold jw; split <;> simp
theorem avC(l:List aH)(id n v:Int):0<=(kS l id n v).2/\(kS l id n v).2<=10:=by
  unfold kS; split
  · simp
  · exact aqV _ _ (aqW n v)
theorem aqX(m:dF)(c:fV):0<=(0:Int)/\(0:Int)<=10:=by exact⟨au,au⟩
theorem aqY(m:dF)(c:fV):0<=((Rl m c).2:Int)/\((Rl m c).2:Int)<=10:=by exact azO _ _
theorem aqZ(m:dF)(c:fV):0<=(if c.B=2/\(Xb m.aA c.A).length>0 then 8 else(lS m.aT c.A c.B).2:Int)/\(if c.B=2/\(Xb m.aA c.A).length>0 then 8 else(lS m.aT c.A c.B).2:Int)<=10:=by split <;> first | exact azP _ _ _ | simp
theorem aq0(m:dF)(c:fV):0<=((um eB m.aA c).2.1:Int)/\((um eB m.aA c).2.1:Int)<=10:=by unfold um; split <;> first | exact aqT _ _ _ | simp
theorem aq1(m:dF)(c:fV):0<=((um (fun(l:List aH) (id sum:Int)=>gy l id (dB sum)) m.aA c).2.1:Int)/\((um (fun(l:List aH) (id sum:Int)=>gy l id (dB sum)) m.aA c).2.1:Int)<=10:=by unfold um; split <;> first | exact aqV _ _ (avB _) | simp
theorem aq2(m:dF)(c:fV):0<=(if kI m.aT c.B=true then(kS m.aA c.A c.B c.C).2 else 5:Int)/\(if kI m.aT c.B=true then(kS m.aA c.A c.B c.C).2 else 5:Int)<=10:=by split <;> first | exact avC _ _ _ _ | simp
theorem aq3(m:dF)(c:fV):0<=((Ro m c).2:Int)/\((Ro m c).2:Int)<=10:=by exact aqV _ _ (ank _)
theorem aq4(m:dF)(c:fV):0<=((iV m.aA c.A).2:Int)/\((iV m.aA c.A).2:Int)<=10:=by exact aqU _ _
abbrev akD:=Array.push (Array.push (Array.push (Array.push (Array.push (Array.push (Array.push (Array.push (#[]:Array MapEntry) ⟨aF 0,.func (.func 345) #[] #[],0⟩) ⟨aF 1,.func (.func 346) #[] #[],1⟩) ⟨aF 2,.func (.func 349) #[] #[],2⟩) ⟨aF 3,.func (.func 352) #[] #[],3⟩) ⟨aF 4,.func (.func 355) #[] #[],4⟩) ⟨aF 5,.func (.func 357) #[] #[],5⟩) ⟨aF 6,.func (.func 360) #[] #[],6⟩) ⟨aF 7,.func (.func 362) #[] #[],7⟩
theorem Ev.aC5{P:Program}{n:Cx}{l:List (Nat × Value)}{b w:World}{S:Nat->Prop}{rs rest:List lH}{g FB:Nat}{es:Array MapEntry}{ky:Operand}{k:Int}{t kt et:TypeId}{m:Operand}{z:Value}{r:Option (Nat × Value)}(H:Hp b S w rs)(s:pE rs (pR g (.map es FB)) rest)(hx:iG l m=some (.map (some g)))(hkey:iG l ky=some (aF k))
    (hm:P.underlying t=some (.map kt et)) (hk:P.underlying kt=some (.int .i64)) (hz:∀ w,(zeroValue et).run P w=.ok z w) (hf:Instr.findNow (.int .i64) (aF k) es.toList 0=some r):Ev P n l w (.lookup t m ky false) (r.elim z (·.2)):=by
  cases r
  · exact Ev.axc H s hx hkey hm hk hz hf
  · exact xw H s hx hkey hm hk hf
def aHJ(m:dF)(c:fV)(N:List aV)(C:List aH)(e n:Int)(f:FuncId):Prop:=∀ {b w:World} {S:Nat->Prop} {g:Nat} {An:ah} {cn:Nat} {Ac:ah} {cc:Nat} {As:ah} {cs:Nat} {F:List lH},Hp b S w (Dx g An m cn Ac cc As cs F)->
  bS prog f #[gD g,.agg #[aF c.Client,aF c.Seq,aF c.Kind,aF c.A,aF c.B,aF c.C]] w λv w'=>∃(Pv:ah)(Px:Nat)(Oj:ah)(Ol:Nat),v=.tuple #[]/\Hp b S w' (dY g 283 [.slice Pv N.length Px,.slice Oj C.length Ol,.slice As m.aP.length cs,aF e,aF n]::dP cZ Pv Px N::dP bJ Oj Ol C::dP bX As cs m.aP::F)
theorem aq5{m:dF}{c:fV}(hn:m.aT.length<=100000)(hc:m.aA.length<=100000)(hh:∀ x∈m.aA,x.aD.length<=100000){N:List aV}{C:List aH}{e n:Int}(hD:xJ m c=(N,C,e,n)) :
    (0<=e/\e<=10)/\∃ r,Instr.findNow (.int .i64) (aF c.Kind) akD.toList 0=some r/\((r=none/\N=m.aT/\C=m.aA/\e=1/\n=0)∨∃ i f,r=some (i,.func (.func f) #[] #[])/\bF prog f/\aHJ m c N C e n f):=by
  rcases kinds c.Kind with h | h | h | h | h | h | h | h | h
  · rw [agh h] at hD; cases hD; exact⟨aqX m c,_,by rw [h]; rfl,.inr ⟨0,345,rfl,λ_ _=>by kernel_rfl,λH=>avl H hn hc hh⟩⟩
  · rw [agi h] at hD; cases hD; exact⟨aqY m c,_,by rw [h]; rfl,.inr ⟨1,346,rfl,λ_ _=>by kernel_rfl,λH=>avm H hn hc hh⟩⟩
  · rw [agj h] at hD; cases hD; exact⟨aqZ m c,_,by rw [h]; rfl,.inr ⟨2,349,rfl,λ_ _=>by kernel_rfl,λH=>avn H hn hc hh⟩⟩
  · rw [Yt h] at hD; cases hD; exact⟨aq0 m c,_,by rw [h]; rfl,.inr ⟨3,352,rfl,λ_ _=>by kernel_rfl,λH=>avq H hn hc hh⟩⟩
  · rw [UQ h] at hD; cases hD; exact⟨aq1 m c,_,by rw [h]; rfl,.inr ⟨4,355,rfl,λ_ _=>by kernel_rfl,λH=>avr H hn hc hh⟩⟩
  · rw [UR h] at hD; cases hD; exact⟨aq2 m c,_,by rw [h]; rfl,.inr ⟨5,357,rfl,λ_ _=>by kernel_rfl,λH=>avs H hn hc hh⟩⟩
  · rw [UU h] at hD; cases hD; exact⟨aq3 m c,_,by rw [h]; rfl,.inr ⟨6,360,rfl,λ_ _=>by kernel_rfl,λH=>avt H hn hc hh⟩⟩
  · rw [agk h] at hD; cases hD; exact⟨aq4 m c,_,by rw [h]; rfl,.inr ⟨7,362,rfl,λ_ _=>by kernel_rfl,λH=>avu H hn hc hh⟩⟩
  · rw [agl h] at hD; cases hD; exact⟨⟨au,au⟩,none,(by obtain⟨k0,k1,k2,k3,k4,k5,k6,k7⟩:=h; have e0:(c.Kind == 0)=false:=(by simpa using k0); have e1:(c.Kind == 1)=false:=(by simpa using k1); have e2:(c.Kind == 2)=false:=(by simpa using k2); have e3:(c.Kind == 3)=false:=(by simpa using k3); have e4:(c.Kind == 4)=false:=(by simpa using k4); have e5:(c.Kind == 5)=false:=(by simpa using k5); have e6:(c.Kind == 6)=false:=(by simpa using k6); have e7:(c.Kind == 7)=false:=(by simpa using k7); simp [Instr.findNow,Instr.sameNow,e0,e1,e2,e3,e4,e5,e6,e7]),.inl ⟨rfl,rfl,rfl,rfl,rfl⟩⟩
theorem akE(w:World)(m:dF){vJ:Nat}(Jj:Sl cZ S0 w vR vJ m.aT){uU:Nat}(KE:Sl bJ S0 w vk uU m.aA){tq:Nat}(Rb:Sl bX S0 w uh tq m.aP)(c:fV)(hn:m.aT.length<=100000)(hc:m.aA.length<=100000)(hh:∀ x∈m.aA,x.aD.length<=100000) :
    bS prog 168 #[.agg #[.slice vR m.aT.length vJ,.slice vk m.aA.length uU,.slice uh m.aP.length tq],.agg #[aF c.Client,aF c.Seq,aF c.Kind,aF c.A,aF c.B,aF c.C]] w λv w'=>∃(vP:ah)(vQ:Nat)(zC:ah)(zD:Nat)(zF:ah)(zG:Nat),v=.tuple #[.agg #[.slice vP ((((nT m c).1).aT).length) vQ,.slice zC ((((nT m c).1).aA).length) zD,.slice zF ((((nT m c).1).aP).length) zG],aF ((nT m c).2)]/\Hp w S0 w' [dP cZ vP vQ (((nT m c).1).aT),dP bJ zC zD (((nT m c).1).aA),dP bX zF zG (((nT m c).1).aP)]:=by
 obtain⟨⟨N,C,e,n⟩,hD⟩:∃ y,xJ m c=y:=⟨_,rfl⟩;obtain⟨he,r,hf,hr⟩:=aq5 hn hc hh hD;refine kP S0 func168 ntmps168 Y λH0=>rg<|bx Y Y H0 λg1 w1 K1=>bx Y Y K1 λg2 w2 K2=>al yL Y K2 λg3 w3 K3=>bU Y<|rg<|ev (dU sG Y Y (K3.x s2))<|ev (iY (vs:=[(0,.agg #[.slice vR m.aT.length vJ,.slice vk m.aA.length uU,.slice uh m.aP.length tq])]) (cs:=[.slice vR m.aT.length vJ,.slice vk m.aA.length uU,.slice uh m.aP.length tq,aF 0,aF 0]) Y (by apply anj))<|bx rfl rfl K3 λg4 w4 K4=>bU rfl<|aW<|cjz K4 (λ_ K=>K.rm s0) (λl0 rk lJ wJ=>lJ=l0/\∃(An:ah)(cn:Nat)(Ac:ah)(cc:Nat),Hp w S0 wJ (dY g4 283 [.slice An N.length cn,.slice Ac C.length cc,.slice uh m.aP.length tq,aF e,aF n]::dP cZ An cn N::dP bJ Ac cc C::dP bX uh tq m.aP::rk)) ?_ λtl=>?_
 ·rintro _ _ ⟨rfl,An,cn,Ac,cc,K7⟩;refine He K7 (λ_ K=>(K.rm s4)) (λl0 rk lJ wJ=>lJ=(5,aF (Gy e n))::l0/\Hp w S0 wJ (dY g3 45 [.slice An N.length cn,.slice Ac C.length cc,.slice uh m.aP.length tq]::rk)) (λhns H5=>?_) ?_
  ·have k2:=(H5.rm s4);refine uw 0 g4 0 qO Y k2<|lD 3 Y (λ_ hK=>D6 (cs':=[.slice An N.length cn,.slice Ac C.length cc,.slice uh m.aP.length tq]) sG Y Y (hK.x s0) Y) k2<|uw 4 g4 3 yc Y k2<|lD 7 Y (λ_ hK=>D6 (cs':=[aF e,aF n]) azN Y Y (hK.x s0) Y) k2<|O1 8 Y<|mU H5 Y (anh (S0:=Any) _ (⟨e,n⟩:Vi) he) λw8 K8=>?_
   have k3:=(K8.rm s4);refine aQ k3<|O1 9 Y<|sty Y K8 s4 Y λw9 K9=>?_
   have k4:=(K9.rm s0);refine aQ k4<|xI 10 Y Y k4<|Dn ⟨Y,K9⟩ Y
  rintro _ Oz ⟨rfl,K10⟩;refine jf (qA Y ⟨_,_,Y,⟨_,Y,jL (cs:=[.slice An N.length cn,.slice Ac C.length cc,.slice uh m.aP.length tq]) sG Y (K10.x s0)⟩,⟨_,_,Y,Y,Y⟩⟩ ?_);have hd:nT m c=(⟨N,C,m.aP⟩,Gy e n):=by unfold nT; rw [hD]
  rw [hd];exact⟨An,cn,Ac,cc,uh,tq,Y,((K10.cU 5 2).cU 0 2)⟩
 refine He K4 (λ_ K=>K) (λl0 rk lJ wJ=>∃(tN:Nat),lJ=(7,r.elim .nilFunc (·.2))::l0/\Hp w S0 wJ (pR tN (.map akD 8)::rk)) (λhns H1=>?_) ?_
 ·refine ng 1 2 g2 2 Yr s2 Y H1<|O1 0 Y<|gX Y (agd (S0:=Any) _ ) ?_
  rintro _ w5 ⟨aHK,rfl,h5⟩;have K5:=H1.f1 h5;have k1:=(K5.rm s0);refine aQ k1<|O1 3 Y<|ev (Ev.aC5 K5 s0 Y Y Jk iQ aqR hf)<|aQ k1<|xI 4 Y Y k1<|Dn ⟨aHK,Y,K5⟩ Y
 rintro _ w6 ⟨tN,rfl,K6⟩
 rcases hr with ⟨rfl,rfl,rfl,rfl,rfl⟩ | ⟨i,f,rfl,D5,hR⟩
 ·refine bQ Y<|ev (Ev.aGQ underlying284 Y)<|dn<|bK Y nofun (λ_h=>?_)
  refine jy<|mv Y<|ev (eX Y)<|yA g4 3 yc Y<|yA g4 3 zZ Y<|xP Y K6 s1 Y λw55 K55=>jA<|gG ?_
  have H2:=K55.push (K55.a Jj);have H3:=H2.push (H2.a KE);have H4:=H3.push (H3.a Rb);exact(tl _ _ ⟨Y,vR,vJ,vk,uU,((((H4.rm s4).sel s1).sel s2).sel s3)⟩).kz Y
 refine bQ Y<|ev (Ev.aGP underlying284 Y)<|dn<|bK Y (λ_h=>?_) nofun
 refine jy<|mv Y<|mv Y<|ev (dU CO Y Y (K6.x s3)) ?_
 have H2:=K6.push (K6.a Jj);have H3:=H2.push (H2.a KE);have H4:=H3.push (H3.a Rb);refine xK Y Y Y D5 (hR (((((H4.sel s3).sel s1).sel s2).sel s3).sel s4)) Y ?_;rintro _ w7 ⟨An7,cn7,Ac7,cc7,rfl,K7⟩;exact jA<|gG<|(tl _ _ ⟨Y,An7,cn7,Ac7,cc7,K7.rm s4⟩).kz Y
theorem agm{l:List α}(hu:Up key l){k:Nat}(hx:l[k]? = some x):key x<id↔k<low (fun(y:α)=>bB (key y) id) l:=by
  have hm:=hu.mono id
  constructor
  · intro h
    rcases P8 k (low (fun(y:α)=>bB (key y) id) l) with h1 | h1
    · exact h1
    · exfalso
      have h2:low (fun(y:α)=>bB (key y) id) l≥k+1:=by
        have e:l=l.take (k+1)++l.drop (k+1):=(uF _ _).symm
        have h3:(l.take (k+1)).countP (fun(y:α)=>decide (bB (key y) id<0))=(l.take (k+1)).length:=by
          rw [List.countP_eq_length];intro y hy;obtain⟨a,ha⟩:=sM hy;have ha1:=aJ ha
          simp only [fO] at ha1
          rw [OW aj] at ha
          simp only [bO]
          exact hm a k y x aj ha hx (qL.2 h)
        unfold low;rw [e,OP,h3,fO];have:=aJ hx;omega
      omega
  · intro h
    rcases(by omega:key x<id∨id<=key x) with h1 | h1
    · exact h1
    · exfalso
      have h2:low (fun(y:α)=>bB (key y) id) l<=k:=by
        have e:l=l.take k++l.drop k:=(uF _ _).symm
        have h3:(l.drop k).countP (fun(y:α)=>decide (bB (key y) id<0))=0:=by
          rw [List.countP_eq_zero];intro y hy;obtain⟨a,ha⟩:=sM hy;rw [DW] at ha
          simp only [bO]
          intro hlt;have:=qL.1 (hm k (k+a) x y aj hx ha hlt);omega
        simp only [low]
        rw [e,OP,h3];have:=abO (p:=fun(y:α)=>decide (bB (key y) id<0)) (l:=l.take k)
        simp only [fO] at this
        omega
      omega
theorem aa9{l:List α}(hu:Up key l)(h:x∈l.take (low (fun(y:α)=>bB (key y) id) l)):key x<id:=by
  obtain⟨a,ha⟩:=sM h;have h1:=aJ ha
  simp only [fO] at h1
  rw [OW aj] at ha;exact(agm hu ha).2 aj
theorem abb{l:List α}(hu:Up key l)(h:x∈l.drop (low (fun(y:α)=>bB (key y) id) l)):id<=key x:=by
  obtain⟨a,ha⟩:=sM h;rw [DW] at ha;have h1:=(agm (id:=id) hu ha)
  rcases Int.lt_or_le (key x) id with h2 | h2
  · have:=h1.1 h2; omega
  · exact h2
theorem Ab{l:List α}{c:α}(n:Nat):x∈l.take n++[c]++l.drop n↔x=c∨x∈l:=by
  have h:x∈l↔x∈l.take n∨x∈l.drop n:=by rw [<- jN,uF]
  simp only [jN,j4,h]
  constructor
  · rintro((h | h) | h)
    · exact .inr (.inl h)
    · exact .inl h
    · exact .inr (.inr h)
  · rintro(h | h | h)
    · exact .inl (.inr h)
    · exact .inl (.inl h)
    · exact .inr h
theorem akF{l:List α}(hu:Up key l){c:α}(hn:∀ x∈l,key x≠key c):Up key (l.take (low (fun(y:α)=>bB (key y) (key c)) l)++[c]++l.drop (low (fun(y:α)=>bB (key y) (key c)) l)):=by
  have h5:(l.take (low (fun(y:α)=>bB (key y) (key c)) l)++l.drop (low (fun(y:α)=>bB (key y) (key c)) l)).Pairwise (λx y=>key x<key y):=by rw [uF]; exact hu
  have h6:=y8.1 h5
  have h2':∀ x∈l.drop (low (fun(y:α)=>bB (key y) (key c)) l),key c<key x:=λx hx=>by
    have h3:=abb hu hx;have h4:=hn x (Xg hx);omega
  unfold Up;rw [oV];refine y8.2 ⟨h6.1,y8.2 ⟨OU _ _,h6.2.1,λx hx y hy=>?_⟩,λx hx y hy=>?_⟩
  · rw [j4.1 hx]; exact h2' y hy
  · rcases jN.1 hy with hy | hy
    · rw [j4.1 hy]; exact aa9 hu hx
    · exact h6.2.2 x hx y hy
theorem akG{l:List α}(hu:Up key l){i:Nat}{y:α}(hx:l[i]? = some x)(hk:key y=key x):Up key (l.set i y):=by
  have h1:(l.set i y).map key=l.map key:=by
    rw [Gl,hk]; exact G6 (by rw [lK,hx]; rfl)
  have h2:(l.map key).Pairwise (λa b=>a<b):=by rw [Lc]; exact hu
  rw [<- h1,Lc] at h2;exact h2
theorem agn:∀(l:List aV)(z:Int),Up aV.ID l->(∀ n∈l,z<n.ID/\Ky n=true)->BP z l=true
  | [],_,_,_=>rfl
  | m::l,z,hu,h=>by
    have h1:=pG.1 hu;have h2:=h m av
    simp only [BP,bN,eG,dX,fP,bV]
    exact⟨⟨h2.2,aj⟩,agn l _ h1.2 λn hn=>⟨h1.1 n hn,(h n (by simp [hn])).2⟩⟩
theorem ac7{n:aV}(h:Ky n=true):1<=n.ID/\n.ID<=16:=by simp only [Ky,bN,bO] at h; omega
theorem yg:uy l=true↔Up aV.ID l/\∀ n∈l,Ky n=true:=
  ⟨λh=>⟨Em l 0 h,λn hn=>(Qt l 0 h n hn).2⟩,λh=>agn l 0 h.1 λn hn=>⟨by have:=ac7 (h.2 n hn); omega,h.2 n hn⟩⟩
theorem Hz(h:uy l=true):l.length<=16:=by
  have h1:=yg.1 h
  have h2:nX 16 1 (l.map aV.ID)=true:=(zn _ _).2 ⟨by rw [Lc]; exact h1.1,λx hx=>by
    obtain⟨n,hn,rfl⟩:=gQ.1 hx; exact ac7 (h1.2 n hn)⟩
  rcases IG _ _ h2 with h3 | h3
  · rw [<- jY (f:=aV.ID),h3]; simp
  · rw [jY] at h3; omega
theorem anl(h:uy l=true):jU l id=true↔∃ n∈l,n.ID=id:=by
  unfold jU; rw [wh h]; exact uZ (yg.1 h).1 id
theorem Rq(h:uy l=true)(hb:jU l id=true):gU l id∈l/\(gU l id).ID=id:=by
  obtain⟨x,hx,hk⟩:=qU (key:=aV.ID) hb;rw [qM hb hx]; rw [wh h] at hx; exact⟨bT hx,hk⟩
theorem aq6(h:uy l=true){n:aV}(hn:n∈l):jU l n.ID=true/\gU l n.ID=n:=by
  have hb:=(anl h).2 ⟨n,hn,rfl⟩;have h1:=Rq h hb;exact⟨hb,uQ (yg.1 h).1 h1.1 hn h1.2⟩
theorem Js(h:uy l=true):kI l id=true↔∃ n∈l,n.ID=id/\n.gP≠2:=by
  unfold kI
  simp only [bN,eG,bV]
  constructor
  · rintro⟨h1,h2⟩
    have h3:=Rq h h1;exact⟨_,h3.1,h3.2,h2⟩
  · rintro⟨n,hn,rfl,hs⟩
    have h1:=aq6 h hn;exact⟨h1.1,by rw [h1.2]; exact hs⟩
theorem Py(h:uy l=true)(n:aV):(oO l n).2≠0∨((oO l n).2=0/\uy (oO l n).1=true/\∀ x,x∈(oO l n).1↔x=n∨x∈l):=by
  have h1:=yg.1 h;unfold oO; rw [wh h]
  split
  · left; simp
  · rename_i hn
    split
    · left; simp
    · rename_i hh
      right
      have hno:∀ x∈l,x.ID≠n.ID:=λx hx e=>hh ((uZ h1.1 n.ID).2 ⟨x,hx,e⟩);refine⟨Y,yg.2 ⟨akF h1.1 hno,λx hx=>?_⟩,λx=>Ab _⟩
      rcases(Ab _).1 hx with rfl | hx
      · simpa using λe=>hn (.inl e)
      · exact h1.2 x hx
theorem Yu(h:uy l=true)(id st:Int):(lS l id st).2≠0∨((lS l id st).2=0/\uy (lS l id st).1=true/\(0<=st/\st<=2)/\jU l id=true/\(gU l id).gP≠2/\{ gU l id with gP:=st }∈(lS l id st).1/\(∀ x∈l,x.ID≠id->x∈(lS l id st).1)/\∀ x∈(lS l id st).1,x={ gU l id with gP:=st }∨(x∈l/\x.ID≠id)):=by
  have h1:=yg.1 h;unfold lS; rw [wh h]
  split
  · rename_i hb
    split
    · rename_i hst
      split
      · left; simp
      · rename_i hs
        right
        have hb':jU l id=true:=by unfold jU; rw [wh h]; exact hb
        obtain⟨x,hx,hk⟩:=qU (key:=aV.ID) hb;have hlt:=aJ hx;have hfx:gU l id=x:=qM hb' (by rw [wh h]; exact hx);have hone:=h1.2 x (bT hx);refine⟨Y,yg.2 ⟨akG h1.1 hx (by rw [hfx]),λy hy=>?_⟩,hst,hb',λe=>hs (.inl e),bT (qb hlt),λy hy hne=>?_,λy hy=>?_⟩
        · rcases ab8 hy with hy | rfl
          · exact h1.2 y hy
          · rw [hfx]; simp only [Ky,bN,bO] at hone ⊢; omega
        · obtain⟨q,hq⟩:=sM hy
          by_cases e:low (fun(y:aV)=>bB y.ID id) l=q
          · rw [<- e] at hq; rw [hq] at hx; cases hx; exact absurd hk hne
          · exact bT (show(l.set _ _)[q]? = some y by rw [Ea e]; exact hq)
        · obtain⟨q,hq⟩:=sM hy
          by_cases e:low (fun(y:aV)=>bB y.ID id) l=q
          · subst e; rw [qb hlt] at hq; cases hq; exact .inl rfl
          · rw [Ea e] at hq
            refine .inr ⟨bT hq,λhid=>?_⟩
            rcases Xf q (low (fun(y:aV)=>bB y.ID id) l) with h3 | h3 | h3
            · have:=h1.1.get h3 hq hx; omega
            · omega
            · have:=h1.1.get h3 hx hq; omega
    · left; simp
  · left; simp
theorem avD{l:List aH}(h:kR l=true){n:Int}(h0:¬ (Xb l n).length>0):∀ c∈l,n∉c.aD:=by
  intro c hc hn;apply h0
  have:c.ID∈Xb l n:=by
    unfold Xb; rw [vZ h];exact gQ.2 ⟨c,nJ.2 ⟨hc,by rw [nI]; exact hn⟩,rfl⟩
  exact List.length_pos_of_mem this
def akH(ns:List aV)(cs:List aH):Prop:=∀ c∈cs,∀ id∈c.aD,∃ n∈ns,n.ID=id/\n.gP≠2
theorem iU:mD m=true↔uy m.aT=true/\kR m.aA=true/\CK m.aP=true/\akH m.aT m.aA:=by
  unfold mD
  simp only [bN,eG]
  constructor
  · rintro⟨⟨⟨h1,h2⟩,h3⟩,h4⟩
    refine⟨h1,h2,h3,λc hc id hid=>(Js h1).1 ?_⟩;rw [TW] at h4;have h5:=h4 c hc;rw [Bool.not_eq_true,TW] at h5
    simpa using h5 id hid
  · rintro⟨h1,h2,h3,h4⟩
    refine⟨⟨⟨h1,h2⟩,h3⟩,?_⟩;rw [TW];intro c hc;rw [Bool.not_eq_true,TW];intro id hid;rw [(Js h1).2 (h4 c hc id hid)]; simp
theorem Md{ns:List aV}{cs cs':List aH}(h:akH ns cs)(hs:∀ c'∈cs',∀ id∈c'.aD,(∃ c∈cs,id∈c.aD)∨∃ n∈ns,n.ID=id/\n.gP≠2):akH ns cs':=by
  intro c' hc' id hid
  rcases hs c' hc' id hid with ⟨c,hc,h1⟩ | h1
  · exact h c hc id h1
  · exact h1
theorem agp{l:List aH}(hl:kR l=true)(id sum:Int):∀ c'∈(eB l id sum).1,∀ n∈c'.aD,∃ c∈l,n∈c.aD:=by
  intro c' hc' n hn
  rcases Dq l id sum with ⟨h1,_⟩ | ⟨_,_,_,_,h1⟩
  · rw [h1] at hc'; simp at hc'
  · rw [h1,vZ hl] at hc'
    rcases(Ab _).1 hc' with rfl | h2
    · simp at hn
    · exact⟨c',h2,hn⟩
theorem Yv{l:List aH}(hl:kR l=true)(id:Int){Q:Int->Prop}(hf:∀ c,qx c=true->(f c).2=0->∀ n∈(f c).1.aD,n∈c.aD∨Q n):∀ c'∈(gy l id f).1,∀ n∈c'.aD,(∃ c∈l,n∈c.aD)∨Q n:=by
  intro c' hc' n hn
  cases hb:gY l id with
  | false=>rw [ace hb] at hc'; simp at hc'
  | true=>
    rw [Xi hl hb] at hc'
    split at hc'
    · rename_i he
      rcases ab8 hc' with h1 | rfl
      · exact .inl ⟨c',h1,hn⟩
      · rcases hf _ (Vt hl _ (BD hl hb)) he n hn with h2 | h2
        · exact .inl ⟨_,BD hl hb,h2⟩
        · exact .inr h2
    · simp at hc'
theorem ajb(sum:Int)(c:aH)(ho:qx c=true)(he:(dB sum c).2=0):∀ n∈(dB sum c).1.aD,n∈c.aD∨False:=by
  intro n hn; rw [(Nu ho he).1] at hn; simp at hn
theorem ac8(bE:Int)(c:aH)(ho:qx c=true)(he:(jw bE c).2=0):∀ n∈(jw bE c).1.aD,n∈c.aD∨False:=by
  intro n hn; rw [(FD ho he).2.1] at hn; exact .inl ((Qr _ _).subset hn)
theorem ajc{l:List aH}(hl:kR l=true)(id bE v:Int):∀ c'∈(kS l id bE v).1,∀ n∈c'.aD,(∃ c∈l,n∈c.aD)∨n=bE:=by
  unfold kS; split
  · intro c' hc'; simp at hc'
  · rename_i hr
    refine Yv hl id (Q:=λn=>n=bE) λc ho he n hn=>?_;rw [(Nv ho aj aj he).2.2.1] at hn
    rcases(Ab _).1 hn with h | h
    · exact .inr h
    · exact .inl h
theorem agq{l:List aH}(hl:kR l=true)(id:Int):∀ c'∈(iV l id).1,∀ n∈c'.aD,∃ c∈l,n∈c.aD:=by
  intro c' hc' n hn;unfold iV at hc'; rw [vZ hl] at hc'
  split at hc'
  · exact⟨c',(Qr _ _).subset hc',hn⟩
  · simp at hc'
theorem avE(hm:mD m=true)(c:fV):uy (xJ m c).1=true/\kR (xJ m c).2.1=true/\akH (xJ m c).1 (xJ m c).2.1/\((xJ m c).2.2.1≠0->(xJ m c).1=m.aT/\(xJ m c).2.1=m.aA):=by
  obtain⟨h1,h2,h3,h4⟩:=iU.1 hm
  rcases kinds c.Kind with hk | hk | hk | hk | hk | hk | hk | hk | hk
  · rw [agh hk]; exact⟨h1,h2,h4,λ_=>⟨rfl,rfl⟩⟩
  · rw [agi hk]
    rcases Py h1 ⟨c.A,c.B,c.C,0⟩ with h5 | ⟨h5,h6,h7⟩
    · simp only [aK h5]; exact⟨h1,h2,h4,λ_=>⟨trivial,trivial⟩⟩
    · simp only [aO h5]
      refine⟨h6,h2,λx hx id hid=>?_,λh=>absurd h5 h⟩;obtain⟨n,hn,h8⟩:=h4 x hx id hid;exact⟨n,(h7 n).2 (.inr hn),h8⟩
  · rw [agj hk]
    by_cases h0:c.B=2/\(Xb m.aA c.A).length>0
    · simp only [aO h0]; exact⟨h1,h2,h4,λ_=>⟨trivial,trivial⟩⟩
    · simp only [aK h0]
      rcases Yu h1 c.A c.B with h5 | ⟨h5,h6,h7,h8,h9,h10,h11,_⟩
      · simp only [aK h5]; exact⟨h1,h2,h4,λ_=>⟨trivial,trivial⟩⟩
      · simp only [aO h5]
        refine⟨h6,h2,λx hx id hid=>?_,λh=>absurd h5 h⟩;obtain⟨n,hn,h12,h13⟩:=h4 x hx id hid
        by_cases e:id=c.A
        · refine⟨_,h10,by rw [e]; exact(Rq h1 h8).2,λh14=>?_⟩
          have h15:c.B=2:=h14;exact avD h2 (λh16=>h0 ⟨h15,h16⟩) x hx (e▸hid)
        · exact⟨n,h11 n hn aj,h12,h13⟩
  · rw [Yt hk]; unfold um
    split
    · exact⟨h1,h2,h4,λ_=>⟨Y,Y⟩⟩
    · by_cases he:(eB m.aA c.A (IntKind.u32.wrap c.B)).2=0
      · simp only [aO he]
        exact⟨h1,(Ej _ _ _).1,Md h4 λc' hc' n hn=>.inl (agp h2 _ _ c' hc' n hn),λh=>absurd he h⟩
      · simp only [aK he]; exact⟨h1,h2,h4,λ_=>⟨trivial,trivial⟩⟩
  · rw [UQ hk]; unfold um
    split
    · exact⟨h1,h2,h4,λ_=>⟨Y,Y⟩⟩
    · by_cases he:(gy m.aA c.A (dB (IntKind.u32.wrap c.B))).2=0
      · simp only [aO he]
        refine⟨h1,(II _ _ (yQ _)).1,Md h4 λc' hc' n hn=>?_,λh=>absurd he h⟩
        rcases Yv h2 c.A (ajb _) c' hc' n hn with h | h
        · exact .inl h
        · exact h.elim
      · simp only [aK he]; exact⟨h1,h2,h4,λ_=>⟨trivial,trivial⟩⟩
  · rw [UR hk]
    by_cases hs:kI m.aT c.B=true
    · simp only [aO hs]
      by_cases he:(kS m.aA c.A c.B c.C).2=0
      · simp only [aO he]
        refine⟨h1,(amD _ _ _ _).1,Md h4 λc' hc' n hn=>?_,λh=>absurd he h⟩
        rcases ajc h2 c.A c.B c.C c' hc' n hn with h | h
        · exact .inl h
        · exact .inr (h▸(Js h1).1 hs)
      · simp only [aK he]; exact⟨h1,h2,h4,λ_=>⟨trivial,trivial⟩⟩
    · simp only [aK hs]; exact⟨h1,h2,h4,λ_=>⟨trivial,trivial⟩⟩
  · rw [UU hk]
    by_cases he:(gy m.aA c.A (jw c.B)).2=0
    · simp only [aO he]
      refine⟨h1,(II _ _ (Qs _)).1,Md h4 λc' hc' n hn=>?_,λh=>absurd he h⟩
      rcases Yv h2 c.A (ac8 _) c' hc' n hn with h | h
      · exact .inl h
      · exact h.elim
    · simp only [aK he]; exact⟨h1,h2,h4,λ_=>⟨trivial,trivial⟩⟩
  · rw [agk hk]
    by_cases he:(iV m.aA c.A).2=0
    · simp only [aO he]
      exact⟨h1,(aij _ _).1,Md h4 λc' hc' n hn=>.inl (agq h2 _ c' hc' n hn),λh=>absurd he h⟩
    · simp only [aK he]; exact⟨h1,h2,h4,λ_=>⟨trivial,trivial⟩⟩
  · rw [agl hk]; exact⟨h1,h2,h4,λ_=>⟨rfl,rfl⟩⟩
theorem akI(m:dF)(c:fV):0<=(xJ m c).2.2.1/\(xJ m c).2.2.1<=10:=by
  rcases kinds c.Kind with hk | hk | hk | hk | hk | hk | hk | hk | hk
  · rw [agh hk]; exact aqX m c
  · rw [agi hk]; exact aqY m c
  · rw [agj hk]; exact aqZ m c
  · rw [Yt hk]; exact aq0 m c
  · rw [UQ hk]; exact aq1 m c
  · rw [UR hk]; exact aq2 m c
  · rw [UU hk]; exact aq3 m c
  · rw [agk hk]; exact aq4 m c
  · rw [agl hk]; exact⟨(by decide:(0:Int)<=1),(by decide:(1:Int)<=10)⟩
theorem agr:∀(l:List aY)(z:Int),Up aY.Client l->(∀ n∈l,z<n.Client/\Jl n=true)->Ht z l=true
  | [],_,_,_=>rfl
  | m::l,z,hu,h=>by
    have h1:=pG.1 hu;have h2:=h m av
    simp only [Ht,bN,eG,dX,fP,bV]
    exact⟨⟨h2.2,aj⟩,agr l _ h1.2 λn hn=>⟨h1.1 n hn,(h n (by simp [hn])).2⟩⟩
theorem avF{n:aY}(h:Jl n=true):1<=n.Client/\n.Client<=1048576/\1<=n.Seq/\n.Seq<=1099511627776:=by simp only [Jl,bN,bO] at h; omega
theorem Me{l:List aY}:CK l=true↔Up aY.Client l/\(∀ n∈l,Jl n=true)/\l.length<=16:=by
  unfold CK; simp only [bN,bO];exact⟨λh=>⟨af6 l 0 h.1,λn hn=>(Rf l 0 h.1 n hn).2,h.2⟩,λh=>⟨agr l 0 h.1 λn hn=>⟨by have:=avF (h.2.1 n hn); omega,h.2.1 n hn⟩,h.2.2⟩⟩
theorem aq7{l:List aY}(hu:Up aY.Client l){x:aY}(hx:x∈l):Ku l x.Client=x:=by
  have hb:x8 (fun(y:aY)=>bB y.Client x.Client) l=true:=by rw [TU (hu.mono x.Client)]; exact(uZ hu _).2 ⟨x,hx,rfl⟩
  obtain⟨y,hy,hk⟩:=zX hb;rw [TV hb hy]; exact uQ hu (bT hy) hx (zf.1 hk)
theorem avG{l:List α}{n:Nat}(hn:n<=l.length)(z c:α):(l.take n++[z]++l.drop n).set n c=l.take n++[c]++l.drop n:=by
  have e:(l.take n).length=n:=by simp; omega
  rw [oV,aiZ _ _ aj,e,Nat.sub_self]; simp
theorem ags(l:List aY)(bg seq:Int):(iR l bg seq).2.2=0∨(iR l bg seq).2.2=1∨(iR l bg seq).2.2=9∨(iR l bg seq).2.2=10:=by
  unfold iR; repeat' split
  all_goals simp
theorem avH(l:List aY)(bg seq a b:Int):(qj l bg seq a).2=(qj l bg seq b).2:=by
  unfold qj; repeat' split
  all_goals rfl
theorem agt{l:List aY}{bg seq a:Int}(h1:(iR l bg seq).2.2=0)(h2:(iR l bg seq).2.1=false):(qj l bg seq a).2=0∨(qj l bg seq a).2=7:=by
  unfold qj; rw [aK aj,aK (by rw [h2]; decide)]; split <;> simp
abbrev NJ(iD:Int)(ji:List aY):=low (fun(y:aY)=>bB y.Client iD) ji
theorem azR{l:List aY}{bg seq a:Int}(h:(qj l bg seq a).2=0):CK l=true/\Jl ⟨bg,seq,0⟩=true/\CK (qj l bg seq a).1=true/\iR (qj l bg seq a).1 bg seq=(a,true,0)/\
    (qj l bg seq a).1=if hits (fun(y:aY)=>bB y.Client bg) l=true then l.set (NJ bg l) ⟨bg,seq,a⟩ else l.take (NJ bg l)++[⟨bg,seq,a⟩]++l.drop (NJ bg l):=by
  unfold qj at h
  by_cases h1:(iR l bg seq).2.2=0
  · rw [aK aj] at h
    by_cases h2:(iR l bg seq).2.1=true
    · rw [aO h2] at h; cases h
    · rw [aK h2] at h
      by_cases h3:x8 (fun(y:aY)=>bB y.Client bg) l=false/\16<=l.length
      · rw [aO h3] at h; cases h
      · have hno:¬ (!CK l||!Jl ⟨bg,seq,0⟩)=true:=by
          intro h4; unfold iR at h1; rw [aO h4] at h1; cases h1
        have hsm:CK l=true/\Jl ⟨bg,seq,0⟩=true:=by simpa using hno
        have hiff:=Me.1 hsm.1;have hmo:=hiff.1.mono bg;have hso:Jl ⟨bg,seq,a⟩=true:=hsm.2;have hlow:=D8 (fun(y:aY)=>bB y.Client bg) l
        have e:(qj l bg seq a).1=if hits (fun(y:aY)=>bB y.Client bg) l=true then l.set (NJ bg l) ⟨bg,seq,a⟩ else l.take (NJ bg l)++[⟨bg,seq,a⟩]++l.drop (NJ bg l):=by
          unfold qj; rw [aK aj,aK h2,aK h3,TU hmo,VH hmo]
          simp only
          split
          · rfl
          · exact avG hlow _ _
        rw [TU hmo] at h3
        have hres:CK (qj l bg seq a).1=true/\(⟨bg,seq,a⟩:aY)∈(qj l bg seq a).1:=by
          rw [e]
          by_cases hh:hits (fun(y:aY)=>bB y.Client bg) l=true
          · rw [aO hh]
            obtain⟨x,hx,hk⟩:=qU (key:=aY.Client) hh;refine⟨Me.2 ⟨akG hiff.1 hx hk.symm,λy hy=>?_,by rw [gJ]; exact hiff.2.2⟩,bT (qb (aJ hx))⟩
            rcases ab8 hy with hy | rfl
            · exact hiff.2.1 y hy
            · exact hso
          · rw [aK hh]
            have hl:l.length<16:=by
              rcases P8 l.length 16 with h5 | h5
              · exact h5
              · exact absurd ⟨by simpa using hh,h5⟩ h3
            refine⟨Me.2 ⟨akF (key:=aY.Client) (c:=⟨bg,seq,a⟩) hiff.1 (λx hx e=>hh ((uZ hiff.1 bg).2 ⟨x,hx,e⟩)),λy hy=>?_,?_⟩,(Ab _).2 (.inl Y)⟩
            · rcases(Ab _).1 hy with rfl | hy
              · exact hso
              · exact hiff.2.1 y hy
            · simp only [jd,fO,kW,pF,rH]; omega
        refine⟨hsm.1,hsm.2,hres.1,?_,e⟩;have hf:=aq7 (Me.1 hres.1).1 hres.2;unfold iR;have hf':Ku (qj l bg seq a).1 bg=⟨bg,seq,a⟩:=hf;rw [hf',aK (by rw [hres.1,hsm.2]; decide),aK av,aO rfl]
  · rw [aO h1] at h; exact absurd h h1
def dD(m:dF)(c:fV):dF × Int:=if mD m=false then(m,-1) else if c.Client=0 then nT m c else if(iR m.aP c.Client c.Seq).2.2≠0 then(m,-(iR m.aP c.Client c.Seq).2.2) else if(iR m.aP c.Client c.Seq).2.1=true then(m,(iR m.aP c.Client c.Seq).1) else
  if(qj m.aP c.Client c.Seq 0).2≠0 then(m,-(qj m.aP c.Client c.Seq 0).2) else(⟨(nT m c).1.aT,(nT m c).1.aA,(qj m.aP c.Client c.Seq (nT m c).2).1⟩,(nT m c).2)
theorem TY(hm:mD m=true)(c:fV):mD (nT m c).1=true:=by
  obtain⟨h1,h2,h3,_⟩:=avE hm c;exact iU.2 ⟨h1,h2,(iU.1 hm).2.2.1,h3⟩
theorem Ez(hm:mD m=true)(c:fV):mD (dD m c).1=true:=by
  have hd:=iU.1 (TY hm c);unfold dD;rw [aK (by rw [hm]; decide)]
  split
  · exact TY hm c
  · split
    · exact hm
    · split
      · exact hm
      · split
        · exact hm
        · rename_i h
          have h0:(qj m.aP c.Client c.Seq (nT m c).2).2=0:=by rw [avH _ _ _ _ 0]; omega
          exact iU.2 ⟨hd.1,hd.2.1,(azR h0).2.2.1,hd.2.2.2⟩
theorem aq8:mD ⟨[],[],[]⟩=true:=au
def mSz(m:dF):Prop:=m.aT.length<=100000/\m.aA.length<=100000/\(∀ x∈m.aA,x.aD.length<=100000)/\m.aP.length<=100000
theorem FR(hm:mD m=true):mSz m:=by
  obtain⟨h1,h2,h3,_⟩:=iU.1 hm;have h4:=Hz h1;have h5:=zQ h2;have h6:=(Me.1 h3).2.2;exact⟨aj,aj,λx hx=>by have:=h5.2 x hx; omega,aj⟩
set_option maxHeartbeats 1000000 in
theorem anm(w:World)(m:dF){vJ:Nat}(Jj:Sl cZ S0 w vR vJ m.aT){uU:Nat}(KE:Sl bJ S0 w vk uU m.aA){tq:Nat}(Rb:Sl bX S0 w uh tq m.aP)(hn:m.aT.length<=100000)(hc:m.aA.length<=100000)(hh:∀ x∈m.aA,x.aD.length<=100000)(hs:m.aP.length<=100000) :
    bS prog 166 #[.agg #[.slice vR m.aT.length vJ,.slice vk m.aA.length uU,.slice uh m.aP.length tq]] w λv w'=>∃(vP:ah)(vQ:Nat)(zC:ah)(zD:Nat)(zF:ah)(zG:Nat),v=.agg #[.slice vP m.aT.length vQ,.slice zC m.aA.length zD,.slice zF m.aP.length zG]/\Hp w S0 w' [dP cZ vP vQ m.aT,dP bJ zC zD m.aA,dP bX zF zG m.aP]:=by
 refine kP S0 func166 ntmps166 Y λH0=>rg<|bx Y Y H0 λg1 w1 K1=>al yL Y K1 λg2 w2 K2=>dn<|He K2 (λ_ K=>(K.rm s1)) (λl0 rk lJ wJ=>∃(jR:ah)(jO:Nat)(ql:ah)(cj2:Nat)(wF:ah)(vM:Nat),lJ=l0/\Hp w S0 wJ (dY g1 45 [.slice wF m.aT.length vM,.slice ql m.aA.length cj2,.slice jR m.aP.length jO]::aS bX 102 jR jO m.aP::aS bJ 59 ql cj2 m.aA::aS cZ 78 wF vM m.aT::rk)) (λhns H1=>?_) ?_
 ·have k1:=(H1.rm s1);refine Np 0 g1 0 pY Y k1<|Np 3 g1 1 jE Y k1<|Np 6 g1 2 Dv Y k1<|Jn H1 (λl0 rk lJ wJ=>∃(yS:ah)(yT:Nat)(sO:ah)(sP:Nat)(nR:ah)(nS:Nat),lJ=(7,.slice nR m.aT.length nS)::(10,.slice sO m.aA.length sP)::(13,.slice yS m.aP.length yT)::(14,gD g1)::l0/\Hp w S0 wJ (aS bX 102 yS yT m.aP::aS bJ 59 sO sP m.aA::aS cZ 78 nR nS m.aT::rk)) 5 1023 ?_ λhS1=>?_
  ·rintro _ Z0 ⟨yS,yT,sO,sP,nR,nS,rfl,wB⟩;refine O1 10 Y<|xP Y wB s4 Y λZ4 zB=>?_
   have k9:=(zB.cU 0 4);refine aQ k9<|Np 11 g1 1 jE Y k9<|O1 12 Y<|xP Y zB s0 Y λw16 BR=>?_
   have k10:=(BR.cU 0 4);refine aQ k10<|Np 13 g1 2 Dv Y k10<|O1 14 Y<|xP Y BR s0 Y λw17 yB=>?_
   have k11:=(yB.cU 0 4);refine aQ k11<|Dn ⟨yS,yT,sO,sP,nR,nS,Y,yB⟩ Y
  refine Jn H1 (λl0 rk lJ wJ=>∃(nR:ah)(nS:Nat),lJ=(7,.slice nR m.aT.length nS)::(9,.slice vk m.aA.length uU)::(12,.slice uh m.aP.length tq)::l0/\Hp w S0 wJ (aS cZ 78 nR nS m.aT::rk)) 8 223 ?_ λhS2=>?_
  ·rintro _ w18 ⟨nR,nS,rfl,ET⟩;have k12:=((ET.rm s2).rm s0);refine Np 9 g1 0 pY Y k12<|O1 5 Y<|gX Y (vB _ (ET.a KE) aj) ?_
   rintro _ w19 ⟨aqI,aqJ,rfl,h19⟩;have Cc:=ET.c1 h19;have k13:=((Cc.rm s3).cU 0 2);refine aQ k13<|O1 8 Y<|gX Y (zY _ (Cc.a Rb).any aj) ?_
   rintro _ w20 ⟨aq9,ara,rfl,h20⟩;have C8:=Cc.f1 h20;have k14:=((C8.rm s4).cU 0 3);exact Kj hS1 k14 ⟨aq9,ara,aqI,aqJ,nR,nS,Y,C8⟩ Y
  refine Jn H1 (λl0 rk lJ wJ=>∃(nR:ah)(nS:Nat),lJ=(7,.slice nR m.aT.length nS)::(9,.slice vk m.aA.length uU)::l0/\Hp w S0 wJ (aS cZ 78 nR nS m.aT::rk)) 9 95 ?_ λhS3=>?_
  ·rintro _ w21 ⟨nR,nS,rfl,FH⟩;refine O2 5 7 Y Y ?_ ?_
   ·refine gX Y (vB _ (FH.a KE) aj) ?_;rintro _ w22 ⟨afB,afC,rfl,h22⟩;have EU:=FH.c1 h22;have k15:=((EU.rm s3).cU 0 2);refine aQ k15<|O1 7 Y<|nO EU s3 Y<|aQ k15<|Np 9 g1 0 pY Y k15<|O1 8 Y<|gX Y (zY _ (EU.a Rb).any aj) ?_
    rintro _ w23 ⟨arb,ard,rfl,h23⟩;have KA:=EU.f1 h23;have k16:=((KA.rm s4).cU 0 3);exact Kj hS1 k16 ⟨arb,ard,afB,afC,nR,nS,Y,KA⟩ Y
   ·refine nO FH s2 Y ?_;have k17:=((FH.rm s2).rm s0);exact Kj hS2 k17 ⟨nR,nS,Y,FH⟩ Y
  refine Jn H1 (λl0 rk lJ wJ=>∃(nR:ah)(nS:Nat),lJ=(7,.slice nR m.aT.length nS)::(12,.slice uh m.aP.length tq)::l0/\Hp w S0 wJ (aS cZ 78 nR nS m.aT::rk)) 9 207 ?_ λhS4=>?_
  ·rintro _ w24 ⟨nR,nS,rfl,qB⟩;refine O1 4 Y<|nO qB s2 Y ?_
   have k18:=((qB.rm s2).rm s0);exact Kj hS2 k18 ⟨nR,nS,Y,qB⟩ Y
  refine Jn H1 (λl0 rk lJ wJ=>lJ=(6,.slice vR m.aT.length vJ)::(9,.slice vk m.aA.length uU)::(12,.slice uh m.aP.length tq)::l0/\Hp w S0 wJ rk) 9 219 ?_ λhS5=>?_
  ·rintro _ w25 ⟨rfl,FI⟩;refine O1 2 Y<|gX Y (nu _ (FI.a Jj).any aj) ?_
   rintro _ w26 ⟨arf,arh,rfl,h26⟩;have Nw:=FI.f1 h26;have aqC:=(Nw.o s0).bH;have k19:=((Nw.rm s2).rm s0);exact Kj hS2 k19 ⟨arf,arh,Y,Nw⟩ Y
  refine Jn H1 (λl0 rk lJ wJ=>lJ=(6,.slice vR m.aT.length vJ)::(9,.slice vk m.aA.length uU)::l0/\Hp w S0 wJ rk) 10 91 ?_ λhS6=>?_
  ·rintro _ w27 ⟨rfl,OB⟩;refine O2 2 7 Y Y ?_ ?_
   ·refine gX Y (nu _ (OB.a Jj).any aj) ?_;rintro _ w28 ⟨aC6,aC7,rfl,h28⟩;have FJ:=OB.f1 h28;have aHM:=(FJ.o s0).bH;have k20:=((FJ.rm s2).rm s0);exact Kj hS3 k20 ⟨aC6,aC7,Y,FJ⟩ Y
   ·refine nO OB s1 Y ?_;have k21:=(OB.rm s1);exact Kj hS5 k21 ⟨Y,OB⟩ Y
  refine Jn H1 (λl0 rk lJ wJ=>lJ=(6,.slice vR m.aT.length vJ)::(12,.slice uh m.aP.length tq)::l0/\Hp w S0 wJ rk) 10 203 ?_ λhS7=>?_
  ·rintro _ w29 ⟨rfl,Lx⟩;refine O2 2 4 Y Y ?_ ?_
   ·refine gX Y (nu _ (Lx.a Jj).any aj) ?_;rintro _ w30 ⟨aC8,aC9,rfl,h30⟩;have KC:=Lx.f1 h30;have aqD:=(KC.o s0).bH;have k22:=((KC.rm s2).rm s0);exact Kj hS4 k22 ⟨aC8,aC9,Y,KC⟩ Y
   ·refine nO Lx s1 Y ?_;have k23:=(Lx.rm s1);exact Kj hS5 k23 ⟨Y,Lx⟩ Y
  refine Jn H1 (λl0 rk lJ wJ=>lJ=(9,.slice vk m.aA.length uU)::(12,.slice uh m.aP.length tq)::l0/\Hp w S0 wJ rk) 10 217 ?_ λhS8=>?_
  ·rintro _ w31 ⟨rfl,QC⟩;refine O1 1 Y<|nO QC s1 Y ?_
   have k24:=(QC.rm s1);exact Kj hS5 k24 ⟨Y,QC⟩ Y
  refine yO (fuel:=11) (rs:=[1,4,7]) ak au ?_
  simp only [xB,lM,xC,xD,uO]
  refine⟨?_,?_,?_⟩
  ·refine⟨_,Y,?_⟩;refine nO H1 s1 Y<|aQ k1<|yO (fuel:=10) (rs:=[2,4,7]) ak au ?_
   simp only [xB,lM,xC,xD,uO]
   refine⟨?_,?_,?_⟩
   ·refine⟨_,Y,?_⟩;refine gX Y (nu _ (H1.a Jj).any aj) ?_;rintro _ w32 ⟨axS,axT,rfl,h32⟩;have OC:=H1.f1 h32;have azS:=(OC.o s0).bH;have k25:=((OC.rm s2).rm s0);refine aQ k25<|O2 4 7 Y Y ?_ ?_
    ·refine nO OC s2 Y<|Kj hS3 k25 ⟨axS,axT,Y,OC⟩ Y
    ·refine nO OC s2 Y<|Kj hS4 k25 ⟨axS,axT,Y,OC⟩ Y
   ·refine⟨_,Y,?_⟩;refine nO H1 s1 Y<|Kj hS6 k1 ⟨Y,H1⟩ Y
   ·refine⟨_,Y,?_⟩;refine nO H1 s1 Y<|Kj hS7 k1 ⟨Y,H1⟩ Y
  ·refine⟨_,Y,?_⟩;refine nO H1 s1 Y<|aQ k1<|O2 1 7 Y Y ?_ ?_
   ·refine nO H1 s1 Y<|Kj hS6 k1 ⟨Y,H1⟩ Y
   ·refine nO H1 s1 Y<|Kj hS8 k1 ⟨Y,H1⟩ Y
  ·refine⟨_,Y,?_⟩;refine nO H1 s1 Y<|aQ k1<|O2 1 4 Y Y ?_ ?_
   ·refine nO H1 s1 Y<|Kj hS7 k1 ⟨Y,H1⟩ Y
   ·refine nO H1 s1 Y<|Kj hS8 k1 ⟨Y,H1⟩ Y
 rintro _ w33 ⟨jR,jO,ql,cj2,wF,vM,rfl,Xy⟩;refine aW ?_;obtain⟨Qn,ae1,HK1⟩:=Hp.toK Xy s2;have HK2:=HK1.aeS dQ 3;have ah8:Qn.length=m.aA.length:=by rw [<- ae1,jY]
 rw [<- ah8] at HK2;refine rg<|jT g1 1 jE HK2 s3 Y<|ev (eU iN Y)<|mv Y<|dn<|cB ?_
 have eO:[]=((Qn.take 0).map ru):=by rfl
 rw [eO] at HK2;refine pK (λmJ lJ wJ=>∃(k:Nat)(ks:List bI),lJ=[(1,gD g1),(2,gD g2),(18,.slice ql ks.length cj2),(19,aF ((Qn.length:Nat):Int)),(20,aF ((k:Nat):Int))]/\mJ=Qn.length - k/\k<=Qn.length/\(ks.length=Qn.length)/\(ks.map bI.c=m.aA)/\(∀ j,k<=j->ks[j]? = Qn[j]?)/\Hp w S0 wJ [aS tK 59 ql cj2 ks,fZ dQ 3 ((ks.take k).map ru),SI dQ (Qn.map ru),dY g1 45 [.slice wF m.aT.length vM,.slice ql Qn.length cj2,.slice jR m.aP.length jO],aS bX 102 jR jO m.aP,aS cZ 78 wF vM m.aT,dY g2 45 [.slice none 0 0,.slice none 0 0,.slice none 0 0]]) ⟨0,Qn,Y,Y,fJ _,by rfl,by exact ae1,by intro j _; rfl,((HK2.sel s0).sel s1)⟩ rfl ?_;rintro _ _ w34 ⟨k,ks,rfl,rfl,hk,hkn,hka,hkb,K34⟩;refine rg<|ev (fC Y Y)<|dn<|pQ Y (λhc21=>?_) (λhc21=>?_)
 ·refine jm ?_;refine aW<|cB<|bQ Y ?_
  obtain⟨x1,bP⟩:=bC (xs:=ks) (i:=k) aj;refine ev (cu (i:=k) iN o9 Y Y Y (aJ bP) ((K34.o s0).some_ bP))<|ev (gI qw Y Y ((K34.o s0).fE bP))<|al lU Y K34 λg3 w35 K35=>iI Y<|sty Y K35 s0 Y λw36 Zl=>dn ?_
  have hin:=Zl.ayo s3 (gQ.2 ⟨x1,bT (by rw [<- hkb k (kV _)]; exact bP),rfl⟩:(x1.B,x1.d,x1.c.aD)∈_);have hHl:x1.c.aD.length<=100000:=hh x1.c (by rw [<- hka]; exact gQ.2 ⟨x1,bT bP,rfl⟩);have H2:=Zl.push hin;refine Hf H2 (λ_ K=>(K.rm s2)) (λl0 rk lJ wJ=>∃(CF:ah)(CG:Nat),lJ=(18,.slice ql ((ks.set k ({ x1 with B:=CF,d:=CG }:bI)).length) cj2)::l0/\Hp w S0 wJ (aS tK 59 ql cj2 (ks.set k ({ x1 with B:=CF,d:=CG }:bI))::aS dQ 3 CF CG x1.c.aD::rk)) (λhns H3=>?_) ?_
  ·have k26:=(H3.rm s2);refine Np 0 g1 1 jE Y k26<|lD 1 Y (λ_ hK=>show Ev _ _ _ _ _ (.slice ql ks.length cj2) from by rw [hkn]; exact(dx Xr rfl (hK.x s4) rfl)) k26<|kX 2 rfl rfl k26<|ng 3 4 g3 3 j5 s1 rfl k26<|O1 5 rfl<|gX rfl (uH _ (H3.s s0).any aj) ?_
   rintro _ w37 ⟨abd,abe,rfl,h37⟩;have K37:=H3.f1 h37;have k27:=((K37.rm s3).rm s0);refine aQ k27<|O1 6 Y<|ev (cu (i:=k) iN o9 Y Y Y (aJ bP) ((K37.o s3).some_ bP))<|aQ k27<|lD 7 Y (λ_ _=>dW j5 Y (fH _ _ _)) k27<|O1 8 Y<|se (i:=k) (f:=3) (x:=x1) (x':=({ x1 with B:=abd,d:=abe }:bI)) (ds:=[.slice abd x1.c.aD.length abe]) K37 s3 Y Y Y bP Y Ql (pU Y) Y (by rintro _ _ _ ⟨⟩; rfl) λw38 K38=>?_
   have hl1:(ks.set k ({ x1 with B:=abd,d:=abe }:bI)).length=ks.length:=gJ ..;refine fU (t:=18) (u:=.slice ql ks.length cj2) (v:=.slice ql ((ks.set k ({ x1 with B:=abd,d:=abe }:bI)).length) cj2) Y (by rw [hl1])<|fU (t:=26) (u:=.slice ql ks.length cj2) (v:=.slice ql ((ks.set k ({ x1 with B:=abd,d:=abe }:bI)).length) cj2) rfl (by rw [hl1]) ?_
   have k28:=(K38.cU 0 2);refine aQ k28<|Dn ⟨abd,abe,Y,K38⟩ Y
  rintro _ w39 ⟨CF,CG,rfl,K39⟩;refine iE (gG ?_);have H4:=K39.Qk s1 s3;refine jy<|ev (dO Y Y)<|mv Y<|jA ?_
  have fQ:((ks.take k).map ru)++[(CF,CG,x1.c.aD)]=(((ks.set k ({ x1 with B:=CF,d:=CG }:bI)).take (k+1)).map ru):=by rw [Td bP]; rfl
  rw [fQ] at H4;exact dI ⟨(k+1),(ks.set k ({ x1 with B:=CF,d:=CG }:bI)),Y,Y,aj,by rw [gJ]; exact hkn,by refine(WZ bP ?_).trans hka; rfl,by intro j hj; rw [Ea aj]; exact hkb j aj,(((H4.cU 2 2).sel s0).sel s1)⟩ rfl aj
 refine wE ?_;have hfin:ks.take k=ks:=iH aj;rw [hfin] at K34;have H5:=K34.WJ s1;have H6:=H5.ofK s1 s0;rw [hka,ah8] at H6;refine rg<|ev (dU sG Y Y (H6.x s2))<|sty Y H6 s5 Y λw40 K40=>dn<|jf (qA Y ⟨_,_,Y,⟨_,Y,jL (cs:=[.slice wF m.aT.length vM,.slice ql m.aA.length cj2,.slice jR m.aP.length jO]) sG Y (K40.x s0)⟩,Y⟩ ?_)
 have H7:=K40.fz s5;have H8:=H7.fz s2;have H9:=H8.fz s5;exact⟨wF,vM,ql,cj2,jR,jO,Y,((((H9.cU 3 3).sel s0).sel s1).sel s2)⟩
end Go.Proofs.YtlhnnmlenkahlaaGreat
