/- Lemmas. -/
import Derived.Test.YtlhnnmlenkahlaaGreatvG7
set_option maxRecDepth 4000
set_option linter.all false
namespace Go.Proofs.YtlhnnmlenkahlaaGreat
open Go.RowKit Go.Proofs.Tryz
def Gg:=@List.find?_append
def MC:=@List.filter_eq_self
def MF:=@underlying154
def Zv:=@underlying291
variable {k tN jg qJ jO Gh l8:Nat}{xs l ys:List aW}{S0 S:Nat->Prop}{u7 jl qK jP l9:ah}{yS:FuncId}{yV:List Value}{cB:List aI}{aG:List Int}
structure gq where
  Node:Int
  N:Int
  deriving DecidableEq
def gq.enc(x:gq):List Value:=[.int .i64 x.Node,.int .i64 x.N]
theorem gq.kC(x:gq):∀ u∈x.enc,u.oneCell'=true:=by
  intro u hu
  simp only [gq.enc,iN,kY,qW] at hu
  rcases hu with rfl | rfl <;> rfl
def lU:Ty gq:=Ty.flat 2 gq.enc au (λ_=>rfl) gq.kC
instance:Flat lU:=⟨λh=>h⟩
structure aM where
  Kind:Int
  aB:Int
  aC:Int
  Sum:Int
  jw:Int
  To:Int
  kG:Int
  deriving DecidableEq
def aM.enc(x:aM):List Value:=[.int .i64 x.Kind,.int .i64 x.aB,.int .i64 x.aC,.int .u32 x.Sum,.int .i64 x.jw,.int .i64 x.To,.int .i64 x.kG]
theorem aM.kC(x:aM):∀ u∈x.enc,u.oneCell'=true:=by
  intro u hu
  simp only [aM.enc,iN,kY,qW] at hu
  rcases hu with rfl | rfl | rfl | rfl | rfl | rfl | rfl <;> rfl
def bF:Ty aM:=Ty.flat 7 aM.enc au (λ_=>rfl) aM.kC
instance:Flat bF:=⟨λh=>h⟩
def DX(cs:List aI)(id:Int):Nat:=(cs.filter fun(c:aI)=>c.aF.contains id).length
def oN(cs:List aI)(l:List aW):List gq:=if uR l=true then l.map fun(n:aW)=>⟨n.ID,(DX cs n.ID:Int)⟩ else[]
def alQ(aG:List Int)(n:aW):Bool:=!decide (n.gG=0)||!aG.contains n.ID
def Am(l:List aW)(aG:List Int):List aW:=if uR l=true then l.filter fun(n:aW)=>!alQ aG n else[]
def nK(aX:List gq)(id:Int):Int:=match aX.find? (fun(x:gq)=>decide (x.Node=id)) with | some x=>x.N | none=>0
theorem auj{aX:List gq}{id:Int}(h:idxOf (fun(x:gq)=>decide (x.Node=id)) aX<0):nK aX id=0:=by
  rcases uV (fun(x:gq)=>decide (x.Node=id)) aX with ⟨_,h2⟩ | ⟨k,x,h1,_,_,_⟩
  · unfold nK; rw [Af.2 (λx hx=>by simp [h2 x hx])]
  · omega
theorem aqc{aX:List gq}{id:Int}{x:gq}(h:idxOf (fun(x:gq)=>decide (x.Node=id)) aX=(k:Int))(hx:aX[k]? = some x):nK aX id=x.N:=by
  rcases uV (fun(x:gq)=>decide (x.Node=id)) aX with ⟨h1,_⟩ | ⟨k',x',h1,h2,h3,h4⟩
  · omega
  · have:k=k':=aj
    subst this;rw [hx] at h2; cases h2
    have hs:aX=aX.take k++x::aX.drop (k+1):=by
      conv=>lhs; rw [<- sJ k aX]
      rw [yu (aJ hx),(mM.1 hx).2]
    unfold nK;rw [hs,Gg,Af.2 (λy hy=>by simp [h4 y hy])]
    simp only [Option.none_or,List.find?_cons,h3]
def iJ(cs:List aI)(l:List aW)(aG:List Int):List gq:=oN cs (Am l aG)
theorem Zw:Size prog 219 2:=ay
theorem auk:XY prog 219 2:=⟨λ_=>by kernel_rfl,Zw⟩
theorem alR:dH prog 219 0 0:=ay
theorem aul:bI prog 271:=ay
theorem alS:dH prog 219 1 1:=ay
theorem Gi(a0:Int)(a1:Int):prog.built 219 [(0,aD a0),(1,aD a1)]=some #[aD a0,aD a1]:=ak
theorem Ji(a0:Int)(a1:Int):∀ w,(Instr.buildSlice 154 1 (List.toArray [(0,.agg #[aD a0,aD a1])])).run prog w=.ok (.slice (some ⟨w.heap.size,0,none⟩) 1 1) (w.alloc (.cells (List.toArray [aD a0,aD a1]) 219)):=ay
theorem afm:kQ prog 219 2 16:=by
  obtain⟨i,h1,h2,h3,h4⟩:=rT (show(prog.info? 219).map (λi=>(i.zero,i.size,i.bytes))=some (some (.agg #[aD 0,aD 0]),2,16) by kernel_rfl);exact⟨i,_,h1,h2,h3,h4,Y⟩
theorem aum:bI prog 404:=ay
theorem NY{α:Type}{p:α->Bool}{xs:List α}(h:idxOf p xs<0):(xs.filter λx=>!p x)=xs:=by
  rcases uV p xs with ⟨_,h2⟩ | ⟨k,x,h1,_⟩
  · exact MC.2 (λx hx=>by simp [h2 x hx])
  · omega
theorem NZ{α:Type}{p:α->Bool}{xs:List α}(h:idxOf p xs=(k:Int)):xs.take k=(xs.take (k+1)).filter (λx=>!p x)/\k<xs.length:=by
  rcases uV p xs with ⟨h1,_⟩ | ⟨k',x,h1,h2,h3,h4⟩
  · omega
  · have:k=k':=aj
    subst this;refine⟨?_,aJ h2⟩;rw [fI h2,yg,MC.2 (λx hx=>by simp [h4 x hx])]
    simp [h3]
theorem Qw(w:World){s:List gq}(lK:Sl lU S0 w u7 tN s)(IG:bI prog yS)(f:gq->Bool)(II:∀(w':World)(x:gq),Ext w w'->x∈s->bO prog yS (([.agg #[aD x.Node,aD x.N]]:List Value)++yV).toArray w' λv w''=>v=.bool (f x)/\Ext w' w'') :
    bO prog 270 #[.slice u7 s.length tN,.func (.func yS) #[] yV.toArray] w λv w'=>v=aD (idxOf f s)/\Hp w S0 w' []:=by
 refine j4 S0 func270 ntmps270 Y λH0=>?_;have NI:=lK.bN;refine iY Y<|aZ<|bQ Y<|ev (eY MF Y)<|mv Y<|dn<|cZ<|Lp H0 (λl0 rk mJ lJ wJ=>∃(k:Nat),lJ=(8,aD ((k:Nat):Int))::l0/\mJ=s.length - k/\k<=s.length/\(∀ y∈s.take k,f y=false)/\Hp w S0 wJ rk) ⟨0,Y,Y,fK _,av,H0⟩ rfl ?_
 rintro _ _ w1 ⟨k,rfl,rfl,hk,hno,K1⟩;refine rg<|ev (fB Y Y)<|dn<|oC Y (λFQ=>?_) (λFQ=>?_)
 ·refine jh ?_;refine aZ<|cZ<|bQ Y<|bS Y<|bQ Y<|mv Y<|mv Y ?_
  obtain⟨x1,bP⟩:=bC (xs:=s) (i:=k) aj;refine ev (eU (i:=k) MF Zw Y Y Y (aJ bP) ((K1.a lK).some_ bP))<|ev (fV auk Y Y ((K1.a lK).eX bP))<|wo Y Y Y IG (II _ x1 K1.ext (dA bP)) Y ?_
  rintro _ w2 ⟨rfl,e2⟩;have K2:=K1.grow e2;refine dn<|bR Y (λhc16=>?_) (λhc16=>?_)
  ·refine bQ Y<|bS Y<|je (jH (gL (gL (jH (gL (zD Y ?_))))))
   have d9:(((k:Nat):Int):Int)=(idxOf f s):=by exact(qD hno bP hc16).symm
   exact⟨by rw [d9] <;> rfl,K2⟩
  refine zF ?_;refine jr<|ev (dW Y Y)<|mv Y<|jv<|dQ ⟨(k+1),Y,Y,aj,by exact tQ (q:=λy=>f y=false) hno bP hc16,K2⟩ rfl aj
 refine wQ ?_;refine iY Y<|iI Y ?_
 have fG:((-1):Int)=(idxOf f s):=by exact(sQ (uW hno aj)).symm
 exact⟨by rw [<- fG] <;> rfl,K1⟩
theorem ajf(w:World)(x:gq){CX:Nat}(bq:Int)(Jc:Bx w CX 3 [aD bq]) :
    bO prog 271 #[.agg #[aD x.Node,aD x.N],fP CX] w λv w'=>v=.bool (decide (x.Node=bq))/\Hp w S0 w' []:=by
 refine j4 S0 func271 ntmps271 Y λH0=>rg<|bx Y Y H0 λg1 w1 K1=>bS Y<|rg<|jD g1 0 alR K1 s0 Y<|ev (cu jG Y (Jc.ext K1.ext) Y)<|ev (iP Y Y)<|bS Y<|iI Y ?_
 exact⟨Y,(K1.rm s0)⟩
theorem tV(w:World){l:List gq}(iR:Sl lU S0 w jl jg l)(bq:Int) :
    bO prog 176 #[.slice jl l.length jg,aD bq] w λv w'=>v=aD (nK l bq)/\Hp w S0 w' []:=by
 refine j4 S0 func176 ntmps176 Y λH0=>?_;have hge:=EU (p:=fun(x:gq)=>decide (x.Node=bq)) l;have hlt:=CB (p:=fun(x:gq)=>decide (x.Node=bq)) l;refine rg<|bx Y Y H0 λg1 w1 K1=>bS Y<|bQ Y<|ev (qC Y)<|lF K1 Y (Qw _ (K1.a iR).any (yV:=[fP g1]) aul (fun(x:gq)=>decide (x.Node=bq)) (λw' x e hm=>(ajf (S0:=Any) w' x bq ((K1.x s0).ext e)).mono (by rintro _ _ ⟨rfl,fG⟩; exact⟨rfl,fG.ext⟩))) λw2 K2=>bS rfl<|aZ<|bQ rfl<|ev (fB rfl rfl)<|dn<|kX rfl (λZx=>?_) (λZx=>?_)
 ·refine iY Y<|vG Y ?_
  have d9:(0:Int)=(nK l bq):=by exact(auj aj).symm
  exact⟨by rw [<- d9] <;> rfl,(K2.rm s0)⟩
 refine jh ?_;obtain⟨k0,hk0,hkl⟩:∃ k0:Nat,idxOf (fun(x:gq)=>decide (x.Node=bq)) l=(k0:Int)/\k0<l.length:=⟨(idxOf (fun(x:gq)=>decide (x.Node=bq)) l).toNat,aj,aj⟩;refine kP (t:=5) Y (aS (Value.int .i64) hk0)<|bQ Y<|mv Y ?_
 obtain⟨x1,bP⟩:=bC (xs:=l) (i:=k0) aj;refine ev (eU (i:=k0) MF Zw Y Y Y (aJ bP) ((K2.a iR).some_ bP))<|ev (eF alS Y (gI _ _ _))<|ev (jq jG Y ((K2.a iR).fZ (j:=1) bP Y))<|bS Y<|iI Y ?_
 have fG:(x1.N:Int)=(nK l bq):=by exact(aqc hk0 bP).symm
 exact⟨by rw [fG] <;> rfl,(K2.rm s0)⟩
theorem alT(w:World)(rX:Sl bH S0 w qK qJ cB)(id:Int) :
    bO prog 178 #[.slice qK cB.length qJ,aD id] w λv w'=>v=aD ((DX cB id:Nat):Int)/\Hp w S0 w' []:=by
 refine j4 S0 func178 ntmps178 Y λH0=>?_;have ajg:=rX.bN;have hq:=λk=>lX (fun(c:aI)=>c.aF.contains id) (cB.take k)
 simp only [fE] at hq
 refine iY Y<|iY Y<|aZ<|bQ Y<|ev (eY jf Y)<|mv Y<|dn<|cZ ?_
 have d9:(0:Int)=((((cB.take 0).filter fun(c:aI)=>c.aF.contains id).length:Nat):Int):=by rfl
 refine kP (t:=5) Y (aS (Value.int .i64) d9)<|Lp H0 (λl0 rk mJ lJ wJ=>∃(k:Nat),lJ=(5,aD ((((cB.take k).filter fun(c:aI)=>c.aF.contains id).length:Nat):Int))::(10,aD ((k:Nat):Int))::l0/\mJ=cB.length - k/\k<=cB.length/\Hp w S0 wJ rk) ⟨0,Y,Y,fK _,H0⟩ Y ?_
 rintro _ _ w1 ⟨k,rfl,rfl,hk,K1⟩;refine rg<|ev (fB Y Y)<|dn<|oC Y (λGj=>?_) (λGj=>?_)
 ·refine jh ?_;refine aZ<|cZ<|rg ?_
  obtain⟨x1,bP⟩:=bC (xs:=cB) (i:=k) aj;refine ev (eU (i:=k) jf qG Y Y Y (aJ bP) ((K1.a rX).some_ bP)) ?_;obtain⟨B1,d1,Ak,hi1⟩:=Aj (rX.row bP);refine ev (fV (cs:=[aD x1.ID,aD x1.aC,fT x1.Sum,.slice B1 x1.aF.length d1]) pU Y Y (Ib (λj u hu=>K1.ext.cell (Ak j u hu))))<|al kZ Y K1 λg1 w2 K2=>sty Y K2 s0 Y λw3 K3=>dn ?_
  have hqk:=hq k;refine rg<|jD g1 3 kD K3 s0 Y<|mv Y<|lF K3 Y (jT _ (K3.a hi1).any id) λw4 K4=>dn<|bR Y (λhc17=>?_) (λhc17=>?_)
  ·refine jr<|mv Y<|ev (dW Y Y)<|iA Y<|jv<|ig (gB ?_)
   refine jr<|ev (dW Y Y)<|mv Y<|jv ?_
   have fG:(((((cB.take k).filter fun(c:aI)=>c.aF.contains id).length+1:Nat):Int):Int)=((((cB.take (k+1)).filter fun(c:aI)=>c.aF.contains id).length:Nat):Int):=by rw [mP bP]; first | (rw [aO hc17]; simp; done) | (rw [aK (by rw [hc17]; decide)]; simp)
   refine ji (t:=5) Y (aS (Value.int .i64) fG)<|dQ ⟨(k+1),Y,Y,aj,(K4.rm s0)⟩ rfl aj
  refine zF ?_;refine jr<|ev (dW Y Y)<|mv Y<|jv ?_
  have jQ:(((((cB.take k).filter fun(c:aI)=>c.aF.contains id).length:Nat):Int):Int)=((((cB.take (k+1)).filter fun(c:aI)=>c.aF.contains id).length:Nat):Int):=by rw [mP bP]; first | (rw [aO hc17]; simp; done) | (rw [aK (by rw [hc17]; decide)]; simp)
  refine ji (t:=5) Y (aS (Value.int .i64) jQ)<|dQ ⟨(k+1),Y,Y,aj,(K4.rm s0)⟩ rfl aj
 refine wQ ?_;refine bQ Y<|bS Y<|iI Y ?_
 have lV:(((cB.take k).filter fun(c:aI)=>c.aF.contains id).length:Nat)=(DX cB id):=by rw [iD aj]; rfl
 exact⟨by rw [lV] <;> rfl,K1⟩
abbrev Gl(gJ:aW)(iK:List aI):=(⟨gJ.ID,(DX iK gJ.ID:Int)⟩:gq)
theorem Qx(w:World)(rX:Sl bH S0 w qK qJ cB)(iR:Sl bX S0 w jl jg l)(hn:l.length<=100000) :
    bO prog 104 #[.slice qK cB.length qJ,.slice jl l.length jg] w λv w'=>∃(A0:ah)(c0:Nat),v=.slice A0 ((oN cB l).length) c0/\Hp w S0 w' [aR lU 219 A0 c0 (oN cB l)]:=by
 refine j4 S0 func104 ntmps104 Y λH0=>iY Y<|aZ<|bQ Y<|lF H0 Y (SE _ (H0.a iR).any) λw1 K1=>ev (gZ Y)<|dn<|bR Y (λZx=>?_) (λZx=>?_)
 ·try simp only [eO,dN,bK,dZ,eu,fC,bL,bU] at Zx
  refine iY Y<|vG Y ?_
  have H1:=K1.nil lU 219;have d9:(([]:List gq):List gq)=(oN cB l):=by unfold oN; rw [aK (by rw [Zx]; decide)]
  have H2:=(d9▸H1:Hp w S0 w1 (aR lU 219 none 0 (oN cB l)::[]));exact⟨none,0,by rw [<- d9] <;> rfl,H2⟩
 try simp only [eO,dN,bK,dZ,eu,fC,bL,bU] at Zx
 refine jh ?_;refine iY Y<|aZ<|bQ Y<|ev (eY lM Y)<|mv Y<|dn<|cZ ?_
 have H3:=K1.nil lU 219;have fG:(([]:List gq):List gq)=((l.take 0).map fun(n:aW)=>(Gl n cB)):=by rfl
 refine kP (t:=5) Y (aS (λz=>Value.slice none (List.length z) 0) fG) ?_;have H4:=H3.nil lU 219;have H5:=(fG▸H4:Hp w S0 w1 (aR lU 219 none 0 ((l.take 0).map fun(n:aW)=>(Gl n cB))::[aR lU 219 none 0 []]));refine rR (λmJ lJ wJ=>∃(k:Nat)(A5:ah)(c5:Nat),lJ=[(0,.slice qK cB.length qJ),(5,.slice A5 (((l.take k).map fun(n:aW)=>(Gl n cB)).length) c5),(11,.slice jl l.length jg),(12,aD ((l.length:Nat):Int)),(13,aD ((k:Nat):Int))]/\mJ=l.length - k/\k<=l.length/\Hp w S0 wJ [aR lU 219 A5 c5 ((l.take k).map fun(n:aW)=>(Gl n cB))]) ⟨0,none,0,Y,Y,fK _,(H5.rm s1)⟩ Y ?_;rintro _ _ w2 ⟨k,A5,c5,rfl,rfl,hk,K2⟩;refine rg<|ev (fB Y Y)<|dn<|oC Y (λtC=>?_) (λtC=>?_)
 ·refine jh ?_;refine aZ<|cZ<|rg ?_
  obtain⟨x1,bP⟩:=bC (xs:=l) (i:=k) aj;refine ev (eU (i:=k) lM uL Y Y Y (aJ bP) ((K2.a iR).some_ bP))<|ev (fV vO Y Y ((K2.a iR).eX bP))<|al rG Y K2 λg1 w3 K3=>sty Y K3 s0 Y λw4 K4=>dn<|Hf K4 (λ_ K=>(K.rm s1)) (λl0 rk lJ wJ=>∃(jE:ah)(jB:Nat),lJ=(5,.slice jE ((((l.take k).map fun(n:aW)=>(Gl n cB))++([(⟨x1.ID,((DX cB x1.ID:Nat):Int)⟩:gq)]:List gq)).length) jB)::l0/\Hp w S0 wJ (aR lU 219 jE jB (((l.take k).map fun(n:aW)=>(Gl n cB))++([(⟨x1.ID,((DX cB x1.ID:Nat):Int)⟩:gq)]:List gq))::rk)) (λhns H6=>?_) ?_
  ·have k1:=(H6.rm s1);refine kT 0 Y Y k1<|mD 1 2 g1 0 lT s0 Y k1<|kT 3 Y Y k1<|mD 4 5 g1 0 lT s0 Y k1<|O1 6 Y<|lF H6 Y (alT _ (H6.a rX).any x1.ID) λw5 K5=>?_
   have k2:=(K5.rm s1);refine aP k2<|lH 7 Y (λ_ _=>iE (vs:=[(0,aD x1.ID),(1,aD ((DX cB x1.ID:Nat):Int))]) (cs:=[aD x1.ID,aD ((DX cB x1.ID:Nat):Int)]) Y (by apply Gi)) k2<|O1 8 rfl<|yU (τ:=lU) (x:=(⟨x1.ID,((DX cB x1.ID:Nat):Int)⟩:gq)) rfl (by intro _; apply Ji) rfl K5 (λ_ _=>rfl) λg2 w6 K6=>?_
   have k3:=((K6.rm s2).rm s0);refine aP k3<|O1 9 Y<|ap (ys:=([(⟨x1.ID,((DX cB x1.ID:Nat):Int)⟩:gq)]:List gq)) K6 s2 Y Y (K6.o s0) MF afm (by first | omega | (simp; omega) | (simp; done)) av rfl λnY nZ w7 K7=>?_
   have k4:=(K7.cU 0 2);refine aP k4<|xJ 10 Y Y k4<|Dn ⟨nY,nZ,Y,(K7.rm s1)⟩ Y
  rintro _ w8 ⟨jE,jB,rfl,K8⟩;refine ig (gB ?_);refine jr<|ev (dW Y Y)<|mv Y<|jv ?_
  have jQ:((((l.take k).map fun(n:aW)=>(Gl n cB))++([(⟨x1.ID,((DX cB x1.ID:Nat):Int)⟩:gq)]:List gq)):List gq)=((l.take (k+1)).map fun(n:aW)=>(Gl n cB)):=by rw [fI bP,pR]; rfl
  refine ji (t:=5) Y (aS (λz=>Value.slice jE (List.length z) jB) jQ) ?_;rw [jQ] at K8;exact dQ ⟨(k+1),jE,jB,Y,Y,aj,(K8.rm s1)⟩ rfl aj
 refine wQ ?_;refine bQ Y<|bS Y<|iI Y ?_
 have lV:(((l.take k).map fun(n:aW)=>(Gl n cB)):List gq)=(oN cB l):=by rw [iD aj]; unfold oN; rw [aO Zx]
 rw [lV] at K2;exact⟨A5,c5,by rw [lV] <;> rfl,K2⟩
theorem aqd(w:World)(n:aW){Gm:Nat}(jX:Bx w Gm 55 [.slice jP aG.length jO])(N7:Sl dL S0 w jP jO aG) :
    bO prog 404 #[.agg #[aD n.ID,aD n.kM,aD n.lW,aD n.gG],fP Gm] w λv w'=>v=.bool (alQ aG n)/\Hp w S0 w' []:=by
 refine j4 S0 func404 ntmps404 Y λH0=>rg<|bx Y Y H0 λg1 w1 K1=>bS Y<|rg<|jD g1 3 yx K1 s0 Y<|ev (rz Y Y)<|mv Y<|nA 6 13 ((!decide (n.gG=0))||(!(aG.contains n.ID))) ?_ ?_
 ·cases hb7:(!decide (n.gG=0)) with
  | true=>
   refine eB<|eB<|eB<|eB<|eB<|ev (dY Y Y)<|iH Y (om _)
  | false=>
   refine bG Y (cu CQ Y (jX.ext K1.ext) Y) Y<|wP g1 0 lT K1 s0 Y<|nu Y Y Y Y Uu (jT _ (K1.a N7).any n.ID) Y ?_
   rintro _ w2 ⟨rfl,h2⟩;refine bG Y (gZ Y) Y<|ev (eG Y Y)<|iH Y h2.ext
 intro w3 e3;have K3:=K1.grow e3;refine bS Y<|iI Y ?_
 have d9:(((!decide (n.gG=0))||(!(aG.contains n.ID))):Bool)=(alQ aG n):=by rfl
 exact⟨by rw [d9] <;> rfl,(K3.rm s0)⟩
theorem Qy(w:World){s:List aW}(lK:Sl bX S0 w u7 tN s)(IG:bI prog yS)(f:aW->Bool)(II:∀(w':World)(x:aW),Ext w w'->x∈s->bO prog yS (([.agg #[aD x.ID,aD x.kM,aD x.lW,aD x.gG]]:List Value)++yV).toArray w' λv w''=>v=.bool (f x)/\Ext w' w'') :
    bO prog 435 #[.slice u7 s.length tN,.func (.func yS) #[] yV.toArray] w λv w'=>v=aD (idxOf f s)/\Hp w S0 w' []:=by
 refine j4 S0 func435 ntmps435 Y λH0=>?_;have NI:=lK.bN;refine iY Y<|aZ<|bQ Y<|ev (eY lM Y)<|mv Y<|dn<|cZ<|Lp H0 (λl0 rk mJ lJ wJ=>∃(k:Nat),lJ=(8,aD ((k:Nat):Int))::l0/\mJ=s.length - k/\k<=s.length/\(∀ y∈s.take k,f y=false)/\Hp w S0 wJ rk) ⟨0,Y,Y,fK _,av,H0⟩ rfl ?_
 rintro _ _ w1 ⟨k,rfl,rfl,hk,hno,K1⟩;refine rg<|ev (fB Y Y)<|dn<|oC Y (λFQ=>?_) (λFQ=>?_)
 ·refine jh ?_;refine aZ<|cZ<|bQ Y<|bS Y<|bQ Y<|mv Y<|mv Y ?_
  obtain⟨x1,bP⟩:=bC (xs:=s) (i:=k) aj;refine ev (eU (i:=k) lM uL Y Y Y (aJ bP) ((K1.a lK).some_ bP))<|ev (fV vO Y Y ((K1.a lK).eX bP))<|wo Y Y Y IG (II _ x1 K1.ext (dA bP)) Y ?_
  rintro _ w2 ⟨rfl,e2⟩;have K2:=K1.grow e2;refine dn<|bR Y (λhc16=>?_) (λhc16=>?_)
  ·refine bQ Y<|bS Y<|je (jH (gL (gL (jH (gL (zD Y ?_))))))
   have d9:(((k:Nat):Int):Int)=(idxOf f s):=by exact(qD hno bP hc16).symm
   exact⟨by rw [d9] <;> rfl,K2⟩
  refine zF ?_;refine jr<|ev (dW Y Y)<|mv Y<|jv<|dQ ⟨(k+1),Y,Y,aj,by exact tQ (q:=λy=>f y=false) hno bP hc16,K2⟩ rfl aj
 refine wQ ?_;refine iY Y<|iI Y ?_
 have fG:((-1):Int)=(idxOf f s):=by exact(sQ (uW hno aj)).symm
 exact⟨by rw [<- fG] <;> rfl,K1⟩
theorem N8{b w:World}{F:List lC}{A:ah}{c:Nat}(H0:Hp b S w (aR bX 78 A c xs::F)){fd:FuncId}{kd:List Value}(qd:bI prog fd)(p:aW->Bool)
    (hd:∀(w':World)(ys:List aW)(x:aW),ys.length=xs.length->Hp b S w' (aR bX 78 A c ys::F)->bO prog fd (([.agg #[aD x.ID,aD x.kM,aD x.lW,aD x.gG]]:List Value)++kd).toArray w' λv w''=>v=.bool (p x)/\Ext w' w'') (hn:xs.length<=1000000) :
    bO prog 405 #[.slice A xs.length c,.func (.func fd) #[] kd.toArray] w λv w'=>v=.slice A (xs.filter λx=>!p x).length c/\Hp b S w' (aR bX 78 A c (xs.filter λx=>!p x)::F):=by
 refine sF func405 ntmps405 Y ?_;have Uw:=(H0.o s0).bN;have hcap0:=(H0.o s0).cap;have hlt:=CB (p:=p) xs;have hge:=EU (p:=p) xs;refine iY Y<|bQ Y<|mv Y<|gW Y (Qy (S0:=Any) (yV:=kd) w ((H0.o s0)) qd p (λw' x ex _=>hd w' xs x Y (H0.grow ex))) ?_
 rintro _ w1 ⟨rfl,e1⟩;have K1:=H0.grow e1.ext;refine bS Y<|aZ<|bQ Y<|ev (iP Y Y)<|dn<|kX Y (λnQ=>?_) (λnQ=>?_)
 ·refine bQ Y<|bS Y<|vG Y ?_
  have hall:=NY (p:=p) (xs:=xs) aj;exact⟨by rw [hall]; rfl,by rw [hall]; exact K1⟩
 refine jh ?_;refine aZ ?_;obtain⟨k0,hk0,hkl⟩:∃ k0:Nat,idxOf p xs=(k0:Int)/\k0<xs.length:=⟨(idxOf p xs).toNat,aj,aj⟩;have afn:=NZ hk0;refine kP (t:=5) Y (aS (Value.int .i64) hk0)<|bQ Y<|ev (dW Y Y)<|bS Y<|cZ<|Lp (K1.rm s0) (λl0 rk mJ lJ wJ=>∃(i j:Nat)(ys:List aW),lJ=(0,.slice A ys.length c)::(5,aD ((i:Nat):Int))::(6,aD ((j:Nat):Int))::l0/\mJ=xs.length - j/\(ys.length=xs.length)/\(i<j/\j<=xs.length)/\(ys.take i=(xs.take j).filter λx=>!p x)/\(ys.drop j=xs.drop j)/\Hp b S wJ (aR bX 78 A c ys::rk)) ⟨k0,(k0+1),xs,Y,Y,by rfl,aj,by exact afn.1,by rfl,K1⟩ rfl ?_
 rintro _ _ w2 ⟨i,j,ys,rfl,rfl,hys,hij,htk,hdr,K2⟩;refine aZ<|bQ Y<|mv Y<|ev (eY lM Y)<|ev (fB Y Y)<|dn<|kX Y (λhc19=>?_) (λhc19=>?_)
 ·refine jh ?_;refine aZ<|cZ<|bQ Y<|mv Y ?_
  obtain⟨x1,bP⟩:=bC (xs:=ys) (i:=j) aj;refine ev (eU (i:=j) lM uL Y Y Y (aJ bP) ((K2.o s0).some_ bP))<|ev (fV vO Y Y ((K2.o s0).eX bP))<|al rG Y K2 λg1 w3 K3=>sty Y K3 s0 Y λw4 K4=>dn<|bQ Y<|ev (dK vO Y Y (K4.x s0))<|wo Y Y Y qd (hd _ _ x1 (by first | exact hys | omega) (K4.rm s0)) rfl ?_
  rintro _ w5 ⟨rfl,e5⟩;have K5:=K4.grow e5;refine ev (gZ Y)<|dn<|bR Y (λhc29=>?_) (λhc29=>?_)
  ·try simp only [eO,dN,bK,dZ,eu,fC,bL,bU] at hc29
   refine bQ Y<|mv Y<|ev (dK vO Y Y (K5.x s0)) ?_
   obtain⟨x2,kK⟩:=bC (xs:=ys) (i:=i) aj;refine ev (eU (i:=i) lM uL Y Y Y (aJ kK) ((K5.o s1).some_ kK))<|se (i:=i) (f:=0) (x:=x2) (x':=x1) (ds:=[aD x1.ID,aD x1.kM,aD x1.lW,aD x1.gG]) K5 s1 Y Y Y kK Y uL (oJ Y) Y (by rintro _ _ _ ⟨⟩; rfl) λw6 K6=>?_
   have hl1:(ys.set i x1).length=ys.length:=fQ ..;refine fJ (t:=0) (u:=.slice A ys.length c) (v:=.slice A ((ys.set i x1).length) c) Y (by rw [hl1])<|fJ (t:=17) (u:=.slice A ys.length c) (v:=.slice A ((ys.set i x1).length) c) rfl (by rw [hl1])<|fJ (t:=22) (u:=.slice A ys.length c) (v:=.slice A ((ys.set i x1).length) c) rfl (by rw [hl1])<|fJ (t:=30) (u:=.slice A ys.length c) (v:=.slice A ((ys.set i x1).length) c) rfl (by rw [hl1]) ?_
   have hx3:(ys.set i x1)[i]? = some x1:=pQ (aJ kK);refine dn<|jr<|mv Y<|ev (dW Y Y)<|iA Y<|jv<|ig (gB ?_)
   refine jr<|mv Y<|ev (dW Y Y)<|iA Y<|jv<|dQ ⟨(i+1),(j+1),(ys.set i x1),Y,Y,by first | exact hys | (rw [fQ]; exact hys),aj,by first | exact(rE hij.1 htk hdr bP (by simp [hc29])).1 | exact(rF htk hdr bP (by simp [hc29])).1,by first | exact(rE hij.1 htk hdr bP (by simp [hc29])).2 | exact(rF htk hdr bP (by simp [hc29])).2,(K6.rm s1)⟩ rfl aj
  try simp only [eO,dN,bK,dZ,eu,fC,bL,bU] at hc29
  refine zF ?_;refine jr<|mv Y<|ev (dW Y Y)<|iA Y<|jv<|dQ ⟨i,(j+1),ys,Y,Y,by first | exact hys | (rw [fQ]; exact hys),aj,by first | exact(rE hij.1 htk hdr bP (by simp [hc29])).1 | exact(rF htk hdr bP (by simp [hc29])).1,by first | exact(rE hij.1 htk hdr bP (by simp [hc29])).2 | exact(rF htk hdr bP (by simp [hc29])).2,(K5.rm s0)⟩ rfl aj
 refine wQ ?_;have hcap:ys.length<=c:=aj;have hil:(ys.take i).length=i:=by simp only [fE]; omega
 have hfin:ys.take i=xs.filter λx=>!p x:=by rw [htk,iD aj]
 refine kP (t:=5) (u:=aD ((i:Nat):Int)) (v:=aD (((ys.take i).length:Nat):Int)) Y (by rw [hil]) ?_;have H1:=K2.Uf (hi:=i) s0 aj;refine bQ Y<|mv Y<|ev (CO (lo:=(ys.take i).length) lM uL Y Y Y (by first | omega | (simp only [fE]; omega)) hcap)<|abV (τ:=bX) (m:=ys.length - (ys.take i).length) H1 s0 rfl lM asK (by simp only [fE]; omega) λw7 K7=>dn<|bQ rfl<|mv rfl<|ev (P9 (hi:=(ys.take i).length) lM uL rfl rfl rfl (by simp only [fE]; omega))<|bS rfl<|iI rfl ?_
 exact⟨by rw [<- hfin]; rfl,by rw [<- hfin]; exact K7⟩
theorem aun(w:World)(rX:Sl bH S0 w qK qJ cB)(iR:Sl bX S0 w jl jg l)(jX:Sl dL S0 w jP jO aG)(hn:l.length<=100000) :
    bO prog 338 #[.slice qK cB.length qJ,.slice jl l.length jg,.slice jP aG.length jO] w λv w'=>∃(A0:ah)(c0:Nat)(A1:ah)(c1:Nat),v=.tuple #[.slice A0 ((Am l aG).length) c0,.slice A1 ((iJ cB l aG).length) c1]/\Hp w S0 w' [aR bX 78 A0 c0 (Am l aG),aR lU 219 A1 c1 (iJ cB l aG)]:=by
 refine j4 S0 func338 ntmps338 Y λH0=>?_;have alU:=jX.bN;refine rg<|bx Y Y H0 λg1 w1 K1=>iA Y<|bS Y<|aZ<|bQ Y<|lF K1 Y (SE _ (K1.a iR).any) λw2 K2=>ev (gZ Y)<|dn<|bR Y (λGj=>?_) (λGj=>?_)
 ·try simp only [eO,dN,bK,dZ,eu,fC,bL,bU] at Gj
  refine rg<|iA Y<|bS Y<|vG Y ?_
  have H1:=K2.nil bX 78;have d9:(([]:List aW):List aW)=(Am l aG):=by unfold Am; rw [aK (by rw [Gj]; decide)]
  have H2:=(d9▸H1:Hp w S0 w2 (aR bX 78 none 0 (Am l aG)::[dJ g1 55 [.slice jP aG.length jO]]));have H3:=H2.nil lU 219;have fG:(([]:List gq):List gq)=(iJ cB l aG):=by unfold iJ Am; rw [aK (by rw [Gj]; decide)]; rfl
  have H4:=(fG▸H3:Hp w S0 w2 (aR lU 219 none 0 (iJ cB l aG)::[aR bX 78 none 0 (Am l aG),dJ g1 55 [.slice jP aG.length jO]]));exact⟨none,0,none,0,by rw [<- d9,<- fG] <;> rfl,(((H4.rm s2).sel s0).sel s1)⟩
 try simp only [eO,dN,bK,dZ,eu,fC,bL,bU] at Gj
 refine jh ?_;refine rg<|ev (qC Y)<|bS Y<|bQ Y<|gW Y (l7 _ (K2.a iR).any aj) ?_
 rintro _ w3 ⟨mR,mU,rfl,h3⟩;have K3:=K2.f1 h3;refine mv Y<|gW Y (N8 (kd:=[fP g1]) (K3.sel s0) aum (λx9=>alQ aG x9) (λw9 ys x9 hl9 K9=>(aqd (S0:=Any) w9 x9 (K9.x s1) (K9.a jX).any).mono (by rintro _ w8 ⟨rfl,K8⟩; exact⟨rfl,K8.ext⟩)) aj) ?_
 rintro _ w4 ⟨rfl,K4⟩;refine bS Y ?_;have hfl:(Am l aG).length<=l.length:=by unfold Am; rw [aO Gj]; exact lX _ _
 have hfe:((l.filter λx9=>!(alQ aG x9)):List aW)=Am l aG:=by unfold Am; rw [aO Gj]
 rw [hfe] at K4;refine kP (t:=1) Y (aS (fun(z:List aW)=>Value.slice mR z.length mU) hfe)<|bQ Y<|mv Y<|mv Y<|gW Y (Qx _ (K4.a rX).any (K4.o s0) aj) ?_
 rintro _ w5 ⟨xA,xB,rfl,h5⟩;have K5:=K4.f1 h5;refine iA Y<|bS Y<|iI Y ?_
 have jQ:(oN cB (Am l aG):List gq)=(iJ cB l aG):=by rfl
 rw [jQ] at K5;exact⟨mR,mU,xA,xB,by rw [jQ] <;> rfl,(((K5.rm s2).sel s0).sel s1)⟩
theorem UR(cs:List aI)(id:Int):DX cs id<=cs.length:=lX _ _
theorem afo{cs:List aI}{x:gq}(h:x∈iJ cs l aG):0<=x.N/\x.N<=cs.length:=by
  unfold iJ oN at h
  split at h
  · obtain⟨n,_,rfl⟩:=jI.1 h
    have:=UR cs n.ID;exact⟨Int.natCast_nonneg _,by simp only; omega⟩
  · simp at h
def aci(h:List Int)(fr l6:Int):List Int:=((h.filter fun(x9:Int)=>!(decide (x9=fr)))++[l6]).mergeSort fun(x y:Int)=>decide (x<=y)
def Yf(l:List aW)(s:List Int)(id:Int):List Int:=if jU l id=true then Qj s (gP l id).kM else s
def kr(l:List aW)(ids:List Int):List Int:=ids.foldl (Yf l) []
def Qz(l:List aW)(ids:List Int):Nat:=(kr l ids).length
theorem DY{ids:List Int}{x:Int}(hx:ids[k]? = some x):kr l (ids.take (k+1))=Yf l (kr l (ids.take k)) x:=by
  rw [fI hx]; simp [kr]
def DZ(c:aI)(l:List aW)(fr l6:Int):Bool:=c.aF.contains fr&&!c.aF.contains l6&&decide (Qz l c.aF<=Qz l (aci c.aF fr l6))
theorem auo:bI prog 437:=ay
theorem aup:bI prog 411:=ay
theorem alV:bI prog 410:=ay
theorem Ie(w:World){s:List Int}(lK:Sl dL S0 w u7 tN s)(IG:bI prog yS)(f:Int->Bool)(II:∀(w':World)(x:Int),Ext w w'->x∈s->bO prog yS (([aD x]:List Value)++yV).toArray w' λv w''=>v=.bool (f x)/\Ext w' w'') :
    bO prog 171 #[.slice u7 s.length tN,.func (.func yS) #[] yV.toArray] w λv w'=>v=aD (idxOf f s)/\Hp w S0 w' []:=by
 refine j4 S0 func171 ntmps171 Y λH0=>?_;have NI:=lK.bN;refine iY Y<|aZ<|bQ Y<|ev (eY fq Y)<|mv Y<|dn<|cZ<|Lp H0 (λl0 rk mJ lJ wJ=>∃(k:Nat),lJ=(8,aD ((k:Nat):Int))::l0/\mJ=s.length - k/\k<=s.length/\(∀ y∈s.take k,f y=false)/\Hp w S0 wJ rk) ⟨0,Y,Y,fK _,av,H0⟩ rfl ?_
 rintro _ _ w1 ⟨k,rfl,rfl,hk,hno,K1⟩;refine rg<|ev (fB Y Y)<|dn<|oC Y (λFQ=>?_) (λFQ=>?_)
 ·refine jh ?_;refine aZ<|cZ<|bQ Y<|bS Y<|bQ Y<|mv Y<|mv Y ?_
  obtain⟨x1,bP⟩:=bC (xs:=s) (i:=k) aj;refine ev (eU (i:=k) fq sZ Y Y Y (aJ bP) ((K1.a lK).some_ bP))<|ev (jq jG Y ((K1.a lK).fZ (j:=0) bP Y))<|wo Y Y Y IG (II _ x1 K1.ext (dA bP)) Y ?_
  rintro _ w2 ⟨rfl,e2⟩;have K2:=K1.grow e2;refine dn<|bR Y (λhc16=>?_) (λhc16=>?_)
  ·refine bQ Y<|bS Y<|je (jH (gL (gL (jH (gL (zD Y ?_))))))
   have d9:(((k:Nat):Int):Int)=(idxOf f s):=by exact(qD hno bP hc16).symm
   exact⟨by rw [d9] <;> rfl,K2⟩
  refine zF ?_;refine jr<|ev (dW Y Y)<|mv Y<|jv<|dQ ⟨(k+1),Y,Y,aj,by exact tQ (q:=λy=>f y=false) hno bP hc16,K2⟩ rfl aj
 refine wQ ?_;refine iY Y<|iI Y ?_
 have fG:((-1):Int)=(idxOf f s):=by exact(sQ (uW hno aj)).symm
 exact⟨by rw [<- fG] <;> rfl,K1⟩
theorem nV{b w:World}{F:List lC}{A:ah}{c:Nat}{xs:List Int}(H0:Hp b S w (aR dL 3 A c xs::F)){fd:FuncId}{kd:List Value}(qd:bI prog fd)(p:Int->Bool)
    (hd:∀(w':World)(ys:List Int)(x:Int),ys.length=xs.length->Hp b S w' (aR dL 3 A c ys::F)->bO prog fd (([aD x]:List Value)++kd).toArray w' λv w''=>v=.bool (p x)/\Ext w' w'') (hn:xs.length<=1000000) :
    bO prog 101 #[.slice A xs.length c,.func (.func fd) #[] kd.toArray] w λv w'=>v=.slice A (xs.filter λx=>!p x).length c/\Hp b S w' (aR dL 3 A c (xs.filter λx=>!p x)::F):=by
 refine sF func101 ntmps101 Y ?_;have Uw:=(H0.o s0).bN;have hcap0:=(H0.o s0).cap;have hlt:=CB (p:=p) xs;have hge:=EU (p:=p) xs;refine iY Y<|bQ Y<|mv Y<|gW Y (Ie (S0:=Any) (yV:=kd) w ((H0.o s0)) qd p (λw' x ex _=>hd w' xs x Y (H0.grow ex))) ?_
 rintro _ w1 ⟨rfl,e1⟩;have K1:=H0.grow e1.ext;refine bS Y<|aZ<|bQ Y<|ev (iP Y Y)<|dn<|kX Y (λnQ=>?_) (λnQ=>?_)
 ·refine bQ Y<|bS Y<|vG Y ?_
  have hall:=NY (p:=p) (xs:=xs) aj;exact⟨by rw [hall]; rfl,by rw [hall]; exact K1⟩
 refine jh ?_;refine aZ ?_;obtain⟨k0,hk0,hkl⟩:∃ k0:Nat,idxOf p xs=(k0:Int)/\k0<xs.length:=⟨(idxOf p xs).toNat,aj,aj⟩;have afn:=NZ hk0;refine kP (t:=5) Y (aS (Value.int .i64) hk0)<|bQ Y<|ev (dW Y Y)<|bS Y<|cZ<|Lp (K1.rm s0) (λl0 rk mJ lJ wJ=>∃(i j:Nat)(ys:List Int),lJ=(0,.slice A ys.length c)::(5,aD ((i:Nat):Int))::(6,aD ((j:Nat):Int))::l0/\mJ=xs.length - j/\(ys.length=xs.length)/\(i<j/\j<=xs.length)/\(ys.take i=(xs.take j).filter λx=>!p x)/\(ys.drop j=xs.drop j)/\Hp b S wJ (aR dL 3 A c ys::rk)) ⟨k0,(k0+1),xs,Y,Y,by rfl,aj,by exact afn.1,by rfl,K1⟩ rfl ?_
 rintro _ _ w2 ⟨i,j,ys,rfl,rfl,hys,hij,htk,hdr,K2⟩;refine aZ<|bQ Y<|mv Y<|ev (eY fq Y)<|ev (fB Y Y)<|dn<|kX Y (λhc19=>?_) (λhc19=>?_)
 ·refine jh ?_;refine aZ<|cZ<|bQ Y<|mv Y ?_
  obtain⟨x1,bP⟩:=bC (xs:=ys) (i:=j) aj;refine ev (eU (i:=j) fq sZ Y Y Y (aJ bP) ((K2.o s0).some_ bP))<|ev (jq jG Y ((K2.o s0).fZ (j:=0) bP Y))<|bS Y<|bQ Y<|mv Y<|wo Y Y Y qd (hd _ _ x1 (by first | exact hys | omega) K2) rfl ?_
  rintro _ w3 ⟨rfl,e3⟩;have K3:=K2.grow e3;refine ev (gZ Y)<|dn<|bR Y (λhc29=>?_) (λhc29=>?_)
  ·try simp only [eO,dN,bK,dZ,eu,fC,bL,bU] at hc29
   refine bQ Y<|mv Y<|mv Y ?_
   obtain⟨x2,kK⟩:=bC (xs:=ys) (i:=i) aj;refine ev (eU (i:=i) fq sZ Y Y Y (aJ kK) ((K3.o s0).some_ kK))<|se (i:=i) (f:=0) (x:=x2) (x':=x1) (ds:=[aD x1]) K3 s0 Y Y Y kK Y sZ (oJ Y) Y (by rintro _ _ _ ⟨⟩; rfl) λw4 K4=>?_
   have hl1:(ys.set i x1).length=ys.length:=fQ ..;refine fJ (t:=0) (u:=.slice A ys.length c) (v:=.slice A ((ys.set i x1).length) c) Y (by rw [hl1])<|fJ (t:=17) (u:=.slice A ys.length c) (v:=.slice A ((ys.set i x1).length) c) rfl (by rw [hl1])<|fJ (t:=22) (u:=.slice A ys.length c) (v:=.slice A ((ys.set i x1).length) c) rfl (by rw [hl1])<|fJ (t:=30) (u:=.slice A ys.length c) (v:=.slice A ((ys.set i x1).length) c) rfl (by rw [hl1]) ?_
   have hx3:(ys.set i x1)[i]? = some x1:=pQ (aJ kK);refine dn<|jr<|mv Y<|ev (dW Y Y)<|iA Y<|jv<|ig (gB ?_)
   refine jr<|mv Y<|ev (dW Y Y)<|iA Y<|jv<|dQ ⟨(i+1),(j+1),(ys.set i x1),Y,Y,by first | exact hys | (rw [fQ]; exact hys),aj,by first | exact(rE hij.1 htk hdr bP (by simp [hc29])).1 | exact(rF htk hdr bP (by simp [hc29])).1,by first | exact(rE hij.1 htk hdr bP (by simp [hc29])).2 | exact(rF htk hdr bP (by simp [hc29])).2,K4⟩ rfl aj
  try simp only [eO,dN,bK,dZ,eu,fC,bL,bU] at hc29
  refine zF ?_;refine jr<|mv Y<|ev (dW Y Y)<|iA Y<|jv<|dQ ⟨i,(j+1),ys,Y,Y,by first | exact hys | (rw [fQ]; exact hys),aj,by first | exact(rE hij.1 htk hdr bP (by simp [hc29])).1 | exact(rF htk hdr bP (by simp [hc29])).1,by first | exact(rE hij.1 htk hdr bP (by simp [hc29])).2 | exact(rF htk hdr bP (by simp [hc29])).2,K3⟩ rfl aj
 refine wQ ?_;have hcap:ys.length<=c:=aj;have hil:(ys.take i).length=i:=by simp only [fE]; omega
 have hfin:ys.take i=xs.filter λx=>!p x:=by rw [htk,iD aj]
 refine kP (t:=5) (u:=aD ((i:Nat):Int)) (v:=aD (((ys.take i).length:Nat):Int)) Y (by rw [hil]) ?_;have H1:=K2.Uf (hi:=i) s0 aj;refine bQ Y<|mv Y<|ev (CO (lo:=(ys.take i).length) fq sZ Y Y Y (by first | omega | (simp only [fE]; omega)) hcap)<|abV (τ:=dL) (m:=ys.length - (ys.take i).length) H1 s0 rfl fq at6 (by simp only [fE]; omega) λw5 K5=>dn<|bQ rfl<|mv rfl<|ev (P9 (hi:=(ys.take i).length) fq sZ rfl rfl rfl (by simp only [fE]; omega))<|bS rfl<|iI rfl ?_
 exact⟨by rw [<- hfin]; rfl,by rw [<- hfin]; exact K5⟩
theorem acj(w:World)(n:Int){axK:Nat}(fr:Int)(aCZ:Bx w axK 3 [aD fr]) :
    bO prog 437 #[aD n,fP axK] w λv w'=>v=.bool (decide (n=fr))/\Hp w S0 w' []:=by
 refine j4 S0 func437 ntmps437 Y λH0=>iY Y<|bQ Y<|ev (cu jG Y (aCZ.ext H0.ext) Y)<|ev (iP Y Y)<|bS Y<|iI Y ?_
 exact⟨Y,H0⟩
theorem afp(w:World){A_h:ah}{c_h:Nat}{h:List Int}(h_h:Sl dL S0 w A_h c_h h)(fr:Int)(l6:Int)(hn:h.length<=100000) :
    bO prog 411 #[.slice A_h h.length c_h,aD fr,aD l6] w λv w'=>∃(A0:ah)(c0:Nat),v=.slice A0 ((aci h fr l6).length) c0/\Hp w S0 w' [aR dL 3 A0 c0 (aci h fr l6)]:=by
 refine j4 S0 func411 ntmps411 Y λH0=>?_;have aHk:=h_h.bN;refine rg<|bx Y Y H0 λg1 w1 K1=>bS Y<|bQ Y<|gW Y (sM _ (K1.a h_h).any aj) ?_
 rintro _ w2 ⟨ni,nk,rfl,h2⟩;have K2:=K1.f1 h2;refine ev (qC Y)<|gW Y (nV (kd:=[fP g1]) (K2.sel s0) auo (λx9=>decide (x9=fr)) (λw9 ys x9 hl9 K9=>(acj (S0:=Any) w9 x9 fr (K9.x s1)).mono (by rintro _ w8 ⟨rfl,K8⟩; exact⟨rfl,K8.ext⟩)) aj) ?_
 rintro _ w3 ⟨rfl,K3⟩;refine bS Y ?_;have hfl:=lX (fun(x9:Int)=>!(decide (x9=fr))) h;refine bQ Y<|mv Y<|yU (τ:=dL) (x:=l6) Y (by intro _; apply pE) rfl K3 (λ_ _=>rfl) λg2 w4 K4=>ap (ys:=([l6]:List Int)) K4 s1 rfl rfl (K4.o s0) fq KY aj av rfl λnY nZ w5 K5=>bS rfl<|bQ rfl<|gW rfl (sorti Tryz.lays189 (K5.sel s0) (by simp only [iO,oI,qx]; omega)) ?_
 rintro _ w6 ⟨rfl,K6⟩;have hl1:(((h.filter λx9=>!(decide (x9=fr)))++([l6]:List Int)).mergeSort fun(x y:Int)=>decide (x<=y)).length=((h.filter λx9=>!(decide (x9=fr)))++([l6]:List Int)).length:=I4 _;refine fJ (t:=0) (u:=.slice nY (((h.filter λx9=>!(decide (x9=fr)))++([l6]:List Int)).length) nZ) (v:=.slice nY ((((h.filter λx9=>!(decide (x9=fr)))++([l6]:List Int)).mergeSort fun(x y:Int)=>decide (x<=y)).length) nZ) Y (by rw [hl1])<|fJ (t:=14) (u:=.slice nY (((h.filter λx9=>!(decide (x9=fr)))++([l6]:List Int)).length) nZ) (v:=.slice nY ((((h.filter λx9=>!(decide (x9=fr)))++([l6]:List Int)).mergeSort fun(x y:Int)=>decide (x<=y)).length) nZ) rfl (by rw [hl1])<|fJ (t:=15) (u:=.slice nY (((h.filter λx9=>!(decide (x9=fr)))++([l6]:List Int)).length) nZ) (v:=.slice nY ((((h.filter λx9=>!(decide (x9=fr)))++([l6]:List Int)).mergeSort fun(x y:Int)=>decide (x<=y)).length) nZ) rfl (by rw [hl1])<|dn<|bQ rfl<|bS rfl<|iI rfl ?_
 have d9:((((h.filter λx9=>!(decide (x9=fr)))++([l6]:List Int)).mergeSort fun(x y:Int)=>decide (x<=y)):List Int)=(aci h fr l6):=by rfl
 rw [d9] at K6;exact⟨nY,nZ,by rw [d9] <;> rfl,(K6.cU 1 2)⟩
theorem acn(w:World)(iR:Sl bX S0 w jl jg l){aco:ah}{acp:Nat}{ids:List Int}(UU:Sl dL S0 w aco acp ids)(hn:l.length<=100000) :
    bO prog 410 #[.slice jl l.length jg,.slice aco ids.length acp] w λv w'=>v=aD ((Qz l ids:Nat):Int)/\Hp w S0 w' []:=by
 refine j4 S0 func410 ntmps410 Y λH0=>?_;have EG:=iR.bN;have auq:=UU.bN;refine iY Y<|rg<|mks H0 Y λg1 w1 K1=>bS Y<|aZ<|bQ Y<|ev (eY fq Y)<|mv Y<|dn<|cZ ?_
 have d9:[]=(kr l (ids.take 0)):=by rfl
 rw [d9] at K1;refine Lp (K1.rm s0) (λl0 rk mJ lJ wJ=>∃(k:Nat),lJ=(13,aD ((k:Nat):Int))::l0/\mJ=ids.length - k/\k<=ids.length/\Hp w S0 wJ (alr g1 (kr l (ids.take k))::rk)) ⟨0,Y,Y,fK _,K1⟩ Y ?_;rintro _ _ w2 ⟨k,rfl,rfl,hk,K2⟩;refine rg<|ev (fB Y Y)<|dn<|oC Y (λtC=>?_) (λtC=>?_)
 ·refine jh ?_;refine aZ<|cZ<|rg ?_
  obtain⟨x1,bP⟩:=bC (xs:=ids) (i:=k) aj;refine ev (eU (i:=k) fq sZ Y Y Y (aJ bP) ((K2.a UU).some_ bP))<|ev (jq jG Y ((K2.a UU).fZ (j:=0) bP Y))<|bS Y<|bQ Y<|mv Y<|lF K2 Y (C8 _ (K2.a iR).any x1 aj) λw3 K3=>mv Y<|xt Y Y<|xt Y Y<|al rG Y K3 λg2 w4 K4=>sty Y K4 s0 Y λw5 K5=>bS Y<|bQ Y<|dn<|bR Y (λsG=>?_) (λsG=>?_)
  ·refine jr<|mv Y<|jD g2 1 NU K5 s0 Y<|axp K5 s1 Y Y Y Zv iw λw6 K6=>jv<|ig (gB ?_)
   refine jr<|ev (dW Y Y)<|mv Y<|jv ?_
   have fG:(Qj (kr l (ids.take k)) ((gP l x1).kM))=(kr l (ids.take (k+1))):=by rw [DY bP]; unfold Yf; first | rw [aO sG] | rw [aK (by rw [sG]; decide)]
   rw [fG] at K6;exact dQ ⟨(k+1),Y,Y,aj,(K6.rm s1)⟩ rfl aj
  refine zF ?_;refine jr<|ev (dW Y Y)<|mv Y<|jv ?_
  have jQ:(kr l (ids.take k))=(kr l (ids.take (k+1))):=by rw [DY bP]; unfold Yf; first | rw [aO sG] | rw [aK (by rw [sG]; decide)]
  rw [jQ] at K5;exact dQ ⟨(k+1),Y,Y,aj,(K5.rm s0)⟩ rfl aj
 refine wQ ?_;refine bQ Y<|ev (Ev.aCN K2 s0 Zv Y)<|bS Y<|iI Y ?_
 have lV:(((kr l (ids.take k))).length:Nat)=(Qz l ids):=by rw [iD aj]; rfl
 exact⟨by rw [lV] <;> rfl,(K2.rm s0)⟩
theorem aqf(w:World)(c:aI){CW:ah}{Br:Nat}(F7:Sl dL S0 w CW Br c.aF)(iR:Sl bX S0 w jl jg l)(fr:Int)(l6:Int)(hn:l.length<=100000)(hh:c.aF.length<=100000) :
    bO prog 340 #[.agg #[aD c.ID,aD c.aC,fT c.Sum,.slice CW c.aF.length Br],.slice jl l.length jg,aD fr,aD l6] w λv w'=>v=.bool (DZ c l fr l6)/\Hp w S0 w' []:=by
 refine j4 S0 func340 ntmps340 Y λH0=>rg<|bx Y Y H0 λg1 w1 K1=>bS Y<|He K1 (λ_ K=>K) (λl0 rk lJ wJ=>lJ=(8,.bool (DZ c l fr l6))::l0/\Hp w S0 wJ rk) (λhns H1=>?_) ?_
 ·refine mD 0 1 g1 3 kD s0 Y H1<|kT 2 Y Y H1<|O1 3 Y<|lF H1 Y (jT _ (H1.a F7).any fr) λw2 K2=>aP K2<|kT 4 Y Y K2 ?_
  cases aHl:c.aF.contains fr with
  | true=>
   refine tgz 5 Y Y (λ_ _=>eF (q:=⟨g1,3,none⟩) kD Y Y) K2<|tgz 6 Y Y (λ_ hK=>cu CQ Y (hK.x s0) Y) K2<|tgz 7 Y Y (λ_ _=>bA Y) K2<|O1 8 Y<|nu Y Y Y Y Uu (jT _ (K2.a F7).any l6) Y ?_
   rintro _ w3 ⟨rfl,h3⟩;have K3:=K2.c0 h3;refine aP K3<|tgz 9 Y Y (λ_ _=>gZ Y) K3<|lH 10 Y (λ_ _=>dY Y Y) K3<|kT 11 Y Y K3 ?_
   cases ab4:(!(c.aF.contains l6)) with
   | true=>
    refine tgz 12 Y Y (λ_ _=>bA Y) K3<|tgz 13 Y Y (λ_ _=>eF (q:=⟨g1,3,none⟩) kD Y Y) K3<|tgz 14 Y Y (λ_ hK=>cu CQ Y (hK.x s0) Y) K3<|tgz 15 Y Y (λ_ _=>bA Y) K3<|tgz 16 Y Y (λ_ _=>bA Y) K3<|tgz 19 Y Y (λ_ _=>bA Y) K3<|tgz 20 Y Y (λ_ _=>eF (q:=⟨g1,3,none⟩) kD Y Y) K3<|tgz 21 Y Y (λ_ hK=>cu CQ Y (hK.x s0) Y) K3<|O1 17 Y<|nu Y Y Y Y aup (afp _ (K3.a F7).any fr l6 aj) Y ?_
    rintro _ w4 ⟨qY,qZ,rfl,h4⟩;have K4:=K3.f1 h4;have k1:=(K4.rm s0);refine aP k1<|O1 18 Y<|nu Y Y Y Y alV (acn _ (K4.a iR).any (K4.o s0) aj) Y ?_
    rintro _ w5 ⟨rfl,h5⟩;have K5:=K4.c0 h5;have k2:=(K5.rm s0);refine aP k2<|O1 22 Y<|nu Y Y Y Y alV (acn _ (K5.a iR).any (K5.a F7).any aj) Y ?_
    rintro _ w6 ⟨rfl,h6⟩;have K6:=K5.c0 h6;have k3:=(K6.rm s0);refine aP k3<|tgz 23 Y Y (λ_ _=>pK Y Y) k3<|lH 24 Y (λ_ _=>dY Y Y) k3<|xJ 25 Y Y k3 ?_
    have d9:(decide (((Qz l c.aF:Nat):Int)<=((Qz l (aci c.aF fr l6):Nat):Int)):Bool)=DZ c l fr l6:=by unfold DZ; simp_all
    refine WH.re2 (t:=8) Y (aS Value.bool d9)<|Dn ⟨Y,(K6.rm s0)⟩ Y
   | false=>
    refine WM 12 Y Y Y K3<|WM 13 Y Y Y K3<|WM 14 Y Y Y K3<|WM 15 Y Y Y K3<|WM 16 Y Y Y K3<|WM 19 Y Y Y K3<|WM 20 Y Y Y K3<|WM 21 Y Y Y K3<|O1 17 Y<|eB<|aP K3<|O1 18 Y<|eB<|aP K3<|O1 22 Y<|eB<|aP K3<|WM 23 Y Y Y K3<|lH 24 Y (λ_ _=>eG Y Y) K3<|xJ 25 Y Y K3 ?_
    have fG:(false:Bool)=DZ c l fr l6:=by unfold DZ; simp_all
    refine WH.re2 (t:=8) Y (aS Value.bool fG)<|Dn ⟨Y,K3⟩ Y
  | false=>
   refine WM 5 Y Y Y K2<|WM 6 Y Y Y K2<|WM 7 Y Y Y K2<|O1 8 Y<|eB<|aP K2<|WM 9 Y Y Y K2<|lH 10 Y (λ_ _=>eG Y Y) K2<|kT 11 Y Y K2<|WM 12 Y Y Y K2<|WM 13 Y Y Y K2<|WM 14 Y Y Y K2<|WM 15 Y Y Y K2<|WM 16 Y Y Y K2<|WM 19 Y Y Y K2<|WM 20 Y Y Y K2<|WM 21 Y Y Y K2<|O1 17 Y<|eB<|aP K2<|O1 18 Y<|eB<|aP K2<|O1 22 Y<|eB<|aP K2<|WM 23 Y Y Y K2 ?_
   refine lH 24 Y (λ_ _=>eG Y Y) K2<|xJ 25 Y Y K2 ?_
   have jQ:(false:Bool)=DZ c l fr l6:=by unfold DZ; simp_all
   refine WH.re2 (t:=8) Y (aS Value.bool jQ)<|Dn ⟨Y,K2⟩ Y
 rintro _ w7 ⟨rfl,K7⟩;refine iI Y ?_;exact⟨Y,(K7.rm s0)⟩
def LD(l:List Int):Int:=(l.find? (fun(x:Int)=>!decide (x=0))).getD 0
theorem aur{l:List Int}{x:Int}(h:∀ y∈l.take k,y=0)(hx:l[k]? = some x)(h0:x≠0):LD l=x:=by
  have hs:l=l.take k++x::l.drop (k+1):=by
    conv=>lhs; rw [<- sJ k l]
    rw [yu (aJ hx),(mM.1 hx).2]
  unfold LD;rw [hs,Gg,Af.2 (λy hy=>by simp [h y hy])]
  simp [h0]
theorem aus{l:List Int}(h:∀ y∈l,y=0):LD l=0:=by unfold LD; rw [Af.2 (λy hy=>by simp [h y hy])]; rfl
def toC(aX:List gq)(a b:aW):Int:=LD [bn (nK aX a.ID) (nK aX b.ID),bn a.ID b.ID]
def frC(aX:List gq)(a b:aW):Int:=-(toC aX a b)
theorem Jj{aX:List gq}{a b:aW}:toC aX a b<0↔nK aX a.ID<nK aX b.ID∨nK aX a.ID=nK aX b.ID/\a.ID<b.ID:=by
  unfold toC LD
  by_cases h1:bn (nK aX a.ID) (nK aX b.ID)=0
  · have h2:=xI.1 h1
    by_cases h3:bn a.ID b.ID=0
    · have h4:=xI.1 h3
      simp [h1,h3]; omega
    · simp [h1,h3,pO]; omega
  · simp [h1,pO]
    have h2:nK aX a.ID≠nK aX b.ID:=λe=>h1 (xI.2 e);omega
theorem acr{aX:List gq}{a b:aW}:toC aX b a=-(toC aX a b):=by
  have h:∀ x y:Int,bn y x=-(bn x y):=by intro x y; unfold bn; split <;> (try split) <;> (try split) <;> omega
  unfold toC LD;rw [h (nK aX a.ID) (nK aX b.ID),h a.ID b.ID]
  by_cases h1:bn (nK aX a.ID) (nK aX b.ID)=0
  · by_cases h3:bn a.ID b.ID=0 <;> simp [h1,h3]
  · simp [h1]
theorem aha(x y:Int):-1<=bn x y/\bn x y<=1:=by unfold bn; split <;> (try split) <;> omega
theorem aut(x y:Int)(h1:-1<=x/\x<=1)(h2:-1<=y/\y<=1):-1<=LD [x,y]/\LD [x,y]<=1:=by
  unfold LD
  by_cases a:x=0
  · by_cases b:y=0
    · simp [a,b]
    · simp [a,b]; omega
  · simp [a]; omega
open Go.Sort in
theorem auu(aX:List gq):SWO (ltOf (toC aX)):=by
  refine⟨λx=>?_,λx y z h1 h2=>?_,λx y z h1 h2=>?_⟩
  · simp only [ltOf,bU,Jj]; omega
  · simp only [ltOf,bL,Jj] at h1 h2 ⊢; omega
  · simp only [ltOf,bU,Jj] at h1 h2 ⊢; omega
open Go.Sort in
theorem auv(aX:List gq):SWO (ltOf (frC aX)):=by
  have e:∀ a b,frC aX a b=toC aX b a:=λa b=>acr.symm;refine⟨λx=>?_,λx y z h1 h2=>?_,λx y z h1 h2=>?_⟩
  · simp only [ltOf,bU,e,Jj]; omega
  · simp only [ltOf,bL,e,Jj] at h1 h2 ⊢; omega
  · simp only [ltOf,bU,e,Jj] at h1 h2 ⊢; omega
theorem UW(hu:Up aW.ID l){x y:aW}(hx:x∈l)(hy:y∈l)(h:x.ID=y.ID):x=y:=by
  obtain⟨i,hi⟩:=qV hx;obtain⟨j,hj⟩:=qV hy
  rcases UG i j with h1 | h1 | h1
  · have:=hu.get h1 hi hj; omega
  · subst h1; rw [hi] at hj; cases hj; rfl
  · have:=hu.get h1 hj hi; omega
theorem aqg{aX:List gq}(hu:Up aW.ID l):∀ x∈l,∀ y∈l,¬ toC aX x y<0->¬ toC aX y x<0->x=y:=by
  intro x hx y hy h1 h2;rw [Jj] at h1 h2;exact UW hu hx hy aj
theorem aqh{aX:List gq}(hu:Up aW.ID l):∀ x∈l,∀ y∈l,¬ frC aX x y<0->¬ frC aX y x<0->x=y:=by
  intro x hx y hy h1 h2;have e:∀ a b,frC aX a b=toC aX b a:=λa b=>acr.symm;rw [e,Jj] at h1 h2;exact UW hu hx hy aj
instance:Inhabited aW:=⟨⟨0,0,0,0⟩⟩
def Lc(cf:aW->aW->Int)(l:List aW):List aW:=l.mergeSort λx y=>!decide (cf y x<0)
def vg(xs ys:List aW):List (aW × aW):=xs.flatMap λx=>ys.map λy=>(x,y)
theorem ajh{j:Nat}{x y:aW}(hx:xs[k]? = some x)(hy:ys[j]? = some y):vg (xs.take k) ys++(ys.take j).map (λy=>(x,y))++[(x,y)] <+: vg xs ys:=by
  have hs:xs=xs.take k++x::xs.drop (k+1):=by
    conv=>lhs; rw [<- sJ k xs]
    rw [yu (aJ hx),(mM.1 hx).2]
  have ht:ys=ys.take j++y::ys.drop (j+1):=by
    conv=>lhs; rw [<- sJ j ys]
    rw [yu (aJ hy),(mM.1 hy).2]
  refine⟨(ys.drop (j+1)).map (λy=>(x,y))++vg (xs.drop (k+1)) ys,?_⟩
  have h1:vg xs ys=vg (xs.take k) ys++(ys.map (λy=>(x,y))++vg (xs.drop (k+1)) ys):=by
    conv=>lhs; rw [hs]
    simp [vg]
  have h2:ys.map (λy=>(x,y))=(ys.take j).map (λy=>(x,y))++(x,y)::(ys.drop (j+1)).map (λy=>(x,y)):=by
    conv=>lhs; rw [ht]
    simp
  rw [h1,h2]; simp
theorem afr{x:aW}(hx:xs[k]? = some x):vg (xs.take (k+1)) ys=vg (xs.take k) ys++ys.map (λy=>(x,y)):=by
  rw [fI hx]; simp [vg]
theorem MG:kW prog 154:=ay
theorem afs:bI prog 176:=ay
theorem Gn(a0:Int)(a1:Int):∀ w,(Instr.buildSlice 55 2 (List.toArray [(0,aD a0),(1,aD a1)])).run prog w=.ok (.slice (some ⟨w.heap.size,0,none⟩) 2 2) (w.alloc (.cells (List.toArray [aD a0,aD a1]) 3)):=ay
theorem ahb:∀ w,(zeroValue 41).run prog w=.ok (.slice none 0 0) w:=ay
theorem acs:kW prog 41:=ay
theorem auw:bI prog 407:=ay
theorem auy:bI prog 408:=ay
theorem acu(w:World){alW:ah}{alX:Nat}{vals:List Int}(afu:Sl dL S0 w alW alX vals) :
    bO prog 337 #[.slice alW vals.length alX] w λv w'=>v=aD (LD vals)/\Hp w S0 w' []:=by
 refine j4 S0 func337 ntmps337 Y λH0=>?_;have aB3:=afu.bN;refine iY Y<|iY Y<|aZ<|bQ Y<|ev (eY fq Y)<|mv Y<|dn<|cZ<|Lp H0 (λl0 rk mJ lJ wJ=>∃(k:Nat),lJ=(8,aD ((k:Nat):Int))::l0/\mJ=vals.length - k/\k<=vals.length/\(∀ y∈vals.take k,y=0)/\Hp w S0 wJ rk) ⟨0,Y,Y,fK _,av,H0⟩ rfl ?_
 rintro _ _ w1 ⟨k,rfl,rfl,hk,hno,K1⟩;refine rg<|ev (fB Y Y)<|dn<|oC Y (λFQ=>?_) (λFQ=>?_)
 ·refine jh ?_;refine aZ<|cZ<|rg ?_
  obtain⟨x1,bP⟩:=bC (xs:=vals) (i:=k) aj;refine ev (eU (i:=k) fq sZ Y Y Y (aJ bP) ((K1.a afu).some_ bP))<|ev (jq jG Y ((K1.a afu).fZ (j:=0) bP Y))<|bS Y<|bQ Y<|mv Y<|ev (rz Y Y)<|dn<|bR Y (λtC=>?_) (λtC=>?_)
  ·replace tC:=nS tC;refine bQ Y<|bS Y<|je (jH (gL (gL (jH (gL (zD Y ?_))))))
   have d9:(x1:Int)=(LD vals):=by exact(aur hno bP aj).symm
   exact⟨by rw [<- d9] <;> rfl,K1⟩
  replace tC:=nT tC;refine zF ?_;refine jr<|ev (dW Y Y)<|mv Y<|jv<|dQ ⟨(k+1),Y,Y,aj,by exact tQ (q:=λy=>y=0) hno bP aj,K1⟩ rfl aj
 refine wQ ?_;refine bQ Y<|bS Y<|iI Y ?_
 have fG:(0:Int)=(LD vals):=by exact(aus (uW hno aj)).symm
 exact⟨by rw [<- fG] <;> rfl,K1⟩
theorem aji(w:World)(a:aW)(b:aW){aX:List gq}(nN:Bx w Gh 154 [.slice l9 aX.length l8])(Bt:Sl lU S0 w l9 l8 aX) :
    bO prog 407 #[.agg #[aD a.ID,aD a.kM,aD a.lW,aD a.gG],.agg #[aD b.ID,aD b.kM,aD b.lW,aD b.gG],fP Gh] w λv w'=>v=aD (frC aX a b)/\Hp w S0 w' []:=by
 refine j4 S0 func407 ntmps407 Y λH0=>?_;have axL:=Bt.bN;have hbd:=aut (bn (nK aX a.ID) (nK aX b.ID)) (bn a.ID b.ID) (aha _ _) (aha _ _);refine rg<|bx Y Y H0 λg1 w1 K1=>bx Y Y K1 λg2 w2 K2=>bS Y<|He K2 (λ_ K=>K) (λl0 rk lJ wJ=>lJ=(5,aD (-(LD ([bn (nK aX a.ID) (nK aX b.ID),bn a.ID b.ID]:List Int))))::l0/\Hp w S0 wJ rk) (λhns H1=>?_) ?_
 ·refine lH 0 Y (λ_ hK=>cu MG Y (nN.ext hK.ext) Y) H1<|mD 1 2 g1 0 lT s1 Y H1<|lH 4 Y (λ_ hK=>cu MG Y (nN.ext hK.ext) Y) H1<|mD 5 6 g2 0 lT s0 Y H1<|mD 9 10 g1 0 lT s1 Y H1<|mD 11 12 g2 0 lT s0 Y H1<|O1 3 Y<|lF H1 Y (tV _ (H1.a Bt).any a.ID) λw3 K3=>aP K3<|O1 7 Y<|lF K3 Y (tV _ (K3.a Bt).any b.ID) λw4 K4=>aP K4<|O1 8 Y<|lF K4 Y (mF (S0:=Any) _ (nK aX a.ID) (nK aX b.ID)) λw5 K5=>aP K5<|O1 13 Y<|lF K5 Y (mF (S0:=Any) _ a.ID b.ID) λw6 K6=>aP K6<|O1 14 Y<|bsn (τ:=dL) (xs:=([bn (nK aX a.ID) (nK aX b.ID),bn a.ID b.ID]:List Int)) (vs:=[(0,aD (bn (nK aX a.ID) (nK aX b.ID))),(1,aD (bn a.ID b.ID))]) (css:=[[aD (bn (nK aX a.ID) (nK aX b.ID))],[aD (bn a.ID b.ID)]]) Y (by intro _; apply Gn) rfl rfl K6 (λ_ e=>⟨rfl,rfl,trivial⟩) λg3 w7 K7=>?_
  have k1:=(K7.rm s0);refine aP k1<|O1 15 Y<|lF K7 Y (acu _ (K7.o s0)) λw8 K8=>?_
  have k2:=(K8.rm s0);refine aP k2<|lH 16 Y (λ_ _=>Ev.neg Y (vM aj aj)) k2<|xJ 17 Y Y k2<|Dn ⟨Y,(K8.rm s0)⟩ Y
 rintro _ w9 ⟨rfl,K9⟩;refine iI Y ?_;have d9:(-(LD ([bn (nK aX a.ID) (nK aX b.ID),bn a.ID b.ID]:List Int)):Int)=(frC aX a b):=by rfl
 exact⟨by rw [d9] <;> rfl,K9.z⟩
abbrev afv(gJ:List gq)(iK tF:aW):=([bn (nK gJ iK.ID) (nK gJ tF.ID),bn iK.ID tF.ID]:List Int)
theorem ajj(w:World)(a:aW)(b:aW){aX:List gq}(nN:Bx w Gh 154 [.slice l9 aX.length l8])(Bt:Sl lU S0 w l9 l8 aX) :
    bO prog 408 #[.agg #[aD a.ID,aD a.kM,aD a.lW,aD a.gG],.agg #[aD b.ID,aD b.kM,aD b.lW,aD b.gG],fP Gh] w λv w'=>v=aD (toC aX a b)/\Hp w S0 w' []:=by
 refine j4 S0 func408 ntmps408 Y λH0=>rg<|bx Y Y H0 λg1 w1 K1=>bx Y Y K1 λg2 w2 K2=>bS Y<|He K2 (λ_ K=>K) (λl0 rk lJ wJ=>lJ=(5,aD (LD (afv aX a b)))::l0/\Hp w S0 wJ rk) (λhns H1=>?_) ?_
 ·refine lH 0 Y (λ_ hK=>cu MG Y (nN.ext hK.ext) Y) H1<|mD 1 2 g1 0 lT s1 Y H1<|lH 4 Y (λ_ hK=>cu MG Y (nN.ext hK.ext) Y) H1<|mD 5 6 g2 0 lT s0 Y H1<|mD 9 10 g1 0 lT s1 Y H1<|mD 11 12 g2 0 lT s0 Y H1<|O1 3 Y<|lF H1 Y (tV _ (H1.a Bt).any a.ID) λw3 K3=>aP K3<|O1 7 Y<|lF K3 Y (tV _ (K3.a Bt).any b.ID) λw4 K4=>aP K4<|O1 8 Y<|lF K4 Y (mF (S0:=Any) _ (nK aX a.ID) (nK aX b.ID)) λw5 K5=>aP K5<|O1 13 Y<|lF K5 Y (mF (S0:=Any) _ a.ID b.ID) λw6 K6=>aP K6<|O1 14 Y<|bsn (τ:=dL) (xs:=(afv aX a b)) (vs:=[(0,aD (bn (nK aX a.ID) (nK aX b.ID))),(1,aD (bn a.ID b.ID))]) (css:=[[aD (bn (nK aX a.ID) (nK aX b.ID))],[aD (bn a.ID b.ID)]]) Y (by intro _; apply Gn) rfl rfl K6 (λ_ e=>⟨rfl,rfl,trivial⟩) λg3 w7 K7=>?_
  have k1:=(K7.rm s0);refine aP k1<|O1 15 Y<|lF K7 Y (acu _ (K7.o s0)) λw8 K8=>?_
  have k2:=(K8.rm s0);refine aP k2<|xJ 16 Y Y k2<|Dn ⟨Y,(K8.rm s0)⟩ Y
 rintro _ w9 ⟨rfl,K9⟩;refine iI Y ?_;have d9:(LD (afv aX a b):Int)=(toC aX a b):=by rfl
 exact⟨by rw [d9] <;> rfl,K9.z⟩
theorem alY(w:World)(iR:Sl bX S0 w jl jg l){aX:List gq}(nN:Sl lU S0 w l9 l8 aX)(hn:l.length<=100000)(hu:Up aW.ID l) :
    bO prog 339 #[.slice jl l.length jg,.slice l9 aX.length l8] w λv w'=>∃(acv:Nat)(axM:ah)(axN:Nat)(acw:Nat)(jK:ah)(jL:Nat),v=.func (.func 409) #[] #[fP acv,fP acw]/\Hp w S0 w' [dJ acv 41 [.slice axM ((Lc (frC aX) l).length) axN],dJ acw 41 [.slice jK ((Lc (toC aX) l).length) jL],aR bX 78 axM axN (Lc (frC aX) l),aR bX 78 jK jL (Lc (toC aX) l)]:=by
 refine j4 S0 func339 ntmps339 Y λH0=>rg<|bx Y Y H0 λg1 w1 K1=>bS Y<|bQ Y<|gW Y (l7 _ (K1.a iR).any aj) ?_
 rintro _ w2 ⟨ni,nk,rfl,h2⟩;have K2:=K1.f1 h2;refine mv Y<|gW Y (l7 _ (K2.a iR).any aj) ?_
 rintro _ w3 ⟨mR,mU,rfl,h3⟩;have K3:=K2.f1 h3;refine al ahb Y K3 λg2 w4 K4=>al ahb Y K4 λg3 w5 K5=>wD Y K5 s1 Y λw6 K6=>wD Y K6 s1 Y λw7 K7=>dn<|rg<|mK K7 s1 Y<|ev (qC Y)<|gW Y (asC Tryz.laysF6 vO.1 uL (cf:=(frC aX)) (auv aX) (cb:=[fP g1]) (K7.sel s3) auw aj (aqh hu) (λw9 ys hl9 K9 x9 y9=>(aji (S0:=Any) w9 x9 y9 (K9.x s4) (K9.a nN).any).mono (by rintro _ w8 ⟨rfl,K8⟩; exact⟨rfl,K8.ext⟩))) ?_
 rintro _ w8 ⟨rfl,K8⟩;refine dn<|rg<|mK K8 s1 Y<|ev (qC Y)<|gW Y (asC Tryz.laysF6 vO.1 uL (cf:=(toC aX)) (auu aX) (cb:=[fP g1]) (K8.sel s3) auy aj (aqg hu) (λw9 ys hl9 K9 x9 y9=>(ajj (S0:=Any) w9 x9 y9 (K9.x s4) (K9.a nN).any).mono (by rintro _ w8 ⟨rfl,K8⟩; exact⟨rfl,K8.ext⟩))) ?_
 rintro _ w9 ⟨rfl,K9⟩;refine dn<|rg<|ev (qC Y)<|bS Y<|iI Y ?_
 have hl1:(Lc (frC aX) l).length=l.length:=I4 _;have hl2:(Lc (toC aX) l).length=l.length:=I4 _;have H1:Hp w S0 w9 [aR bX 78 mR mU (Lc (toC aX) l),aR bX 78 ni nk (Lc (frC aX) l),dJ g3 41 [.slice mR ((Lc (toC aX) l).length) mU],dJ g2 41 [.slice ni ((Lc (frC aX) l).length) nk],dJ g1 154 [.slice l9 aX.length l8]]:=by rw [hl1,hl2]; exact K9
 exact⟨g2,ni,nk,g3,mR,mU,Y,(((((H1.rm s4).sel s0).sel s1).sel s2).sel s3)⟩
theorem acy{b:World}{gp1 gp2:Nat}{A_1 A_2:ah}{c_1 c_2:Nat}(hn1:xs.length<=1000000)(hn2:ys.length<=1000000) :
    Iter prog 409 [fP gp1,fP gp2] (fun(x:aW × aW)=>[.agg #[aD x.1.ID,aD x.1.kM,aD x.1.lW,aD x.1.gG],.agg #[aD x.2.ID,aD x.2.kM,aD x.2.lW,aD x.2.gG]]) (vg xs ys) b S [dJ gp1 41 [.slice A_1 xs.length c_1],dJ gp2 41 [.slice A_2 ys.length c_2],aR bX 78 A_1 c_1 xs,aR bX 78 A_2 c_2 ys]:=by
 intro lr Jf Jx w F0 H0 h0 hY;refine WP.ae5 func409 Y ntmps409 Y ?_;have K0:=sW (F:=F0) H0;refine rg<|mK K0 s0 Y<|ev (eY lM Y)<|mv Y<|dn<|cZ<|rR (λmJ lJ wJ=>∃(k:Nat)(F:List lC),lJ=[(0,.func (.yield lr) #[] #[]),(2,fP gp2),(8,.slice A_1 xs.length c_1),(9,aD ((xs.length:Nat):Int)),(10,aD ((k:Nat):Int))]/\mJ=xs.length - k/\k<=xs.length/\(Jf (vg (xs.take k) ys) F)/\Hp b S wJ (dJ gp1 41 [.slice A_1 xs.length c_1]::dJ gp2 41 [.slice A_2 ys.length c_2]::aR bX 78 A_1 c_1 xs::aR bX 78 A_2 c_2 ys::F)) ⟨0,F0,Y,Y,fK _,by simpa [vg] using h0,K0⟩ rfl ?_
 rintro _ _ w1 ⟨k,F,rfl,rfl,hk,hJt,K1⟩;refine rg<|ev (fB Y Y)<|dn<|oC Y (λGj=>?_) (λGj=>?_)
 ·refine jh ?_;refine aZ<|cZ<|rg ?_
  obtain⟨x1,bP⟩:=bC (xs:=xs) (i:=k) aj;refine ev (eU (i:=k) lM uL Y Y Y (aJ bP) ((K1.o s2).some_ bP))<|ev (fV vO Y Y ((K1.o s2).eX bP))<|al rG Y K1 λg1 w2 K2=>sty Y K2 s0 Y λw3 K3=>dn<|rg<|mK K3 s2 Y<|ev (eY lM Y)<|mv Y<|dn<|cZ<|rR (λmJ lJ wJ=>∃(k2:Nat)(F2:List lC),lJ=[(0,.func (.yield lr) #[] #[]),(2,fP gp2),(5,fP g1),(8,.slice A_1 xs.length c_1),(9,aD ((xs.length:Nat):Int)),(10,aD ((k:Nat):Int)),(14,.slice A_2 ys.length c_2),(15,aD ((ys.length:Nat):Int)),(16,aD ((k2:Nat):Int))]/\mJ=ys.length - k2/\k2<=ys.length/\(Jf (vg (xs.take k) ys++(ys.take k2).map (λy=>(x1,y))) F2)/\Hp b S wJ (dJ g1 78 [aD x1.ID,aD x1.kM,aD x1.lW,aD x1.gG]::dJ gp1 41 [.slice A_1 xs.length c_1]::dJ gp2 41 [.slice A_2 ys.length c_2]::aR bX 78 A_1 c_1 xs::aR bX 78 A_2 c_2 ys::F2)) ⟨0,F,Y,Y,fK _,by simpa using hJt,K3⟩ rfl ?_
  rintro _ _ w4 ⟨k2,F2,rfl,rfl,hk2,auA,K4⟩;refine rg<|ev (fB Y Y)<|dn<|oC Y (λhc17=>?_) (λhc17=>?_)
  ·refine jh ?_;refine aZ<|cZ<|rg ?_
   obtain⟨x2,kK⟩:=bC (xs:=ys) (i:=k2) aj;refine ev (eU (i:=k2) lM uL Y Y Y (aJ kK) ((K4.o s4).some_ kK))<|ev (fV vO Y Y ((K4.o s4).eX kK))<|al rG Y K4 λg2 w5 K5=>sty Y K5 s0 Y λw6 K6=>dn<|bQ Y<|ev (dK vO Y Y (K6.x s1))<|ev (dK vO Y Y (K6.x s0)) ?_
   have hy1:=hY (vg (xs.take k) ys++(ys.take k2).map (λy=>(x1,y))) (x1,x2) _ _ [dJ g2 78 [aD x2.ID,aD x2.kM,aD x2.lW,aD x2.gG],dJ g1 78 [aD x1.ID,aD x1.kM,aD x1.lW,aD x1.gG]] auA (ajh bP kK) (sW (F:=[dJ gp1 41 [.slice A_1 xs.length c_1],dJ gp2 41 [.slice A_2 ys.length c_2],aR bX 78 A_1 c_1 xs,aR bX 78 A_2 c_2 ys,dJ g2 78 [aD x2.ID,aD x2.kM,aD x2.lW,aD x2.gG],dJ g1 78 [aD x1.ID,aD x1.kM,aD x1.lW,aD x1.gG]]) ((K6.mV 0 2).mV 2 4));refine WL.yield trivial Y Y hy1 (by rintro e w' (⟨rfl,_⟩ | ⟨rfl,_⟩) <;> exact⟨_,rfl⟩) rfl rfl rfl ?_;rintro v w7 (⟨hv,F1,hJ1,K7⟩ | ⟨hv,F1,hJ1,K7⟩)
   ·cases hv
    have K7c:=sW (F:=F1) K7;refine ev (gZ Y)<|dn<|bR Y nofun (λ_h=>?_)
    refine zF ?_;refine jr<|ev (dW Y Y)<|mv Y<|jv<|dQ ⟨(k2+1),F1,Y,Y,aj,by rw [fI kK,pR,<- nU]; assumption,(((K7c.rm s4).mV 0 4).sel s4)⟩ rfl aj
   ·cases hv
    have K7c:=sW (F:=F1) K7;refine ev (gZ Y)<|dn<|bR Y (λ_h=>?_) nofun
    exact je (jH (gL (gL (jH (jH (gL (gL (jH (kV.aiR Y ⟨⟨_,Y⟩,.inr ⟨_,_,hJ1,(sW (F:=[dJ gp1 41 [.slice A_1 xs.length c_1],dJ gp2 41 [.slice A_2 ys.length c_2],aR bX 78 A_1 c_1 xs,aR bX 78 A_2 c_2 ys]) (K7c.cU 4 2))⟩⟩)))))))))
  refine uU (oz (oz (vK (ig (gB ?_)))));refine jr<|ev (dW Y Y)<|mv Y<|jv<|dQ ⟨(k+1),F2,Y,Y,aj,by rw [afr bP]; rw [iD (show ys.length<=k2 by omega)] at auA; exact auA,(K4.rm s0)⟩ rfl aj
 exact uU (oz (oz (vK (kV.alo (kV.aiR Y ⟨⟨_,Y⟩,.inl ⟨_,by rw [iD aj] at hJt; exact hJt,(sW (F:=[dJ gp1 41 [.slice A_1 xs.length c_1],dJ gp2 41 [.slice A_2 ys.length c_2],aR bX 78 A_1 c_1 xs,aR bX 78 A_2 c_2 ys]) K1)⟩⟩)))))
end Go.Proofs.YtlhnnmlenkahlaaGreat
