/- Lemmas. -/
import Derived.Test.YtlhnnmlenkahlaaGreatrG7
set_option maxRecDepth 4000
set_option linter.all false
namespace Go.Proofs.YtlhnnmlenkahlaaGreat
open Go.RowKit Go.Proofs.Tryz
def IJ:=@List.find?_append
def Ep:=@List.filter_eq_self
def OZ:=@underlying154
def acg:=@underlying291
variable {k uY jk sj ku IK nA:Nat}{xs l ys:List aV}{S0 S:Nat->Prop}{vY jl su kC nC:ah}{AA:FuncId}{AX:List Value}{dz:List aH}{aG:List Int}
structure gq where
  Node:Int
  N:Int
  deriving DecidableEq
def gq.enc(x:gq):List Value:=[.int .i64 x.Node,.int .i64 x.N]
theorem gq.lF(x:gq):∀ u∈x.enc,u.oneCell'=true:=by
  intro u hu
  simp only [gq.enc,iX,lM,sN] at hu
  rcases hu with rfl | rfl <;> rfl
def mX:Ty gq:=Ty.flat 2 gq.enc au (λ_=>rfl) gq.lF
instance:Flat mX:=⟨λh=>h⟩
structure aM where
  Kind:Int
  aC:Int
  aB:Int
  Sum:Int
  jM:Int
  To:Int
  jS:Int
  deriving DecidableEq
def aM.enc(x:aM):List Value:=[.int .i64 x.Kind,.int .i64 x.aC,.int .i64 x.aB,.int .u32 x.Sum,.int .i64 x.jM,.int .i64 x.To,.int .i64 x.jS]
theorem aM.lF(x:aM):∀ u∈x.enc,u.oneCell'=true:=by
  intro u hu
  simp only [aM.enc,iX,lM,sN] at hu
  rcases hu with rfl | rfl | rfl | rfl | rfl | rfl | rfl <;> rfl
def bG:Ty aM:=Ty.flat 7 aM.enc au (λ_=>rfl) aM.lF
instance:Flat bG:=⟨λh=>h⟩
def oP(cs:List aH)(id:Int):Nat:=(cs.filter fun(c:aH)=>c.aD.contains id).length
def oH(cs:List aH)(l:List aV):List gq:=if uy l=true then l.map fun(n:aV)=>⟨n.ID,(oP cs n.ID:Int)⟩ else[]
def amG(aG:List Int)(n:aV):Bool:=!decide (n.gP=0)||!aG.contains n.ID
def wm(l:List aV)(aG:List Int):List aV:=if uy l=true then l.filter fun(n:aV)=>!amG aG n else[]
def nL(aZ:List gq)(id:Int):Int:=match aZ.find? (fun(x:gq)=>decide (x.Node=id)) with | some x=>x.N | none=>0
theorem ayF{aZ:List gq}{id:Int}(h:idxOf (fun(x:gq)=>decide (x.Node=id)) aZ<0):nL aZ id=0:=by
  rcases vT (fun(x:gq)=>decide (x.Node=id)) aZ with ⟨_,h2⟩ | ⟨k,x,h1,_,_,_⟩
  · unfold nL; rw [Ce.2 (λx hx=>by simp [h2 x hx])]
  · omega
theorem auC{aZ:List gq}{id:Int}{x:gq}(h:idxOf (fun(x:gq)=>decide (x.Node=id)) aZ=(k:Int))(hx:aZ[k]? = some x):nL aZ id=x.N:=by
  rcases vT (fun(x:gq)=>decide (x.Node=id)) aZ with ⟨h1,_⟩ | ⟨k',x',h1,h2,h3,h4⟩
  · omega
  · have:k=k':=aj
    subst this;rw [hx] at h2; cases h2
    have hs:aZ=aZ.take k++x::aZ.drop (k+1):=by
      conv=>lhs; rw [<- uF k aZ]
      rw [zO (aJ hx),(nP.1 hx).2]
    unfold nL;rw [hs,IJ,Ce.2 (λy hy=>by simp [h4 y hy])]
    simp only [Option.none_or,List.find?_cons,h3]
def iw(cs:List aH)(l:List aV)(aG:List Int):List gq:=oH cs (wm l aG)
theorem ach:Size prog 219 2:=ay
theorem ayG:Agg prog 219 2:=⟨λ_=>by kernel_rfl,ach⟩
theorem apn:eu prog 219 0 0:=ay
theorem ayH:bF prog 271:=ay
theorem apo:eu prog 219 1 1:=ay
theorem IL(a0:Int)(a1:Int):prog.built 219 [(0,aF a0),(1,aF a1)]=some #[aF a0,aF a1]:=ak
theorem Ls(a0:Int)(a1:Int):∀ w,(Instr.buildSlice 154 1 (List.toArray [(0,.agg #[aF a0,aF a1])])).run prog w=.ok (.slice (some ⟨w.heap.size,0,none⟩) 1 1) (w.alloc (.cells (List.toArray [aF a0,aF a1]) 219)):=ay
theorem ain:lW prog 219 2 16:=by
  obtain⟨i,h1,h2,h3,h4⟩:=tX (show(prog.info? 219).map (λi=>(i.zero,i.size,i.bytes))=some (some (.agg #[aF 0,aF 0]),2,16) by kernel_rfl);exact⟨i,_,h1,h2,h3,h4,Y⟩
theorem ayI:bF prog 404:=ay
theorem Qx{α:Type}{p:α->Bool}{xs:List α}(h:idxOf p xs<0):(xs.filter λx=>!p x)=xs:=by
  rcases vT p xs with ⟨_,h2⟩ | ⟨k,x,h1,_⟩
  · exact Ep.2 (λx hx=>by simp [h2 x hx])
  · omega
theorem Qy{α:Type}{p:α->Bool}{xs:List α}(h:idxOf p xs=(k:Int)):xs.take k=(xs.take (k+1)).filter (λx=>!p x)/\k<xs.length:=by
  rcases vT p xs with ⟨h1,_⟩ | ⟨k',x,h1,h2,h3,h4⟩
  · omega
  · have:k=k':=aj
    subst this;refine⟨?_,aJ h2⟩;rw [fD h2,vX,Ep.2 (λx hx=>by simp [h4 x hx])]
    simp [h3]
theorem TA(w:World){s:List gq}(mP:Sl mX S0 w vY uY s)(KI:bF prog AA)(f:gq->Bool)(KJ:∀(w':World)(x:gq),Ext w w'->x∈s->bS prog AA (([.agg #[aF x.Node,aF x.N]]:List Value)++AX).toArray w' λv w''=>v=.bool (f x)/\Ext w' w'') :
    bS prog 270 #[.slice vY s.length uY,.func (.func AA) #[] AX.toArray] w λv w'=>v=aF (idxOf f s)/\Hp w S0 w' []:=by
 refine kP S0 func270 ntmps270 Y λH0=>?_;have Qm:=mP.bH;refine iZ Y<|aW<|bQ Y<|ev (eU OZ Y)<|mv Y<|dn<|cB<|Lp H0 (λl0 rk mJ lJ wJ=>∃(k:Nat),lJ=(8,aF ((k:Nat):Int))::l0/\mJ=s.length - k/\k<=s.length/\(∀ y∈s.take k,f y=false)/\Hp w S0 wJ rk) ⟨0,Y,Y,fJ _,av,H0⟩ rfl ?_
 rintro _ _ w1 ⟨k,rfl,rfl,hk,hno,K1⟩;refine rg<|ev (fC Y Y)<|dn<|pQ Y (λER=>?_) (λER=>?_)
 ·refine jm ?_;refine aW<|cB<|bQ Y<|bU Y<|bQ Y<|mv Y<|mv Y ?_
  obtain⟨x1,bP⟩:=bC (xs:=s) (i:=k) aj;refine ev (cu (i:=k) OZ ach Y Y Y (aJ bP) ((K1.a mP).some_ bP))<|ev (gI ayG Y Y ((K1.a mP).fE bP))<|xK Y Y Y KI (KJ _ x1 K1.ext (bT bP)) Y ?_
  rintro _ w2 ⟨rfl,e2⟩;have K2:=K1.grow e2;refine dn<|bK Y (λhc16=>?_) (λhc16=>?_)
  ·refine bQ Y<|bU Y<|jf (jg (fT (fT (jg (fT (zA Y ?_))))))
   have eO:(((k:Nat):Int):Int)=(idxOf f s):=by exact(rX hno bP hc16).symm
   exact⟨by rw [eO] <;> rfl,K2⟩
  refine xQ ?_;refine jy<|ev (dO Y Y)<|mv Y<|jA<|dI ⟨(k+1),Y,Y,aj,by exact pJ (q:=λy=>f y=false) hno bP hc16,K2⟩ rfl aj
 refine wE ?_;refine iZ Y<|jc Y ?_
 have fQ:((-1):Int)=(idxOf f s):=by exact(uK (vU hno aj)).symm
 exact⟨by rw [<- fQ] <;> rfl,K1⟩
theorem amH(w:World)(x:gq){Eh:Nat}(bE:Int)(Ll:Bx w Eh 3 [aF bE]) :
    bS prog 271 #[.agg #[aF x.Node,aF x.N],gD Eh] w λv w'=>v=.bool (decide (x.Node=bE))/\Hp w S0 w' []:=by
 refine kP S0 func271 ntmps271 Y λH0=>rg<|bx Y Y H0 λg1 w1 K1=>bU Y<|rg<|jT g1 0 apn K1 s0 Y<|ev (dx jD Y (Ll.ext K1.ext) Y)<|ev (iA Y Y)<|bU Y<|jc Y ?_
 exact⟨Y,(K1.rm s0)⟩
theorem u7(w:World){l:List gq}(jo:Sl mX S0 w jl jk l)(bE:Int) :
    bS prog 176 #[.slice jl l.length jk,aF bE] w λv w'=>v=aF (nL l bE)/\Hp w S0 w' []:=by
 refine kP S0 func176 ntmps176 Y λH0=>?_;have hge:=GR (p:=fun(x:gq)=>decide (x.Node=bE)) l;have hlt:=D7 (p:=fun(x:gq)=>decide (x.Node=bE)) l;refine rg<|bx Y Y H0 λg1 w1 K1=>bU Y<|bQ Y<|ev (rW Y)<|mU K1 Y (TA _ (K1.a jo).any (AX:=[gD g1]) ayH (fun(x:gq)=>decide (x.Node=bE)) (λw' x e hm=>(amH (S0:=Any) w' x bE ((K1.x s0).ext e)).mono (by rintro _ _ ⟨rfl,fQ⟩; exact⟨rfl,fQ.ext⟩))) λw2 K2=>bU rfl<|aW<|bQ rfl<|ev (fC rfl rfl)<|dn<|mQ rfl (λGm=>?_) (λGm=>?_)
 ·refine iZ Y<|uX Y ?_
  have eO:(0:Int)=(nL l bE):=by exact(ayF aj).symm
  exact⟨by rw [<- eO] <;> rfl,(K2.rm s0)⟩
 refine jm ?_;obtain⟨k0,hk0,hkl⟩:∃ k0:Nat,idxOf (fun(x:gq)=>decide (x.Node=bE)) l=(k0:Int)/\k0<l.length:=⟨(idxOf (fun(x:gq)=>decide (x.Node=bE)) l).toNat,aj,aj⟩;refine lC (t:=5) Y (aR (Value.int .i64) hk0)<|bQ Y<|mv Y ?_
 obtain⟨x1,bP⟩:=bC (xs:=l) (i:=k0) aj;refine ev (cu (i:=k0) OZ ach Y Y Y (aJ bP) ((K2.a jo).some_ bP))<|ev (dW apo Y (fH _ _ _))<|ev (iL jD Y ((K2.a jo).fF (j:=1) bP Y))<|bU Y<|jc Y ?_
 have fQ:(x1.N:Int)=(nL l bE):=by exact(auC hk0 bP).symm
 exact⟨by rw [fQ] <;> rfl,(K2.rm s0)⟩
theorem apq(w:World)(uf:Sl bJ S0 w su sj dz)(id:Int) :
    bS prog 178 #[.slice su dz.length sj,aF id] w λv w'=>v=aF ((oP dz id:Nat):Int)/\Hp w S0 w' []:=by
 refine kP S0 func178 ntmps178 Y λH0=>?_;have amI:=uf.bH;have hq:=λk=>mR (fun(c:aH)=>c.aD.contains id) (dz.take k)
 simp only [fO] at hq
 refine iZ Y<|iZ Y<|aW<|bQ Y<|ev (eU iN Y)<|mv Y<|dn<|cB ?_
 have eO:(0:Int)=((((dz.take 0).filter fun(c:aH)=>c.aD.contains id).length:Nat):Int):=by rfl
 refine lC (t:=5) Y (aR (Value.int .i64) eO)<|Lp H0 (λl0 rk mJ lJ wJ=>∃(k:Nat),lJ=(5,aF ((((dz.take k).filter fun(c:aH)=>c.aD.contains id).length:Nat):Int))::(10,aF ((k:Nat):Int))::l0/\mJ=dz.length - k/\k<=dz.length/\Hp w S0 wJ rk) ⟨0,Y,Y,fJ _,H0⟩ Y ?_
 rintro _ _ w1 ⟨k,rfl,rfl,hk,K1⟩;refine rg<|ev (fC Y Y)<|dn<|pQ Y (λIQ=>?_) (λIQ=>?_)
 ·refine jm ?_;refine aW<|cB<|rg ?_
  obtain⟨x1,bP⟩:=bC (xs:=dz) (i:=k) aj;refine ev (cu (i:=k) iN o9 Y Y Y (aJ bP) ((K1.a uf).some_ bP)) ?_;obtain⟨B1,d1,zP,hi1⟩:=uP (uf.row bP);refine ev (gI (cs:=[aF x1.ID,aF x1.aB,gK x1.Sum,.slice B1 x1.aD.length d1]) qw Y Y (GV (λj u hu=>K1.ext.cell (zP j u hu))))<|al lU Y K1 λg1 w2 K2=>sty Y K2 s0 Y λw3 K3=>dn ?_
  have hqk:=hq k;refine rg<|jT g1 3 j5 K3 s0 Y<|mv Y<|mU K3 Y (kJ _ (K3.a hi1).any id) λw4 K4=>dn<|bK Y (λhc17=>?_) (λhc17=>?_)
  ·refine jy<|mv Y<|ev (dO Y Y)<|iI Y<|jA<|iE (gG ?_)
   refine jy<|ev (dO Y Y)<|mv Y<|jA ?_
   have fQ:(((((dz.take k).filter fun(c:aH)=>c.aD.contains id).length+1:Nat):Int):Int)=((((dz.take (k+1)).filter fun(c:aH)=>c.aD.contains id).length:Nat):Int):=by rw [lX bP]; first | (rw [aO hc17]; simp; done) | (rw [aK (by rw [hc17]; decide)]; simp)
   refine jq (t:=5) Y (aR (Value.int .i64) fQ)<|dI ⟨(k+1),Y,Y,aj,(K4.rm s0)⟩ rfl aj
  refine xQ ?_;refine jy<|ev (dO Y Y)<|mv Y<|jA ?_
  have jW:(((((dz.take k).filter fun(c:aH)=>c.aD.contains id).length:Nat):Int):Int)=((((dz.take (k+1)).filter fun(c:aH)=>c.aD.contains id).length:Nat):Int):=by rw [lX bP]; first | (rw [aO hc17]; simp; done) | (rw [aK (by rw [hc17]; decide)]; simp)
  refine jq (t:=5) Y (aR (Value.int .i64) jW)<|dI ⟨(k+1),Y,Y,aj,(K4.rm s0)⟩ rfl aj
 refine wE ?_;refine bQ Y<|bU Y<|jc Y ?_
 have mH:(((dz.take k).filter fun(c:aH)=>c.aD.contains id).length:Nat)=(oP dz id):=by rw [iH aj]; rfl
 exact⟨by rw [mH] <;> rfl,K1⟩
abbrev IU(iD:aV)(ji:List aH):=(⟨iD.ID,(oP ji iD.ID:Int)⟩:gq)
theorem TB(w:World)(uf:Sl bJ S0 w su sj dz)(jo:Sl cZ S0 w jl jk l)(hn:l.length<=100000) :
    bS prog 104 #[.slice su dz.length sj,.slice jl l.length jk] w λv w'=>∃(A0:ah)(c0:Nat),v=.slice A0 ((oH dz l).length) c0/\Hp w S0 w' [aS mX 219 A0 c0 (oH dz l)]:=by
 refine kP S0 func104 ntmps104 Y λH0=>iZ Y<|aW<|bQ Y<|mU H0 Y (Vv _ (H0.a jo).any) λw1 K1=>ev (iB Y)<|dn<|bK Y (λGm=>?_) (λGm=>?_)
 ·try simp only [fq,dX,bN,eH,eG,fP,bO,bV] at Gm
  refine iZ Y<|uX Y ?_
  have H1:=K1.nil mX 219;have eO:(([]:List gq):List gq)=(oH dz l):=by unfold oH; rw [aK (by rw [Gm]; decide)]
  have H2:=(eO▸H1:Hp w S0 w1 (aS mX 219 none 0 (oH dz l)::[]));exact⟨none,0,by rw [<- eO] <;> rfl,H2⟩
 try simp only [fq,dX,bN,eH,eG,fP,bO,bV] at Gm
 refine jm ?_;refine iZ Y<|aW<|bQ Y<|ev (eU nW Y)<|mv Y<|dn<|cB ?_
 have H3:=K1.nil mX 219;have fQ:(([]:List gq):List gq)=((l.take 0).map fun(n:aV)=>(IU n dz)):=by rfl
 refine lC (t:=5) Y (aR (λz=>Value.slice none (List.length z) 0) fQ) ?_;have H4:=H3.nil mX 219;have H5:=(fQ▸H4:Hp w S0 w1 (aS mX 219 none 0 ((l.take 0).map fun(n:aV)=>(IU n dz))::[aS mX 219 none 0 []]));refine pK (λmJ lJ wJ=>∃(k:Nat)(A5:ah)(c5:Nat),lJ=[(0,.slice su dz.length sj),(5,.slice A5 (((l.take k).map fun(n:aV)=>(IU n dz)).length) c5),(11,.slice jl l.length jk),(12,aF ((l.length:Nat):Int)),(13,aF ((k:Nat):Int))]/\mJ=l.length - k/\k<=l.length/\Hp w S0 wJ [aS mX 219 A5 c5 ((l.take k).map fun(n:aV)=>(IU n dz))]) ⟨0,none,0,Y,Y,fJ _,(H5.rm s1)⟩ Y ?_;rintro _ _ w2 ⟨k,A5,c5,rfl,rfl,hk,K2⟩;refine rg<|ev (fC Y Y)<|dn<|pQ Y (λrM=>?_) (λrM=>?_)
 ·refine jm ?_;refine aW<|cB<|rg ?_
  obtain⟨x1,bP⟩:=bC (xs:=l) (i:=k) aj;refine ev (cu (i:=k) nW wT Y Y Y (aJ bP) ((K2.a jo).some_ bP))<|ev (gI wU Y Y ((K2.a jo).fE bP))<|al tJ Y K2 λg1 w3 K3=>sty Y K3 s0 Y λw4 K4=>dn<|Hf K4 (λ_ K=>(K.rm s1)) (λl0 rk lJ wJ=>∃(jR:ah)(jO:Nat),lJ=(5,.slice jR ((((l.take k).map fun(n:aV)=>(IU n dz))++([(⟨x1.ID,((oP dz x1.ID:Nat):Int)⟩:gq)]:List gq)).length) jO)::l0/\Hp w S0 wJ (aS mX 219 jR jO (((l.take k).map fun(n:aV)=>(IU n dz))++([(⟨x1.ID,((oP dz x1.ID:Nat):Int)⟩:gq)]:List gq))::rk)) (λhns H6=>?_) ?_
  ·have k1:=(H6.rm s1);refine kX 0 Y Y k1<|ng 1 2 g1 0 nk s0 Y k1<|kX 3 Y Y k1<|ng 4 5 g1 0 nk s0 Y k1<|O1 6 Y<|mU H6 Y (apq _ (H6.a uf).any x1.ID) λw5 K5=>?_
   have k2:=(K5.rm s1);refine aQ k2<|lD 7 Y (λ_ _=>iY (vs:=[(0,aF x1.ID),(1,aF ((oP dz x1.ID:Nat):Int))]) (cs:=[aF x1.ID,aF ((oP dz x1.ID:Nat):Int)]) Y (by apply IL)) k2<|O1 8 rfl<|Az (τ:=mX) (x:=(⟨x1.ID,((oP dz x1.ID:Nat):Int)⟩:gq)) rfl (by intro _; apply Ls) rfl K5 (λ_ _=>rfl) λg2 w6 K6=>?_
   have k3:=((K6.rm s2).rm s0);refine aQ k3<|O1 9 Y<|ap (ys:=([(⟨x1.ID,((oP dz x1.ID:Nat):Int)⟩:gq)]:List gq)) K6 s2 Y Y (K6.o s0) OZ ain (by first | omega | (simp; omega) | (simp; done)) av rfl λoL oM w7 K7=>?_
   have k4:=(K7.cU 0 2);refine aQ k4<|xI 10 Y Y k4<|Dn ⟨oL,oM,Y,(K7.rm s1)⟩ Y
  rintro _ w8 ⟨jR,jO,rfl,K8⟩;refine iE (gG ?_);refine jy<|ev (dO Y Y)<|mv Y<|jA ?_
  have jW:((((l.take k).map fun(n:aV)=>(IU n dz))++([(⟨x1.ID,((oP dz x1.ID:Nat):Int)⟩:gq)]:List gq)):List gq)=((l.take (k+1)).map fun(n:aV)=>(IU n dz)):=by rw [fD bP,qc]; rfl
  refine jq (t:=5) Y (aR (λz=>Value.slice jR (List.length z) jO) jW) ?_;rw [jW] at K8;exact dI ⟨(k+1),jR,jO,Y,Y,aj,(K8.rm s1)⟩ rfl aj
 refine wE ?_;refine bQ Y<|bU Y<|jc Y ?_
 have mH:(((l.take k).map fun(n:aV)=>(IU n dz)):List gq)=(oH dz l):=by rw [iH aj]; unfold oH; rw [aO Gm]
 rw [mH] at K2;exact⟨A5,c5,by rw [mH] <;> rfl,K2⟩
theorem auD(w:World)(n:aV){IV:Nat}(kM:Bx w IV 55 [.slice kC aG.length ku])(Qz:Sl dQ S0 w kC ku aG) :
    bS prog 404 #[.agg #[aF n.ID,aF n.lT,aF n.l6,aF n.gP],gD IV] w λv w'=>v=.bool (amG aG n)/\Hp w S0 w' []:=by
 refine kP S0 func404 ntmps404 Y λH0=>rg<|bx Y Y H0 λg1 w1 K1=>bU Y<|rg<|jT g1 3 zS K1 s0 Y<|ev (nQ Y Y)<|mv Y<|oG 6 13 ((!decide (n.gP=0))||(!(aG.contains n.ID))) ?_ ?_
 ·cases hb7:(!decide (n.gP=0)) with
  | true=>
   refine dN<|dN<|dN<|dN<|dN<|ev (dH Y Y)<|jh Y (pI _)
  | false=>
   refine bn Y (dx Bf Y (kM.ext K1.ext) Y) Y<|wL g1 0 nk K1 s0 Y<|oh Y Y Y Y WV (kJ _ (K1.a Qz).any n.ID) Y ?_
   rintro _ w2 ⟨rfl,h2⟩;refine bn Y (iB Y) Y<|ev (dL Y Y)<|jh Y h2.ext
 intro w3 e3;have K3:=K1.grow e3;refine bU Y<|jc Y ?_
 have eO:(((!decide (n.gP=0))||(!(aG.contains n.ID))):Bool)=(amG aG n):=by rfl
 exact⟨by rw [eO] <;> rfl,(K3.rm s0)⟩
theorem TD(w:World){s:List aV}(mP:Sl cZ S0 w vY uY s)(KI:bF prog AA)(f:aV->Bool)(KJ:∀(w':World)(x:aV),Ext w w'->x∈s->bS prog AA (([.agg #[aF x.ID,aF x.lT,aF x.l6,aF x.gP]]:List Value)++AX).toArray w' λv w''=>v=.bool (f x)/\Ext w' w'') :
    bS prog 435 #[.slice vY s.length uY,.func (.func AA) #[] AX.toArray] w λv w'=>v=aF (idxOf f s)/\Hp w S0 w' []:=by
 refine kP S0 func435 ntmps435 Y λH0=>?_;have Qm:=mP.bH;refine iZ Y<|aW<|bQ Y<|ev (eU nW Y)<|mv Y<|dn<|cB<|Lp H0 (λl0 rk mJ lJ wJ=>∃(k:Nat),lJ=(8,aF ((k:Nat):Int))::l0/\mJ=s.length - k/\k<=s.length/\(∀ y∈s.take k,f y=false)/\Hp w S0 wJ rk) ⟨0,Y,Y,fJ _,av,H0⟩ rfl ?_
 rintro _ _ w1 ⟨k,rfl,rfl,hk,hno,K1⟩;refine rg<|ev (fC Y Y)<|dn<|pQ Y (λER=>?_) (λER=>?_)
 ·refine jm ?_;refine aW<|cB<|bQ Y<|bU Y<|bQ Y<|mv Y<|mv Y ?_
  obtain⟨x1,bP⟩:=bC (xs:=s) (i:=k) aj;refine ev (cu (i:=k) nW wT Y Y Y (aJ bP) ((K1.a mP).some_ bP))<|ev (gI wU Y Y ((K1.a mP).fE bP))<|xK Y Y Y KI (KJ _ x1 K1.ext (bT bP)) Y ?_
  rintro _ w2 ⟨rfl,e2⟩;have K2:=K1.grow e2;refine dn<|bK Y (λhc16=>?_) (λhc16=>?_)
  ·refine bQ Y<|bU Y<|jf (jg (fT (fT (jg (fT (zA Y ?_))))))
   have eO:(((k:Nat):Int):Int)=(idxOf f s):=by exact(rX hno bP hc16).symm
   exact⟨by rw [eO] <;> rfl,K2⟩
  refine xQ ?_;refine jy<|ev (dO Y Y)<|mv Y<|jA<|dI ⟨(k+1),Y,Y,aj,by exact pJ (q:=λy=>f y=false) hno bP hc16,K2⟩ rfl aj
 refine wE ?_;refine iZ Y<|jc Y ?_
 have fQ:((-1):Int)=(idxOf f s):=by exact(uK (vU hno aj)).symm
 exact⟨by rw [<- fQ] <;> rfl,K1⟩
theorem QA{b w:World}{F:List lH}{A:ah}{c:Nat}(H0:Hp b S w (aS cZ 78 A c xs::F)){fd:FuncId}{kd:List Value}(qd:bF prog fd)(p:aV->Bool)
    (hd:∀(w':World)(ys:List aV)(x:aV),ys.length=xs.length->Hp b S w' (aS cZ 78 A c ys::F)->bS prog fd (([.agg #[aF x.ID,aF x.lT,aF x.l6,aF x.gP]]:List Value)++kd).toArray w' λv w''=>v=.bool (p x)/\Ext w' w'') (hn:xs.length<=1000000) :
    bS prog 405 #[.slice A xs.length c,.func (.func fd) #[] kd.toArray] w λv w'=>v=.slice A (xs.filter λx=>!p x).length c/\Hp b S w' (aS cZ 78 A c (xs.filter λx=>!p x)::F):=by
 refine sV func405 ntmps405 Y ?_;have WW:=(H0.o s0).bH;have hcap0:=(H0.o s0).cap;have hlt:=D7 (p:=p) xs;have hge:=GR (p:=p) xs;refine iZ Y<|bQ Y<|mv Y<|gX Y (TD (S0:=Any) (AX:=kd) w ((H0.o s0)) qd p (λw' x ex _=>hd w' xs x Y (H0.grow ex))) ?_
 rintro _ w1 ⟨rfl,e1⟩;have K1:=H0.grow e1.ext;refine bU Y<|aW<|bQ Y<|ev (iA Y Y)<|dn<|mQ Y (λoN=>?_) (λoN=>?_)
 ·refine bQ Y<|bU Y<|uX Y ?_
  have hall:=Qx (p:=p) (xs:=xs) aj;exact⟨by rw [hall]; rfl,by rw [hall]; exact K1⟩
 refine jm ?_;refine aW ?_;obtain⟨k0,hk0,hkl⟩:∃ k0:Nat,idxOf p xs=(k0:Int)/\k0<xs.length:=⟨(idxOf p xs).toNat,aj,aj⟩;have aio:=Qy hk0;refine lC (t:=5) Y (aR (Value.int .i64) hk0)<|bQ Y<|ev (dO Y Y)<|bU Y<|cB<|Lp (K1.rm s0) (λl0 rk mJ lJ wJ=>∃(i j:Nat)(ys:List aV),lJ=(0,.slice A ys.length c)::(5,aF ((i:Nat):Int))::(6,aF ((j:Nat):Int))::l0/\mJ=xs.length - j/\(ys.length=xs.length)/\(i<j/\j<=xs.length)/\(ys.take i=(xs.take j).filter λx=>!p x)/\(ys.drop j=xs.drop j)/\Hp b S wJ (aS cZ 78 A c ys::rk)) ⟨k0,(k0+1),xs,Y,Y,by rfl,aj,by exact aio.1,by rfl,K1⟩ rfl ?_
 rintro _ _ w2 ⟨i,j,ys,rfl,rfl,hys,hij,htk,hdr,K2⟩;refine aW<|bQ Y<|mv Y<|ev (eU nW Y)<|ev (fC Y Y)<|dn<|mQ Y (λhc19=>?_) (λhc19=>?_)
 ·refine jm ?_;refine aW<|cB<|bQ Y<|mv Y ?_
  obtain⟨x1,bP⟩:=bC (xs:=ys) (i:=j) aj;refine ev (cu (i:=j) nW wT Y Y Y (aJ bP) ((K2.o s0).some_ bP))<|ev (gI wU Y Y ((K2.o s0).fE bP))<|al tJ Y K2 λg1 w3 K3=>sty Y K3 s0 Y λw4 K4=>dn<|bQ Y<|ev (dU wU Y Y (K4.x s0))<|xK Y Y Y qd (hd _ _ x1 (by first | exact hys | omega) (K4.rm s0)) rfl ?_
  rintro _ w5 ⟨rfl,e5⟩;have K5:=K4.grow e5;refine ev (iB Y)<|dn<|bK Y (λhc29=>?_) (λhc29=>?_)
  ·try simp only [fq,dX,bN,eH,eG,fP,bO,bV] at hc29
   refine bQ Y<|mv Y<|ev (dU wU Y Y (K5.x s0)) ?_
   obtain⟨x2,kZ⟩:=bC (xs:=ys) (i:=i) aj;refine ev (cu (i:=i) nW wT Y Y Y (aJ kZ) ((K5.o s1).some_ kZ))<|se (i:=i) (f:=0) (x:=x2) (x':=x1) (ds:=[aF x1.ID,aF x1.lT,aF x1.l6,aF x1.gP]) K5 s1 Y Y Y kZ Y wT (pU Y) Y (by rintro _ _ _ ⟨⟩; rfl) λw6 K6=>?_
   have hl1:(ys.set i x1).length=ys.length:=gJ ..;refine fU (t:=0) (u:=.slice A ys.length c) (v:=.slice A ((ys.set i x1).length) c) Y (by rw [hl1])<|fU (t:=17) (u:=.slice A ys.length c) (v:=.slice A ((ys.set i x1).length) c) rfl (by rw [hl1])<|fU (t:=22) (u:=.slice A ys.length c) (v:=.slice A ((ys.set i x1).length) c) rfl (by rw [hl1])<|fU (t:=30) (u:=.slice A ys.length c) (v:=.slice A ((ys.set i x1).length) c) rfl (by rw [hl1]) ?_
   have hx3:(ys.set i x1)[i]? = some x1:=qb (aJ kZ);refine dn<|jy<|mv Y<|ev (dO Y Y)<|iI Y<|jA<|iE (gG ?_)
   refine jy<|mv Y<|ev (dO Y Y)<|iI Y<|jA<|dI ⟨(i+1),(j+1),(ys.set i x1),Y,Y,by first | exact hys | (rw [gJ]; exact hys),aj,by first | exact(tC hij.1 htk hdr bP (by simp [hc29])).1 | exact(tF htk hdr bP (by simp [hc29])).1,by first | exact(tC hij.1 htk hdr bP (by simp [hc29])).2 | exact(tF htk hdr bP (by simp [hc29])).2,(K6.rm s1)⟩ rfl aj
  try simp only [fq,dX,bN,eH,eG,fP,bO,bV] at hc29
  refine xQ ?_;refine jy<|mv Y<|ev (dO Y Y)<|iI Y<|jA<|dI ⟨i,(j+1),ys,Y,Y,by first | exact hys | (rw [gJ]; exact hys),aj,by first | exact(tC hij.1 htk hdr bP (by simp [hc29])).1 | exact(tF htk hdr bP (by simp [hc29])).1,by first | exact(tC hij.1 htk hdr bP (by simp [hc29])).2 | exact(tF htk hdr bP (by simp [hc29])).2,(K5.rm s0)⟩ rfl aj
 refine wE ?_;have hcap:ys.length<=c:=aj;have hil:(ys.take i).length=i:=by simp only [fO]; omega
 have hfin:ys.take i=xs.filter λx=>!p x:=by rw [htk,iH aj]
 refine lC (t:=5) (u:=aF ((i:Nat):Int)) (v:=aF (((ys.take i).length:Nat):Int)) Y (by rw [hil]) ?_;have H1:=K2.Wz (hi:=i) s0 aj;refine bQ Y<|mv Y<|ev (Ec (lo:=(ys.take i).length) nW wT Y Y Y (by first | omega | (simp only [fO]; omega)) hcap)<|aeR (τ:=cZ) (m:=ys.length - (ys.take i).length) H1 s0 rfl nW axj (by simp only [fO]; omega) λw7 K7=>dn<|bQ rfl<|mv rfl<|ev (SH (hi:=(ys.take i).length) nW wT rfl rfl rfl (by simp only [fO]; omega))<|bU rfl<|jc rfl ?_
 exact⟨by rw [<- hfin]; rfl,by rw [<- hfin]; exact K7⟩
theorem ayJ(w:World)(uf:Sl bJ S0 w su sj dz)(jo:Sl cZ S0 w jl jk l)(kM:Sl dQ S0 w kC ku aG)(hn:l.length<=100000) :
    bS prog 338 #[.slice su dz.length sj,.slice jl l.length jk,.slice kC aG.length ku] w λv w'=>∃(A0:ah)(c0:Nat)(A1:ah)(c1:Nat),v=.tuple #[.slice A0 ((wm l aG).length) c0,.slice A1 ((iw dz l aG).length) c1]/\Hp w S0 w' [aS cZ 78 A0 c0 (wm l aG),aS mX 219 A1 c1 (iw dz l aG)]:=by
 refine kP S0 func338 ntmps338 Y λH0=>?_;have apr:=kM.bH;refine rg<|bx Y Y H0 λg1 w1 K1=>iI Y<|bU Y<|aW<|bQ Y<|mU K1 Y (Vv _ (K1.a jo).any) λw2 K2=>ev (iB Y)<|dn<|bK Y (λIQ=>?_) (λIQ=>?_)
 ·try simp only [fq,dX,bN,eH,eG,fP,bO,bV] at IQ
  refine rg<|iI Y<|bU Y<|uX Y ?_
  have H1:=K2.nil cZ 78;have eO:(([]:List aV):List aV)=(wm l aG):=by unfold wm; rw [aK (by rw [IQ]; decide)]
  have H2:=(eO▸H1:Hp w S0 w2 (aS cZ 78 none 0 (wm l aG)::[dY g1 55 [.slice kC aG.length ku]]));have H3:=H2.nil mX 219;have fQ:(([]:List gq):List gq)=(iw dz l aG):=by unfold iw wm; rw [aK (by rw [IQ]; decide)]; rfl
  have H4:=(fQ▸H3:Hp w S0 w2 (aS mX 219 none 0 (iw dz l aG)::[aS cZ 78 none 0 (wm l aG),dY g1 55 [.slice kC aG.length ku]]));exact⟨none,0,none,0,by rw [<- eO,<- fQ] <;> rfl,(((H4.rm s2).sel s0).sel s1)⟩
 try simp only [fq,dX,bN,eH,eG,fP,bO,bV] at IQ
 refine jm ?_;refine rg<|ev (rW Y)<|bU Y<|bQ Y<|gX Y (nu _ (K2.a jo).any aj) ?_
 rintro _ w3 ⟨nR,nS,rfl,h3⟩;have K3:=K2.f1 h3;refine mv Y<|gX Y (QA (kd:=[gD g1]) (K3.sel s0) ayI (λx9=>amG aG x9) (λw9 ys x9 hl9 K9=>(auD (S0:=Any) w9 x9 (K9.x s1) (K9.a kM).any).mono (by rintro _ w8 ⟨rfl,K8⟩; exact⟨rfl,K8.ext⟩)) aj) ?_
 rintro _ w4 ⟨rfl,K4⟩;refine bU Y ?_;have hfl:(wm l aG).length<=l.length:=by unfold wm; rw [aO IQ]; exact mR _ _
 have hfe:((l.filter λx9=>!(amG aG x9)):List aV)=wm l aG:=by unfold wm; rw [aO IQ]
 rw [hfe] at K4;refine lC (t:=1) Y (aR (fun(z:List aV)=>Value.slice nR z.length nS) hfe)<|bQ Y<|mv Y<|mv Y<|gX Y (TB _ (K4.a uf).any (K4.o s0) aj) ?_
 rintro _ w5 ⟨yS,yT,rfl,h5⟩;have K5:=K4.f1 h5;refine iI Y<|bU Y<|jc Y ?_
 have jW:(oH dz (wm l aG):List gq)=(iw dz l aG):=by rfl
 rw [jW] at K5;exact⟨nR,nS,yS,yT,by rw [jW] <;> rfl,(((K5.rm s2).sel s0).sel s1)⟩
theorem Xn(cs:List aH)(id:Int):oP cs id<=cs.length:=mR _ _
theorem aip{cs:List aH}{x:gq}(h:x∈iw cs l aG):0<=x.N/\x.N<=cs.length:=by
  unfold iw oH at h
  split at h
  · obtain⟨n,_,rfl⟩:=gQ.1 h
    have:=Xn cs n.ID;exact⟨Int.natCast_nonneg _,by simp only; omega⟩
  · simp at h
def ae9(h:List Int)(fr ni:Int):List Int:=((h.filter fun(x9:Int)=>!(decide (x9=fr)))++[ni]).mergeSort fun(x y:Int)=>decide (x<=y)
def aaM(l:List aV)(s:List Int)(id:Int):List Int:=if jU l id=true then SV s (gU l id).lT else s
def kU(l:List aV)(ids:List Int):List Int:=ids.foldl (aaM l) []
def TF(l:List aV)(ids:List Int):Nat:=(kU l ids).length
theorem FE{ids:List Int}{x:Int}(hx:ids[k]? = some x):kU l (ids.take (k+1))=aaM l (kU l (ids.take k)) x:=by
  rw [fD hx]; simp [kU]
def Bg(c:aH)(l:List aV)(fr ni:Int):Bool:=c.aD.contains fr&&!c.aD.contains ni&&decide (TF l c.aD<=TF l (ae9 c.aD fr ni))
theorem ayK:bF prog 437:=ay
theorem ayL:bF prog 411:=ay
theorem aps:bF prog 410:=ay
theorem J7(w:World){s:List Int}(mP:Sl dQ S0 w vY uY s)(KI:bF prog AA)(f:Int->Bool)(KJ:∀(w':World)(x:Int),Ext w w'->x∈s->bS prog AA (([aF x]:List Value)++AX).toArray w' λv w''=>v=.bool (f x)/\Ext w' w'') :
    bS prog 171 #[.slice vY s.length uY,.func (.func AA) #[] AX.toArray] w λv w'=>v=aF (idxOf f s)/\Hp w S0 w' []:=by
 refine kP S0 func171 ntmps171 Y λH0=>?_;have Qm:=mP.bH;refine iZ Y<|aW<|bQ Y<|ev (eU fB Y)<|mv Y<|dn<|cB<|Lp H0 (λl0 rk mJ lJ wJ=>∃(k:Nat),lJ=(8,aF ((k:Nat):Int))::l0/\mJ=s.length - k/\k<=s.length/\(∀ y∈s.take k,f y=false)/\Hp w S0 wJ rk) ⟨0,Y,Y,fJ _,av,H0⟩ rfl ?_
 rintro _ _ w1 ⟨k,rfl,rfl,hk,hno,K1⟩;refine rg<|ev (fC Y Y)<|dn<|pQ Y (λER=>?_) (λER=>?_)
 ·refine jm ?_;refine aW<|cB<|bQ Y<|bU Y<|bQ Y<|mv Y<|mv Y ?_
  obtain⟨x1,bP⟩:=bC (xs:=s) (i:=k) aj;refine ev (cu (i:=k) fB rZ Y Y Y (aJ bP) ((K1.a mP).some_ bP))<|ev (iL jD Y ((K1.a mP).fF (j:=0) bP Y))<|xK Y Y Y KI (KJ _ x1 K1.ext (bT bP)) Y ?_
  rintro _ w2 ⟨rfl,e2⟩;have K2:=K1.grow e2;refine dn<|bK Y (λhc16=>?_) (λhc16=>?_)
  ·refine bQ Y<|bU Y<|jf (jg (fT (fT (jg (fT (zA Y ?_))))))
   have eO:(((k:Nat):Int):Int)=(idxOf f s):=by exact(rX hno bP hc16).symm
   exact⟨by rw [eO] <;> rfl,K2⟩
  refine xQ ?_;refine jy<|ev (dO Y Y)<|mv Y<|jA<|dI ⟨(k+1),Y,Y,aj,by exact pJ (q:=λy=>f y=false) hno bP hc16,K2⟩ rfl aj
 refine wE ?_;refine iZ Y<|jc Y ?_
 have fQ:((-1):Int)=(idxOf f s):=by exact(uK (vU hno aj)).symm
 exact⟨by rw [<- fQ] <;> rfl,K1⟩
theorem oW{b w:World}{F:List lH}{A:ah}{c:Nat}{xs:List Int}(H0:Hp b S w (aS dQ 3 A c xs::F)){fd:FuncId}{kd:List Value}(qd:bF prog fd)(p:Int->Bool)
    (hd:∀(w':World)(ys:List Int)(x:Int),ys.length=xs.length->Hp b S w' (aS dQ 3 A c ys::F)->bS prog fd (([aF x]:List Value)++kd).toArray w' λv w''=>v=.bool (p x)/\Ext w' w'') (hn:xs.length<=1000000) :
    bS prog 101 #[.slice A xs.length c,.func (.func fd) #[] kd.toArray] w λv w'=>v=.slice A (xs.filter λx=>!p x).length c/\Hp b S w' (aS dQ 3 A c (xs.filter λx=>!p x)::F):=by
 refine sV func101 ntmps101 Y ?_;have WW:=(H0.o s0).bH;have hcap0:=(H0.o s0).cap;have hlt:=D7 (p:=p) xs;have hge:=GR (p:=p) xs;refine iZ Y<|bQ Y<|mv Y<|gX Y (J7 (S0:=Any) (AX:=kd) w ((H0.o s0)) qd p (λw' x ex _=>hd w' xs x Y (H0.grow ex))) ?_
 rintro _ w1 ⟨rfl,e1⟩;have K1:=H0.grow e1.ext;refine bU Y<|aW<|bQ Y<|ev (iA Y Y)<|dn<|mQ Y (λoN=>?_) (λoN=>?_)
 ·refine bQ Y<|bU Y<|uX Y ?_
  have hall:=Qx (p:=p) (xs:=xs) aj;exact⟨by rw [hall]; rfl,by rw [hall]; exact K1⟩
 refine jm ?_;refine aW ?_;obtain⟨k0,hk0,hkl⟩:∃ k0:Nat,idxOf p xs=(k0:Int)/\k0<xs.length:=⟨(idxOf p xs).toNat,aj,aj⟩;have aio:=Qy hk0;refine lC (t:=5) Y (aR (Value.int .i64) hk0)<|bQ Y<|ev (dO Y Y)<|bU Y<|cB<|Lp (K1.rm s0) (λl0 rk mJ lJ wJ=>∃(i j:Nat)(ys:List Int),lJ=(0,.slice A ys.length c)::(5,aF ((i:Nat):Int))::(6,aF ((j:Nat):Int))::l0/\mJ=xs.length - j/\(ys.length=xs.length)/\(i<j/\j<=xs.length)/\(ys.take i=(xs.take j).filter λx=>!p x)/\(ys.drop j=xs.drop j)/\Hp b S wJ (aS dQ 3 A c ys::rk)) ⟨k0,(k0+1),xs,Y,Y,by rfl,aj,by exact aio.1,by rfl,K1⟩ rfl ?_
 rintro _ _ w2 ⟨i,j,ys,rfl,rfl,hys,hij,htk,hdr,K2⟩;refine aW<|bQ Y<|mv Y<|ev (eU fB Y)<|ev (fC Y Y)<|dn<|mQ Y (λhc19=>?_) (λhc19=>?_)
 ·refine jm ?_;refine aW<|cB<|bQ Y<|mv Y ?_
  obtain⟨x1,bP⟩:=bC (xs:=ys) (i:=j) aj;refine ev (cu (i:=j) fB rZ Y Y Y (aJ bP) ((K2.o s0).some_ bP))<|ev (iL jD Y ((K2.o s0).fF (j:=0) bP Y))<|bU Y<|bQ Y<|mv Y<|xK Y Y Y qd (hd _ _ x1 (by first | exact hys | omega) K2) rfl ?_
  rintro _ w3 ⟨rfl,e3⟩;have K3:=K2.grow e3;refine ev (iB Y)<|dn<|bK Y (λhc29=>?_) (λhc29=>?_)
  ·try simp only [fq,dX,bN,eH,eG,fP,bO,bV] at hc29
   refine bQ Y<|mv Y<|mv Y ?_
   obtain⟨x2,kZ⟩:=bC (xs:=ys) (i:=i) aj;refine ev (cu (i:=i) fB rZ Y Y Y (aJ kZ) ((K3.o s0).some_ kZ))<|se (i:=i) (f:=0) (x:=x2) (x':=x1) (ds:=[aF x1]) K3 s0 Y Y Y kZ Y rZ (pU Y) Y (by rintro _ _ _ ⟨⟩; rfl) λw4 K4=>?_
   have hl1:(ys.set i x1).length=ys.length:=gJ ..;refine fU (t:=0) (u:=.slice A ys.length c) (v:=.slice A ((ys.set i x1).length) c) Y (by rw [hl1])<|fU (t:=17) (u:=.slice A ys.length c) (v:=.slice A ((ys.set i x1).length) c) rfl (by rw [hl1])<|fU (t:=22) (u:=.slice A ys.length c) (v:=.slice A ((ys.set i x1).length) c) rfl (by rw [hl1])<|fU (t:=30) (u:=.slice A ys.length c) (v:=.slice A ((ys.set i x1).length) c) rfl (by rw [hl1]) ?_
   have hx3:(ys.set i x1)[i]? = some x1:=qb (aJ kZ);refine dn<|jy<|mv Y<|ev (dO Y Y)<|iI Y<|jA<|iE (gG ?_)
   refine jy<|mv Y<|ev (dO Y Y)<|iI Y<|jA<|dI ⟨(i+1),(j+1),(ys.set i x1),Y,Y,by first | exact hys | (rw [gJ]; exact hys),aj,by first | exact(tC hij.1 htk hdr bP (by simp [hc29])).1 | exact(tF htk hdr bP (by simp [hc29])).1,by first | exact(tC hij.1 htk hdr bP (by simp [hc29])).2 | exact(tF htk hdr bP (by simp [hc29])).2,K4⟩ rfl aj
  try simp only [fq,dX,bN,eH,eG,fP,bO,bV] at hc29
  refine xQ ?_;refine jy<|mv Y<|ev (dO Y Y)<|iI Y<|jA<|dI ⟨i,(j+1),ys,Y,Y,by first | exact hys | (rw [gJ]; exact hys),aj,by first | exact(tC hij.1 htk hdr bP (by simp [hc29])).1 | exact(tF htk hdr bP (by simp [hc29])).1,by first | exact(tC hij.1 htk hdr bP (by simp [hc29])).2 | exact(tF htk hdr bP (by simp [hc29])).2,K3⟩ rfl aj
 refine wE ?_;have hcap:ys.length<=c:=aj;have hil:(ys.take i).length=i:=by simp only [fO]; omega
 have hfin:ys.take i=xs.filter λx=>!p x:=by rw [htk,iH aj]
 refine lC (t:=5) (u:=aF ((i:Nat):Int)) (v:=aF (((ys.take i).length:Nat):Int)) Y (by rw [hil]) ?_;have H1:=K2.Wz (hi:=i) s0 aj;refine bQ Y<|mv Y<|ev (Ec (lo:=(ys.take i).length) fB rZ Y Y Y (by first | omega | (simp only [fO]; omega)) hcap)<|aeR (τ:=dQ) (m:=ys.length - (ys.take i).length) H1 s0 rfl fB ayu (by simp only [fO]; omega) λw5 K5=>dn<|bQ rfl<|mv rfl<|ev (SH (hi:=(ys.take i).length) fB rZ rfl rfl rfl (by simp only [fO]; omega))<|bU rfl<|jc rfl ?_
 exact⟨by rw [<- hfin]; rfl,by rw [<- hfin]; exact K5⟩
theorem afa(w:World)(n:Int){aB5:Nat}(fr:Int)(aG4:Bx w aB5 3 [aF fr]) :
    bS prog 437 #[aF n,gD aB5] w λv w'=>v=.bool (decide (n=fr))/\Hp w S0 w' []:=by
 refine kP S0 func437 ntmps437 Y λH0=>iZ Y<|bQ Y<|ev (dx jD Y (aG4.ext H0.ext) Y)<|ev (iA Y Y)<|bU Y<|jc Y ?_
 exact⟨Y,H0⟩
theorem aiq(w:World){A_h:ah}{c_h:Nat}{h:List Int}(h_h:Sl dQ S0 w A_h c_h h)(fr:Int)(ni:Int)(hn:h.length<=100000) :
    bS prog 411 #[.slice A_h h.length c_h,aF fr,aF ni] w λv w'=>∃(A0:ah)(c0:Nat),v=.slice A0 ((ae9 h fr ni).length) c0/\Hp w S0 w' [aS dQ 3 A0 c0 (ae9 h fr ni)]:=by
 refine kP S0 func411 ntmps411 Y λH0=>?_;have aLQ:=h_h.bH;refine rg<|bx Y Y H0 λg1 w1 K1=>bU Y<|bQ Y<|gX Y (uH _ (K1.a h_h).any aj) ?_
 rintro _ w2 ⟨oo,oq,rfl,h2⟩;have K2:=K1.f1 h2;refine ev (rW Y)<|gX Y (oW (kd:=[gD g1]) (K2.sel s0) ayK (λx9=>decide (x9=fr)) (λw9 ys x9 hl9 K9=>(afa (S0:=Any) w9 x9 fr (K9.x s1)).mono (by rintro _ w8 ⟨rfl,K8⟩; exact⟨rfl,K8.ext⟩)) aj) ?_
 rintro _ w3 ⟨rfl,K3⟩;refine bU Y ?_;have hfl:=mR (fun(x9:Int)=>!(decide (x9=fr))) h;refine bQ Y<|mv Y<|Az (τ:=dQ) (x:=ni) Y (by intro _; apply pW) rfl K3 (λ_ _=>rfl) λg2 w4 K4=>ap (ys:=([ni]:List Int)) K4 s1 rfl rfl (K4.o s0) fB Lh aj av rfl λoL oM w5 K5=>bU rfl<|bQ rfl<|gX rfl (sorti Tryz.lays189 (K5.sel s0) (by simp only [jd,pF,rH]; omega)) ?_
 rintro _ w6 ⟨rfl,K6⟩;have hl1:(((h.filter λx9=>!(decide (x9=fr)))++([ni]:List Int)).mergeSort fun(x y:Int)=>decide (x<=y)).length=((h.filter λx9=>!(decide (x9=fr)))++([ni]:List Int)).length:=KW _;refine fU (t:=0) (u:=.slice oL (((h.filter λx9=>!(decide (x9=fr)))++([ni]:List Int)).length) oM) (v:=.slice oL ((((h.filter λx9=>!(decide (x9=fr)))++([ni]:List Int)).mergeSort fun(x y:Int)=>decide (x<=y)).length) oM) Y (by rw [hl1])<|fU (t:=14) (u:=.slice oL (((h.filter λx9=>!(decide (x9=fr)))++([ni]:List Int)).length) oM) (v:=.slice oL ((((h.filter λx9=>!(decide (x9=fr)))++([ni]:List Int)).mergeSort fun(x y:Int)=>decide (x<=y)).length) oM) rfl (by rw [hl1])<|fU (t:=15) (u:=.slice oL (((h.filter λx9=>!(decide (x9=fr)))++([ni]:List Int)).length) oM) (v:=.slice oL ((((h.filter λx9=>!(decide (x9=fr)))++([ni]:List Int)).mergeSort fun(x y:Int)=>decide (x<=y)).length) oM) rfl (by rw [hl1])<|dn<|bQ rfl<|bU rfl<|jc rfl ?_
 have eO:((((h.filter λx9=>!(decide (x9=fr)))++([ni]:List Int)).mergeSort fun(x y:Int)=>decide (x<=y)):List Int)=(ae9 h fr ni):=by rfl
 rw [eO] at K6;exact⟨oL,oM,by rw [eO] <;> rfl,(K6.cU 1 2)⟩
theorem afb(w:World)(jo:Sl cZ S0 w jl jk l){afc:ah}{afd:Nat}{ids:List Int}(Xo:Sl dQ S0 w afc afd ids)(hn:l.length<=100000) :
    bS prog 410 #[.slice jl l.length jk,.slice afc ids.length afd] w λv w'=>v=aF ((TF l ids:Nat):Int)/\Hp w S0 w' []:=by
 refine kP S0 func410 ntmps410 Y λH0=>?_;have EY:=jo.bH;have ayM:=Xo.bH;refine iZ Y<|rg<|mks H0 Y λg1 w1 K1=>bU Y<|aW<|bQ Y<|ev (eU fB Y)<|mv Y<|dn<|cB ?_
 have eO:[]=(kU l (ids.take 0)):=by rfl
 rw [eO] at K1;refine Lp (K1.rm s0) (λl0 rk mJ lJ wJ=>∃(k:Nat),lJ=(13,aF ((k:Nat):Int))::l0/\mJ=ids.length - k/\k<=ids.length/\Hp w S0 wJ (ao1 g1 (kU l (ids.take k))::rk)) ⟨0,Y,Y,fJ _,K1⟩ Y ?_;rintro _ _ w2 ⟨k,rfl,rfl,hk,K2⟩;refine rg<|ev (fC Y Y)<|dn<|pQ Y (λrM=>?_) (λrM=>?_)
 ·refine jm ?_;refine aW<|cB<|rg ?_
  obtain⟨x1,bP⟩:=bC (xs:=ids) (i:=k) aj;refine ev (cu (i:=k) fB rZ Y Y Y (aJ bP) ((K2.a Xo).some_ bP))<|ev (iL jD Y ((K2.a Xo).fF (j:=0) bP Y))<|bU Y<|bQ Y<|mv Y<|mU K2 Y (Eo _ (K2.a jo).any x1 aj) λw3 K3=>mv Y<|xt Y Y<|xt Y Y<|al tJ Y K3 λg2 w4 K4=>sty Y K4 s0 Y λw5 K5=>bU Y<|bQ Y<|dn<|bK Y (λrz=>?_) (λrz=>?_)
  ·refine jy<|mv Y<|jT g2 1 Qv K5 s0 Y<|aBL K5 s1 Y Y Y acg iQ λw6 K6=>jA<|iE (gG ?_)
   refine jy<|ev (dO Y Y)<|mv Y<|jA ?_
   have fQ:(SV (kU l (ids.take k)) ((gU l x1).lT))=(kU l (ids.take (k+1))):=by rw [FE bP]; unfold aaM; first | rw [aO rz] | rw [aK (by rw [rz]; decide)]
   rw [fQ] at K6;exact dI ⟨(k+1),Y,Y,aj,(K6.rm s1)⟩ rfl aj
  refine xQ ?_;refine jy<|ev (dO Y Y)<|mv Y<|jA ?_
  have jW:(kU l (ids.take k))=(kU l (ids.take (k+1))):=by rw [FE bP]; unfold aaM; first | rw [aO rz] | rw [aK (by rw [rz]; decide)]
  rw [jW] at K5;exact dI ⟨(k+1),Y,Y,aj,(K5.rm s0)⟩ rfl aj
 refine wE ?_;refine bQ Y<|ev (Ev.aGS K2 s0 acg Y)<|bU Y<|jc Y ?_
 have mH:(((kU l (ids.take k))).length:Nat)=(TF l ids):=by rw [iH aj]; rfl
 exact⟨by rw [mH] <;> rfl,(K2.rm s0)⟩
theorem auF(w:World)(c:aH){BO:ah}{Bq:Nat}(GZ:Sl dQ S0 w BO Bq c.aD)(jo:Sl cZ S0 w jl jk l)(fr:Int)(ni:Int)(hn:l.length<=100000)(hh:c.aD.length<=100000) :
    bS prog 340 #[.agg #[aF c.ID,aF c.aB,gK c.Sum,.slice BO c.aD.length Bq],.slice jl l.length jk,aF fr,aF ni] w λv w'=>v=.bool (Bg c l fr ni)/\Hp w S0 w' []:=by
 refine kP S0 func340 ntmps340 Y λH0=>rg<|bx Y Y H0 λg1 w1 K1=>bU Y<|He K1 (λ_ K=>K) (λl0 rk lJ wJ=>lJ=(8,.bool (Bg c l fr ni))::l0/\Hp w S0 wJ rk) (λhns H1=>?_) ?_
 ·refine ng 0 1 g1 3 j5 s0 Y H1<|kX 2 Y Y H1<|O1 3 Y<|mU H1 Y (kJ _ (H1.a GZ).any fr) λw2 K2=>aQ K2<|kX 4 Y Y K2 ?_
  cases aLR:c.aD.contains fr with
  | true=>
   refine tgz 5 Y Y (λ_ _=>dW (q:=⟨g1,3,none⟩) j5 Y Y) K2<|tgz 6 Y Y (λ_ hK=>dx Bf Y (hK.x s0) Y) K2<|tgz 7 Y Y (λ_ _=>bf Y) K2<|O1 8 Y<|oh Y Y Y Y WV (kJ _ (K2.a GZ).any ni) Y ?_
   rintro _ w3 ⟨rfl,h3⟩;have K3:=K2.c0 h3;refine aQ K3<|tgz 9 Y Y (λ_ _=>iB Y) K3<|lD 10 Y (λ_ _=>dH Y Y) K3<|kX 11 Y Y K3 ?_
   cases ab6:(!(c.aD.contains ni)) with
   | true=>
    refine tgz 12 Y Y (λ_ _=>bf Y) K3<|tgz 13 Y Y (λ_ _=>dW (q:=⟨g1,3,none⟩) j5 Y Y) K3<|tgz 14 Y Y (λ_ hK=>dx Bf Y (hK.x s0) Y) K3<|tgz 15 Y Y (λ_ _=>bf Y) K3<|tgz 16 Y Y (λ_ _=>bf Y) K3<|tgz 19 Y Y (λ_ _=>bf Y) K3<|tgz 20 Y Y (λ_ _=>dW (q:=⟨g1,3,none⟩) j5 Y Y) K3<|tgz 21 Y Y (λ_ hK=>dx Bf Y (hK.x s0) Y) K3<|O1 17 Y<|oh Y Y Y Y ayL (aiq _ (K3.a GZ).any fr ni aj) Y ?_
    rintro _ w4 ⟨sO,sP,rfl,h4⟩;have K4:=K3.f1 h4;have k1:=(K4.rm s0);refine aQ k1<|O1 18 Y<|oh Y Y Y Y aps (afb _ (K4.a jo).any (K4.o s0) aj) Y ?_
    rintro _ w5 ⟨rfl,h5⟩;have K5:=K4.c0 h5;have k2:=(K5.rm s0);refine aQ k2<|O1 22 Y<|oh Y Y Y Y aps (afb _ (K5.a jo).any (K5.a GZ).any aj) Y ?_
    rintro _ w6 ⟨rfl,h6⟩;have K6:=K5.c0 h6;have k3:=(K6.rm s0);refine aQ k3<|tgz 23 Y Y (λ_ _=>qK Y Y) k3<|lD 24 Y (λ_ _=>dH Y Y) k3<|xI 25 Y Y k3 ?_
    have eO:(decide (((TF l c.aD:Nat):Int)<=((TF l (ae9 c.aD fr ni):Nat):Int)):Bool)=Bg c l fr ni:=by unfold Bg; simp_all
    refine WH.re2 (t:=8) Y (aR Value.bool eO)<|Dn ⟨Y,(K6.rm s0)⟩ Y
   | false=>
    refine J6 12 Y Y Y K3<|J6 13 Y Y Y K3<|J6 14 Y Y Y K3<|J6 15 Y Y Y K3<|J6 16 Y Y Y K3<|J6 19 Y Y Y K3<|J6 20 Y Y Y K3<|J6 21 Y Y Y K3<|O1 17 Y<|dN<|aQ K3<|O1 18 Y<|dN<|aQ K3<|O1 22 Y<|dN<|aQ K3<|J6 23 Y Y Y K3<|lD 24 Y (λ_ _=>dL Y Y) K3<|xI 25 Y Y K3 ?_
    have fQ:(false:Bool)=Bg c l fr ni:=by unfold Bg; simp_all
    refine WH.re2 (t:=8) Y (aR Value.bool fQ)<|Dn ⟨Y,K3⟩ Y
  | false=>
   refine J6 5 Y Y Y K2<|J6 6 Y Y Y K2<|J6 7 Y Y Y K2<|O1 8 Y<|dN<|aQ K2<|J6 9 Y Y Y K2<|lD 10 Y (λ_ _=>dL Y Y) K2<|kX 11 Y Y K2<|J6 12 Y Y Y K2<|J6 13 Y Y Y K2<|J6 14 Y Y Y K2<|J6 15 Y Y Y K2<|J6 16 Y Y Y K2<|J6 19 Y Y Y K2<|J6 20 Y Y Y K2<|J6 21 Y Y Y K2<|O1 17 Y<|dN<|aQ K2<|O1 18 Y<|dN<|aQ K2<|O1 22 Y<|dN<|aQ K2<|J6 23 Y Y Y K2 ?_
   refine lD 24 Y (λ_ _=>dL Y Y) K2<|xI 25 Y Y K2 ?_
   have jW:(false:Bool)=Bg c l fr ni:=by unfold Bg; simp_all
   refine WH.re2 (t:=8) Y (aR Value.bool jW)<|Dn ⟨Y,K2⟩ Y
 rintro _ w7 ⟨rfl,K7⟩;refine jc Y ?_;exact⟨Y,(K7.rm s0)⟩
def OA(l:List Int):Int:=(l.find? (fun(x:Int)=>!decide (x=0))).getD 0
theorem ayN{l:List Int}{x:Int}(h:∀ y∈l.take k,y=0)(hx:l[k]? = some x)(h0:x≠0):OA l=x:=by
  have hs:l=l.take k++x::l.drop (k+1):=by
    conv=>lhs; rw [<- uF k l]
    rw [zO (aJ hx),(nP.1 hx).2]
  unfold OA;rw [hs,IJ,Ce.2 (λy hy=>by simp [h y hy])]
  simp [h0]
theorem ayO{l:List Int}(h:∀ y∈l,y=0):OA l=0:=by unfold OA; rw [Ce.2 (λy hy=>by simp [h y hy])]; rfl
def toC(aZ:List gq)(a b:aV):Int:=OA [bB (nL aZ a.ID) (nL aZ b.ID),bB a.ID b.ID]
def frC(aZ:List gq)(a b:aV):Int:=-(toC aZ a b)
theorem Lu{aZ:List gq}{a b:aV}:toC aZ a b<0↔nL aZ a.ID<nL aZ b.ID∨nL aZ a.ID=nL aZ b.ID/\a.ID<b.ID:=by
  unfold toC OA
  by_cases h1:bB (nL aZ a.ID) (nL aZ b.ID)=0
  · have h2:=zf.1 h1
    by_cases h3:bB a.ID b.ID=0
    · have h4:=zf.1 h3
      simp [h1,h3]; omega
    · simp [h1,h3,qL]; omega
  · simp [h1,qL]
    have h2:nL aZ a.ID≠nL aZ b.ID:=λe=>h1 (zf.2 e);omega
theorem afe{aZ:List gq}{a b:aV}:toC aZ b a=-(toC aZ a b):=by
  have h:∀ x y:Int,bB y x=-(bB x y):=by intro x y; unfold bB; split <;> (try split) <;> (try split) <;> omega
  unfold toC OA;rw [h (nL aZ a.ID) (nL aZ b.ID),h a.ID b.ID]
  by_cases h1:bB (nL aZ a.ID) (nL aZ b.ID)=0
  · by_cases h3:bB a.ID b.ID=0 <;> simp [h1,h3]
  · simp [h1]
theorem aj8(x y:Int):-1<=bB x y/\bB x y<=1:=by unfold bB; split <;> (try split) <;> omega
theorem ayP(x y:Int)(h1:-1<=x/\x<=1)(h2:-1<=y/\y<=1):-1<=OA [x,y]/\OA [x,y]<=1:=by
  unfold OA
  by_cases a:x=0
  · by_cases b:y=0
    · simp [a,b]
    · simp [a,b]; omega
  · simp [a]; omega
open Go.Sort in
theorem ayQ(aZ:List gq):SWO (ltOf (toC aZ)):=by
  refine⟨λx=>?_,λx y z h1 h2=>?_,λx y z h1 h2=>?_⟩
  · simp only [ltOf,bV,Lu]; omega
  · simp only [ltOf,bO,Lu] at h1 h2 ⊢; omega
  · simp only [ltOf,bV,Lu] at h1 h2 ⊢; omega
open Go.Sort in
theorem ayR(aZ:List gq):SWO (ltOf (frC aZ)):=by
  have e:∀ a b,frC aZ a b=toC aZ b a:=λa b=>afe.symm;refine⟨λx=>?_,λx y z h1 h2=>?_,λx y z h1 h2=>?_⟩
  · simp only [ltOf,bV,e,Lu]; omega
  · simp only [ltOf,bO,e,Lu] at h1 h2 ⊢; omega
  · simp only [ltOf,bV,e,Lu] at h1 h2 ⊢; omega
theorem QB(hu:Up aV.ID l){x y:aV}(hx:x∈l)(hy:y∈l)(h:x.ID=y.ID):x=y:=by
  obtain⟨i,hi⟩:=sM hx;obtain⟨j,hj⟩:=sM hy
  rcases Xf i j with h1 | h1 | h1
  · have:=hu.get h1 hi hj; omega
  · subst h1; rw [hi] at hj; cases hj; rfl
  · have:=hu.get h1 hj hi; omega
theorem auG{aZ:List gq}(hu:Up aV.ID l):∀ x∈l,∀ y∈l,¬ toC aZ x y<0->¬ toC aZ y x<0->x=y:=by
  intro x hx y hy h1 h2;rw [Lu] at h1 h2;exact QB hu hx hy aj
theorem auH{aZ:List gq}(hu:Up aV.ID l):∀ x∈l,∀ y∈l,¬ frC aZ x y<0->¬ frC aZ y x<0->x=y:=by
  intro x hx y hy h1 h2;have e:∀ a b,frC aZ a b=toC aZ b a:=λa b=>afe.symm;rw [e,Lu] at h1 h2;exact QB hu hx hy aj
instance:Inhabited aV:=⟨⟨0,0,0,0⟩⟩
def Kz(cf:aV->aV->Int)(l:List aV):List aV:=l.mergeSort λx y=>!decide (cf y x<0)
def uR(xs ys:List aV):List (aV × aV):=xs.flatMap λx=>ys.map λy=>(x,y)
theorem amJ{j:Nat}{x y:aV}(hx:xs[k]? = some x)(hy:ys[j]? = some y):uR (xs.take k) ys++(ys.take j).map (λy=>(x,y))++[(x,y)] <+: uR xs ys:=by
  have hs:xs=xs.take k++x::xs.drop (k+1):=by
    conv=>lhs; rw [<- uF k xs]
    rw [zO (aJ hx),(nP.1 hx).2]
  have ht:ys=ys.take j++y::ys.drop (j+1):=by
    conv=>lhs; rw [<- uF j ys]
    rw [zO (aJ hy),(nP.1 hy).2]
  refine⟨(ys.drop (j+1)).map (λy=>(x,y))++uR (xs.drop (k+1)) ys,?_⟩
  have h1:uR xs ys=uR (xs.take k) ys++(ys.map (λy=>(x,y))++uR (xs.drop (k+1)) ys):=by
    conv=>lhs; rw [hs]
    simp [uR]
  have h2:ys.map (λy=>(x,y))=(ys.take j).map (λy=>(x,y))++(x,y)::(ys.drop (j+1)).map (λy=>(x,y)):=by
    conv=>lhs; rw [ht]
    simp
  rw [h1,h2]; simp
theorem ais{x:aV}(hx:xs[k]? = some x):uR (xs.take (k+1)) ys=uR (xs.take k) ys++ys.map (λy=>(x,y)):=by
  rw [fD hx]; simp [uR]
theorem O4:l9 prog 154:=ay
theorem ait:bF prog 176:=ay
theorem IW(a0:Int)(a1:Int):∀ w,(Instr.buildSlice 55 2 (List.toArray [(0,aF a0),(1,aF a1)])).run prog w=.ok (.slice (some ⟨w.heap.size,0,none⟩) 2 2) (w.alloc (.cells (List.toArray [aF a0,aF a1]) 3)):=ay
theorem aj9:∀ w,(zeroValue 41).run prog w=.ok (.slice none 0 0) w:=ay
theorem aff:l9 prog 41:=ay
theorem ayS:bF prog 407:=ay
theorem ayT:bF prog 408:=ay
theorem afg(w:World){apt:ah}{apu:Nat}{vals:List Int}(aiu:Sl dQ S0 w apt apu vals) :
    bS prog 337 #[.slice apt vals.length apu] w λv w'=>v=aF (OA vals)/\Hp w S0 w' []:=by
 refine kP S0 func337 ntmps337 Y λH0=>?_;have aGc:=aiu.bH;refine iZ Y<|iZ Y<|aW<|bQ Y<|ev (eU fB Y)<|mv Y<|dn<|cB<|Lp H0 (λl0 rk mJ lJ wJ=>∃(k:Nat),lJ=(8,aF ((k:Nat):Int))::l0/\mJ=vals.length - k/\k<=vals.length/\(∀ y∈vals.take k,y=0)/\Hp w S0 wJ rk) ⟨0,Y,Y,fJ _,av,H0⟩ rfl ?_
 rintro _ _ w1 ⟨k,rfl,rfl,hk,hno,K1⟩;refine rg<|ev (fC Y Y)<|dn<|pQ Y (λER=>?_) (λER=>?_)
 ·refine jm ?_;refine aW<|cB<|rg ?_
  obtain⟨x1,bP⟩:=bC (xs:=vals) (i:=k) aj;refine ev (cu (i:=k) fB rZ Y Y Y (aJ bP) ((K1.a aiu).some_ bP))<|ev (iL jD Y ((K1.a aiu).fF (j:=0) bP Y))<|bU Y<|bQ Y<|mv Y<|ev (nQ Y Y)<|dn<|bK Y (λrM=>?_) (λrM=>?_)
  ·replace rM:=oQ rM;refine bQ Y<|bU Y<|jf (jg (fT (fT (jg (fT (zA Y ?_))))))
   have eO:(x1:Int)=(OA vals):=by exact(ayN hno bP aj).symm
   exact⟨by rw [<- eO] <;> rfl,K1⟩
  replace rM:=oU rM;refine xQ ?_;refine jy<|ev (dO Y Y)<|mv Y<|jA<|dI ⟨(k+1),Y,Y,aj,by exact pJ (q:=λy=>y=0) hno bP aj,K1⟩ rfl aj
 refine wE ?_;refine bQ Y<|bU Y<|jc Y ?_
 have fQ:(0:Int)=(OA vals):=by exact(ayO (vU hno aj)).symm
 exact⟨by rw [<- fQ] <;> rfl,K1⟩
theorem amK(w:World)(a:aV)(b:aV){aZ:List gq}(oJ:Bx w IK 154 [.slice nC aZ.length nA])(Dr:Sl mX S0 w nC nA aZ) :
    bS prog 407 #[.agg #[aF a.ID,aF a.lT,aF a.l6,aF a.gP],.agg #[aF b.ID,aF b.lT,aF b.l6,aF b.gP],gD IK] w λv w'=>v=aF (frC aZ a b)/\Hp w S0 w' []:=by
 refine kP S0 func407 ntmps407 Y λH0=>?_;have aB6:=Dr.bH;have hbd:=ayP (bB (nL aZ a.ID) (nL aZ b.ID)) (bB a.ID b.ID) (aj8 _ _) (aj8 _ _);refine rg<|bx Y Y H0 λg1 w1 K1=>bx Y Y K1 λg2 w2 K2=>bU Y<|He K2 (λ_ K=>K) (λl0 rk lJ wJ=>lJ=(5,aF (-(OA ([bB (nL aZ a.ID) (nL aZ b.ID),bB a.ID b.ID]:List Int))))::l0/\Hp w S0 wJ rk) (λhns H1=>?_) ?_
 ·refine lD 0 Y (λ_ hK=>dx O4 Y (oJ.ext hK.ext) Y) H1<|ng 1 2 g1 0 nk s1 Y H1<|lD 4 Y (λ_ hK=>dx O4 Y (oJ.ext hK.ext) Y) H1<|ng 5 6 g2 0 nk s0 Y H1<|ng 9 10 g1 0 nk s1 Y H1<|ng 11 12 g2 0 nk s0 Y H1<|O1 3 Y<|mU H1 Y (u7 _ (H1.a Dr).any a.ID) λw3 K3=>aQ K3<|O1 7 Y<|mU K3 Y (u7 _ (K3.a Dr).any b.ID) λw4 K4=>aQ K4<|O1 8 Y<|mU K4 Y (nK (S0:=Any) _ (nL aZ a.ID) (nL aZ b.ID)) λw5 K5=>aQ K5<|O1 13 Y<|mU K5 Y (nK (S0:=Any) _ a.ID b.ID) λw6 K6=>aQ K6<|O1 14 Y<|bsn (τ:=dQ) (xs:=([bB (nL aZ a.ID) (nL aZ b.ID),bB a.ID b.ID]:List Int)) (vs:=[(0,aF (bB (nL aZ a.ID) (nL aZ b.ID))),(1,aF (bB a.ID b.ID))]) (css:=[[aF (bB (nL aZ a.ID) (nL aZ b.ID))],[aF (bB a.ID b.ID)]]) Y (by intro _; apply IW) rfl rfl K6 (λ_ e=>⟨rfl,rfl,trivial⟩) λg3 w7 K7=>?_
  have k1:=(K7.rm s0);refine aQ k1<|O1 15 Y<|mU K7 Y (afg _ (K7.o s0)) λw8 K8=>?_
  have k2:=(K8.rm s0);refine aQ k2<|lD 16 Y (λ_ _=>Ev.neg Y (wQ aj aj)) k2<|xI 17 Y Y k2<|Dn ⟨Y,(K8.rm s0)⟩ Y
 rintro _ w9 ⟨rfl,K9⟩;refine jc Y ?_;have eO:(-(OA ([bB (nL aZ a.ID) (nL aZ b.ID),bB a.ID b.ID]:List Int)):Int)=(frC aZ a b):=by rfl
 exact⟨by rw [eO] <;> rfl,K9.z⟩
abbrev aiv(iD:List gq)(ji uS:aV):=([bB (nL iD ji.ID) (nL iD uS.ID),bB ji.ID uS.ID]:List Int)
theorem amL(w:World)(a:aV)(b:aV){aZ:List gq}(oJ:Bx w IK 154 [.slice nC aZ.length nA])(Dr:Sl mX S0 w nC nA aZ) :
    bS prog 408 #[.agg #[aF a.ID,aF a.lT,aF a.l6,aF a.gP],.agg #[aF b.ID,aF b.lT,aF b.l6,aF b.gP],gD IK] w λv w'=>v=aF (toC aZ a b)/\Hp w S0 w' []:=by
 refine kP S0 func408 ntmps408 Y λH0=>rg<|bx Y Y H0 λg1 w1 K1=>bx Y Y K1 λg2 w2 K2=>bU Y<|He K2 (λ_ K=>K) (λl0 rk lJ wJ=>lJ=(5,aF (OA (aiv aZ a b)))::l0/\Hp w S0 wJ rk) (λhns H1=>?_) ?_
 ·refine lD 0 Y (λ_ hK=>dx O4 Y (oJ.ext hK.ext) Y) H1<|ng 1 2 g1 0 nk s1 Y H1<|lD 4 Y (λ_ hK=>dx O4 Y (oJ.ext hK.ext) Y) H1<|ng 5 6 g2 0 nk s0 Y H1<|ng 9 10 g1 0 nk s1 Y H1<|ng 11 12 g2 0 nk s0 Y H1<|O1 3 Y<|mU H1 Y (u7 _ (H1.a Dr).any a.ID) λw3 K3=>aQ K3<|O1 7 Y<|mU K3 Y (u7 _ (K3.a Dr).any b.ID) λw4 K4=>aQ K4<|O1 8 Y<|mU K4 Y (nK (S0:=Any) _ (nL aZ a.ID) (nL aZ b.ID)) λw5 K5=>aQ K5<|O1 13 Y<|mU K5 Y (nK (S0:=Any) _ a.ID b.ID) λw6 K6=>aQ K6<|O1 14 Y<|bsn (τ:=dQ) (xs:=(aiv aZ a b)) (vs:=[(0,aF (bB (nL aZ a.ID) (nL aZ b.ID))),(1,aF (bB a.ID b.ID))]) (css:=[[aF (bB (nL aZ a.ID) (nL aZ b.ID))],[aF (bB a.ID b.ID)]]) Y (by intro _; apply IW) rfl rfl K6 (λ_ e=>⟨rfl,rfl,trivial⟩) λg3 w7 K7=>?_
  have k1:=(K7.rm s0);refine aQ k1<|O1 15 Y<|mU K7 Y (afg _ (K7.o s0)) λw8 K8=>?_
  have k2:=(K8.rm s0);refine aQ k2<|xI 16 Y Y k2<|Dn ⟨Y,(K8.rm s0)⟩ Y
 rintro _ w9 ⟨rfl,K9⟩;refine jc Y ?_;have eO:(OA (aiv aZ a b):Int)=(toC aZ a b):=by rfl
 exact⟨by rw [eO] <;> rfl,K9.z⟩
theorem apv(w:World)(jo:Sl cZ S0 w jl jk l){aZ:List gq}(oJ:Sl mX S0 w nC nA aZ)(hn:l.length<=100000)(hu:Up aV.ID l) :
    bS prog 339 #[.slice jl l.length jk,.slice nC aZ.length nA] w λv w'=>∃(afh:Nat)(aB7:ah)(aB8:Nat)(afi:Nat)(j6:ah)(kg:Nat),v=.func (.func 409) #[] #[gD afh,gD afi]/\Hp w S0 w' [dY afh 41 [.slice aB7 ((Kz (frC aZ) l).length) aB8],dY afi 41 [.slice j6 ((Kz (toC aZ) l).length) kg],aS cZ 78 aB7 aB8 (Kz (frC aZ) l),aS cZ 78 j6 kg (Kz (toC aZ) l)]:=by
 refine kP S0 func339 ntmps339 Y λH0=>rg<|bx Y Y H0 λg1 w1 K1=>bU Y<|bQ Y<|gX Y (nu _ (K1.a jo).any aj) ?_
 rintro _ w2 ⟨oo,oq,rfl,h2⟩;have K2:=K1.f1 h2;refine mv Y<|gX Y (nu _ (K2.a jo).any aj) ?_
 rintro _ w3 ⟨nR,nS,rfl,h3⟩;have K3:=K2.f1 h3;refine al aj9 Y K3 λg2 w4 K4=>al aj9 Y K4 λg3 w5 K5=>xP Y K5 s1 Y λw6 K6=>xP Y K6 s1 Y λw7 K7=>dn<|rg<|nO K7 s1 Y<|ev (rW Y)<|gX Y (axb Tryz.laysF6 wU.1 wT (cf:=(frC aZ)) (ayR aZ) (cb:=[gD g1]) (K7.sel s3) ayS aj (auH hu) (λw9 ys hl9 K9 x9 y9=>(amK (S0:=Any) w9 x9 y9 (K9.x s4) (K9.a oJ).any).mono (by rintro _ w8 ⟨rfl,K8⟩; exact⟨rfl,K8.ext⟩))) ?_
 rintro _ w8 ⟨rfl,K8⟩;refine dn<|rg<|nO K8 s1 Y<|ev (rW Y)<|gX Y (axb Tryz.laysF6 wU.1 wT (cf:=(toC aZ)) (ayQ aZ) (cb:=[gD g1]) (K8.sel s3) ayT aj (auG hu) (λw9 ys hl9 K9 x9 y9=>(amL (S0:=Any) w9 x9 y9 (K9.x s4) (K9.a oJ).any).mono (by rintro _ w8 ⟨rfl,K8⟩; exact⟨rfl,K8.ext⟩))) ?_
 rintro _ w9 ⟨rfl,K9⟩;refine dn<|rg<|ev (rW Y)<|bU Y<|jc Y ?_
 have hl1:(Kz (frC aZ) l).length=l.length:=KW _;have hl2:(Kz (toC aZ) l).length=l.length:=KW _;have H1:Hp w S0 w9 [aS cZ 78 nR nS (Kz (toC aZ) l),aS cZ 78 oo oq (Kz (frC aZ) l),dY g3 41 [.slice nR ((Kz (toC aZ) l).length) nS],dY g2 41 [.slice oo ((Kz (frC aZ) l).length) oq],dY g1 154 [.slice nC aZ.length nA]]:=by rw [hl1,hl2]; exact K9
 exact⟨g2,oo,oq,g3,nR,nS,Y,(((((H1.rm s4).sel s0).sel s1).sel s2).sel s3)⟩
theorem afj{b:World}{gp1 gp2:Nat}{A_1 A_2:ah}{c_1 c_2:Nat}(hn1:xs.length<=1000000)(hn2:ys.length<=1000000) :
    Iter prog 409 [gD gp1,gD gp2] (fun(x:aV × aV)=>[.agg #[aF x.1.ID,aF x.1.lT,aF x.1.l6,aF x.1.gP],.agg #[aF x.2.ID,aF x.2.lT,aF x.2.l6,aF x.2.gP]]) (uR xs ys) b S [dY gp1 41 [.slice A_1 xs.length c_1],dY gp2 41 [.slice A_2 ys.length c_2],aS cZ 78 A_1 c_1 xs,aS cZ 78 A_2 c_2 ys]:=by
 intro lr Jf Jx w F0 H0 h0 hY;refine WP.ah3 func409 Y ntmps409 Y ?_;have K0:=uN (F:=F0) H0;refine rg<|nO K0 s0 Y<|ev (eU nW Y)<|mv Y<|dn<|cB<|pK (λmJ lJ wJ=>∃(k:Nat)(F:List lH),lJ=[(0,.func (.yield lr) #[] #[]),(2,gD gp2),(8,.slice A_1 xs.length c_1),(9,aF ((xs.length:Nat):Int)),(10,aF ((k:Nat):Int))]/\mJ=xs.length - k/\k<=xs.length/\(Jf (uR (xs.take k) ys) F)/\Hp b S wJ (dY gp1 41 [.slice A_1 xs.length c_1]::dY gp2 41 [.slice A_2 ys.length c_2]::aS cZ 78 A_1 c_1 xs::aS cZ 78 A_2 c_2 ys::F)) ⟨0,F0,Y,Y,fJ _,by simpa [uR] using h0,K0⟩ rfl ?_
 rintro _ _ w1 ⟨k,F,rfl,rfl,hk,hJt,K1⟩;refine rg<|ev (fC Y Y)<|dn<|pQ Y (λIQ=>?_) (λIQ=>?_)
 ·refine jm ?_;refine aW<|cB<|rg ?_
  obtain⟨x1,bP⟩:=bC (xs:=xs) (i:=k) aj;refine ev (cu (i:=k) nW wT Y Y Y (aJ bP) ((K1.o s2).some_ bP))<|ev (gI wU Y Y ((K1.o s2).fE bP))<|al tJ Y K1 λg1 w2 K2=>sty Y K2 s0 Y λw3 K3=>dn<|rg<|nO K3 s2 Y<|ev (eU nW Y)<|mv Y<|dn<|cB<|pK (λmJ lJ wJ=>∃(k2:Nat)(F2:List lH),lJ=[(0,.func (.yield lr) #[] #[]),(2,gD gp2),(5,gD g1),(8,.slice A_1 xs.length c_1),(9,aF ((xs.length:Nat):Int)),(10,aF ((k:Nat):Int)),(14,.slice A_2 ys.length c_2),(15,aF ((ys.length:Nat):Int)),(16,aF ((k2:Nat):Int))]/\mJ=ys.length - k2/\k2<=ys.length/\(Jf (uR (xs.take k) ys++(ys.take k2).map (λy=>(x1,y))) F2)/\Hp b S wJ (dY g1 78 [aF x1.ID,aF x1.lT,aF x1.l6,aF x1.gP]::dY gp1 41 [.slice A_1 xs.length c_1]::dY gp2 41 [.slice A_2 ys.length c_2]::aS cZ 78 A_1 c_1 xs::aS cZ 78 A_2 c_2 ys::F2)) ⟨0,F,Y,Y,fJ _,by simpa using hJt,K3⟩ rfl ?_
  rintro _ _ w4 ⟨k2,F2,rfl,rfl,hk2,ayV,K4⟩;refine rg<|ev (fC Y Y)<|dn<|pQ Y (λhc17=>?_) (λhc17=>?_)
  ·refine jm ?_;refine aW<|cB<|rg ?_
   obtain⟨x2,kZ⟩:=bC (xs:=ys) (i:=k2) aj;refine ev (cu (i:=k2) nW wT Y Y Y (aJ kZ) ((K4.o s4).some_ kZ))<|ev (gI wU Y Y ((K4.o s4).fE kZ))<|al tJ Y K4 λg2 w5 K5=>sty Y K5 s0 Y λw6 K6=>dn<|bQ Y<|ev (dU wU Y Y (K6.x s1))<|ev (dU wU Y Y (K6.x s0)) ?_
   have hy1:=hY (uR (xs.take k) ys++(ys.take k2).map (λy=>(x1,y))) (x1,x2) _ _ [dY g2 78 [aF x2.ID,aF x2.lT,aF x2.l6,aF x2.gP],dY g1 78 [aF x1.ID,aF x1.lT,aF x1.l6,aF x1.gP]] ayV (amJ bP kZ) (uN (F:=[dY gp1 41 [.slice A_1 xs.length c_1],dY gp2 41 [.slice A_2 ys.length c_2],aS cZ 78 A_1 c_1 xs,aS cZ 78 A_2 c_2 ys,dY g2 78 [aF x2.ID,aF x2.lT,aF x2.l6,aF x2.gP],dY g1 78 [aF x1.ID,aF x1.lT,aF x1.l6,aF x1.gP]]) ((K6.mV 0 2).mV 2 4));refine WL.yield trivial Y Y hy1 (by rintro e w' (⟨rfl,_⟩ | ⟨rfl,_⟩) <;> exact⟨_,rfl⟩) rfl rfl rfl ?_;rintro v w7 (⟨hv,F1,hJ1,K7⟩ | ⟨hv,F1,hJ1,K7⟩)
   ·cases hv
    have K7c:=uN (F:=F1) K7;refine ev (iB Y)<|dn<|bK Y nofun (λ_h=>?_)
    refine xQ ?_;refine jy<|ev (dO Y Y)<|mv Y<|jA<|dI ⟨(k2+1),F1,Y,Y,aj,by rw [fD kZ,qc,<- oV]; assumption,(((K7c.rm s4).mV 0 4).sel s4)⟩ rfl aj
   ·cases hv
    have K7c:=uN (F:=F1) K7;refine ev (iB Y)<|dn<|bK Y (λ_h=>?_) nofun
    exact jf (jg (fT (fT (jg (jg (fT (fT (jg (l8.amf Y ⟨⟨_,Y⟩,.inr ⟨_,_,hJ1,(uN (F:=[dY gp1 41 [.slice A_1 xs.length c_1],dY gp2 41 [.slice A_2 ys.length c_2],aS cZ 78 A_1 c_1 xs,aS cZ 78 A_2 c_2 ys]) (K7c.cU 4 2))⟩⟩)))))))))
  refine qJ (lu (lu (rE (iE (gG ?_)))));refine jy<|ev (dO Y Y)<|mv Y<|jA<|dI ⟨(k+1),F2,Y,Y,aj,by rw [ais bP]; rw [iH (show ys.length<=k2 by omega)] at ayV; exact ayV,(K4.rm s0)⟩ rfl aj
 exact qJ (lu (lu (rE (l8.aoY (l8.amf Y ⟨⟨_,Y⟩,.inl ⟨_,by rw [iH aj] at hJt; exact hJt,(uN (F:=[dY gp1 41 [.slice A_1 xs.length c_1],dY gp2 41 [.slice A_2 ys.length c_2],aS cZ 78 A_1 c_1 xs,aS cZ 78 A_2 c_2 ys]) K1)⟩⟩)))))
end Go.Proofs.YtlhnnmlenkahlaaGreat
