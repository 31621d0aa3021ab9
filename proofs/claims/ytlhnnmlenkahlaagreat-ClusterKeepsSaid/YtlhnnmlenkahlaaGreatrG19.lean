/- Lemmas. -/
import Derived.Laws.MathBits
import Derived.LoopNIn
import Derived.Test.YtlhnnmlenkahlaaGreatrG18
set_option maxRecDepth 4000
set_option linter.all false
namespace Go.Proofs.YtlhnnmlenkahlaaGreat
open Go.RowKit Go.Proofs.Tryz
def adf:=@IntKind.wrap_u32
def ajj:=@BitVec.toNat_ushiftRight
def ajk:=@Nat.shiftRight_eq_div_pow
def ajl:=@BitVec.toNat_shiftLeft
def Yy:=@Nat.shiftLeft_eq
variable {S0 S:Nat->Prop}{vY A jl:ah}{AX:List Value}{b w:World}{F:List lH}{c jk m:Nat}{xs l:List aI}{a:BitVec 32}{k:IntKind}{z:Int}{t e:TypeId}{ps rs':Array TypeId}
theorem ajm:u6 prog 132 5 24:=by
  obtain⟨i,h1,h2,h3,h4⟩:=tX (show(prog.info? 132).map (λi=>(i.zero,i.size,i.bytes))=some (some (.agg #[aF 0,aF 0,gK 0,.bool false,.bool false]),5,24) by kernel_rfl);exact⟨i,_,h1,h2,h3,h4,Y,λv hv=>lI.1 (show(Value.cells (.agg #[aF 0,aF 0,gK 0,.bool false,.bool false])).toList.all (λv=>v.oneCell')=true from Y) v hv⟩
theorem azW:bF prog 227:=ay
theorem azX:bF prog 385:=ay
theorem azY:bF prog 343:=ay
theorem aai(a0:Int)(a1:Int)(a2:Int)(a3:Bool)(a4:Bool):∀ w,(Instr.buildSlice 70 1 (List.toArray [(0,.agg #[aF a0,aF a1,gK a2,.bool a3,.bool a4])])).run prog w=.ok (.slice (some ⟨w.heap.size,0,none⟩) 1 1) (w.alloc (.cells (List.toArray [aF a0,aF a1,gK a2,.bool a3,.bool a4]) 132)):=ay
abbrev VO(iD:aI):=([.agg #[aF iD.aC,aF iD.aB,gK iD.Sum,.bool iD.gB,.bool iD.Bad]]:List Value)
theorem Kw(w:World){uY:Nat}{s:List aI}(mP:Sl bq S0 w vY uY s){AA:FuncId}(KI:bF prog AA)(f:aI->Bool)(KJ:∀(w':World)(x:aI),Ext w w'->x∈s->bS prog AA ((VO x)++AX).toArray w' λv w''=>v=.bool (f x)/\Ext w' w'') :
    bS prog 248 #[.slice vY s.length uY,.func (.func AA) #[] AX.toArray] w λv w'=>v=aF (idxOf f s)/\Hp w S0 w' []:=by
 refine kP S0 func248 ntmps248 Y λH0=>?_;have Qm:=mP.bH;refine iZ Y<|aW<|bQ Y<|ev (eU jK Y)<|mv Y<|dn<|cB<|Lp H0 (λl0 rk mJ lJ wJ=>∃(k:Nat),lJ=(8,aF ((k:Nat):Int))::l0/\mJ=s.length - k/\k<=s.length/\(∀ y∈s.take k,f y=false)/\Hp w S0 wJ rk) ⟨0,Y,Y,fJ _,av,H0⟩ rfl ?_
 rintro _ _ w1 ⟨k,rfl,rfl,hk,hno,K1⟩;refine rg<|ev (fC Y Y)<|dn<|pQ Y (λER=>?_) (λER=>?_)
 ·refine jm ?_;refine aW<|cB<|bQ Y<|bU Y<|bQ Y<|mv Y<|mv Y ?_
  obtain⟨x1,bP⟩:=bC (xs:=s) (i:=k) aj;refine ev (cu (i:=k) jK mG Y Y Y (aJ bP) ((K1.a mP).some_ bP))<|ev (gI oZ Y Y ((K1.a mP).fE bP))<|xK Y Y Y KI (KJ _ x1 K1.ext (bT bP)) Y ?_
  rintro _ w2 ⟨rfl,e2⟩;have K2:=K1.grow e2;refine dn<|bK Y (λhc16=>?_) (λhc16=>?_)
  ·refine bQ Y<|bU Y<|jf (jg (fT (fT (jg (fT (zA Y ?_))))))
   have eO:(((k:Nat):Int):Int)=(idxOf f s):=by exact(rX hno bP hc16).symm
   exact⟨by rw [eO] <;> rfl,K2⟩
  refine xQ ?_;refine jy<|ev (dO Y Y)<|mv Y<|jA<|dI ⟨(k+1),Y,Y,aj,by exact pJ (q:=λy=>f y=false) hno bP hc16,K2⟩ rfl aj
 refine wE ?_;refine iZ Y<|jc Y ?_
 have fQ:((-1):Int)=(idxOf f s):=by exact(uK (vU hno aj)).symm
 exact⟨by rw [<- fQ] <;> rfl,K1⟩
theorem EB(w:World){uY:Nat}{s:List aI}(mP:Sl bq S0 w vY uY s){AA:FuncId}(KI:bF prog AA)(f:aI->Bool)(KJ:∀(w':World)(x:aI),Ext w w'->x∈s->bS prog AA ((VO x)++AX).toArray w' λv w''=>v=.bool (f x)/\Ext w' w'') :
    bS prog 164 #[.slice vY s.length uY,.func (.func AA) #[] AX.toArray] w λv w'=>v=.bool (s.any f)/\Hp w S0 w' []:=by
 refine kP S0 func164 ntmps164 Y λH0=>iZ Y<|bQ Y<|mv Y<|mU H0 Y (Kw _ (H0.a mP).any KI f (λw' x e hm=>KJ w' x (H0.ext.trans e) hm)) λw1 K1=>ev (qK Y Y)<|bU Y<|jc Y ?_
 have eO:(decide (0<=idxOf f s):Bool)=(s.any f):=by exact VK f s
 exact⟨by rw [eO] <;> rfl,K1⟩
theorem Ub(H0:Hp b S w (aS bq 132 A c xs::F)){fd:FuncId}{kd:List Value}(qd:bF prog fd)(p:aI->Bool)
    (hd:∀(w':World)(ys:List aI)(x:aI),ys.length=xs.length->Hp b S w' (aS bq 132 A c ys::F)->bS prog fd ((VO x)++kd).toArray w' λv w''=>v=.bool (p x)/\Ext w' w'') (hn:xs.length<=1000000) :
    bS prog 322 #[.slice A xs.length c,.func (.func fd) #[] kd.toArray] w λv w'=>v=.slice A (xs.filter λx=>!p x).length c/\Hp b S w' (aS bq 132 A c (xs.filter λx=>!p x)::F):=by
 refine sV func322 ntmps322 Y ?_;have WW:=(H0.o s0).bH;have hcap0:=(H0.o s0).cap;have hlt:=D7 (p:=p) xs;have hge:=GR (p:=p) xs;refine iZ Y<|bQ Y<|mv Y<|gX Y (Kw (S0:=Any) (AX:=kd) w ((H0.o s0)) qd p (λw' x ex _=>hd w' xs x Y (H0.grow ex))) ?_
 rintro _ w1 ⟨rfl,e1⟩;have K1:=H0.grow e1.ext;refine bU Y<|aW<|bQ Y<|ev (iA Y Y)<|dn<|mQ Y (λoN=>?_) (λoN=>?_)
 ·refine bQ Y<|bU Y<|uX Y ?_
  have hall:=Qx (p:=p) (xs:=xs) aj;exact⟨by rw [hall]; rfl,by rw [hall]; exact K1⟩
 refine jm ?_;refine aW ?_;obtain⟨k0,hk0,hkl⟩:∃ k0:Nat,idxOf p xs=(k0:Int)/\k0<xs.length:=⟨(idxOf p xs).toNat,aj,aj⟩;have aio:=Qy hk0;refine lC (t:=5) Y (aR (Value.int .i64) hk0)<|bQ Y<|ev (dO Y Y)<|bU Y<|cB<|Lp (K1.rm s0) (λl0 rk mJ lJ wJ=>∃(i j:Nat)(ys:List aI),lJ=(0,.slice A ys.length c)::(5,aF ((i:Nat):Int))::(6,aF ((j:Nat):Int))::l0/\mJ=xs.length - j/\(ys.length=xs.length)/\(i<j/\j<=xs.length)/\(ys.take i=(xs.take j).filter λx=>!p x)/\(ys.drop j=xs.drop j)/\Hp b S wJ (aS bq 132 A c ys::rk)) ⟨k0,(k0+1),xs,Y,Y,by rfl,aj,by exact aio.1,by rfl,K1⟩ rfl ?_
 rintro _ _ w2 ⟨i,j,ys,rfl,rfl,hys,hij,htk,hdr,K2⟩;refine aW<|bQ Y<|mv Y<|ev (eU jK Y)<|ev (fC Y Y)<|dn<|mQ Y (λhc19=>?_) (λhc19=>?_)
 ·refine jm ?_;refine aW<|cB<|bQ Y<|mv Y ?_
  obtain⟨x1,bP⟩:=bC (xs:=ys) (i:=j) aj;refine ev (cu (i:=j) jK mG Y Y Y (aJ bP) ((K2.o s0).some_ bP))<|ev (gI oZ Y Y ((K2.o s0).fE bP))<|al yj Y K2 λg1 w3 K3=>sty Y K3 s0 Y λw4 K4=>dn<|bQ Y<|ev (dU oZ Y Y (K4.x s0))<|xK Y Y Y qd (hd _ _ x1 (by first | exact hys | omega) (K4.rm s0)) rfl ?_
  rintro _ w5 ⟨rfl,e5⟩;have K5:=K4.grow e5;refine ev (iB Y)<|dn<|bK Y (λhc29=>?_) (λhc29=>?_)
  ·try simp only [fq,dX,bN,eH,eG,fP,bO,bV] at hc29
   refine bQ Y<|mv Y<|ev (dU oZ Y Y (K5.x s0)) ?_
   obtain⟨x2,kZ⟩:=bC (xs:=ys) (i:=i) aj;refine ev (cu (i:=i) jK mG Y Y Y (aJ kZ) ((K5.o s1).some_ kZ))<|se (i:=i) (f:=0) (x:=x2) (x':=x1) (ds:=[aF x1.aC,aF x1.aB,gK x1.Sum,.bool x1.gB,.bool x1.Bad]) K5 s1 Y Y Y kZ Y mG (pU Y) Y (by rintro _ _ _ ⟨⟩; rfl) λw6 K6=>?_
   have hl1:(ys.set i x1).length=ys.length:=gJ ..;refine fU (t:=0) (u:=.slice A ys.length c) (v:=.slice A ((ys.set i x1).length) c) Y (by rw [hl1])<|fU (t:=17) (u:=.slice A ys.length c) (v:=.slice A ((ys.set i x1).length) c) rfl (by rw [hl1])<|fU (t:=22) (u:=.slice A ys.length c) (v:=.slice A ((ys.set i x1).length) c) rfl (by rw [hl1])<|fU (t:=30) (u:=.slice A ys.length c) (v:=.slice A ((ys.set i x1).length) c) rfl (by rw [hl1]) ?_
   have hx3:(ys.set i x1)[i]? = some x1:=qb (aJ kZ);refine dn<|jy<|mv Y<|ev (dO Y Y)<|iI Y<|jA<|iE (gG ?_)
   refine jy<|mv Y<|ev (dO Y Y)<|iI Y<|jA<|dI ⟨(i+1),(j+1),(ys.set i x1),Y,Y,by first | exact hys | (rw [gJ]; exact hys),aj,by first | exact(tC hij.1 htk hdr bP (by simp [hc29])).1 | exact(tF htk hdr bP (by simp [hc29])).1,by first | exact(tC hij.1 htk hdr bP (by simp [hc29])).2 | exact(tF htk hdr bP (by simp [hc29])).2,(K6.rm s1)⟩ rfl aj
  try simp only [fq,dX,bN,eH,eG,fP,bO,bV] at hc29
  refine xQ ?_;refine jy<|mv Y<|ev (dO Y Y)<|iI Y<|jA<|dI ⟨i,(j+1),ys,Y,Y,by first | exact hys | (rw [gJ]; exact hys),aj,by first | exact(tC hij.1 htk hdr bP (by simp [hc29])).1 | exact(tF htk hdr bP (by simp [hc29])).1,by first | exact(tC hij.1 htk hdr bP (by simp [hc29])).2 | exact(tF htk hdr bP (by simp [hc29])).2,(K5.rm s0)⟩ rfl aj
 refine wE ?_;have hcap:ys.length<=c:=aj;have hil:(ys.take i).length=i:=by simp only [fO]; omega
 have hfin:ys.take i=xs.filter λx=>!p x:=by rw [htk,iH aj]
 refine lC (t:=5) (u:=aF ((i:Nat):Int)) (v:=aF (((ys.take i).length:Nat):Int)) Y (by rw [hil]) ?_;have H1:=K2.Wz (hi:=i) s0 aj;refine bQ Y<|mv Y<|ev (Ec (lo:=(ys.take i).length) jK mG Y Y Y (by first | omega | (simp only [fO]; omega)) hcap)<|aeR (τ:=bq) (m:=ys.length - (ys.take i).length) H1 s0 rfl jK ajm (by simp only [fO]; omega) λw7 K7=>dn<|bQ rfl<|mv rfl<|ev (SH (hi:=(ys.take i).length) jK mG rfl rfl rfl (by simp only [fO]; omega))<|bU rfl<|jc rfl ?_
 exact⟨by rw [<- hfin]; rfl,by rw [<- hfin]; exact K7⟩
theorem azZ:ab7 427 447 448 70 132 5 24 Tryz.f427.name:=⟨func427.trans (aR some ak),⟨_,func447,ak,ak,ak,ak⟩,jK,iQ,mG,ak,ajh,ajm⟩
def adg:=@OY _ _ _ _ _ _ _ _ bq azZ
theorem adh(H0:Hp b S w (aS bq 132 A c xs::F)){i j:Nat}(hij:i<j)(hj:j<=xs.length) :
    bS prog 372 #[.slice A xs.length c,aF (i:Int),aF (j:Int)] w λv w'=>v=.slice A (xs.take i++xs.drop j).length c/\Hp b S w' (aS bq 132 A c (xs.take i++xs.drop j)::F):=by
 refine sV func372 ntmps372 Y ?_;have WW:=(H0.o s0).bH;have hcap:=(H0.o s0).cap;refine iZ Y<|bQ Y<|mv Y<|mv Y<|mv Y<|ev (eU jK Y)<|ev (Ev.aui (lo:=i) (hi:=j) (mx:=xs.length) jK mG Y Y Y Y Y Y Y aj hj (H0.o s0).cap)<|dn<|aW<|bQ Y<|mv Y<|ev (iA Y Y)<|dn<|mQ Y (λhc16=>?_) (λhc16=>?_)
 ·omega
 refine jm ?_;refine bQ Y<|ev (eU jK Y)<|bU Y<|He H0 (λ_ K=>(K.rm s0)) (λl0 rk lJ wJ=>lJ=(0,.slice A ((xs.take i++xs.drop j).length) c)::l0/\Hp b S wJ (aS bq 132 A c (xs.take i++xs.drop j)::rk)) (λhns H1=>?_) ?_
 ·have k1:=(H1.rm s0);refine kX 0 Y Y k1<|kX 1 Y Y k1<|kX 3 Y Y k1<|kX 4 Y Y k1<|Jn H1 (λl0 rk lJ wJ=>lJ=(22,.slice A ((xs.take i).length) c)::(25,.slice (tQ A c j 5) ((xs.drop j).length) (c - j))::l0/\Hp b S wJ rk) 2 63 ?_ λhS1=>?_
  ·rintro _ w2 ⟨rfl,K2⟩;refine O1 6 Y<|abX (τ:=bq) (xs:=xs) (i:=i) (j:=j) K2 s0 Y Y jK ajh hij hj λw3 K3=>?_
   have k3:=(K3.rm s0);refine aQ k3<|xI 7 Y Y k3<|Dn ⟨Y,K3⟩ Y
  refine O2 2 5 Y Y ?_ ?_
  ·refine ev (F9 (hi:=i) (xs:=xs) jK mG Y Y Y aj (H1.o s0).cap)<|aQ k1<|O1 5 Y<|ev (Gf (lo:=j) (xs:=xs) jK mG Y Y Y aj (H1.o s0).cap)<|Kj hS1 k1 ⟨Y,H1⟩ Y
  ·refine ev (Gf (lo:=j) (xs:=xs) jK mG Y Y Y aj (H1.o s0).cap)<|aQ k1<|O1 2 Y<|ev (F9 (hi:=i) (xs:=xs) jK mG Y Y Y aj (H1.o s0).cap)<|Kj hS1 k1 ⟨Y,H1⟩ Y
 rintro _ w4 ⟨rfl,K4⟩;refine bQ Y<|mv Y<|ev (eU jK Y)<|mv Y ?_
 have hln:(xs.take i++xs.drop j).length+(j - i)=xs.length:=by simp only [jd,fO,kW]; omega
 refine ev (Ev.auj (lo:=(xs.take i++xs.drop j).length) (hi:=xs.length) jK mG Y Y Y Y Y aj hcap)<|aeR (τ:=bq) (m:=xs.length - (xs.take i++xs.drop j).length) K4 s0 Y jK ajm aj λw5 K5=>dn<|bQ Y<|bU Y<|jc Y ?_
 exact⟨Y,K5⟩
theorem PD(H0:Hp b S w (dP bq A c l::F)){fd:FuncId}{kd:List Value}(qd:bF prog fd)(p:aI->Bool)
    (hd:∀(w':World)(A':ah)(c':Nat)(ys:List aI)(x:aI),Hp b S w' (aS bq 132 A' c' ys::dP bq A c l::F)->bS prog fd ((VO x)++kd).toArray w' λv w''=>v=.bool (p x)/\Ext w' w'') (hn:l.length<=100000) :
    bS prog 226 #[.slice A l.length c,.func (.func fd) #[] kd.toArray] w λv w'=>∃ A0 c0,v=.slice A0 ((iC l).filter λx=>!p x).length c0/\Hp b S w' (aS bq 132 A0 c0 ((iC l).filter λx=>!p x)::dP bq A c l::F):=by
 refine sV func226 ntmps226 Y ?_;have hfl:=wN l;refine iZ Y<|bQ Y<|gX Y (RB _ (H0.s s0).any aj) ?_
 rintro _ w1 ⟨j6,kg,rfl,h1⟩;have K1:=H0.f1 h1;have Lj:=(K1.o s0).bH;refine mv Y<|gX Y (Ub (kd:=kd) K1 qd p (λw9 ys x9 _ K9=>hd w9 _ _ ys x9 K9) aj) ?_
 rintro _ w2 ⟨rfl,K2⟩;refine bU Y<|jc Y ?_
 exact⟨_,_,Y,K2⟩
theorem anq(w:World)(x:aI) :
    bS prog 227 #[.agg #[aF x.aC,aF x.aB,gK x.Sum,.bool x.gB,.bool x.Bad]] w λv w'=>v=.bool x.gB/\Hp w S0 w' []:=by
 refine kP S0 func227 ntmps227 Y λH0=>rg<|bx Y Y H0 λg1 w1 K1=>bU Y<|rg<|jT g1 3 uo K1 s0 Y<|bU Y<|jc Y ?_
 exact⟨Y,(K1.rm s0)⟩
theorem ajn(w:World)(x:aI){je:Nat}(c:Int)(h_c:Bx w je 3 [aF c]) :
    bS prog 385 #[.agg #[aF x.aC,aF x.aB,gK x.Sum,.bool x.gB,.bool x.Bad],gD je] w λv w'=>v=.bool (decide (x.aC=c)&&x.gB)/\Hp w S0 w' []:=by
 refine kP S0 func385 ntmps385 Y λH0=>rg<|bx Y Y H0 λg1 w1 K1=>bU Y<|rg<|jT g1 0 mM K1 s0 Y<|ev (dx jD Y (h_c.ext K1.ext) Y)<|ev (iA Y Y)<|mv Y<|iP 3 11 ((decide (x.aC=c))&&x.gB) ?_ ?_
 ·cases hb8:decide (x.aC=c) with
  | true=>
   refine wL g1 3 uo K1 s0 Y<|ev (dH Y Y)<|dM Y
  | false=>
   refine dN<|dN<|ev (dL Y Y)<|dM Y
 refine bU Y<|jc Y ?_
 have eO:(((decide (x.aC=c))&&x.gB):Bool)=(decide (x.aC=c)&&x.gB):=by rfl
 exact⟨by rw [eO] <;> rfl,(K1.rm s0)⟩
theorem aru(w:World)(x:aI){je:Nat}(c:Int)(h_c:Bx w je 3 [aF c]) :
    bS prog 343 #[.agg #[aF x.aC,aF x.aB,gK x.Sum,.bool x.gB,.bool x.Bad],gD je] w λv w'=>v=.bool (decide (x.aC=c)&&!x.gB)/\Hp w S0 w' []:=by
 refine kP S0 func343 ntmps343 Y λH0=>rg<|bx Y Y H0 λg1 w1 K1=>bU Y<|rg<|jT g1 0 mM K1 s0 Y<|ev (dx jD Y (h_c.ext K1.ext) Y)<|ev (iA Y Y)<|mv Y<|iP 4 12 ((decide (x.aC=c))&&(!x.gB)) ?_ ?_
 ·cases hb8:decide (x.aC=c) with
  | true=>
   refine wL g1 3 uo K1 s0 Y<|bn Y (iB Y) Y<|ev (dH Y Y)<|dM Y
  | false=>
   refine dN<|dN<|dN<|ev (dL Y Y)<|dM Y
 refine bU Y<|jc Y ?_
 have eO:(((decide (x.aC=c))&&(!x.gB)):Bool)=(decide (x.aC=c)&&!x.gB):=by rfl
 exact⟨by rw [eO] <;> rfl,(K1.rm s0)⟩
theorem agz(w:World)(jo:Sl bq S0 w jl jk l)(hn:l.length<=100000) :
    bS prog 141 #[.slice jl l.length jk] w λv w'=>∃(A0:ah)(c0:Nat),v=.slice A0 ((eY l).length) c0/\Hp w S0 w' [aS bq 132 A0 c0 (eY l)]:=by
 refine kP S0 func141 ntmps141 Y λH0=>iZ Y<|bQ Y ?_
 have H1:=H0.push (H0.a jo);refine gX Y (PD (kd:=[]) H1 azW (λx9=>x9.gB) (λw9 A9 c9 ys x9 K9=>(anq (S0:=Any) w9 x9).mono (by rintro _ w8 ⟨rfl,K8⟩; exact⟨rfl,K8.ext⟩)) aj) ?_;rintro _ w1 ⟨A_1,c_1,rfl,K1⟩;refine bU Y<|jc Y ?_
 have eO:(((iC l).filter λx9=>!(x9.gB)):List aI)=(eY l):=by rfl
 rw [eO] at K1;exact⟨A_1,c_1,by rw [eO] <;> rfl,(K1.rm s1)⟩
theorem anr(w:World)(jo:Sl bq S0 w jl jk l)(aL:Int)(hn:l.length<=100000) :
    bS prog 281 #[.slice jl l.length jk,aF aL] w λv w'=>∃(A0:ah)(c0:Nat),v=.slice A0 ((EA l aL).length) c0/\Hp w S0 w' [aS bq 132 A0 c0 (EA l aL)]:=by
 refine kP S0 func281 ntmps281 Y λH0=>rg<|bx Y Y H0 λg1 w1 K1=>bU Y<|bQ Y<|ev (rW Y) ?_
 have H1:=K1.push (K1.a jo);refine gX Y (PD (kd:=[gD g1]) H1 azX (λx9=>decide (x9.aC=aL)&&x9.gB) (λw9 A9 c9 ys x9 K9=>(ajn (S0:=Any) w9 x9 aL (K9.x s2)).mono (by rintro _ w8 ⟨rfl,K8⟩; exact⟨rfl,K8.ext⟩)) aj) ?_;rintro _ w2 ⟨A_2,c_2,rfl,K2⟩;refine bU Y<|jc Y ?_
 have eO:(((iC l).filter λx9=>!(decide (x9.aC=aL)&&x9.gB)):List aI)=(EA l aL):=by rfl
 rw [eO] at K2;exact⟨A_2,c_2,by rw [eO] <;> rfl,(K2.cU 1 2)⟩
abbrev NK:=(([]:List aI):List aI)
theorem avL(w:World)(jo:Sl bq S0 w jl jk l)(aL:Int)(hn:l.length<=100000) :
    bS prog 250 #[.slice jl l.length jk,aF aL] w λv w'=>∃(A0:ah)(c0:Nat),v=.tuple #[.slice A0 (((pz l aL).1).length) c0,aF ((pz l aL).2)]/\Hp w S0 w' [aS bq 132 A0 c0 ((pz l aL).1)]:=by
 refine kP S0 func250 ntmps250 Y λH0=>?_;have hfl:=wN l;refine rg<|bx Y Y H0 λg1 w1 K1=>iI Y<|bU Y<|aW<|He K1 (λ_ K=>K) (λl0 rk lJ wJ=>lJ=(7,.bool (P7 (iC l) aL false))::l0/\Hp w S0 wJ rk) (λhns H1=>?_) ?_
 ·refine kX 0 Y Y H1<|Ci 2 s0 Y H1<|O1 1 Y<|gX Y (RB _ (H1.a jo).any aj) ?_
  rintro _ w2 ⟨oo,oq,rfl,h2⟩;have K2:=H1.f1 h2;have Xc:=(K2.o s0).bH;have k1:=(K2.rm s0);refine aQ k1<|O1 3 Y<|mU K2 Y (MK _ (K2.o s0) aL false aj) λw3 K3=>?_
  have k2:=(K3.rm s0);refine aQ k2<|kX 4 Y Y k2<|zL 5 Y (vs:=[aF ((atR (iC l) aL false:Nat):Int),.bool (P7 (iC l) aL false)]) Y Y k2<|zL 6 Y (vs:=[aF ((atR (iC l) aL false:Nat):Int),.bool (P7 (iC l) aL false)]) Y Y k2<|xI 7 Y Y k2<|xI 8 Y Y k2<|Dn ⟨Y,(K3.rm s0)⟩ Y
 rintro _ w4 ⟨rfl,K4⟩;refine bQ Y<|ev (iB Y)<|dn<|bK Y (λhc16=>?_) (λhc16=>?_)
 ·try simp only [fq,dX,bN,eH,eG,fP,bO,bV,WB,false_or,sN,true_and,uO] at hc16
  refine rg<|iI Y<|bU Y<|uX Y ?_
  have H2:=K4.nil bq 132;have eO:NK=((pz l aL).1):=by unfold pz; rw [aK (by simpa using hc16)]
  have H3:=(eO▸H2:Hp w S0 w4 (aS bq 132 none 0 ((pz l aL).1)::[dY g1 3 [aF aL]]));have fQ:(5:Int)=((pz l aL).2):=by unfold pz; rw [aK (by simpa using hc16)]
  exact⟨none,0,by rw [<- eO,<- fQ] <;> rfl,(H3.rm s1)⟩
 try simp only [fq,dX,bN,eH,eG,fP,bO,bV,WB,false_or,sN,true_and,uO] at hc16
 refine jm ?_;refine bQ Y<|ev (rW Y) ?_
 have H4:=K4.push (K4.a jo);refine gX Y (PD (kd:=[gD g1]) H4 azY (λx9=>decide (x9.aC=aL)&&!x9.gB) (λw9 A9 c9 ys x9 K9=>(aru (S0:=Any) w9 x9 aL (K9.x s2)).mono (by rintro _ w8 ⟨rfl,K8⟩; exact⟨rfl,K8.ext⟩)) aj) ?_;rintro _ w5 ⟨A_5,c_5,rfl,K5⟩;refine iI Y<|bU Y<|jc Y ?_
 have jW:(((iC l).filter λx9=>!(decide (x9.aC=aL)&&!x9.gB)):List aI)=((pz l aL).1):=by unfold pz; rw [aO (by simpa using hc16)]
 rw [jW] at K5;have mH:(0:Int)=((pz l aL).2):=by unfold pz; rw [aO (by simpa using hc16)]
 exact⟨A_5,c_5,by rw [jW,<- mH] <;> rfl,(K5.cU 1 2)⟩
theorem akL(H0:Hp b S w (aS bq 132 jl jk l::F))(x:aI)(hn:l.length<=100000) :
    bS prog 371 #[.slice jl l.length jk,.agg #[aF x.aC,aF x.aB,gK x.Sum,.bool x.gB,.bool x.Bad]] w λv w'=>∃(A0:ah)(c0:Nat),v=.slice A0 ((Ae l x).length) c0/\Hp b S w' (aS bq 132 A0 c0 (Ae l x)::F):=by
 refine sV func371 ntmps371 Y ?_;have hat:=ajf l x.aC x.gB;refine rg<|bx Y Y H0 λg1 w1 K1=>bU Y<|bQ Y<|jT g1 0 mM K1 s0 Y<|jT g1 3 uo K1 s0 Y<|mU K1 Y (MK _ (K1.o s1) x.aC x.gB aj) λw2 K2=>mv Y<|xt Y Y<|xt Y Y<|iI Y<|bU Y<|aW<|bQ Y<|ev (iB Y)<|dn<|bK Y (λhc17=>?_) (λhc17=>?_)
 ·try simp only [fq,dX,bN,eH,eG,fP,bO,bV] at hc17
  refine jy<|mv Y<|mv Y<|ev (dU oZ Y Y (K2.x s0))<|Az (τ:=bq) (x:=x) Y (by intro _; apply aai) rfl K2 (λ_ _=>rfl) λg2 w3 K3=>gX rfl (adg (i:=atR l x.aC x.gB) K3 s2 s0 aj aj) ?_
  rintro _ w4 ⟨oL,oM,rfl,K4⟩;refine iI Y<|jA<|gG<|bQ Y<|mv Y<|ev (dU oZ Y Y (K4.x s1)) ?_
  obtain⟨x1,bP⟩:=bC (xs:=(l.take (atR l x.aC x.gB)++[x]++l.drop (atR l x.aC x.gB))) (i:=atR l x.aC x.gB) (by simp only [jd,fO,kW,pF,rH]; omega);refine ev (cu (i:=atR l x.aC x.gB) jK mG Y Y Y (aJ bP) ((K4.o s0).some_ bP))<|se (i:=atR l x.aC x.gB) (f:=0) (x:=x1) (x':=x) (ds:=[aF x.aC,aF x.aB,gK x.Sum,.bool x.gB,.bool x.Bad]) K4 s0 Y Y Y bP Y mG (pU Y) Y (by rintro _ _ _ ⟨⟩; rfl) λw5 K5=>?_
  have hl1:((l.take (atR l x.aC x.gB)++[x]++l.drop (atR l x.aC x.gB)).set (atR l x.aC x.gB) x).length=(l.take (atR l x.aC x.gB)++[x]++l.drop (atR l x.aC x.gB)).length:=gJ ..;refine fU (t:=0) (u:=.slice oL ((l.take (atR l x.aC x.gB)++[x]++l.drop (atR l x.aC x.gB)).length) oM) (v:=.slice oL (((l.take (atR l x.aC x.gB)++[x]++l.drop (atR l x.aC x.gB)).set (atR l x.aC x.gB) x).length) oM) Y (by rw [hl1])<|fU (t:=22) (u:=.slice oL ((l.take (atR l x.aC x.gB)++[x]++l.drop (atR l x.aC x.gB)).length) oM) (v:=.slice oL (((l.take (atR l x.aC x.gB)++[x]++l.drop (atR l x.aC x.gB)).set (atR l x.aC x.gB) x).length) oM) rfl (by rw [hl1])<|fU (t:=23) (u:=.slice oL ((l.take (atR l x.aC x.gB)++[x]++l.drop (atR l x.aC x.gB)).length) oM) (v:=.slice oL (((l.take (atR l x.aC x.gB)++[x]++l.drop (atR l x.aC x.gB)).set (atR l x.aC x.gB) x).length) oM) rfl (by rw [hl1]) ?_
  have kZ:((l.take (atR l x.aC x.gB)++[x]++l.drop (atR l x.aC x.gB)).set (atR l x.aC x.gB) x)[atR l x.aC x.gB]? = some x:=qb (aJ bP);refine dn<|bQ Y<|bU Y<|jc Y ?_
  have eO:(((l.take (atR l x.aC x.gB)++[x]++l.drop (atR l x.aC x.gB)).set (atR l x.aC x.gB) x):List aI)=(Ae l x):=by unfold Ae; rw [aK (by simpa using hc17)]; exact set_mid hat
  exact⟨oL,oM,by rw [<- eO] <;> rfl,by rw [<- eO]; exact(K5.rm s1)⟩
 try simp only [fq,dX,bN,eH,eG,fP,bO,bV] at hc17
 have hlt:=Pz (by simpa using hc17:P7 l x.aC x.gB=true);refine jm ?_;refine bQ Y<|mv Y<|ev (dU oZ Y Y (K2.x s0)) ?_
 obtain⟨x2,hx3⟩:=bC (xs:=l) (i:=atR l x.aC x.gB) aj;refine ev (cu (i:=atR l x.aC x.gB) jK mG Y Y Y (aJ hx3) ((K2.o s1).some_ hx3))<|se (i:=atR l x.aC x.gB) (f:=0) (x:=x2) (x':=x) (ds:=[aF x.aC,aF x.aB,gK x.Sum,.bool x.gB,.bool x.Bad]) K2 s1 Y Y Y hx3 Y mG (pU Y) Y (by rintro _ _ _ ⟨⟩; rfl) λw6 K6=>?_
 have hl2:(l.set (atR l x.aC x.gB) x).length=l.length:=gJ ..;refine fU (t:=0) (u:=.slice jl l.length jk) (v:=.slice jl ((l.set (atR l x.aC x.gB) x).length) jk) Y (by rw [hl2])<|fU (t:=8) (u:=.slice jl l.length jk) (v:=.slice jl ((l.set (atR l x.aC x.gB) x).length) jk) rfl (by rw [hl2])<|fU (t:=23) (u:=.slice jl l.length jk) (v:=.slice jl ((l.set (atR l x.aC x.gB) x).length) jk) rfl (by rw [hl2]) ?_
 refine dn<|bQ Y<|bU Y<|jc Y ?_
 have fQ:((l.set (atR l x.aC x.gB) x):List aI)=(Ae l x):=by unfold Ae; rw [aO (by simpa using hc17)]
 exact⟨jl,jk,by rw [<- fQ] <;> rfl,by rw [<- fQ]; exact(K6.rm s1)⟩
theorem ant(w:World)(jo:Sl bq S0 w jl jk l)(x:aI)(bM:Int)(hn:l.length<=100000) :
    bS prog 273 #[.slice jl l.length jk,.agg #[aF x.aC,aF x.aB,gK x.Sum,.bool x.gB,.bool x.Bad],aF bM] w λv w'=>∃(A0:ah)(c0:Nat),v=.tuple #[.slice A0 (((kN l x bM).1).length) c0,aF ((kN l x bM).2)]/\Hp w S0 w' [aS bq 132 A0 c0 ((kN l x bM).1)]:=by
 refine kP S0 func273 ntmps273 Y λH0=>?_;have hfl:=wN l;refine rg<|bx Y Y H0 λg1 w1 K1=>iI Y<|bU Y<|bQ Y<|gX Y (RB _ (K1.a jo).any aj) ?_
 rintro _ w2 ⟨oo,oq,rfl,h2⟩;have K2:=K1.f1 h2;have Xc:=(K2.o s0).bH;refine bU Y<|aW<|rg<|ev (dU oZ Y Y (K2.x s1))<|mU K2 Y (abf (S0:=Any) _ x) λw3 K3=>ev (iB Y)<|dn<|bK Y (λhc16=>?_) (λhc16=>?_)
 ·refine rg<|iI Y<|bU Y<|uX Y ?_
  have H1:=K3.nil bq 132;have eO:NK=((kN l x bM).1):=by unfold kN; rw [aO hc16]
  have H2:=(eO▸H1:Hp w S0 w3 (aS bq 132 none 0 ((kN l x bM).1)::[aS bq 132 oo oq (iC l),dY g1 132 [aF x.aC,aF x.aB,gK x.Sum,.bool x.gB,.bool x.Bad]]));have fQ:(1:Int)=((kN l x bM).2):=by unfold kN; rw [aO hc16]
  exact⟨none,0,by rw [<- eO,<- fQ] <;> rfl,(H2.cU 1 2)⟩
 refine jm ?_;refine bQ Y<|jT g1 0 mM K3 s1 Y<|mU K3 Y (MK _ (K3.o s0) x.aC false aj) λw4 K4=>mv Y<|xt Y Y<|xt Y Y<|iI Y<|bU Y<|bQ Y<|jT g1 0 mM K4 s1 Y<|mU K4 Y (MK _ (K4.o s0) x.aC true aj) λw5 K5=>mv Y<|xt Y Y<|xt Y Y<|iI Y<|bU Y<|aW<|cB ?_
 have hl1:=λh=>Pz (l:=iC l) (c:=x.aC) (t:=false) h;have hl2:=λh=>Pz (l:=iC l) (c:=x.aC) (t:=true) h;refine qo ak ak<|bA (bf Y) Y<|bA (bf Y) Y<|rJ 9 42 (Rz (Ba (iC l) x.aC false) x.aB) ?_ ?_
 ·cases ay3:P7 (iC l) x.aC false with
  | true=>
   have hl3:=hl1 ay3;refine eT Y (bf Y) Y<|eT Y (bf Y) Y ?_
   obtain⟨x1,bP⟩:=bC (xs:=iC l) (i:=atR (iC l) x.aC false) aj;refine eT Y (cu (i:=atR (iC l) x.aC false) jK mG Y Y Y (aJ bP) ((K5.o s0).some_ bP)) Y<|eT Y (dW sH Y (fH _ _ _)) Y<|eT Y (iL jD Y ((K5.o s0).fF (j:=1) bP Y)) Y<|eT Y (dW (q:=⟨g1,1,none⟩) sH Y Y) Y<|eT Y (dx jD Y (K5.x s1) Y) Y<|eT Y (qK Y Y) Y<|bA (dH Y Y) Y<|CY (t:=42) (u:=.bool (decide (x.aB<=x1.aB))) (v:=.bool (Rz (Ba (iC l) x.aC false) x.aB)) Y (aR Value.bool (by rw [HV (by assumption) bP]; rfl))<|j3 rfl
  | false=>
   refine dZ Y Y Y<|dZ Y Y Y<|dZ Y Y Y<|dZ Y Y Y<|dZ Y Y Y<|dZ Y Y Y<|dZ Y Y Y<|dZ Y Y Y<|bA (dL Y Y) Y<|CY (t:=42) (u:=.bool false) (v:=.bool (Rz (Ba (iC l) x.aC false) x.aB)) Y (aR Value.bool (by rw [RA (by assumption)]; rfl))<|j3 rfl
 refine bA (om Y) Y<|qp λw6 e6=>?_
 have K6:=K5.grow e6;refine bK Y (λhc31=>?_) (λhc31=>?_)
 ·refine rg<|iI Y<|bU Y<|Ox Y ?_
  have H3:=K6.nil bq 132;have jW:NK=((kN l x bM).1):=by unfold kN; rw [aK (by rw [hc16]; decide),aO hc31]
  have H4:=(jW▸H3:Hp w S0 w6 (aS bq 132 none 0 ((kN l x bM).1)::[aS bq 132 oo oq (iC l),dY g1 132 [aF x.aC,aF x.aB,gK x.Sum,.bool x.gB,.bool x.Bad]]));have mH:(9:Int)=((kN l x bM).2):=by unfold kN; rw [aK (by rw [hc16]; decide),aO hc31]
  exact⟨none,0,by rw [<- jW,<- mH] <;> rfl,(H4.cU 1 2)⟩
 refine qo ak ak<|bA (bf Y) Y<|bA (bf Y) Y<|rJ 9 54 (Rz (Ba (iC l) x.aC true) x.aB) ?_ ?_
 ·cases aCg:P7 (iC l) x.aC true with
  | true=>
   have hl3:=hl2 aCg;refine eT Y (bf Y) Y<|eT Y (bf Y) Y ?_
   obtain⟨x2,kZ⟩:=bC (xs:=iC l) (i:=atR (iC l) x.aC true) aj;refine eT Y (cu (i:=atR (iC l) x.aC true) jK mG Y Y Y (aJ kZ) ((K6.o s0).some_ kZ)) Y<|eT Y (dW sH Y (fH _ _ _)) Y<|eT Y (iL jD Y ((K6.o s0).fF (j:=1) kZ Y)) Y<|eT Y (dW (q:=⟨g1,1,none⟩) sH Y Y) Y<|eT Y (dx jD Y (K6.x s1) Y) Y<|eT Y (qK Y Y) Y<|bA (dH Y Y) Y<|CY (t:=54) (u:=.bool (decide (x.aB<=x2.aB))) (v:=.bool (Rz (Ba (iC l) x.aC true) x.aB)) Y (aR Value.bool (by rw [HV (by assumption) kZ]; rfl))<|j3 rfl
  | false=>
   refine dZ Y Y Y<|dZ Y Y Y<|dZ Y Y Y<|dZ Y Y Y<|dZ Y Y Y<|dZ Y Y Y<|dZ Y Y Y<|dZ Y Y Y<|bA (dL Y Y) Y<|CY (t:=54) (u:=.bool false) (v:=.bool (Rz (Ba (iC l) x.aC true) x.aB)) Y (aR Value.bool (by rw [RA (by assumption)]; rfl))<|j3 rfl
 refine bA (om Y) Y<|qp λw7 e7=>?_
 have K7:=K6.grow e7;refine bK Y (λxE=>?_) (λxE=>?_)
 ·refine rg<|iI Y<|bU Y<|Ox Y ?_
  have H5:=K7.nil bq 132;have rR:NK=((kN l x bM).1):=by unfold kN; rw [aK (by rw [hc16]; decide),aK (by rw [hc31]; decide),aO xE]
  have H6:=(rR▸H5:Hp w S0 w7 (aS bq 132 none 0 ((kN l x bM).1)::[aS bq 132 oo oq (iC l),dY g1 132 [aF x.aC,aF x.aB,gK x.Sum,.bool x.gB,.bool x.Bad]]));have wM:(6:Int)=((kN l x bM).2):=by unfold kN; rw [aK (by rw [hc16]; decide),aK (by rw [hc31]; decide),aO xE]
  exact⟨none,0,by rw [<- rR,<- wM] <;> rfl,(H6.cU 1 2)⟩
 refine bQ Y<|ev (iB Y)<|mv Y<|iP 5 63 ((!(P7 (iC l) x.aC true))&&(decide (bM<=(((iC l).length:Nat):Int)))) ?_ ?_
 ·cases aM7:(!(P7 (iC l) x.aC true)) with
  | true=>
   refine bn Y (bf Y) Y<|bn Y (eU jK Y) Y<|bn Y (bf Y) Y<|bn Y (qK Y Y) Y<|ev (dH Y Y)<|dM Y
  | false=>
   refine dN<|dN<|dN<|dN<|ev (dL Y Y)<|dM Y
 refine bU Y<|bK Y (λarv=>?_) (λarv=>?_)
 ·refine rg<|iI Y<|bU Y<|Ox Y ?_
  have H7:=K7.nil bq 132;have zk:NK=((kN l x bM).1):=by unfold kN; rw [aK (by rw [hc16]; decide),aK (by rw [hc31]; decide),aK (by rw [xE]; decide),aO arv]
  have H8:=(zk▸H7:Hp w S0 w7 (aS bq 132 none 0 ((kN l x bM).1)::[aS bq 132 oo oq (iC l),dY g1 132 [aF x.aC,aF x.aB,gK x.Sum,.bool x.gB,.bool x.Bad]]));have hq8:(7:Int)=((kN l x bM).2):=by unfold kN; rw [aK (by rw [hc16]; decide),aK (by rw [hc31]; decide),aK (by rw [xE]; decide),aO arv]
  exact⟨none,0,by rw [<- zk,<- hq8] <;> rfl,(H8.cU 1 2)⟩
 refine xQ ?_;refine rg<|yA g1 3 uo Y<|xP Y K7 s1 Y λw8 K8=>yA g1 4 agw Y<|xP Y K8 s0 Y λw9 K9=>dn<|bQ Y<|ev (dU oZ Y Y (K9.x s0))<|gX Y (akL ((K9.sel s0).sel s1) (⟨x.aC,x.aB,x.Sum,true,false⟩:aI) aj) ?_
 rintro _ Oz ⟨LK,LP,rfl,K10⟩;refine iI Y<|bU Y<|jc Y ?_
 have AJ:((Ae (iC l) (⟨x.aC,x.aB,x.Sum,true,false⟩:aI)):List aI)=((kN l x bM).1):=by unfold kN; rw [aK (by rw [hc16]; decide),aK (by rw [hc31]; decide),aK (by rw [xE]; decide),aK (by rw [arv]; decide)]
 rw [AJ] at K10;have r9:(0:Int)=((kN l x bM).2):=by unfold kN; rw [aK (by rw [hc16]; decide),aK (by rw [hc31]; decide),aK (by rw [xE]; decide),aK (by rw [arv]; decide)]
 exact⟨LK,LP,by rw [AJ,<- r9] <;> rfl,(K10.rm s1)⟩
theorem ajo(w:World)(jo:Sl bq S0 w jl jk l)(aL:Int)(bR:Int)(hn:l.length<=100000) :
    bS prog 274 #[.slice jl l.length jk,aF aL,aF bR] w λv w'=>∃(A0:ah)(c0:Nat),v=.tuple #[.slice A0 (((mF l aL bR).1).length) c0,aF ((mF l aL bR).2)]/\Hp w S0 w' [aS bq 132 A0 c0 ((mF l aL bR).1)]:=by
 refine kP S0 func274 ntmps274 Y λH0=>?_;have hfl:=wN l;refine rg<|iI Y<|bU Y<|bQ Y<|gX Y (RB _ (H0.a jo).any aj) ?_
 rintro _ w1 ⟨j6,kg,rfl,h1⟩;have K1:=H0.f1 h1;have Lj:=(K1.o s0).bH;refine bU Y<|bQ Y<|mv Y<|mU K1 Y (MK _ (K1.o s0) aL true aj) λw2 K2=>mv Y<|xt Y Y<|xt Y Y<|iI Y<|bU Y<|aW ?_
 have hl2:=λh=>Pz (l:=iC l) (c:=aL) (t:=true) h;refine bQ Y<|ev (iB Y)<|mv Y<|iP 8 29 (aje (Ba (iC l) aL true) bR) ?_ ?_
 ·cases Vb:(!(P7 (iC l) aL true)) with
  | true=>
   refine dN<|dN<|dN<|dN<|dN<|dN<|dN<|ev (dH Y Y)<|fU (t:=29) (u:=.bool true) (v:=.bool (aje (Ba (iC l) aL true) bR)) Y (aR Value.bool (by rw [RA (by simpa using Vb)]; rfl))<|dM rfl
  | false=>
   have hl3:=hl2 (by simpa using Vb);refine bn Y (bf Y) Y<|bn Y (bf Y) Y ?_
   obtain⟨x1,bP⟩:=bC (xs:=iC l) (i:=atR (iC l) aL true) aj;refine bn Y (cu (i:=atR (iC l) aL true) jK mG Y Y Y (aJ bP) ((K2.o s0).some_ bP)) Y<|bn Y (dW sH Y (fH _ _ _)) Y<|bn Y (iL jD Y ((K2.o s0).fF (j:=1) bP Y)) Y<|bn Y (bf Y) Y<|bn Y (nQ Y Y) Y<|ev (dL Y Y)<|fU (t:=29) (u:=.bool (!decide (x1.aB=bR))) (v:=.bool (aje (Ba (iC l) aL true) bR)) Y (aR Value.bool (by rw [HV (by simpa using Vb) bP]; rfl))<|dM rfl
 refine dn<|bK Y (λhc29=>?_) (λhc29=>?_)
 ·refine rg<|iI Y<|bU Y<|uX Y ?_
  have H1:=K2.nil bq 132;have eO:NK=((mF l aL bR).1):=by unfold mF; rw [aO hc29]
  have H2:=(eO▸H1:Hp w S0 w2 (aS bq 132 none 0 ((mF l aL bR).1)::[aS bq 132 j6 kg (iC l)]));have fQ:(5:Int)=((mF l aL bR).2):=by unfold mF; rw [aO hc29]
  exact⟨none,0,by rw [<- eO,<- fQ] <;> rfl,(H2.rm s1)⟩
 obtain⟨y,hy1,hy2,hy3,hy4⟩:=agu hc29;have hl3:=aJ hy2;refine jm ?_;refine bQ Y<|mv Y ?_
 obtain⟨x2,kZ⟩:=bC (xs:=iC l) (i:=atR (iC l) aL true) aj;refine ev (cu (i:=atR (iC l) aL true) jK mG Y Y Y (aJ kZ) ((K2.o s0).some_ kZ))<|ev (gI oZ Y Y ((K2.o s0).fE kZ))<|al yj Y K2 λg1 w3 K3=>sty Y K3 s0 Y λw4 K4=>dn<|rg<|yA g1 3 uo Y<|xP Y K4 s0 Y λw5 K5=>dn<|He K5 (λ_ K=>(K.rm s1)) (λl0 rk lJ wJ=>∃(jR:ah)(jO:Nat),lJ=(6,.slice jR ((Ae ((iC l).take (atR (iC l) aL true)++(iC l).drop (atR (iC l) aL true+1)) (⟨x2.aC,x2.aB,x2.Sum,false,x2.Bad⟩:aI)).length) jO)::l0/\Hp w S0 wJ (aS bq 132 jR jO (Ae ((iC l).take (atR (iC l) aL true)++(iC l).drop (atR (iC l) aL true+1)) (⟨x2.aC,x2.aB,x2.Sum,false,x2.Bad⟩:aI))::rk)) (λhns H3=>?_) ?_
 ·have k1:=(H3.rm s1);refine kX 0 Y Y k1<|kX 1 Y Y k1<|kX 2 Y Y k1<|lD 3 Y (λ_ _=>dO Y Y) k1<|lD 5 Y (λ_ hK=>dU oZ Y Y (hK.x s0)) k1<|O1 4 Y<|gX Y (adh (i:=atR (iC l) aL true) (j:=atR (iC l) aL true+1) (H3.sel s1) aj aj) ?_
  rintro _ w6 ⟨rfl,K6⟩;have k2:=(K6.rm s0);refine aQ k2<|O1 6 Y<|gX Y (akL K6 (⟨x2.aC,x2.aB,x2.Sum,false,x2.Bad⟩:aI) (by simp only [jd,fO,kW]; omega)) ?_
  rintro _ w7 ⟨avo,avp,rfl,K7⟩;have k3:=(K7.rm s0);refine aQ k3<|xI 7 Y Y k3<|xI 8 Y Y k3<|Dn ⟨avo,avp,Y,K7⟩ Y
 rintro _ w8 ⟨jR,jO,rfl,K8⟩;refine jc Y ?_;have jW:((Ae ((iC l).take (atR (iC l) aL true)++(iC l).drop (atR (iC l) aL true+1)) (⟨x2.aC,x2.aB,x2.Sum,false,x2.Bad⟩:aI)):List aI)=((mF l aL bR).1):=by rw [hy2] at kZ; cases kZ; unfold mF; rw [aK (by rw [hc29]; decide),hy4]; rfl
 rw [jW] at K8;have mH:(0:Int)=((mF l aL bR).2):=by unfold mF; rw [aK (by rw [hc29]; decide)]
 exact⟨jR,jO,by rw [jW,<- mH] <;> rfl,(K8.rm s1)⟩
section
variable {P:Program}{n:Cx}{l:List (Nat × Value)}{w:World}{t ty d e:TypeId}{x y:Operand}
theorem bvI{k:Nat}(a:BitVec k):BitVec.ofInt k (a.toNat:Int)=a:=by rw [BitVec.ofInt_natCast]; simp
theorem w32(a:BitVec 32):IntKind.u32.wrap (a.toNat:Int)=(a.toNat:Int):=by rw [adf]; have:=a.isLt; omega
theorem w8(a:BitVec 8):IntKind.u8.wrap (a.toNat:Int)=(a.toNat:Int):=by rw [IntKind.wrap_u8]; have:=a.isLt; omega
theorem Ev.akM{b:BitVec 32}(hx:iG l x=some (gK (a.toNat:Int)))(hy:iG l y=some (gK (b.toNat:Int))):Ev P n l w (.binOp .xor t x y ty) (gK ((a ^^^ b).toNat:Int)):=
  qG hx hy (Bd ..) λw=>by
    have h:(binOp .xor t (gK (a.toNat:Int)) (gK (b.toNat:Int))).run P w=.ok (gK (IntKind.u32.wrap (((BitVec.ofInt 32 (a.toNat:Int) ^^^ BitVec.ofInt 32 (b.toNat:Int)).toNat:Nat):Int))) w:=rfl;rw [h,bvI,bvI,w32]
theorem Ev.akN{b:BitVec 32}(hx:iG l x=some (gK (a.toNat:Int)))(hy:iG l y=some (gK (b.toNat:Int))):Ev P n l w (.binOp .and t x y ty) (gK ((a&&& b).toNat:Int)):=
  qG hx hy (Bd ..) λw=>by
    have h:(binOp .and t (gK (a.toNat:Int)) (gK (b.toNat:Int))).run P w=.ok (gK (IntKind.u32.wrap (((BitVec.ofInt 32 (a.toNat:Int)&&& BitVec.ofInt 32 (b.toNat:Int)).toNat:Nat):Int))) w:=rfl;rw [h,bvI,bvI,w32]
theorem Ev.aHO{a b:BitVec 8}(hx:iG l x=some (.int .u8 (a.toNat:Int)))(hy:iG l y=some (.int .u8 (b.toNat:Int))):Ev P n l w (.binOp .xor t x y ty) (.int .u8 ((a ^^^ b).toNat:Int)):=
  qG hx hy (Bd ..) λw=>by
    have h:(binOp .xor t (.int .u8 (a.toNat:Int)) (.int .u8 (b.toNat:Int))).run P w=.ok (.int .u8 (IntKind.u8.wrap (((BitVec.ofInt 8 (a.toNat:Int) ^^^ BitVec.ofInt 8 (b.toNat:Int)).toNat:Nat):Int))) w:=rfl;rw [h,bvI,bvI,w8]
theorem Ev.axV(hx:iG l x=some (gK (a.toNat:Int))):Ev P n l w (.unOp .xor t x) (gK ((~~~ a).toNat:Int)):=λo a' w' ho ha _=>by
  unfold execOp; rw [ho];have h:(Op.unary .xor (gK (a.toNat:Int))).run P w'=.ok (gK (IntKind.u32.wrap (((BitVec.ofInt 32 IntKind.u32.max ^^^ BitVec.ofInt 32 (a.toNat:Int)).toNat:Nat):Int))) w':=rfl;have e:BitVec.ofInt 32 IntKind.u32.max=BitVec.allOnes 32:=au;rw [bvI,e,BitVec.allOnes_xor,w32] at h
  simp [ha.eval hx,h]
theorem Ev.aDc(hx:iG l x=some (gK (a.toNat:Int))):Ev P n l w (.unOp .neg t x) (gK ((-a).toNat:Int)):=λo a' w' ho ha _=>by
  unfold execOp; rw [ho];have h:(Op.unary .neg (gK (a.toNat:Int))).run P w'=.ok (gK (IntKind.u32.wrap (0 - (a.toNat:Int)))) w':=rfl
  have e:IntKind.u32.wrap (0 - (a.toNat:Int))=((-a).toNat:Int):=by
    rw [adf,BitVec.toNat_neg]; have:=a.isLt; omega
  rw [e] at h
  simp [ha.eval hx,h]
theorem Ev.arw(hx:iG l x=some (gK (a.toNat:Int)))(hy:iG l y=some (.int k (c:Int)))(hc:c<=32):Ev P n l w (.binOp .shr t x y ty) (gK ((a >>> c).toNat:Int)):=
  qG hx hy (Bd ..) λw=>by
    have h:(binOp .shr t (gK (a.toNat:Int)) (.int k (c:Int)))=Op.shift .shr .u32 (a.toNat:Int) k (c:Int):=rfl;rw [h,shift_shr_any _ _ _ _ aj,ajj,ajk];have e:min (c:Int).toNat IntKind.u32.bits=c:=by show min (c:Int).toNat 32=c; omega
    rw [e]; norm_cast
theorem Ev.aHP{a:BitVec 8}(hx:iG l x=some (.int .u8 (a.toNat:Int)))(hy:iG l y=some (.int k (c:Int)))(hc:c<=8):Ev P n l w (.binOp .shl t x y ty) (.int .u8 ((a <<< c).toNat:Int)):=
  qG hx hy (Bd ..) λw=>by
    have h:(binOp .shl t (.int .u8 (a.toNat:Int)) (.int k (c:Int)))=Op.shift .shl .u8 (a.toNat:Int) k (c:Int):=rfl;have e:min (c:Int).toNat IntKind.u8.bits=c:=by show min (c:Int).toNat 8=c; omega
    have e2:((a.toNat:Int)*2 ^ c) % 256=((a.toNat*2 ^ c % 2 ^ 8:Nat):Int):=by rw [Int.natCast_emod,Int.natCast_mul,Int.natCast_pow]; rfl
    rw [h,shift_shl_any _ _ _ _ aj,e,IntKind.wrap_u8,ajl,Yy,e2]; rfl
theorem Ev.arx{a:BitVec 8}(hs:(P.underlying t).isSome=true)(hd:P.underlying d=some (.int (P.intKind d)))(hk:P.intKind d=.u32)(hx:iG l x=some (.int .u8 (a.toNat:Int))):Ev P n l w (.convert t d x) (gK ((a.setWidth 32).toNat:Int)):=by
  have:=Ir (P:=P) (n:=n) (w:=w) hs hd hk hx
  rwa [show IntKind.u32.wrap (a.toNat:Int)=((a.setWidth 32).toNat:Int) from by rw [adf,BitVec.toNat_setWidth]; have:=a.isLt; omega] at this
theorem Ev.avM(hs:(P.underlying t).isSome=true)(hd:P.underlying d=some (.int (P.intKind d)))(hk:P.intKind d=.u32)(hx:iG l x=some (.int k (m:Int))):Ev P n l w (.convert t d x) (gK ((BitVec.ofNat 32 m).toNat:Int)):=by
  have:=Ir (P:=P) (n:=n) (w:=w) hs hd hk hx
  rwa [show IntKind.u32.wrap (m:Int)=((BitVec.ofNat 32 m).toNat:Int) from by rw [adf,BitVec.toNat_ofNat]; omega] at this
theorem Ev.aM8(hx:iG l x=some (aF (m:Int)))(hy:iG l y=some (.int k (c:Int)))(hc:c<=64):Ev P n l w (.binOp .shr t x y ty) (aF ((m / 2 ^ c:Nat):Int)):=
  qG hx hy (Bd ..) λw=>by
    have h:(binOp .shr t (aF (m:Int)) (.int k (c:Int)))=Op.shift .shr .i64 (m:Int) k (c:Int):=rfl;have e:min (c:Int).toNat IntKind.i64.bits=c:=by show min (c:Int).toNat 64=c; omega
    rw [h,shift_shr_any _ _ _ _ aj,e]; norm_cast
theorem Ev.aDd(hx:iG l x=some (aF z))(hy:iG l y=some (.int k (c:Int)))(hc:c<=64):Ev P n l w (.binOp .shr t x y ty) (aF (z / 2 ^ c)):=
  qG hx hy (Bd ..) λw=>by
    have h:(binOp .shr t (aF z) (.int k (c:Int)))=Op.shift .shr .i64 z k (c:Int):=rfl;have e:min (c:Int).toNat IntKind.i64.bits=c:=by show min (c:Int).toNat 64=c; omega
    rw [h,shift_shr_any _ _ _ _ aj,e]; rfl
theorem Ev.aHQ{a:Nat}(hx:iG l x=some (aF (a:Int)))(hy:iG l y=some (aF z))(hz:z=(c:Int))(hc:0<c)(ha:a<=9223372036854775807):Ev P n l w (.binOp .quo t x y ty) (aF ((a / c:Nat):Int)):=by
  subst hz;have e:(a:Int).tdiv (c:Int)=((a / c:Nat):Int):=rfl;have hq:∀ q:Nat,q<=a->I64 (q:Int):=λq hq=>wQ aj aj;have h2:=Ev.quo (P:=P) (n:=n) (w:=w) (t:=t) (ty:=ty) hx hy aj (by rw [e]; exact hq _ (Nat.div_le_self a c))
  rwa [e] at h2
theorem Ev.aDe{a:Nat}(hx:iG l x=some (aF (a:Int)))(hy:iG l y=some (aF z))(hz:z=(c:Int))(hc:0<c)(ha:a<=9223372036854775807):Ev P n l w (.binOp .rem t x y ty) (aF ((a % c:Nat):Int)):=
  qG hx hy (Bd ..) λw=>by
    subst hz;have e:((a % c:Nat):Int)=(a:Int).tmod (c:Int):=rfl;have hc2:c≠0:=aj;rw [e]
    simp [binOp,Op.intDiv,hc2]
theorem Ev.az1{len i g:Nat}(hu:P.underlying t=some (.array len e))(hs:Size P e 1)(hx:iG l x=some (gD g))(hy:iG l y=some (.int k z))(hz:z=(i:Int))(hi:i<len):Ev P n l w (.indexAddr t x y) (.pointer (some ⟨g,i,none⟩)):=λo a w' ho ha _=>by
  unfold execOp; rw [ho];have h1:P.arrayLen t=len:=by simp [Program.arrayLen,hu]
  have h2:P.elem t=e:=by simp [Program.elem,hu]
  have h3:(Instr.indexAt t (gD g) (.int k z)).run P w'=.ok (.pointer (some ⟨g,i,none⟩)) w':=by
    rw [run_indexAt_array w' t _ k z (by rw [h1,h2]; exact hu),hz,aO ⟨aj,by rw [h1]; omega⟩,h2,hs w']
    simp [Addr.add]
    intro h; exact h.symm
  simp [ha.eval hx,ha.eval hy,h3]
theorem arz(hu:P.underlying t=some (.pointer e)):P.underlying t=some (.pointer (P.pointee t)):=by
  have h:P.pointee t=e:=by simp [Program.pointee,hu]
  rw [h]; exact hu
theorem Ev.agA{p:ah}(hu:P.underlying t=some (.pointer e))(hx:iG l x=some (.pointer p))(hy:iG l y=some (.pointer none)):Ev P n l w (.binOp .eql t x y ty) (.bool p.isNone):=
  qG hx hy (eqGuard_at_pointer ..) λw=>run_eql_pointer_nil w t p (arz hu)
theorem Ev.pnn{p:ah}(hu:P.underlying t=some (.pointer e))(hx:iG l x=some (.pointer p))(hy:iG l y=some (.pointer none)):Ev P n l w (.binOp .neq t x y ty) (.bool (!p.isNone)):=
  qG hx hy (eqGuard_at_pointer ..) λw=>run_neq_pointer_nil w t p (arz hu)
theorem Ev.aHR{f:Fn}{azv cs:Array Value}{vr:Bool}(hu:P.underlying t=some (.func ps rs' vr))(hx:iG l x=some (.func f azv cs)):Ev P n l w (.binOp .eql t x (.const .nilFunc) ty) (.bool false):=
  qG hx rfl (eqGuard_at_func ..) λw=>by
    have h:(Op.equal t (.func f azv cs) .nilFunc).run P w=.ok false w:=UE 9999 hu
    simp only [binOp]
    simp [h]
def yX:=@Ev.aHR
theorem Ev.aHS{vr:Bool}(hu:P.underlying t=some (.func ps rs' vr))(hx:iG l x=some .nilFunc):Ev P n l w (.binOp .eql t x (.const .nilFunc) ty) (.bool true):=
  qG hx rfl (eqGuard_at_nilFunc ..) λw=>by
    have h:(Op.equal t .nilFunc .nilFunc).run P w=.ok true w:=UF 9999 hu
    simp only [binOp]
    simp [h]
end
section
variable {P:Program}{n:Cx}{l:List (Nat × Value)}{b w:World}{S:Nat->Prop}{rs rest:List lH}{Q:Exit->Act->World->Prop}{K:Act->World->Prop}{dh:Array Oper}{os:List Oper}{ty:TypeId}{pos:String}{mI:Array Edge}{d:Nat}
theorem aaj{g o:Nat}{t':TypeId}{cs ds:List Value}(hs:Size P t ds.length)(hb:Bx w g t' cs)(hl:o+ds.length<=cs.length)(h1:∀ u∈ds,u.oneCell'=true){v:Value}(hv:v.cells=ds.toArray) :
    (Instr.storeAt t (.pointer (some ⟨g,o,none⟩)) v).run P w=.ok () (w.setRow g (cs.take o++ds++cs.drop (o+ds.length)).toArray):=by
  have hst:=Sz P g o t' ds 0 cs.toArray w hb (by simpa using hl) h1
  simp only [Instr.storeAt,Instr.sureAddr,storeVar,hv,jF,kL,jG,hs w]
  simp only [OM,ne_eq,not_true_eq_false,if_false,jF,kL,jG]
  rw [hst]
  simp
theorem stp{t':TypeId}{x y:Operand}{g o:Nat}{v:Value}{cs ds cs':List Value}(hx:iG l x=some (.pointer (some ⟨g,o,none⟩)))(hy:iG l y=some v)(hv:v.cells=ds.toArray)(hs:Size P t ds.length)(H:Hp b S w rs)(s:pE rs (dY g t' cs) rest)(hl:Nat.ble (o+ds.length) cs.length=true)(h1:ds.all (λu=>u.oneCell')=true)(hc:cs.take o++ds++cs.drop (o+ds.length)=cs')
    (k:∀ w',Hp b S w' (dY g t' cs'::rest)->WL P n dh Q K os l w'):WL P n dh Q K (⟨none,.store t x y,ty,pos,mI,none⟩::os) l w:=
  Qf (λa _=>gH a) rfl (R:=λw'=>w'=w.setRow g (cs.take o++ds++cs.drop (o+ds.length)).toArray) (λa ha=>⟨_,by
    unfold execOp; simp [ha.eval hx,ha.eval hy,aaj (P:=P) hs (H.x s) (pU hl) (λu hu=>lI.1 h1 u hu) hv],rfl⟩) λw' e=>by
    subst e; subst hc;exact k _ ((H.sel s).put (r':=dY g t' (cs.take o++ds++cs.drop (o+ds.length))) (Wr.ah2 (g:=g) ⟨Y,Y,Y,av,λk _ hn=>setRow_other w g k _ hn,kV _⟩ rfl) (λg hg=>.inl hg) (KO w g cs.toArray _ t' (0,0) (H.x s)))
theorem WL.az2{o:Oper}{v:Value}(hw:∀ a,Has n l a->Region.wanted o (yielded dh a.tmps)=true)(hdst:o.dst=none){R:World->Prop}
    (hrun:∀ a,Has n l a->∃ w',(execOp a.eval o).run P w=.ok (.value v) w'/\R w') (k:∀ w',R w'->WL P n dh Q K os l w'):WL P n dh Q K (o::os) l w:=by
  intro a ha;obtain⟨w',hr,hR⟩:=hrun a ha;unfold Wj;rw [aO (hw a ha)];refine Nl hr ?_;rw [hdst];exact k w' hR a ha
end
section
variable {P:Program}{n:Cx}{l:List (Nat × Value)}{w:World}{Q:Exit->Act->World->Prop}{K:Act->World->Prop}{dh:Array Oper}{os:List Oper}{ty:TypeId}{pos:String}{mI:Array Edge}{d:Nat}{KH:Operand}{args:List Operand}{tys:Array TypeId}{f:FuncId}{fs caps vs all:List Value}{R:Value->World->Prop}
theorem Ev.aDf{xs ys:List Operand}(hx:EW l xs=some fs)(hy:EW l ys=some caps):Ev P n l w (.makeFunc (.func f) xs.toArray ys.toArray) (.func (.func f) fs.toArray caps.toArray):=λo a w' ho ha _=>by
  have h1:=ha.UA hx;have h2:=ha.UA hy;unfold execOp; rw [ho]
  simp only [tO,h1,h2]
  rfl
def yY:=@Ev.aDf
theorem anu{a:Act}{o:Oper}(ho:o.op=.call ⟨.value KH,args.toArray,tys⟩)(ha:Has n l a)
    (hf:iG l KH=some (.func (.func f) fs.toArray caps.toArray)) (hargs:EW l args=some vs) (hall:fs++vs++caps=all) (hc:bF P f) (w:World):(execOp a.eval o).run P w=.ok (.enter f all.toArray) w:=by
  unfold execOp;rw [ho];have h1:=ha.eval hf;have h2:=ha.UA hargs
  simp only [resolve,h1,Deferred.ofValue,jF,kL,jG,invoke]
  have:(fs.toArray++Array.map a.eval args.toArray++caps.toArray:Array Value)=all.toArray:=by
    rw [tO,h2,<- hall]; simp
  rw [this];exact hc _ w
theorem WL.aDg(hf:iG l KH=some (.func (.func f) fs.toArray caps.toArray))(hargs:EW l args=some vs)(hall:fs++vs++caps=all)(D5:bF P f)(hc:bS P f all.toArray w R)(hd:Nat.blt d n.size=true)
    (k:∀ v w',R v w'->WL P n dh Q K os ((d,v)::l) w'):WL P n dh Q K (⟨some d,.call ⟨.value KH,args.toArray,tys⟩,ty,pos,mI,none⟩::os) l w:=
  λa ha=>Wt (gH a) (anu rfl ha hf hargs hall D5 w) hc λv w' hv=>k v w' hv _ (ha.put hd v)
def Jv:=@WL.aDg
end
section
variable {P:Program}{n:Cx}{l:List (Nat × Value)}{w:World}{Q:Exit->Act->World->Prop}
theorem cT{c:Operand}{x y z:Code}(hc:iG l c=some (.bool true))(h:WP P n x l w (Exit.then (Ot P n z Q) Q)):WP P n (.seq (.cond c x y) z) l w Q:=WP.cond hc (λ_=>h) (λh=>by cases h)
theorem cF{c:Operand}{x y z:Code}(hc:iG l c=some (.bool false))(h:WP P n y l w (Exit.then (Ot P n z Q) Q)):WP P n (.seq (.cond c x y) z) l w Q:=WP.cond hc (λh=>by cases h) (λ_=>h)
def RN(P:Program)(n:Cx)(c:Code)(Q:Exit->Act->World->Prop)(m:Nat)(l:List (Nat × Value))(w:World):Prop:=∀ a,Has n l a->Code.roundsIn n.fence 0 P c Q m a w
theorem Rn(m:Nat){c:Code}(h:RN P n c Q m l w):WP P n (.loop c) l w Q:=λa ha=>wpIn_loop_rounds m (h a ha)
theorem RN.s{c:Code}(h:WP P n c l w (Exit.then (Code.roundsIn n.fence 0 P c Q m) Q)):RN P n c Q (m+1) l w:=h
theorem l8.rnd{c:Code}(h:RN P n c Q m l w):l8 n (Exit.then (Code.roundsIn n.fence 0 P c Q m) Q) .normal l w:=h
end
end Go.Proofs.YtlhnnmlenkahlaaGreat
