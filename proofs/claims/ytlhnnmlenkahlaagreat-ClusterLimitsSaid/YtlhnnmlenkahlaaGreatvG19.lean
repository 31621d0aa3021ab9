/- Lemmas. -/
import Derived.Laws.MathBits
import Derived.LoopNIn
import Derived.Test.YtlhnnmlenkahlaaGreatvG18
import Derived.Test.YtlhnnmlenkahlaaGreatvG4
set_option maxRecDepth 4000
set_option linter.all false
namespace Go.Proofs.YtlhnnmlenkahlaaGreat
open Go.RowKit Go.Proofs.Tryz
def aaz:=@IntKind.wrap_u32
variable {S0 S:Nat->Prop}{u7 A jl:ah}{yV:List Value}{b w:World}{F:List lC}{c jg m:Nat}{xs l:List aH}{a:BitVec 32}{k:IntKind}{z:Int}{t e:TypeId}{ps rs':Array TypeId}
theorem agt:tT prog 132 5 24:=by
  obtain⟨i,h1,h2,h3,h4⟩:=rT (show(prog.info? 132).map (λi=>(i.zero,i.size,i.bytes))=some (some (.agg #[aD 0,aD 0,fT 0,.bool false,.bool false]),5,24) by kernel_rfl);exact⟨i,_,h1,h2,h3,h4,Y,λv hv=>mZ.1 (show(Value.cells (.agg #[aD 0,aD 0,fT 0,.bool false,.bool false])).toList.all (λv=>v.oneCell')=true from Y) v hv⟩
theorem avy:bI prog 227:=ay
theorem avz:bI prog 385:=ay
theorem avA:bI prog 343:=ay
theorem XF(a0:Int)(a1:Int)(a2:Int)(a3:Bool)(a4:Bool):∀ w,(Instr.buildSlice 70 1 (List.toArray [(0,.agg #[aD a0,aD a1,fT a2,.bool a3,.bool a4])])).run prog w=.ok (.slice (some ⟨w.heap.size,0,none⟩) 1 1) (w.alloc (.cells (List.toArray [aD a0,aD a1,fT a2,.bool a3,.bool a4]) 132)):=ay
abbrev Tv(gJ:aH):=([.agg #[aD gJ.aB,aD gJ.aC,fT gJ.Sum,.bool gJ.fO,.bool gJ.Bad]]:List Value)
theorem Iq(w:World){tN:Nat}{s:List aH}(lK:Sl bf S0 w u7 tN s){yS:FuncId}(IG:bI prog yS)(f:aH->Bool)(II:∀(w':World)(x:aH),Ext w w'->x∈s->bO prog yS ((Tv x)++yV).toArray w' λv w''=>v=.bool (f x)/\Ext w' w'') :
    bO prog 248 #[.slice u7 s.length tN,.func (.func yS) #[] yV.toArray] w λv w'=>v=aD (idxOf f s)/\Hp w S0 w' []:=by
 refine j4 S0 func248 ntmps248 Y λH0=>?_;have NI:=lK.bN;refine iY Y<|aZ<|bQ Y<|ev (eY jo Y)<|mv Y<|dn<|cZ<|Lp H0 (λl0 rk mJ lJ wJ=>∃(k:Nat),lJ=(8,aD ((k:Nat):Int))::l0/\mJ=s.length - k/\k<=s.length/\(∀ y∈s.take k,f y=false)/\Hp w S0 wJ rk) ⟨0,Y,Y,fK _,av,H0⟩ rfl ?_
 rintro _ _ w1 ⟨k,rfl,rfl,hk,hno,K1⟩;refine rg<|ev (fB Y Y)<|dn<|oC Y (λFQ=>?_) (λFQ=>?_)
 ·refine jh ?_;refine aZ<|cZ<|bQ Y<|bS Y<|bQ Y<|mv Y<|mv Y ?_
  obtain⟨x1,bP⟩:=bC (xs:=s) (i:=k) aj;refine ev (eU (i:=k) jo lQ Y Y Y (aJ bP) ((K1.a lK).some_ bP))<|ev (fV oF Y Y ((K1.a lK).eX bP))<|wo Y Y Y IG (II _ x1 K1.ext (dA bP)) Y ?_
  rintro _ w2 ⟨rfl,e2⟩;have K2:=K1.grow e2;refine dn<|bR Y (λhc16=>?_) (λhc16=>?_)
  ·refine bQ Y<|bS Y<|je (jH (gL (gL (jH (gL (zD Y ?_))))))
   have d9:(((k:Nat):Int):Int)=(idxOf f s):=by exact(qD hno bP hc16).symm
   exact⟨by rw [d9] <;> rfl,K2⟩
  refine zF ?_;refine jr<|ev (dW Y Y)<|mv Y<|jv<|dQ ⟨(k+1),Y,Y,aj,by exact tQ (q:=λy=>f y=false) hno bP hc16,K2⟩ rfl aj
 refine wQ ?_;refine iY Y<|iI Y ?_
 have fG:((-1):Int)=(idxOf f s):=by exact(sQ (uW hno aj)).symm
 exact⟨by rw [<- fG] <;> rfl,K1⟩
theorem Dq(w:World){tN:Nat}{s:List aH}(lK:Sl bf S0 w u7 tN s){yS:FuncId}(IG:bI prog yS)(f:aH->Bool)(II:∀(w':World)(x:aH),Ext w w'->x∈s->bO prog yS ((Tv x)++yV).toArray w' λv w''=>v=.bool (f x)/\Ext w' w'') :
    bO prog 164 #[.slice u7 s.length tN,.func (.func yS) #[] yV.toArray] w λv w'=>v=.bool (s.any f)/\Hp w S0 w' []:=by
 refine j4 S0 func164 ntmps164 Y λH0=>iY Y<|bQ Y<|mv Y<|lF H0 Y (Iq _ (H0.a lK).any IG f (λw' x e hm=>II w' x (H0.ext.trans e) hm)) λw1 K1=>ev (pK Y Y)<|bS Y<|iI Y ?_
 have d9:(decide (0<=idxOf f s):Bool)=(s.any f):=by exact Tj f s
 exact⟨by rw [d9] <;> rfl,K1⟩
theorem Q7(H0:Hp b S w (aR bf 132 A c xs::F)){fd:FuncId}{kd:List Value}(qd:bI prog fd)(p:aH->Bool)
    (hd:∀(w':World)(ys:List aH)(x:aH),ys.length=xs.length->Hp b S w' (aR bf 132 A c ys::F)->bO prog fd ((Tv x)++kd).toArray w' λv w''=>v=.bool (p x)/\Ext w' w'') (hn:xs.length<=1000000) :
    bO prog 322 #[.slice A xs.length c,.func (.func fd) #[] kd.toArray] w λv w'=>v=.slice A (xs.filter λx=>!p x).length c/\Hp b S w' (aR bf 132 A c (xs.filter λx=>!p x)::F):=by
 refine sF func322 ntmps322 Y ?_;have Uw:=(H0.o s0).bN;have hcap0:=(H0.o s0).cap;have hlt:=CB (p:=p) xs;have hge:=EU (p:=p) xs;refine iY Y<|bQ Y<|mv Y<|gW Y (Iq (S0:=Any) (yV:=kd) w ((H0.o s0)) qd p (λw' x ex _=>hd w' xs x Y (H0.grow ex))) ?_
 rintro _ w1 ⟨rfl,e1⟩;have K1:=H0.grow e1.ext;refine bS Y<|aZ<|bQ Y<|ev (iP Y Y)<|dn<|kX Y (λnQ=>?_) (λnQ=>?_)
 ·refine bQ Y<|bS Y<|vG Y ?_
  have hall:=NY (p:=p) (xs:=xs) aj;exact⟨by rw [hall]; rfl,by rw [hall]; exact K1⟩
 refine jh ?_;refine aZ ?_;obtain⟨k0,hk0,hkl⟩:∃ k0:Nat,idxOf p xs=(k0:Int)/\k0<xs.length:=⟨(idxOf p xs).toNat,aj,aj⟩;have afn:=NZ hk0;refine kP (t:=5) Y (aS (Value.int .i64) hk0)<|bQ Y<|ev (dW Y Y)<|bS Y<|cZ<|Lp (K1.rm s0) (λl0 rk mJ lJ wJ=>∃(i j:Nat)(ys:List aH),lJ=(0,.slice A ys.length c)::(5,aD ((i:Nat):Int))::(6,aD ((j:Nat):Int))::l0/\mJ=xs.length - j/\(ys.length=xs.length)/\(i<j/\j<=xs.length)/\(ys.take i=(xs.take j).filter λx=>!p x)/\(ys.drop j=xs.drop j)/\Hp b S wJ (aR bf 132 A c ys::rk)) ⟨k0,(k0+1),xs,Y,Y,by rfl,aj,by exact afn.1,by rfl,K1⟩ rfl ?_
 rintro _ _ w2 ⟨i,j,ys,rfl,rfl,hys,hij,htk,hdr,K2⟩;refine aZ<|bQ Y<|mv Y<|ev (eY jo Y)<|ev (fB Y Y)<|dn<|kX Y (λhc19=>?_) (λhc19=>?_)
 ·refine jh ?_;refine aZ<|cZ<|bQ Y<|mv Y ?_
  obtain⟨x1,bP⟩:=bC (xs:=ys) (i:=j) aj;refine ev (eU (i:=j) jo lQ Y Y Y (aJ bP) ((K2.o s0).some_ bP))<|ev (fV oF Y Y ((K2.o s0).eX bP))<|al yK Y K2 λg1 w3 K3=>sty Y K3 s0 Y λw4 K4=>dn<|bQ Y<|ev (dK oF Y Y (K4.x s0))<|wo Y Y Y qd (hd _ _ x1 (by first | exact hys | omega) (K4.rm s0)) rfl ?_
  rintro _ w5 ⟨rfl,e5⟩;have K5:=K4.grow e5;refine ev (gZ Y)<|dn<|bR Y (λhc29=>?_) (λhc29=>?_)
  ·try simp only [eO,dN,bK,dZ,eu,fC,bL,bU] at hc29
   refine bQ Y<|mv Y<|ev (dK oF Y Y (K5.x s0)) ?_
   obtain⟨x2,kK⟩:=bC (xs:=ys) (i:=i) aj;refine ev (eU (i:=i) jo lQ Y Y Y (aJ kK) ((K5.o s1).some_ kK))<|se (i:=i) (f:=0) (x:=x2) (x':=x1) (ds:=[aD x1.aB,aD x1.aC,fT x1.Sum,.bool x1.fO,.bool x1.Bad]) K5 s1 Y Y Y kK Y lQ (oJ Y) Y (by rintro _ _ _ ⟨⟩; rfl) λw6 K6=>?_
   have hl1:(ys.set i x1).length=ys.length:=fQ ..;refine fJ (t:=0) (u:=.slice A ys.length c) (v:=.slice A ((ys.set i x1).length) c) Y (by rw [hl1])<|fJ (t:=17) (u:=.slice A ys.length c) (v:=.slice A ((ys.set i x1).length) c) rfl (by rw [hl1])<|fJ (t:=22) (u:=.slice A ys.length c) (v:=.slice A ((ys.set i x1).length) c) rfl (by rw [hl1])<|fJ (t:=30) (u:=.slice A ys.length c) (v:=.slice A ((ys.set i x1).length) c) rfl (by rw [hl1]) ?_
   have hx3:(ys.set i x1)[i]? = some x1:=pQ (aJ kK);refine dn<|jr<|mv Y<|ev (dW Y Y)<|iA Y<|jv<|ig (gB ?_)
   refine jr<|mv Y<|ev (dW Y Y)<|iA Y<|jv<|dQ ⟨(i+1),(j+1),(ys.set i x1),Y,Y,by first | exact hys | (rw [fQ]; exact hys),aj,by first | exact(rE hij.1 htk hdr bP (by simp [hc29])).1 | exact(rF htk hdr bP (by simp [hc29])).1,by first | exact(rE hij.1 htk hdr bP (by simp [hc29])).2 | exact(rF htk hdr bP (by simp [hc29])).2,(K6.rm s1)⟩ rfl aj
  try simp only [eO,dN,bK,dZ,eu,fC,bL,bU] at hc29
  refine zF ?_;refine jr<|mv Y<|ev (dW Y Y)<|iA Y<|jv<|dQ ⟨i,(j+1),ys,Y,Y,by first | exact hys | (rw [fQ]; exact hys),aj,by first | exact(rE hij.1 htk hdr bP (by simp [hc29])).1 | exact(rF htk hdr bP (by simp [hc29])).1,by first | exact(rE hij.1 htk hdr bP (by simp [hc29])).2 | exact(rF htk hdr bP (by simp [hc29])).2,(K5.rm s0)⟩ rfl aj
 refine wQ ?_;have hcap:ys.length<=c:=aj;have hil:(ys.take i).length=i:=by simp only [fE]; omega
 have hfin:ys.take i=xs.filter λx=>!p x:=by rw [htk,iD aj]
 refine kP (t:=5) (u:=aD ((i:Nat):Int)) (v:=aD (((ys.take i).length:Nat):Int)) Y (by rw [hil]) ?_;have H1:=K2.Uf (hi:=i) s0 aj;refine bQ Y<|mv Y<|ev (CO (lo:=(ys.take i).length) jo lQ Y Y Y (by first | omega | (simp only [fE]; omega)) hcap)<|abV (τ:=bf) (m:=ys.length - (ys.take i).length) H1 s0 rfl jo agt (by simp only [fE]; omega) λw7 K7=>dn<|bQ rfl<|mv rfl<|ev (P9 (hi:=(ys.take i).length) jo lQ rfl rfl rfl (by simp only [fE]; omega))<|bS rfl<|iI rfl ?_
 exact⟨by rw [<- hfin]; rfl,by rw [<- hfin]; exact K7⟩
theorem avB:Zo 427 447 448 70 132 5 24 Tryz.f427.name:=⟨func427.trans (aS some ak),⟨_,func447,ak,ak,ak,ak⟩,jo,iw,lQ,ak,agr,agt⟩
def aaA:=@MB _ _ _ _ _ _ _ _ bf avB
theorem aaB(H0:Hp b S w (aR bf 132 A c xs::F)){i j:Nat}(hij:i<j)(hj:j<=xs.length) :
    bO prog 372 #[.slice A xs.length c,aD (i:Int),aD (j:Int)] w λv w'=>v=.slice A (xs.take i++xs.drop j).length c/\Hp b S w' (aR bf 132 A c (xs.take i++xs.drop j)::F):=by
 refine sF func372 ntmps372 Y ?_;have Uw:=(H0.o s0).bN;have hcap:=(H0.o s0).cap;refine iY Y<|bQ Y<|mv Y<|mv Y<|mv Y<|ev (eY jo Y)<|ev (Ev.apT (lo:=i) (hi:=j) (mx:=xs.length) jo lQ Y Y Y Y Y Y Y aj hj (H0.o s0).cap)<|dn<|aZ<|bQ Y<|mv Y<|ev (iP Y Y)<|dn<|kX Y (λhc16=>?_) (λhc16=>?_)
 ·omega
 refine jh ?_;refine bQ Y<|ev (eY jo Y)<|bS Y<|He H0 (λ_ K=>(K.rm s0)) (λl0 rk lJ wJ=>lJ=(0,.slice A ((xs.take i++xs.drop j).length) c)::l0/\Hp b S wJ (aR bf 132 A c (xs.take i++xs.drop j)::rk)) (λhns H1=>?_) ?_
 ·have k1:=(H1.rm s0);refine kT 0 Y Y k1<|kT 1 Y Y k1<|kT 3 Y Y k1<|kT 4 Y Y k1<|Jn H1 (λl0 rk lJ wJ=>lJ=(22,.slice A ((xs.take i).length) c)::(25,.slice (rO A c j 5) ((xs.drop j).length) (c - j))::l0/\Hp b S wJ rk) 2 63 ?_ λhS1=>?_
  ·rintro _ w2 ⟨rfl,K2⟩;refine O1 6 Y<|Zh (τ:=bf) (xs:=xs) (i:=i) (j:=j) K2 s0 Y Y jo agr hij hj λw3 K3=>?_
   have k3:=(K3.rm s0);refine aP k3<|xJ 7 Y Y k3<|Dn ⟨Y,K3⟩ Y
  refine O2 2 5 Y Y ?_ ?_
  ·refine ev (Ey (hi:=i) (xs:=xs) jo lQ Y Y Y aj (H1.o s0).cap)<|aP k1<|O1 5 Y<|ev (Ez (lo:=j) (xs:=xs) jo lQ Y Y Y aj (H1.o s0).cap)<|Kj hS1 k1 ⟨Y,H1⟩ Y
  ·refine ev (Ez (lo:=j) (xs:=xs) jo lQ Y Y Y aj (H1.o s0).cap)<|aP k1<|O1 2 Y<|ev (Ey (hi:=i) (xs:=xs) jo lQ Y Y Y aj (H1.o s0).cap)<|Kj hS1 k1 ⟨Y,H1⟩ Y
 rintro _ w4 ⟨rfl,K4⟩;refine bQ Y<|mv Y<|ev (eY jo Y)<|mv Y ?_
 have hln:(xs.take i++xs.drop j).length+(j - i)=xs.length:=by simp only [iO,fE,kN]; omega
 refine ev (Ev.apU (lo:=(xs.take i++xs.drop j).length) (hi:=xs.length) jo lQ Y Y Y Y Y aj hcap)<|abV (τ:=bf) (m:=xs.length - (xs.take i++xs.drop j).length) K4 s0 Y jo agt aj λw5 K5=>dn<|bQ Y<|bS Y<|iI Y ?_
 exact⟨Y,K5⟩
theorem M0(H0:Hp b S w (dP bf A c l::F)){fd:FuncId}{kd:List Value}(qd:bI prog fd)(p:aH->Bool)
    (hd:∀(w':World)(A':ah)(c':Nat)(ys:List aH)(x:aH),Hp b S w' (aR bf 132 A' c' ys::dP bf A c l::F)->bO prog fd ((Tv x)++kd).toArray w' λv w''=>v=.bool (p x)/\Ext w' w'') (hn:l.length<=100000) :
    bO prog 226 #[.slice A l.length c,.func (.func fd) #[] kd.toArray] w λv w'=>∃ A0 c0,v=.slice A0 ((gK l).filter λx=>!p x).length c0/\Hp b S w' (aR bf 132 A0 c0 ((gK l).filter λx=>!p x)::dP bf A c l::F):=by
 refine sF func226 ntmps226 Y ?_;have hfl:=vI l;refine iY Y<|bQ Y<|gW Y (O7 _ (H0.s s0).any aj) ?_
 rintro _ w1 ⟨jK,jL,rfl,h1⟩;have K1:=H0.f1 h1;have LC:=(K1.o s0).bN;refine mv Y<|gW Y (Q7 (kd:=kd) K1 qd p (λw9 ys x9 _ K9=>hd w9 _ _ ys x9 K9) aj) ?_
 rintro _ w2 ⟨rfl,K2⟩;refine bS Y<|iI Y ?_
 exact⟨_,_,Y,K2⟩
theorem aj2(w:World)(x:aH) :
    bO prog 227 #[.agg #[aD x.aB,aD x.aC,fT x.Sum,.bool x.fO,.bool x.Bad]] w λv w'=>v=.bool x.fO/\Hp w S0 w' []:=by
 refine j4 S0 func227 ntmps227 Y λH0=>rg<|bx Y Y H0 λg1 w1 K1=>bS Y<|rg<|jD g1 3 ug K1 s0 Y<|bS Y<|iI Y ?_
 exact⟨Y,(K1.rm s0)⟩
theorem agu(w:World)(x:aH){iT:Nat}(c:Int)(h_c:Bx w iT 3 [aD c]) :
    bO prog 385 #[.agg #[aD x.aB,aD x.aC,fT x.Sum,.bool x.fO,.bool x.Bad],fP iT] w λv w'=>v=.bool (decide (x.aB=c)&&x.fO)/\Hp w S0 w' []:=by
 refine j4 S0 func385 ntmps385 Y λH0=>rg<|bx Y Y H0 λg1 w1 K1=>bS Y<|rg<|jD g1 0 lZ K1 s0 Y<|ev (cu jG Y (h_c.ext K1.ext) Y)<|ev (iP Y Y)<|mv Y<|iG 3 11 ((decide (x.aB=c))&&x.fO) ?_ ?_
 ·cases hb8:decide (x.aB=c) with
  | true=>
   refine wP g1 3 ug K1 s0 Y<|ev (dY Y Y)<|dI Y
  | false=>
   refine eB<|eB<|ev (eG Y Y)<|dI Y
 refine bS Y<|iI Y ?_
 have d9:(((decide (x.aB=c))&&x.fO):Bool)=(decide (x.aB=c)&&x.fO):=by rfl
 exact⟨by rw [d9] <;> rfl,(K1.rm s0)⟩
theorem anO(w:World)(x:aH){iT:Nat}(c:Int)(h_c:Bx w iT 3 [aD c]) :
    bO prog 343 #[.agg #[aD x.aB,aD x.aC,fT x.Sum,.bool x.fO,.bool x.Bad],fP iT] w λv w'=>v=.bool (decide (x.aB=c)&&!x.fO)/\Hp w S0 w' []:=by
 refine j4 S0 func343 ntmps343 Y λH0=>rg<|bx Y Y H0 λg1 w1 K1=>bS Y<|rg<|jD g1 0 lZ K1 s0 Y<|ev (cu jG Y (h_c.ext K1.ext) Y)<|ev (iP Y Y)<|mv Y<|iG 4 12 ((decide (x.aB=c))&&(!x.fO)) ?_ ?_
 ·cases hb8:decide (x.aB=c) with
  | true=>
   refine wP g1 3 ug K1 s0 Y<|bG Y (gZ Y) Y<|ev (dY Y Y)<|dI Y
  | false=>
   refine eB<|eB<|eB<|ev (eG Y Y)<|dI Y
 refine bS Y<|iI Y ?_
 have d9:(((decide (x.aB=c))&&(!x.fO)):Bool)=(decide (x.aB=c)&&!x.fO):=by rfl
 exact⟨by rw [d9] <;> rfl,(K1.rm s0)⟩
theorem adT(w:World)(iR:Sl bf S0 w jl jg l)(hn:l.length<=100000) :
    bO prog 141 #[.slice jl l.length jg] w λv w'=>∃(A0:ah)(c0:Nat),v=.slice A0 ((eT l).length) c0/\Hp w S0 w' [aR bf 132 A0 c0 (eT l)]:=by
 refine j4 S0 func141 ntmps141 Y λH0=>iY Y<|bQ Y ?_
 have H1:=H0.push (H0.a iR);refine gW Y (M0 (kd:=[]) H1 avy (λx9=>x9.fO) (λw9 A9 c9 ys x9 K9=>(aj2 (S0:=Any) w9 x9).mono (by rintro _ w8 ⟨rfl,K8⟩; exact⟨rfl,K8.ext⟩)) aj) ?_;rintro _ w1 ⟨A_1,c_1,rfl,K1⟩;refine bS Y<|iI Y ?_
 have d9:(((gK l).filter λx9=>!(x9.fO)):List aH)=(eT l):=by rfl
 rw [d9] at K1;exact⟨A_1,c_1,by rw [d9] <;> rfl,(K1.rm s1)⟩
theorem aj3(w:World)(iR:Sl bf S0 w jl jg l)(aL:Int)(hn:l.length<=100000) :
    bO prog 281 #[.slice jl l.length jg,aD aL] w λv w'=>∃(A0:ah)(c0:Nat),v=.slice A0 ((Dp l aL).length) c0/\Hp w S0 w' [aR bf 132 A0 c0 (Dp l aL)]:=by
 refine j4 S0 func281 ntmps281 Y λH0=>rg<|bx Y Y H0 λg1 w1 K1=>bS Y<|bQ Y<|ev (qC Y) ?_
 have H1:=K1.push (K1.a iR);refine gW Y (M0 (kd:=[fP g1]) H1 avz (λx9=>decide (x9.aB=aL)&&x9.fO) (λw9 A9 c9 ys x9 K9=>(agu (S0:=Any) w9 x9 aL (K9.x s2)).mono (by rintro _ w8 ⟨rfl,K8⟩; exact⟨rfl,K8.ext⟩)) aj) ?_;rintro _ w2 ⟨A_2,c_2,rfl,K2⟩;refine bS Y<|iI Y ?_
 have d9:(((gK l).filter λx9=>!(decide (x9.aB=aL)&&x9.fO)):List aH)=(Dp l aL):=by rfl
 rw [d9] at K2;exact⟨A_2,c_2,by rw [d9] <;> rfl,(K2.cU 1 2)⟩
abbrev KF:=(([]:List aH):List aH)
theorem aro(w:World)(iR:Sl bf S0 w jl jg l)(aL:Int)(hn:l.length<=100000) :
    bO prog 250 #[.slice jl l.length jg,aD aL] w λv w'=>∃(A0:ah)(c0:Nat),v=.tuple #[.slice A0 (((oo l aL).1).length) c0,aD ((oo l aL).2)]/\Hp w S0 w' [aR bf 132 A0 c0 ((oo l aL).1)]:=by
 refine j4 S0 func250 ntmps250 Y λH0=>?_;have hfl:=vI l;refine rg<|bx Y Y H0 λg1 w1 K1=>iA Y<|bS Y<|aZ<|He K1 (λ_ K=>K) (λl0 rk lJ wJ=>lJ=(7,.bool (Nq (gK l) aL false))::l0/\Hp w S0 wJ rk) (λhns H1=>?_) ?_
 ·refine kT 0 Y Y H1<|Ai 2 s0 Y H1<|O1 1 Y<|gW Y (O7 _ (H1.a iR).any aj) ?_
  rintro _ w2 ⟨ni,nk,rfl,h2⟩;have K2:=H1.f1 h2;have UD:=(K2.o s0).bN;have k1:=(K2.rm s0);refine aP k1<|O1 3 Y<|lF K2 Y (JO _ (K2.o s0) aL false aj) λw3 K3=>?_
  have k2:=(K3.rm s0);refine aP k2<|kT 4 Y Y k2<|yj 5 Y (vs:=[aD ((atR (gK l) aL false:Nat):Int),.bool (Nq (gK l) aL false)]) Y Y k2<|yj 6 Y (vs:=[aD ((atR (gK l) aL false:Nat):Int),.bool (Nq (gK l) aL false)]) Y Y k2<|xJ 7 Y Y k2<|xJ 8 Y Y k2<|Dn ⟨Y,(K3.rm s0)⟩ Y
 rintro _ w4 ⟨rfl,K4⟩;refine bQ Y<|ev (gZ Y)<|dn<|bR Y (λhc16=>?_) (λhc16=>?_)
 ·try simp only [eO,dN,bK,dZ,eu,fC,bL,bU,Ug,false_or,qW,true_and,tq] at hc16
  refine rg<|iA Y<|bS Y<|vG Y ?_
  have H2:=K4.nil bf 132;have d9:KF=((oo l aL).1):=by unfold oo; rw [aK (by simpa using hc16)]
  have H3:=(d9▸H2:Hp w S0 w4 (aR bf 132 none 0 ((oo l aL).1)::[dJ g1 3 [aD aL]]));have fG:(5:Int)=((oo l aL).2):=by unfold oo; rw [aK (by simpa using hc16)]
  exact⟨none,0,by rw [<- d9,<- fG] <;> rfl,(H3.rm s1)⟩
 try simp only [eO,dN,bK,dZ,eu,fC,bL,bU,Ug,false_or,qW,true_and,tq] at hc16
 refine jh ?_;refine bQ Y<|ev (qC Y) ?_
 have H4:=K4.push (K4.a iR);refine gW Y (M0 (kd:=[fP g1]) H4 avA (λx9=>decide (x9.aB=aL)&&!x9.fO) (λw9 A9 c9 ys x9 K9=>(anO (S0:=Any) w9 x9 aL (K9.x s2)).mono (by rintro _ w8 ⟨rfl,K8⟩; exact⟨rfl,K8.ext⟩)) aj) ?_;rintro _ w5 ⟨A_5,c_5,rfl,K5⟩;refine iA Y<|bS Y<|iI Y ?_
 have jQ:(((gK l).filter λx9=>!(decide (x9.aB=aL)&&!x9.fO)):List aH)=((oo l aL).1):=by unfold oo; rw [aO (by simpa using hc16)]
 rw [jQ] at K5;have lV:(0:Int)=((oo l aL).2):=by unfold oo; rw [aO (by simpa using hc16)]
 exact⟨A_5,c_5,by rw [jQ,<- lV] <;> rfl,(K5.cU 1 2)⟩
theorem ahN(H0:Hp b S w (aR bf 132 jl jg l::F))(x:aH)(hn:l.length<=100000) :
    bO prog 371 #[.slice jl l.length jg,.agg #[aD x.aB,aD x.aC,fT x.Sum,.bool x.fO,.bool x.Bad]] w λv w'=>∃(A0:ah)(c0:Nat),v=.slice A0 ((yJ l x).length) c0/\Hp b S w' (aR bf 132 A0 c0 (yJ l x)::F):=by
 refine sF func371 ntmps371 Y ?_;have hat:=agp l x.aB x.fO;refine rg<|bx Y Y H0 λg1 w1 K1=>bS Y<|bQ Y<|jD g1 0 lZ K1 s0 Y<|jD g1 3 ug K1 s0 Y<|lF K1 Y (JO _ (K1.o s1) x.aB x.fO aj) λw2 K2=>mv Y<|xt Y Y<|xt Y Y<|iA Y<|bS Y<|aZ<|bQ Y<|ev (gZ Y)<|dn<|bR Y (λhc17=>?_) (λhc17=>?_)
 ·try simp only [eO,dN,bK,dZ,eu,fC,bL,bU] at hc17
  refine jr<|mv Y<|mv Y<|ev (dK oF Y Y (K2.x s0))<|yU (τ:=bf) (x:=x) Y (by intro _; apply XF) rfl K2 (λ_ _=>rfl) λg2 w3 K3=>gW rfl (aaA (i:=atR l x.aB x.fO) K3 s2 s0 aj aj) ?_
  rintro _ w4 ⟨nY,nZ,rfl,K4⟩;refine iA Y<|jv<|gB<|bQ Y<|mv Y<|ev (dK oF Y Y (K4.x s1)) ?_
  obtain⟨x1,bP⟩:=bC (xs:=(l.take (atR l x.aB x.fO)++[x]++l.drop (atR l x.aB x.fO))) (i:=atR l x.aB x.fO) (by simp only [iO,fE,kN,oI,qx]; omega);refine ev (eU (i:=atR l x.aB x.fO) jo lQ Y Y Y (aJ bP) ((K4.o s0).some_ bP))<|se (i:=atR l x.aB x.fO) (f:=0) (x:=x1) (x':=x) (ds:=[aD x.aB,aD x.aC,fT x.Sum,.bool x.fO,.bool x.Bad]) K4 s0 Y Y Y bP Y lQ (oJ Y) Y (by rintro _ _ _ ⟨⟩; rfl) λw5 K5=>?_
  have hl1:((l.take (atR l x.aB x.fO)++[x]++l.drop (atR l x.aB x.fO)).set (atR l x.aB x.fO) x).length=(l.take (atR l x.aB x.fO)++[x]++l.drop (atR l x.aB x.fO)).length:=fQ ..;refine fJ (t:=0) (u:=.slice nY ((l.take (atR l x.aB x.fO)++[x]++l.drop (atR l x.aB x.fO)).length) nZ) (v:=.slice nY (((l.take (atR l x.aB x.fO)++[x]++l.drop (atR l x.aB x.fO)).set (atR l x.aB x.fO) x).length) nZ) Y (by rw [hl1])<|fJ (t:=22) (u:=.slice nY ((l.take (atR l x.aB x.fO)++[x]++l.drop (atR l x.aB x.fO)).length) nZ) (v:=.slice nY (((l.take (atR l x.aB x.fO)++[x]++l.drop (atR l x.aB x.fO)).set (atR l x.aB x.fO) x).length) nZ) rfl (by rw [hl1])<|fJ (t:=23) (u:=.slice nY ((l.take (atR l x.aB x.fO)++[x]++l.drop (atR l x.aB x.fO)).length) nZ) (v:=.slice nY (((l.take (atR l x.aB x.fO)++[x]++l.drop (atR l x.aB x.fO)).set (atR l x.aB x.fO) x).length) nZ) rfl (by rw [hl1]) ?_
  have kK:((l.take (atR l x.aB x.fO)++[x]++l.drop (atR l x.aB x.fO)).set (atR l x.aB x.fO) x)[atR l x.aB x.fO]? = some x:=pQ (aJ bP);refine dn<|bQ Y<|bS Y<|iI Y ?_
  have d9:(((l.take (atR l x.aB x.fO)++[x]++l.drop (atR l x.aB x.fO)).set (atR l x.aB x.fO) x):List aH)=(yJ l x):=by unfold yJ; rw [aK (by simpa using hc17)]; exact set_mid hat
  exact⟨nY,nZ,by rw [<- d9] <;> rfl,by rw [<- d9]; exact(K5.rm s1)⟩
 try simp only [eO,dN,bK,dZ,eu,fC,bL,bU] at hc17
 have hlt:=MZ (by simpa using hc17:Nq l x.aB x.fO=true);refine jh ?_;refine bQ Y<|mv Y<|ev (dK oF Y Y (K2.x s0)) ?_
 obtain⟨x2,hx3⟩:=bC (xs:=l) (i:=atR l x.aB x.fO) aj;refine ev (eU (i:=atR l x.aB x.fO) jo lQ Y Y Y (aJ hx3) ((K2.o s1).some_ hx3))<|se (i:=atR l x.aB x.fO) (f:=0) (x:=x2) (x':=x) (ds:=[aD x.aB,aD x.aC,fT x.Sum,.bool x.fO,.bool x.Bad]) K2 s1 Y Y Y hx3 Y lQ (oJ Y) Y (by rintro _ _ _ ⟨⟩; rfl) λw6 K6=>?_
 have hl2:(l.set (atR l x.aB x.fO) x).length=l.length:=fQ ..;refine fJ (t:=0) (u:=.slice jl l.length jg) (v:=.slice jl ((l.set (atR l x.aB x.fO) x).length) jg) Y (by rw [hl2])<|fJ (t:=8) (u:=.slice jl l.length jg) (v:=.slice jl ((l.set (atR l x.aB x.fO) x).length) jg) rfl (by rw [hl2])<|fJ (t:=23) (u:=.slice jl l.length jg) (v:=.slice jl ((l.set (atR l x.aB x.fO) x).length) jg) rfl (by rw [hl2]) ?_
 refine dn<|bQ Y<|bS Y<|iI Y ?_
 have fG:((l.set (atR l x.aB x.fO) x):List aH)=(yJ l x):=by unfold yJ; rw [aO (by simpa using hc17)]
 exact⟨jl,jg,by rw [<- fG] <;> rfl,by rw [<- fG]; exact(K6.rm s1)⟩
theorem aj4(w:World)(iR:Sl bf S0 w jl jg l)(x:aH)(bJ:Int)(hn:l.length<=100000) :
    bO prog 273 #[.slice jl l.length jg,.agg #[aD x.aB,aD x.aC,fT x.Sum,.bool x.fO,.bool x.Bad],aD bJ] w λv w'=>∃(A0:ah)(c0:Nat),v=.tuple #[.slice A0 (((jY l x bJ).1).length) c0,aD ((jY l x bJ).2)]/\Hp w S0 w' [aR bf 132 A0 c0 ((jY l x bJ).1)]:=by
 refine j4 S0 func273 ntmps273 Y λH0=>?_;have hfl:=vI l;refine rg<|bx Y Y H0 λg1 w1 K1=>iA Y<|bS Y<|bQ Y<|gW Y (O7 _ (K1.a iR).any aj) ?_
 rintro _ w2 ⟨ni,nk,rfl,h2⟩;have K2:=K1.f1 h2;have UD:=(K2.o s0).bN;refine bS Y<|aZ<|rg<|ev (dK oF Y Y (K2.x s1))<|lF K2 Y (YH (S0:=Any) _ x) λw3 K3=>ev (gZ Y)<|dn<|bR Y (λhc16=>?_) (λhc16=>?_)
 ·refine rg<|iA Y<|bS Y<|vG Y ?_
  have H1:=K3.nil bf 132;have d9:KF=((jY l x bJ).1):=by unfold jY; rw [aO hc16]
  have H2:=(d9▸H1:Hp w S0 w3 (aR bf 132 none 0 ((jY l x bJ).1)::[aR bf 132 ni nk (gK l),dJ g1 132 [aD x.aB,aD x.aC,fT x.Sum,.bool x.fO,.bool x.Bad]]));have fG:(1:Int)=((jY l x bJ).2):=by unfold jY; rw [aO hc16]
  exact⟨none,0,by rw [<- d9,<- fG] <;> rfl,(H2.cU 1 2)⟩
 refine jh ?_;refine bQ Y<|jD g1 0 lZ K3 s1 Y<|lF K3 Y (JO _ (K3.o s0) x.aB false aj) λw4 K4=>mv Y<|xt Y Y<|xt Y Y<|iA Y<|bS Y<|bQ Y<|jD g1 0 lZ K4 s1 Y<|lF K4 Y (JO _ (K4.o s0) x.aB true aj) λw5 K5=>mv Y<|xt Y Y<|xt Y Y<|iA Y<|bS Y<|aZ<|cZ ?_
 have hl1:=λh=>MZ (l:=gK l) (c:=x.aB) (t:=false) h;have hl2:=λh=>MZ (l:=gK l) (c:=x.aB) (t:=true) h;refine qo ak ak<|bD (bA Y) Y<|bD (bA Y) Y<|qy 9 42 (O5 (yZ (gK l) x.aB false) x.aC) ?_ ?_
 ·cases auG:Nq (gK l) x.aB false with
  | true=>
   have hl3:=hl1 auG;refine dV Y (bA Y) Y<|dV Y (bA Y) Y ?_
   obtain⟨x1,bP⟩:=bC (xs:=gK l) (i:=atR (gK l) x.aB false) aj;refine dV Y (eU (i:=atR (gK l) x.aB false) jo lQ Y Y Y (aJ bP) ((K5.o s0).some_ bP)) Y<|dV Y (eF su Y (gI _ _ _)) Y<|dV Y (jq jG Y ((K5.o s0).fZ (j:=1) bP Y)) Y<|dV Y (eF (q:=⟨g1,1,none⟩) su Y Y) Y<|dV Y (cu jG Y (K5.x s1) Y) Y<|dV Y (pK Y Y) Y<|bD (dY Y Y) Y<|Bd (t:=42) (u:=.bool (decide (x.aC<=x1.aC))) (v:=.bool (O5 (yZ (gK l) x.aB false) x.aC)) Y (aS Value.bool (by rw [FH (by assumption) bP]; rfl))<|jJ rfl
  | false=>
   refine dF Y Y Y<|dF Y Y Y<|dF Y Y Y<|dF Y Y Y<|dF Y Y Y<|dF Y Y Y<|dF Y Y Y<|dF Y Y Y<|bD (eG Y Y) Y<|Bd (t:=42) (u:=.bool false) (v:=.bool (O5 (yZ (gK l) x.aB false) x.aC)) Y (aS Value.bool (by rw [O6 (by assumption)]; rfl))<|jJ rfl
 refine bD (nP Y) Y<|qp λw6 e6=>?_
 have K6:=K5.grow e6;refine bR Y (λhc31=>?_) (λhc31=>?_)
 ·refine rg<|iA Y<|bS Y<|LA Y ?_
  have H3:=K6.nil bf 132;have jQ:KF=((jY l x bJ).1):=by unfold jY; rw [aK (by rw [hc16]; decide),aO hc31]
  have H4:=(jQ▸H3:Hp w S0 w6 (aR bf 132 none 0 ((jY l x bJ).1)::[aR bf 132 ni nk (gK l),dJ g1 132 [aD x.aB,aD x.aC,fT x.Sum,.bool x.fO,.bool x.Bad]]));have lV:(9:Int)=((jY l x bJ).2):=by unfold jY; rw [aK (by rw [hc16]; decide),aO hc31]
  exact⟨none,0,by rw [<- jQ,<- lV] <;> rfl,(H4.cU 1 2)⟩
 refine qo ak ak<|bD (bA Y) Y<|bD (bA Y) Y<|qy 9 54 (O5 (yZ (gK l) x.aB true) x.aC) ?_ ?_
 ·cases axU:Nq (gK l) x.aB true with
  | true=>
   have hl3:=hl2 axU;refine dV Y (bA Y) Y<|dV Y (bA Y) Y ?_
   obtain⟨x2,kK⟩:=bC (xs:=gK l) (i:=atR (gK l) x.aB true) aj;refine dV Y (eU (i:=atR (gK l) x.aB true) jo lQ Y Y Y (aJ kK) ((K6.o s0).some_ kK)) Y<|dV Y (eF su Y (gI _ _ _)) Y<|dV Y (jq jG Y ((K6.o s0).fZ (j:=1) kK Y)) Y<|dV Y (eF (q:=⟨g1,1,none⟩) su Y Y) Y<|dV Y (cu jG Y (K6.x s1) Y) Y<|dV Y (pK Y Y) Y<|bD (dY Y Y) Y<|Bd (t:=54) (u:=.bool (decide (x.aC<=x2.aC))) (v:=.bool (O5 (yZ (gK l) x.aB true) x.aC)) Y (aS Value.bool (by rw [FH (by assumption) kK]; rfl))<|jJ rfl
  | false=>
   refine dF Y Y Y<|dF Y Y Y<|dF Y Y Y<|dF Y Y Y<|dF Y Y Y<|dF Y Y Y<|dF Y Y Y<|dF Y Y Y<|bD (eG Y Y) Y<|Bd (t:=54) (u:=.bool false) (v:=.bool (O5 (yZ (gK l) x.aB true) x.aC)) Y (aS Value.bool (by rw [O6 (by assumption)]; rfl))<|jJ rfl
 refine bD (nP Y) Y<|qp λw7 e7=>?_
 have K7:=K6.grow e7;refine bR Y (λDf=>?_) (λDf=>?_)
 ·refine rg<|iA Y<|bS Y<|LA Y ?_
  have H5:=K7.nil bf 132;have qU:KF=((jY l x bJ).1):=by unfold jY; rw [aK (by rw [hc16]; decide),aK (by rw [hc31]; decide),aO Df]
  have H6:=(qU▸H5:Hp w S0 w7 (aR bf 132 none 0 ((jY l x bJ).1)::[aR bf 132 ni nk (gK l),dJ g1 132 [aD x.aB,aD x.aC,fT x.Sum,.bool x.fO,.bool x.Bad]]));have vY:(6:Int)=((jY l x bJ).2):=by unfold jY; rw [aK (by rw [hc16]; decide),aK (by rw [hc31]; decide),aO Df]
  exact⟨none,0,by rw [<- qU,<- vY] <;> rfl,(H6.cU 1 2)⟩
 refine bQ Y<|ev (gZ Y)<|mv Y<|iG 5 63 ((!(Nq (gK l) x.aB true))&&(decide (bJ<=(((gK l).length:Nat):Int)))) ?_ ?_
 ·cases aIB:(!(Nq (gK l) x.aB true)) with
  | true=>
   refine bG Y (bA Y) Y<|bG Y (eY jo Y) Y<|bG Y (bA Y) Y<|bG Y (pK Y Y) Y<|ev (dY Y Y)<|dI Y
  | false=>
   refine eB<|eB<|eB<|eB<|ev (eG Y Y)<|dI Y
 refine bS Y<|bR Y (λanP=>?_) (λanP=>?_)
 ·refine rg<|iA Y<|bS Y<|LA Y ?_
  have H7:=K7.nil bf 132;have xZ:KF=((jY l x bJ).1):=by unfold jY; rw [aK (by rw [hc16]; decide),aK (by rw [hc31]; decide),aK (by rw [Df]; decide),aO anP]
  have H8:=(xZ▸H7:Hp w S0 w7 (aR bf 132 none 0 ((jY l x bJ).1)::[aR bf 132 ni nk (gK l),dJ g1 132 [aD x.aB,aD x.aC,fT x.Sum,.bool x.fO,.bool x.Bad]]));have hq8:(7:Int)=((jY l x bJ).2):=by unfold jY; rw [aK (by rw [hc16]; decide),aK (by rw [hc31]; decide),aK (by rw [Df]; decide),aO anP]
  exact⟨none,0,by rw [<- xZ,<- hq8] <;> rfl,(H8.cU 1 2)⟩
 refine zF ?_;refine rg<|wC g1 3 ug Y<|wD Y K7 s1 Y λw8 K8=>wC g1 4 adQ Y<|wD Y K8 s0 Y λw9 K9=>dn<|bQ Y<|ev (dK oF Y Y (K9.x s0))<|gW Y (ahN ((K9.sel s0).sel s1) (⟨x.aB,x.aC,x.Sum,true,false⟩:aH) aj) ?_
 rintro _ Nn ⟨LQ,LU,rfl,K10⟩;refine iA Y<|bS Y<|iI Y ?_
 have yT:((yJ (gK l) (⟨x.aB,x.aC,x.Sum,true,false⟩:aH)):List aH)=((jY l x bJ).1):=by unfold jY; rw [aK (by rw [hc16]; decide),aK (by rw [hc31]; decide),aK (by rw [Df]; decide),aK (by rw [anP]; decide)]
 rw [yT] at K10;have qI:(0:Int)=((jY l x bJ).2):=by unfold jY; rw [aK (by rw [hc16]; decide),aK (by rw [hc31]; decide),aK (by rw [Df]; decide),aK (by rw [anP]; decide)]
 exact⟨LQ,LU,by rw [yT,<- qI] <;> rfl,(K10.rm s1)⟩
theorem agv(w:World)(iR:Sl bf S0 w jl jg l)(aL:Int)(bM:Int)(hn:l.length<=100000) :
    bO prog 274 #[.slice jl l.length jg,aD aL,aD bM] w λv w'=>∃(A0:ah)(c0:Nat),v=.tuple #[.slice A0 (((lu l aL bM).1).length) c0,aD ((lu l aL bM).2)]/\Hp w S0 w' [aR bf 132 A0 c0 ((lu l aL bM).1)]:=by
 refine j4 S0 func274 ntmps274 Y λH0=>?_;have hfl:=vI l;refine rg<|iA Y<|bS Y<|bQ Y<|gW Y (O7 _ (H0.a iR).any aj) ?_
 rintro _ w1 ⟨jK,jL,rfl,h1⟩;have K1:=H0.f1 h1;have LC:=(K1.o s0).bN;refine bS Y<|bQ Y<|mv Y<|lF K1 Y (JO _ (K1.o s0) aL true aj) λw2 K2=>mv Y<|xt Y Y<|xt Y Y<|iA Y<|bS Y<|aZ ?_
 have hl2:=λh=>MZ (l:=gK l) (c:=aL) (t:=true) h;refine bQ Y<|ev (gZ Y)<|mv Y<|iG 8 29 (agn (yZ (gK l) aL true) bM) ?_ ?_
 ·cases R6:(!(Nq (gK l) aL true)) with
  | true=>
   refine eB<|eB<|eB<|eB<|eB<|eB<|eB<|ev (dY Y Y)<|fJ (t:=29) (u:=.bool true) (v:=.bool (agn (yZ (gK l) aL true) bM)) Y (aS Value.bool (by rw [O6 (by simpa using R6)]; rfl))<|dI rfl
  | false=>
   have hl3:=hl2 (by simpa using R6);refine bG Y (bA Y) Y<|bG Y (bA Y) Y ?_
   obtain⟨x1,bP⟩:=bC (xs:=gK l) (i:=atR (gK l) aL true) aj;refine bG Y (eU (i:=atR (gK l) aL true) jo lQ Y Y Y (aJ bP) ((K2.o s0).some_ bP)) Y<|bG Y (eF su Y (gI _ _ _)) Y<|bG Y (jq jG Y ((K2.o s0).fZ (j:=1) bP Y)) Y<|bG Y (bA Y) Y<|bG Y (rz Y Y) Y<|ev (eG Y Y)<|fJ (t:=29) (u:=.bool (!decide (x1.aC=bM))) (v:=.bool (agn (yZ (gK l) aL true) bM)) Y (aS Value.bool (by rw [FH (by simpa using R6) bP]; rfl))<|dI rfl
 refine dn<|bR Y (λhc29=>?_) (λhc29=>?_)
 ·refine rg<|iA Y<|bS Y<|vG Y ?_
  have H1:=K2.nil bf 132;have d9:KF=((lu l aL bM).1):=by unfold lu; rw [aO hc29]
  have H2:=(d9▸H1:Hp w S0 w2 (aR bf 132 none 0 ((lu l aL bM).1)::[aR bf 132 jK jL (gK l)]));have fG:(5:Int)=((lu l aL bM).2):=by unfold lu; rw [aO hc29]
  exact⟨none,0,by rw [<- d9,<- fG] <;> rfl,(H2.rm s1)⟩
 obtain⟨y,hy1,hy2,hy3,hy4⟩:=adO hc29;have hl3:=aJ hy2;refine jh ?_;refine bQ Y<|mv Y ?_
 obtain⟨x2,kK⟩:=bC (xs:=gK l) (i:=atR (gK l) aL true) aj;refine ev (eU (i:=atR (gK l) aL true) jo lQ Y Y Y (aJ kK) ((K2.o s0).some_ kK))<|ev (fV oF Y Y ((K2.o s0).eX kK))<|al yK Y K2 λg1 w3 K3=>sty Y K3 s0 Y λw4 K4=>dn<|rg<|wC g1 3 ug Y<|wD Y K4 s0 Y λw5 K5=>dn<|He K5 (λ_ K=>(K.rm s1)) (λl0 rk lJ wJ=>∃(jE:ah)(jB:Nat),lJ=(6,.slice jE ((yJ ((gK l).take (atR (gK l) aL true)++(gK l).drop (atR (gK l) aL true+1)) (⟨x2.aB,x2.aC,x2.Sum,false,x2.Bad⟩:aH)).length) jB)::l0/\Hp w S0 wJ (aR bf 132 jE jB (yJ ((gK l).take (atR (gK l) aL true)++(gK l).drop (atR (gK l) aL true+1)) (⟨x2.aB,x2.aC,x2.Sum,false,x2.Bad⟩:aH))::rk)) (λhns H3=>?_) ?_
 ·have k1:=(H3.rm s1);refine kT 0 Y Y k1<|kT 1 Y Y k1<|kT 2 Y Y k1<|lH 3 Y (λ_ _=>dW Y Y) k1<|lH 5 Y (λ_ hK=>dK oF Y Y (hK.x s0)) k1<|O1 4 Y<|gW Y (aaB (i:=atR (gK l) aL true) (j:=atR (gK l) aL true+1) (H3.sel s1) aj aj) ?_
  rintro _ w6 ⟨rfl,K6⟩;have k2:=(K6.rm s0);refine aP k2<|O1 6 Y<|gW Y (ahN K6 (⟨x2.aB,x2.aC,x2.Sum,false,x2.Bad⟩:aH) (by simp only [iO,fE,kN]; omega)) ?_
  rintro _ w7 ⟨aqX,aqY,rfl,K7⟩;have k3:=(K7.rm s0);refine aP k3<|xJ 7 Y Y k3<|xJ 8 Y Y k3<|Dn ⟨aqX,aqY,Y,K7⟩ Y
 rintro _ w8 ⟨jE,jB,rfl,K8⟩;refine iI Y ?_;have jQ:((yJ ((gK l).take (atR (gK l) aL true)++(gK l).drop (atR (gK l) aL true+1)) (⟨x2.aB,x2.aC,x2.Sum,false,x2.Bad⟩:aH)):List aH)=((lu l aL bM).1):=by rw [hy2] at kK; cases kK; unfold lu; rw [aK (by rw [hc29]; decide),hy4]; rfl
 rw [jQ] at K8;have lV:(0:Int)=((lu l aL bM).2):=by unfold lu; rw [aK (by rw [hc29]; decide)]
 exact⟨jE,jB,by rw [jQ,<- lV] <;> rfl,(K8.rm s1)⟩
section
variable {P:Program}{n:Cx}{l:List (Nat × Value)}{w:World}{t ty d e:TypeId}{x y:Operand}
theorem bvI{k:Nat}(a:BitVec k):BitVec.ofInt k (a.toNat:Int)=a:=by rw [BitVec.ofInt_natCast]; simp
theorem w32(a:BitVec 32):IntKind.u32.wrap (a.toNat:Int)=(a.toNat:Int):=by rw [aaz]; have:=a.isLt; omega
theorem w8(a:BitVec 8):IntKind.u8.wrap (a.toNat:Int)=(a.toNat:Int):=by rw [IntKind.wrap_u8]; have:=a.isLt; omega
theorem Ev.ahO{b:BitVec 32}(hx:gQ l x=some (fT (a.toNat:Int)))(hy:gQ l y=some (fT (b.toNat:Int))):Ev P n l w (.binOp .xor t x y ty) (fT ((a ^^^ b).toNat:Int)):=
  pI hx hy (y8 ..) λw=>by
    have h:(binOp .xor t (fT (a.toNat:Int)) (fT (b.toNat:Int))).run P w=.ok (fT (IntKind.u32.wrap (((BitVec.ofInt 32 (a.toNat:Int) ^^^ BitVec.ofInt 32 (b.toNat:Int)).toNat:Nat):Int))) w:=rfl;rw [h,bvI,bvI,w32]
theorem Ev.ahP{b:BitVec 32}(hx:gQ l x=some (fT (a.toNat:Int)))(hy:gQ l y=some (fT (b.toNat:Int))):Ev P n l w (.binOp .and t x y ty) (fT ((a&&& b).toNat:Int)):=
  pI hx hy (y8 ..) λw=>by
    have h:(binOp .and t (fT (a.toNat:Int)) (fT (b.toNat:Int))).run P w=.ok (fT (IntKind.u32.wrap (((BitVec.ofInt 32 (a.toNat:Int)&&& BitVec.ofInt 32 (b.toNat:Int)).toNat:Nat):Int))) w:=rfl;rw [h,bvI,bvI,w32]
theorem Ev.aDP{a b:BitVec 8}(hx:gQ l x=some (.int .u8 (a.toNat:Int)))(hy:gQ l y=some (.int .u8 (b.toNat:Int))):Ev P n l w (.binOp .xor t x y ty) (.int .u8 ((a ^^^ b).toNat:Int)):=
  pI hx hy (y8 ..) λw=>by
    have h:(binOp .xor t (.int .u8 (a.toNat:Int)) (.int .u8 (b.toNat:Int))).run P w=.ok (.int .u8 (IntKind.u8.wrap (((BitVec.ofInt 8 (a.toNat:Int) ^^^ BitVec.ofInt 8 (b.toNat:Int)).toNat:Nat):Int))) w:=rfl;rw [h,bvI,bvI,w8]
theorem Ev.atq(hx:gQ l x=some (fT (a.toNat:Int))):Ev P n l w (.unOp .xor t x) (fT ((~~~ a).toNat:Int)):=λo a' w' ho ha _=>by
  unfold execOp; rw [ho];have h:(Op.unary .xor (fT (a.toNat:Int))).run P w'=.ok (fT (IntKind.u32.wrap (((BitVec.ofInt 32 IntKind.u32.max ^^^ BitVec.ofInt 32 (a.toNat:Int)).toNat:Nat):Int))) w':=rfl;have e:BitVec.ofInt 32 IntKind.u32.max=BitVec.allOnes 32:=au;rw [bvI,e,BitVec.allOnes_xor,w32] at h
  simp [ha.eval hx,h]
theorem Ev.ay4(hx:gQ l x=some (fT (a.toNat:Int))):Ev P n l w (.unOp .neg t x) (fT ((-a).toNat:Int)):=λo a' w' ho ha _=>by
  unfold execOp; rw [ho];have h:(Op.unary .neg (fT (a.toNat:Int))).run P w'=.ok (fT (IntKind.u32.wrap (0 - (a.toNat:Int)))) w':=rfl
  have e:IntKind.u32.wrap (0 - (a.toNat:Int))=((-a).toNat:Int):=by
    rw [aaz,BitVec.toNat_neg]; have:=a.isLt; omega
  rw [e] at h
  simp [ha.eval hx,h]
theorem Ev.anQ(hx:gQ l x=some (fT (a.toNat:Int)))(hy:gQ l y=some (.int k (c:Int)))(hc:c<=32):Ev P n l w (.binOp .shr t x y ty) (fT ((a >>> c).toNat:Int)):=
  pI hx hy (y8 ..) λw=>by
    have h:(binOp .shr t (fT (a.toNat:Int)) (.int k (c:Int)))=Op.shift .shr .u32 (a.toNat:Int) k (c:Int):=rfl;rw [h,shift_shr_any _ _ _ _ aj,BitVec.toNat_ushiftRight,Nat.shiftRight_eq_div_pow];have e:min (c:Int).toNat IntKind.u32.bits=c:=by show min (c:Int).toNat 32=c; omega
    rw [e]; norm_cast
theorem Ev.aDQ{a:BitVec 8}(hx:gQ l x=some (.int .u8 (a.toNat:Int)))(hy:gQ l y=some (.int k (c:Int)))(hc:c<=8):Ev P n l w (.binOp .shl t x y ty) (.int .u8 ((a <<< c).toNat:Int)):=
  pI hx hy (y8 ..) λw=>by
    have h:(binOp .shl t (.int .u8 (a.toNat:Int)) (.int k (c:Int)))=Op.shift .shl .u8 (a.toNat:Int) k (c:Int):=rfl;have e:min (c:Int).toNat IntKind.u8.bits=c:=by show min (c:Int).toNat 8=c; omega
    have e2:((a.toNat:Int)*2 ^ c) % 256=((a.toNat*2 ^ c % 2 ^ 8:Nat):Int):=by rw [Int.natCast_emod,Int.natCast_mul,Int.natCast_pow]; rfl
    rw [h,shift_shl_any _ _ _ _ aj,e,IntKind.wrap_u8,BitVec.toNat_shiftLeft,Nat.shiftLeft_eq,e2]; rfl
theorem Ev.anR{a:BitVec 8}(hs:(P.underlying t).isSome=true)(hd:P.underlying d=some (.int (P.intKind d)))(hk:P.intKind d=.u32)(hx:gQ l x=some (.int .u8 (a.toNat:Int))):Ev P n l w (.convert t d x) (fT ((a.setWidth 32).toNat:Int)):=by
  have:=FV (P:=P) (n:=n) (w:=w) hs hd hk hx
  rwa [show IntKind.u32.wrap (a.toNat:Int)=((a.setWidth 32).toNat:Int) from by rw [aaz,BitVec.toNat_setWidth]; have:=a.isLt; omega] at this
theorem Ev.arp(hs:(P.underlying t).isSome=true)(hd:P.underlying d=some (.int (P.intKind d)))(hk:P.intKind d=.u32)(hx:gQ l x=some (.int k (m:Int))):Ev P n l w (.convert t d x) (fT ((BitVec.ofNat 32 m).toNat:Int)):=by
  have:=FV (P:=P) (n:=n) (w:=w) hs hd hk hx
  rwa [show IntKind.u32.wrap (m:Int)=((BitVec.ofNat 32 m).toNat:Int) from by rw [aaz,BitVec.toNat_ofNat]; omega] at this
theorem Ev.aIC(hx:gQ l x=some (aD (m:Int)))(hy:gQ l y=some (.int k (c:Int)))(hc:c<=64):Ev P n l w (.binOp .shr t x y ty) (aD ((m / 2 ^ c:Nat):Int)):=
  pI hx hy (y8 ..) λw=>by
    have h:(binOp .shr t (aD (m:Int)) (.int k (c:Int)))=Op.shift .shr .i64 (m:Int) k (c:Int):=rfl;have e:min (c:Int).toNat IntKind.i64.bits=c:=by show min (c:Int).toNat 64=c; omega
    rw [h,shift_shr_any _ _ _ _ aj,e]; norm_cast
theorem Ev.ay5(hx:gQ l x=some (aD z))(hy:gQ l y=some (.int k (c:Int)))(hc:c<=64):Ev P n l w (.binOp .shr t x y ty) (aD (z / 2 ^ c)):=
  pI hx hy (y8 ..) λw=>by
    have h:(binOp .shr t (aD z) (.int k (c:Int)))=Op.shift .shr .i64 z k (c:Int):=rfl;have e:min (c:Int).toNat IntKind.i64.bits=c:=by show min (c:Int).toNat 64=c; omega
    rw [h,shift_shr_any _ _ _ _ aj,e]; rfl
theorem Ev.aDR{a:Nat}(hx:gQ l x=some (aD (a:Int)))(hy:gQ l y=some (aD z))(hz:z=(c:Int))(hc:0<c)(ha:a<=9223372036854775807):Ev P n l w (.binOp .quo t x y ty) (aD ((a / c:Nat):Int)):=by
  subst hz;have e:(a:Int).tdiv (c:Int)=((a / c:Nat):Int):=rfl;have hq:∀ q:Nat,q<=a->I64 (q:Int):=λq hq=>vM aj aj;have h2:=Ev.quo (P:=P) (n:=n) (w:=w) (t:=t) (ty:=ty) hx hy aj (by rw [e]; exact hq _ (Nat.div_le_self a c))
  rwa [e] at h2
theorem Ev.ay6{a:Nat}(hx:gQ l x=some (aD (a:Int)))(hy:gQ l y=some (aD z))(hz:z=(c:Int))(hc:0<c)(ha:a<=9223372036854775807):Ev P n l w (.binOp .rem t x y ty) (aD ((a % c:Nat):Int)):=
  pI hx hy (y8 ..) λw=>by
    subst hz;have e:((a % c:Nat):Int)=(a:Int).tmod (c:Int):=rfl;have hc2:c≠0:=aj;rw [e]
    simp [binOp,Op.intDiv,hc2]
theorem Ev.avD{len i g:Nat}(hu:P.underlying t=some (.array len e))(hs:Size P e 1)(hx:gQ l x=some (fP g))(hy:gQ l y=some (.int k z))(hz:z=(i:Int))(hi:i<len):Ev P n l w (.indexAddr t x y) (.pointer (some ⟨g,i,none⟩)):=λo a w' ho ha _=>by
  unfold execOp; rw [ho];have h1:P.arrayLen t=len:=by simp [Program.arrayLen,hu]
  have h2:P.elem t=e:=by simp [Program.elem,hu]
  have h3:(Instr.indexAt t (fP g) (.int k z)).run P w'=.ok (.pointer (some ⟨g,i,none⟩)) w':=by
    rw [run_indexAt_array w' t _ k z (by rw [h1,h2]; exact hu),hz,aO ⟨aj,by rw [h1]; omega⟩,h2,hs w']
    simp [Addr.add]
    intro h; exact h.symm
  simp [ha.eval hx,ha.eval hy,h3]
theorem anS(hu:P.underlying t=some (.pointer e)):P.underlying t=some (.pointer (P.pointee t)):=by
  have h:P.pointee t=e:=by simp [Program.pointee,hu]
  rw [h]; exact hu
theorem Ev.aj5{p:ah}(hu:P.underlying t=some (.pointer e))(hx:gQ l x=some (.pointer p))(hy:gQ l y=some (.pointer none)):Ev P n l w (.binOp .eql t x y ty) (.bool p.isNone):=
  pI hx hy (eqGuard_at_pointer ..) λw=>run_eql_pointer_nil w t p (anS hu)
theorem Ev.pnn{p:ah}(hu:P.underlying t=some (.pointer e))(hx:gQ l x=some (.pointer p))(hy:gQ l y=some (.pointer none)):Ev P n l w (.binOp .neq t x y ty) (.bool (!p.isNone)):=
  pI hx hy (eqGuard_at_pointer ..) λw=>run_neq_pointer_nil w t p (anS hu)
theorem Ev.aDS{f:Fn}{azv cs:Array Value}{vr:Bool}(hu:P.underlying t=some (.func ps rs' vr))(hx:gQ l x=some (.func f azv cs)):Ev P n l w (.binOp .eql t x (.const .nilFunc) ty) (.bool false):=
  pI hx rfl (eqGuard_at_func ..) λw=>by
    have h:(Op.equal t (.func f azv cs) .nilFunc).run P w=.ok false w:=RB 9999 hu
    simp only [binOp]
    simp [h]
def xE:=@Ev.aDS
theorem Ev.aDT{vr:Bool}(hu:P.underlying t=some (.func ps rs' vr))(hx:gQ l x=some .nilFunc):Ev P n l w (.binOp .eql t x (.const .nilFunc) ty) (.bool true):=
  pI hx rfl (eqGuard_at_nilFunc ..) λw=>by
    have h:(Op.equal t .nilFunc .nilFunc).run P w=.ok true w:=RD 9999 hu
    simp only [binOp]
    simp [h]
end
section
variable {P:Program}{n:Cx}{l:List (Nat × Value)}{b w:World}{S:Nat->Prop}{rs rest:List lC}{Q:Exit->Act->World->Prop}{K:Act->World->Prop}{bT:Array Oper}{os:List Oper}{ty:TypeId}{pos:String}{lD:Array Edge}{d:Nat}
theorem XG{g o:Nat}{t':TypeId}{cs ds:List Value}(hs:Size P t ds.length)(hb:Bx w g t' cs)(hl:o+ds.length<=cs.length)(h1:∀ u∈ds,u.oneCell'=true){v:Value}(hv:v.cells=ds.toArray) :
    (Instr.storeAt t (.pointer (some ⟨g,o,none⟩)) v).run P w=.ok () (w.setRow g (cs.take o++ds++cs.drop (o+ds.length)).toArray):=by
  have hst:=PX P g o t' ds 0 cs.toArray w hb (by simpa using hl) h1
  simp only [Instr.storeAt,Instr.sureAddr,storeVar,hv,jc,jW,jd,hs w]
  simp only [LX,ne_eq,not_true_eq_false,if_false,jc,jW,jd]
  rw [hst]
  simp
theorem stp{t':TypeId}{x y:Operand}{g o:Nat}{v:Value}{cs ds cs':List Value}(hx:gQ l x=some (.pointer (some ⟨g,o,none⟩)))(hy:gQ l y=some v)(hv:v.cells=ds.toArray)(hs:Size P t ds.length)(H:Hp b S w rs)(s:ou rs (dJ g t' cs) rest)(hl:Nat.ble (o+ds.length) cs.length=true)(h1:ds.all (λu=>u.oneCell')=true)(hc:cs.take o++ds++cs.drop (o+ds.length)=cs')
    (k:∀ w',Hp b S w' (dJ g t' cs'::rest)->WL P n bT Q K os l w'):WL P n bT Q K (⟨none,.store t x y,ty,pos,lD,none⟩::os) l w:=
  Nz (λa _=>fM a) rfl (R:=λw'=>w'=w.setRow g (cs.take o++ds++cs.drop (o+ds.length)).toArray) (λa ha=>⟨_,by
    unfold execOp; simp [ha.eval hx,ha.eval hy,XG (P:=P) hs (H.x s) (oJ hl) (λu hu=>mZ.1 h1 u hu) hv],rfl⟩) λw' e=>by
    subst e; subst hc;exact k _ ((H.sel s).put (r':=dJ g t' (cs.take o++ds++cs.drop (o+ds.length))) (Wr.ae4 (g:=g) ⟨Y,Y,Y,av,λk _ hn=>setRow_other w g k _ hn,kH _⟩ rfl) (λg hg=>.inl hg) (IL w g cs.toArray _ t' (0,0) (H.x s)))
theorem WL.avE{o:Oper}{v:Value}(hw:∀ a,Has n l a->Region.wanted o (yielded bT a.tmps)=true)(hdst:o.dst=none){R:World->Prop}
    (hrun:∀ a,Has n l a->∃ w',(execOp a.eval o).run P w=.ok (.value v) w'/\R w') (k:∀ w',R w'->WL P n bT Q K os l w'):WL P n bT Q K (o::os) l w:=by
  intro a ha;obtain⟨w',hr,hR⟩:=hrun a ha;unfold TT;rw [aO (hw a ha)];refine J8 hr ?_;rw [hdst];exact k w' hR a ha
end
section
variable {P:Program}{n:Cx}{l:List (Nat × Value)}{w:World}{Q:Exit->Act->World->Prop}{K:Act->World->Prop}{bT:Array Oper}{os:List Oper}{ty:TypeId}{pos:String}{lD:Array Edge}{d:Nat}{IE:Operand}{args:List Operand}{tys:Array TypeId}{f:FuncId}{fs caps vs all:List Value}{R:Value->World->Prop}
theorem Ev.ay7{xs ys:List Operand}(hx:DJ l xs=some fs)(hy:DJ l ys=some caps):Ev P n l w (.makeFunc (.func f) xs.toArray ys.toArray) (.func (.func f) fs.toArray caps.toArray):=λo a w' ho ha _=>by
  have h1:=ha.Ry hx;have h2:=ha.Ry hy;unfold execOp; rw [ho]
  simp only [rM,h1,h2]
  rfl
def xF:=@Ev.ay7
theorem aj6{a:Act}{o:Oper}(ho:o.op=.call ⟨.value IE,args.toArray,tys⟩)(ha:Has n l a)
    (hf:gQ l IE=some (.func (.func f) fs.toArray caps.toArray)) (hargs:DJ l args=some vs) (hall:fs++vs++caps=all) (hc:bI P f) (w:World):(execOp a.eval o).run P w=.ok (.enter f all.toArray) w:=by
  unfold execOp;rw [ho];have h1:=ha.eval hf;have h2:=ha.Ry hargs
  simp only [resolve,h1,Deferred.ofValue,jc,jW,jd,invoke]
  have:(fs.toArray++Array.map a.eval args.toArray++caps.toArray:Array Value)=all.toArray:=by
    rw [rM,h2,<- hall]; simp
  rw [this];exact hc _ w
theorem WL.ay8(hf:gQ l IE=some (.func (.func f) fs.toArray caps.toArray))(hargs:DJ l args=some vs)(hall:fs++vs++caps=all)(Cj:bI P f)(hc:bO P f all.toArray w R)(hd:Nat.blt d n.size=true)
    (k:∀ v w',R v w'->WL P n bT Q K os ((d,v)::l) w'):WL P n bT Q K (⟨some d,.call ⟨.value IE,args.toArray,tys⟩,ty,pos,lD,none⟩::os) l w:=
  λa ha=>T9 (fM a) (aj6 rfl ha hf hargs hall Cj w) hc λv w' hv=>k v w' hv _ (ha.put hd v)
def GR:=@WL.ay8
end
section
variable {P:Program}{n:Cx}{l:List (Nat × Value)}{w:World}{Q:Exit->Act->World->Prop}
theorem cT{c:Operand}{x y z:Code}(hc:gQ l c=some (.bool true))(h:WP P n x l w (Exit.then (Ls P n z Q) Q)):WP P n (.seq (.cond c x y) z) l w Q:=WP.cond hc (λ_=>h) (λh=>by cases h)
theorem cF{c:Operand}{x y z:Code}(hc:gQ l c=some (.bool false))(h:WP P n y l w (Exit.then (Ls P n z Q) Q)):WP P n (.seq (.cond c x y) z) l w Q:=WP.cond hc (λh=>by cases h) (λ_=>h)
def RN(P:Program)(n:Cx)(c:Code)(Q:Exit->Act->World->Prop)(m:Nat)(l:List (Nat × Value))(w:World):Prop:=∀ a,Has n l a->Code.roundsIn n.fence 0 P c Q m a w
theorem Rn(m:Nat){c:Code}(h:RN P n c Q m l w):WP P n (.loop c) l w Q:=λa ha=>wpIn_loop_rounds m (h a ha)
theorem RN.s{c:Code}(h:WP P n c l w (Exit.then (Code.roundsIn n.fence 0 P c Q m) Q)):RN P n c Q (m+1) l w:=h
theorem kV.rnd{c:Code}(h:RN P n c Q m l w):kV n (Exit.then (Code.roundsIn n.fence 0 P c Q m) Q) .normal l w:=h
end
end Go.Proofs.YtlhnnmlenkahlaaGreat
