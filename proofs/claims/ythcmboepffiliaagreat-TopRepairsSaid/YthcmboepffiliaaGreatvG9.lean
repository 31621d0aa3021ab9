/- Lemmas. -/
import Derived.Laws.MathBits
import Derived.Test.YthcmboepffiliaaGreatvG8
set_option maxRecDepth 4000
set_option linter.all false
namespace Go.Proofs.YthcmboepffiliaaGreat
open Go.RowKit Go.Proofs.Tryz
def aew:=@Bool.false_eq_true
def atS:=@IntKind.wrap_u32
def akG:=@BitVec.toNat_ushiftRight
def akH:=@Nat.shiftRight_eq_div_pow
def akI:=@BitVec.toNat_shiftLeft
def akJ:=@Nat.shiftLeft_eq
def FL:=@List.nodup_cons
def ZO:=@List.map_congr_left
def akK:=@List.filter_cons_of_pos
def Va:=@List.mem_iff_getElem?
def Qs:=@List.map_map
def akL:=@ChangeMaps.map_eraseIdx
def Vb:=@List.filter_sublist
def zK:=@underlying42
def FM:=@underlying150
def Vd:=@List.filter_eq_nil_iff
section
variable {S0 S:Nat->Prop}{wP A jL:ah}{Hr:List Value}{b w:World}{F:List kF}{c jK m:Nat}{xs l:List aI}{a:BitVec 32}{k:IntKind}{z:Int}{t e:TypeId}{ps rs':Array TypeId}
def akM:wT prog 140 5 24:=by
 obtain⟨i,h1,h2,h3,h4⟩:=qo (show(prog.info? 140).map (λi=>(i.zero,i.size,i.bytes))=some (some (.agg #[O 0,O 0,gP 0,.bool false,.bool false]),5,24) by kernel_rfl);exact⟨i,_,h1,h2,h3,h4,Y,λv hv=>mD.1 (show(Value.cells (.agg #[O 0,O 0,gP 0,.bool false,.bool false])).toList.all (λv=>v.oneCell')=true from Y) v hv⟩
def aDU:bC prog 236:=λ_ _=>by rfl
def aDV:bC prog 318:=λ_ _=>by rfl
def aDW:bC prog 275:=λ_ _=>by rfl
def ZP(a0:Int)(a1:Int)(a2:Int)(a3:Bool)(a4:Bool):∀ w,(Instr.buildSlice 135 1 (List.toArray [(0,.agg #[O a0,O a1,gP a2,.bool a3,.bool a4])])).run prog w=.ok (.slice (some ⟨w.heap.size,0,none⟩) 1 1) (w.alloc (.cells (List.toArray [O a0,O a1,gP a2,.bool a3,.bool a4]) 140)):=ay
abbrev Xx(gX:aI):=([.agg #[O gX.X,O gX.E,gP gX.Sum,.bool gX.fZ,.bool gX.Bad]]:List Value)
def Lu(w:World){vk:Nat}{s:V aI}(sP:Sl bg S0 w wP vk s){CK:FuncId}(VR:bC prog CK)(f:aI->Bool)(VT:∀(w':World)(x:aI),Ext w w'->x∈s->bM prog CK ((Xx x)++Hr).toArray w' λv w''=>v=.bool (f x)/\Ext w' w''):bM prog 204 #[.slice wP s.length vk,.func (.func CK) #[] Hr.toArray] w λv w'=>v=O (idxOf f s)/\Hp w S0 w' []:=by
 refine lg S0 func204 ntmps204 Y λH0=>?_;have qU:=pE;have qZ:=pR;have qG:=pU;exact mIF
def FN(w:World){vk:Nat}{s:V aI}(sP:Sl bg S0 w wP vk s){CK:FuncId}(VR:bC prog CK)(f:aI->Bool)(VT:∀(w':World)(x:aI),Ext w w'->x∈s->bM prog CK ((Xx x)++Hr).toArray w' λv w''=>v=.bool (f x)/\Ext w' w''):bM prog 130 #[.slice wP s.length vk,.func (.func CK) #[] Hr.toArray] w λv w'=>v=.bool (s.any f)/\Hp w S0 w' []:=by
 refine lg S0 func130 ntmps130 Y λH0=>pC 6 Y<|mX H0 Y (Lu _ (H0.a sP).any VR f (λw' x e hm=>VT w' x (H0.ext.trans e) hm)) λw1 K1=>pA 3 Y<|iU Y ?_
 exact⟨by rw [Xt f s] <;> rfl,K1⟩
def Ve(H0:Hp b S w (aR bg 140 A c xs::F)){fd:FuncId}{kd:V Value}(qd:bC prog fd)(p:aI->Bool)
    (hd:∀(w':World)(ys:V aI)(x:aI),ys.length=xs.length->Hp b S w' (aR bg 140 A c ys::F)->bM prog fd ((Xx x)++kd).toArray w' λv w''=>v=.bool (p x)/\Ext w' w'') (hn:xs.length<=1000000) :
    bM prog 306 #[.slice A xs.length c,.func (.func fd) #[] kd.toArray] w λv w'=>v=.slice A (xs.filter λx=>!p x).length c/\Hp b S w' (aR bg 140 A c (xs.filter λx=>!p x)::F):=by
 refine qN func306 ntmps306 Y ?_;have qU:=pE;have qZ:=pR;have qG:=pU;have qO:=yP;have qE:=akM;have qX:=@Lu;exact mDF
def aDX:ags 357 379 380 135 140 5 24 Tryz.f357.name:=⟨by rfl,⟨_,func379,by rfl,by rfl,ak,ak⟩,pE,ig,pR,by rfl,akE,akM⟩
def aex:=@Ux _ _ _ _ _ _ _ _ bg aDX
def aey(H0:Hp b S w (aR bg 140 A c xs::F)){i j:Nat}(hij:i<j)(hj:j<=xs.length):bM prog 304 #[.slice A xs.length c,O (i:Int),O (j:Int)] w λv w'=>v=.slice A (xs.take i++xs.drop j).length c/\Hp b S w' (aR bg 140 A c (xs.take i++xs.drop j)::F):=by
 refine qN func304 ntmps304 Y ?_;have qU:=pE;have qZ:=pR;have qE:=akM;have qI:=akE;exact mDE
def Qu(H0:Hp b S w (dI bg A c l::F)){fd:FuncId}{kd:V Value}(qd:bC prog fd)(p:aI->Bool)
    (hd:∀(w':World)(A':ah)(c':Nat)(ys:V aI)(x:aI),Hp b S w' (aR bg 140 A' c' ys::dI bg A c l::F)->bM prog fd ((Xx x)++kd).toArray w' λv w''=>v=.bool (p x)/\Ext w' w'') (hn:l.length<=100000) :
    bM prog 235 #[.slice A l.length c,.func (.func fd) #[] kd.toArray] w λv w'=>∃ A0 c0,v=.slice A0 ((iI l).filter λx=>!p x).length c0/\Hp b S w' (aR bg 140 A0 c0 ((iI l).filter λx=>!p x)::dI bg A c l::F):=by
 refine qN func235 ntmps235 Y ?_;have hfl:=xL l;refine pC 5 Y<|gu Y (SF _ (H0.s U).any aj) ?_
 rintro _ w1 ⟨jT,jU,rfl,h1⟩;have K1:=H0.f1 h1;have La:=aj;refine mv Y<|gu Y (Ve K1 qd p (by grind) aj) ?_
 rintro _ w2 ⟨rfl,K2⟩;refine fE Y<|iU Y ?_
 exact⟨_,_,Y,K2⟩
def apg(w:World)(x:aI):bM prog 236 #[.agg #[O x.X,O x.E,gP x.Sum,.bool x.fZ,.bool x.Bad]] w λv w'=>v=.bool x.fZ/\Hp w S0 w' []:=by
 refine lg S0 func236 ntmps236 Y λH0=>rg<|bx Y Y H0 λg1 w1 K1=>fE Y<|rg<|jP g1 3 uL K1 U Y<|fE Y<|iU Y ?_
 exact⟨Y,(K1.rm U)⟩
def akN(w:World)(x:aI){iy:Nat}(c:Int)(h_c:Bx w iy 3 [O c]):bM prog 318 #[.agg #[O x.X,O x.E,gP x.Sum,.bool x.fZ,.bool x.Bad],fK iy] w λv w'=>v=.bool (decide (x.X=c)&&x.fZ)/\Hp w S0 w' []:=by
 refine lg S0 func318 ntmps318 Y λH0=>rg<|bx Y Y H0 λg1 w1 K1=>fE Y<|rg<|jP g1 0 mI K1 U Y<|ev (dU jF Y (h_c.ext K1.ext) Y)<|pq 2 Y<|iJ 3 11 ((decide (x.X=c))&&x.fZ) ?_ ?_
 ·cases hb8:decide (x.X=c) with
  | true=>
   refine wW g1 3 uL K1 U Y<|pq 1 Y<|dK Y
  | false=>
   refine pq 3 Y<|dK Y
 refine fE Y<|iU Y ?_
 exact⟨by skip <;> rfl,(K1.rm U)⟩
def atT(w:World)(x:aI){iy:Nat}(c:Int)(h_c:Bx w iy 3 [O c]):bM prog 275 #[.agg #[O x.X,O x.E,gP x.Sum,.bool x.fZ,.bool x.Bad],fK iy] w λv w'=>v=.bool (decide (x.X=c)&&!x.fZ)/\Hp w S0 w' []:=by
 refine lg S0 func275 ntmps275 Y λH0=>rg<|bx Y Y H0 λg1 w1 K1=>fE Y<|rg<|jP g1 0 mI K1 U Y<|ev (dU jF Y (h_c.ext K1.ext) Y)<|pq 2 Y<|iJ 4 12 ((decide (x.X=c))&&(!x.fZ)) ?_ ?_
 ·cases hb8:decide (x.X=c) with
  | true=>
   refine wW g1 3 uL K1 U Y<|pq 2 Y<|dK Y
  | false=>
   refine pq 4 Y<|dK Y
 refine fE Y<|iU Y ?_
 exact⟨by skip <;> rfl,(K1.rm U)⟩
def ahP(w:World)(jq:Sl bg S0 w jL jK l)(hn:l.length<=100000):bM prog 151 #[.slice jL l.length jK] w λv w'=>∃ A0 c0,v=.slice A0 ((dL l).length) c0/\Hp w S0 w' [aR bg 140 A0 c0 (dL l)]:=by
 refine lg S0 func151 ntmps151 Y λH0=>pC 5 Y ?_;have H1:=H0.push (H0.a jq);refine gu Y (Qu H1 aDU (λx9=>x9.fZ) (λw9 A9 c9 ys x9 K9=>(apg (S0:=Any) w9 x9).mono (by rintro _ w8 ⟨rfl,K8⟩; exact⟨rfl,K8.ext⟩)) aj) ?_;rintro _ w1 ⟨A_1,c_1,rfl,K1⟩;refine fE Y<|iU Y ?_
 have gy:(((iI l).filter λx9=>!(x9.fZ)):V aI)=(dL l):=by rfl
 rw [gy] at K1;exact⟨A_1,c_1,by rw [gy] <;> rfl,(K1.rm s1)⟩
def aph(w:World)(jq:Sl bg S0 w jL jK l)(aN:Int)(hn:l.length<=100000):bM prog 240 #[.slice jL l.length jK,O aN] w λv w'=>∃ A0 c0,v=.slice A0 ((FK l aN).length) c0/\Hp w S0 w' [aR bg 140 A0 c0 (FK l aN)]:=by
 refine lg S0 func240 ntmps240 Y λH0=>rg<|bx Y Y H0 λg1 w1 K1=>pB 4 Y<|ev (rZ Y) ?_
 have H1:=K1.push (K1.a jq);refine gu Y (Qu H1 aDV (λx9=>decide (x9.X=aN)&&x9.fZ) (λw9 A9 c9 ys x9 K9=>(akN (S0:=Any) w9 x9 aN (K9.x s2)).mono (by rintro _ w8 ⟨rfl,K8⟩; exact⟨rfl,K8.ext⟩)) aj) ?_;rintro _ w2 ⟨A_2,c_2,rfl,K2⟩;refine fE Y<|iU Y ?_
 have gy:(((iI l).filter λx9=>!(decide (x9.X=aN)&&x9.fZ)):V aI)=(FK l aN):=by rfl
 rw [gy] at K2;exact⟨A_2,c_2,by rw [gy] <;> rfl,(K2.cU 1 2)⟩
abbrev Ox:=(([]:List aI):List aI)
def ayT(w:World)(jq:Sl bg S0 w jL jK l)(aN:Int)(hn:l.length<=100000):bM prog 206 #[.slice jL l.length jK,O aN] w λv w'=>∃ A0 c0,v=.tuple #[.slice A0 (((oZ l aN).1).length) c0,O ((oZ l aN).2)]/\Hp w S0 w' [aR bg 140 A0 c0 ((oZ l aN).1)]:=by
 refine lg S0 func206 ntmps206 Y λH0=>?_;have hfl:=xL l;refine rg<|bx Y Y H0 λg1 w1 K1=>pA 3 Y<|aZ<|He K1 (λ_ K=>K) (λl0 rk lJ wJ=>lJ=(7,.bool (T9 (iI l) aN false))::l0/\Hp w S0 wJ rk) (λhns H1=>?_) ?_
 ·refine lF 0 Y Y H1<|xS 2 U Y H1<|O1 1 Y<|gu Y (SF _ (H1.a jq).any aj) ?_
  rintro _ w2 ⟨qj,ql,rfl,h2⟩;have K2:=H1.f1 h2;have VX:=(K2.o U).bI;have k1:=(K2.rm U);refine aO k1<|O1 3 Y<|mX K2 Y (Nr _ (K2.o U) aN false aj) λw3 K3=>?_
  have k2:=(K3.rm U);refine aO k2<|lF 4 Y Y k2<|yj 5 Y Y Y k2<|yj 6 Y Y Y k2<|xC 7 Y Y k2<|xC 8 Y Y k2<|Dn ⟨Y,(K3.rm U)⟩ Y
 rintro _ w4 ⟨rfl,K4⟩;refine gD Y<|ev (wC Y)<|dn<|bS Y (λhc16=>?_) (λhc16=>?_)
 ·try simp only [aA,aew,false_or,qM,true_and,uw] at hc16
  refine rg<|oJ Y<|fE Y<|Aw Y ?_
  have H2:=K4.nil bg 140;have gy:Ox=((oZ l aN).1):=by unfold oZ; rw [aQ (by simpa using hc16)]
  have H3:=(gy▸H2:Hp w S0 w4 (aR bg 140 none 0 ((oZ l aN).1)::[dJ g1 3 [O aN]]));have gH:(5:Int)=((oZ l aN).2):=by unfold oZ; rw [aQ (by simpa using hc16)]
  exact⟨none,0,by rw [<- gy,<- gH] <;> rfl,(H3.rm s1)⟩
 try simp only [aA,aew,false_or,qM,true_and,uw] at hc16
 refine jQ ?_;refine gD Y<|ev (rZ Y) ?_
 have H4:=K4.push (K4.a jq);refine gu Y (Qu H4 aDW (λx9=>decide (x9.X=aN)&&!x9.fZ) (λw9 A9 c9 ys x9 K9=>(atT (S0:=Any) w9 x9 aN (K9.x s2)).mono (by rintro _ w8 ⟨rfl,K8⟩; exact⟨rfl,K8.ext⟩)) aj) ?_;rintro _ w5 ⟨A_5,c_5,rfl,K5⟩;refine pA 3 Y<|iU Y ?_
 have kN:(((iI l).filter λx9=>!(decide (x9.X=aN)&&!x9.fZ)):V aI)=((oZ l aN).1):=by unfold oZ; rw [aS (by simpa using hc16)]
 rw [kN] at K5;have nM:(0:Int)=((oZ l aN).2):=by unfold oZ; rw [aS (by simpa using hc16)]
 exact⟨A_5,c_5,by rw [kN,<- nM] <;> rfl,(K5.cU 1 2)⟩
def amv(H0:Hp b S w (aR bg 140 jL jK l::F))(x:aI)(hn:l.length<=100000):bM prog 303 #[.slice jL l.length jK,.agg #[O x.X,O x.E,gP x.Sum,.bool x.fZ,.bool x.Bad]] w λv w'=>∃ A0 c0,v=.slice A0 ((Bj l x).length) c0/\Hp b S w' (aR bg 140 A0 c0 (Bj l x)::F):=by
 refine qN func303 ntmps303 Y ?_;have hat:=atO l x.X x.fZ;refine rg<|bx Y Y H0 λg1 w1 K1=>pB 4 Y<|jP g1 0 mI K1 U Y<|jP g1 3 uL K1 U Y<|mX K1 Y (Nr _ (K1.o s1) x.X x.fZ aj) λw2 K2=>pA 6 Y<|aZ<|gD Y<|ev (wC Y)<|dn<|bS Y (λhc17=>?_) (λhc17=>?_)
 ·try simp only [aA] at hc17
  refine jN<|pq 2 Y<|ev (fA pU Y Y (K2.x U))<|yV Y (by intro _; apply ZP) rfl K2 (λ_ _=>rfl) λg2 w3 K3=>gu rfl (aex K3 s2 U aj aj) ?_
  rintro _ w4 ⟨sQ,sS,rfl,K4⟩;refine oJ Y<|jO<|fV<|pC 3 Y<|ev (fA pU Y Y (K4.x s1)) ?_
  obtain⟨x1,bT⟩:=bH (xs:=(l.take (atR l x.X x.fZ)++[x]++l.drop (atR l x.X x.fZ))) (i:=atR l x.X x.fZ) (by simp only [jH,iX,uj,oO,u6]; omega);refine ev (d9 (i:=atR l x.X x.fZ) pE pR Y Y Y (aP bT) ((K4.o U).some_ bT))<|se (i:=atR l x.X x.fZ) (f:=0) (x:=x1) (x':=x) (ds:=[O x.X,O x.E,gP x.Sum,.bool x.fZ,.bool x.Bad]) K4 U Y Y Y bT Y pR (nU Y) Y (by rintro _ _ _ ⟨⟩; rfl) λw5 K5=>?_
  have hl1:((l.take (atR l x.X x.fZ)++[x]++l.drop (atR l x.X x.fZ)).set (atR l x.X x.fZ) x).length=(l.take (atR l x.X x.fZ)++[x]++l.drop (atR l x.X x.fZ)).length:=iC ..;refine gZ (t:=0) (u:=.slice sQ ((l.take (atR l x.X x.fZ)++[x]++l.drop (atR l x.X x.fZ)).length) sS) (v:=.slice sQ (((l.take (atR l x.X x.fZ)++[x]++l.drop (atR l x.X x.fZ)).set (atR l x.X x.fZ) x).length) sS) Y (by rw [hl1])<|gZ (t:=22) (u:=.slice sQ ((l.take (atR l x.X x.fZ)++[x]++l.drop (atR l x.X x.fZ)).length) sS) (v:=.slice sQ (((l.take (atR l x.X x.fZ)++[x]++l.drop (atR l x.X x.fZ)).set (atR l x.X x.fZ) x).length) sS) rfl (by rw [hl1])<|gZ (t:=23) (u:=.slice sQ ((l.take (atR l x.X x.fZ)++[x]++l.drop (atR l x.X x.fZ)).length) sS) (v:=.slice sQ (((l.take (atR l x.X x.fZ)++[x]++l.drop (atR l x.X x.fZ)).set (atR l x.X x.fZ) x).length) sS) rfl (by rw [hl1]) ?_
  have nE:((l.take (atR l x.X x.fZ)++[x]++l.drop (atR l x.X x.fZ)).set (atR l x.X x.fZ) x)[atR l x.X x.fZ]? = some x:=u7 (aP bT);refine pA 5 Y<|iU Y ?_
  have gy:(((l.take (atR l x.X x.fZ)++[x]++l.drop (atR l x.X x.fZ)).set (atR l x.X x.fZ) x):V aI)=(Bj l x):=by unfold Bj; rw [aQ (by simpa using hc17)]; exact set_mid hat
  exact⟨sQ,sS,by rw [<- gy] <;> rfl,by rw [<- gy]; exact(K5.rm s1)⟩
 try simp only [aA] at hc17
 have hlt:=ZM (by simpa using hc17:T9 l x.X x.fZ=true);refine jQ ?_;refine pC 3 Y<|ev (fA pU Y Y (K2.x U)) ?_
 obtain⟨x2,hx3⟩:=bH (xs:=l) (i:=atR l x.X x.fZ) aj;refine ev (d9 (i:=atR l x.X x.fZ) pE pR Y Y Y (aP hx3) ((K2.o s1).some_ hx3))<|se (i:=atR l x.X x.fZ) (f:=0) (x:=x2) (x':=x) (ds:=[O x.X,O x.E,gP x.Sum,.bool x.fZ,.bool x.Bad]) K2 s1 Y Y Y hx3 Y pR (nU Y) Y (by rintro _ _ _ ⟨⟩; rfl) λw6 K6=>?_
 have hl2:(l.set (atR l x.X x.fZ) x).length=l.length:=iC ..;refine gZ (t:=0) (u:=.slice jL l.length jK) (v:=.slice jL ((l.set (atR l x.X x.fZ) x).length) jK) Y (by rw [hl2])<|gZ (t:=8) (u:=.slice jL l.length jK) (v:=.slice jL ((l.set (atR l x.X x.fZ) x).length) jK) rfl (by rw [hl2])<|gZ (t:=23) (u:=.slice jL l.length jK) (v:=.slice jL ((l.set (atR l x.X x.fZ) x).length) jK) rfl (by rw [hl2]) ?_
 refine pA 5 Y<|iU Y ?_
 have gH:((l.set (atR l x.X x.fZ) x):V aI)=(Bj l x):=by unfold Bj; rw [aS (by simpa using hc17)]
 exact⟨jL,jK,by rw [<- gH] <;> rfl,by rw [<- gH]; exact(K6.rm s1)⟩
def apj(w:World)(jq:Sl bg S0 w jL jK l)(x:aI)(bB:Int)(hn:l.length<=100000):bM prog 229 #[.slice jL l.length jK,.agg #[O x.X,O x.E,gP x.Sum,.bool x.fZ,.bool x.Bad],O bB] w λv w'=>∃ A0 c0,v=.tuple #[.slice A0 (((kU l x bB).1).length) c0,O ((kU l x bB).2)]/\Hp w S0 w' [aR bg 140 A0 c0 ((kU l x bB).1)]:=by
 refine lg S0 func229 ntmps229 Y λH0=>?_;have hfl:=xL l;refine rg<|bx Y Y H0 λg1 w1 K1=>pB 5 Y<|gu Y (SF _ (K1.a jq).any aj) ?_
 rintro _ w2 ⟨qj,ql,rfl,h2⟩;have K2:=K1.f1 h2;have VX:=(K2.o U).bI;refine fE Y<|aZ<|rg<|ev (fA pU Y Y (K2.x s1))<|mX K2 Y (aci (S0:=Any) _ x) λw3 K3=>pA 2 Y<|bS Y (λhc16=>?_) (λhc16=>?_)
 ·refine rg<|oJ Y<|fE Y<|Aw Y ?_
  have H1:=K3.nil bg 140;have gy:Ox=((kU l x bB).1):=by unfold kU; rw [aS hc16]
  have H2:=(gy▸H1:Hp w S0 w3 (aR bg 140 none 0 ((kU l x bB).1)::[aR bg 140 qj ql (iI l),dJ g1 140 [O x.X,O x.E,gP x.Sum,.bool x.fZ,.bool x.Bad]]));have gH:(1:Int)=((kU l x bB).2):=by unfold kU; rw [aS hc16]
  exact⟨none,0,by rw [<- gy,<- gH] <;> rfl,(H2.cU 1 2)⟩
 refine jQ ?_;refine gD Y<|jP g1 0 mI K3 s1 Y<|mX K3 Y (Nr _ (K3.o U) x.X false aj) λw4 K4=>pB 8 Y<|jP g1 0 mI K4 s1 Y<|mX K4 Y (Nr _ (K4.o U) x.X true aj) λw5 K5=>pA 6 Y<|aZ<|dF ?_
 have hl1:=λh=>ZM (l:=iI l) (c:=x.X) (t:=false) h;have hl2:=λh=>ZM (l:=iI l) (c:=x.X) (t:=true) h;refine pW ak ak<|bf (dP Y) Y<|bf (dP Y) Y<|rO 9 42 (SC (Dz (iI l) x.X false) x.E) ?_ ?_
 ·cases aCQ:T9 (iI l) x.X false with
  | true=>
   have hl3:=hl1 aCQ;refine dM Y (dP Y) Y<|dM Y (dP Y) Y ?_
   obtain⟨x1,bT⟩:=bH (xs:=iI l) aj;refine dM Y (d9 pE pR Y Y Y (aP bT) ((K5.o U).some_ bT)) Y<|dM Y (fq sJ Y (fD _ _ _)) Y<|dM Y (kG jF Y ((K5.o U).eZ bT Y)) Y<|dM Y (fq sJ Y Y) Y<|dM Y (dU jF Y (K5.x s1) Y) Y<|dM Y (Ev.geq Y Y) Y<|bf (oP Y Y) Y<|D6 (t:=42) (u:=.bool (decide (x.E<=x1.E))) (v:=.bool (SC (Dz (iI l) x.X false) x.E)) Y (aY Value.bool (by rw [I6 (by assumption) bT]; rfl))<|jR rfl
  | false=>
   refine dw Y Y Y<|dw Y Y Y<|dw Y Y Y<|dw Y Y Y<|dw Y Y Y<|dw Y Y Y<|dw Y Y Y<|dw Y Y Y<|bf (oU Y Y) Y<|D6 (t:=42) (u:=.bool false) (v:=.bool (SC (Dz (iI l) x.X false) x.E)) Y (aY Value.bool (by rw [SE (by assumption)]; rfl))<|jR rfl
 refine bf (tF Y) Y<|pX λw6 e6=>?_
 have K6:=K5.grow e6;refine bS Y (λhc31=>?_) (λhc31=>?_)
 ·refine rg<|oJ Y<|fE Y<|YC Y ?_
  have H3:=K6.nil bg 140;have kN:Ox=((kU l x bB).1):=by unfold kU; rw [aQ (by rw [hc16]; decide),aS hc31]
  have H4:=(kN▸H3:Hp w S0 w6 (aR bg 140 none 0 ((kU l x bB).1)::[aR bg 140 qj ql (iI l),dJ g1 140 [O x.X,O x.E,gP x.Sum,.bool x.fZ,.bool x.Bad]]));have nM:(9:Int)=((kU l x bB).2):=by unfold kU; rw [aQ (by rw [hc16]; decide),aS hc31]
  exact⟨none,0,by rw [<- kN,<- nM] <;> rfl,(H4.cU 1 2)⟩
 refine pW ak ak<|bf (dP Y) Y<|bf (dP Y) Y<|rO 9 54 (SC (Dz (iI l) x.X true) x.E) ?_ ?_
 ·cases aCR:T9 (iI l) x.X true with
  | true=>
   have hl3:=hl2 aCR;refine dM Y (dP Y) Y<|dM Y (dP Y) Y ?_
   obtain⟨x2,nE⟩:=bH (xs:=iI l) (i:=atR (iI l) x.X true) aj;refine dM Y (d9 (i:=atR (iI l) x.X true) pE pR Y Y Y (aP nE) ((K6.o U).some_ nE)) Y<|dM Y (fq sJ Y (fD _ _ _)) Y<|dM Y (kG jF Y ((K6.o U).eZ (j:=1) nE Y)) Y<|dM Y (fq (q:=⟨g1,1,none⟩) sJ Y Y) Y<|dM Y (dU jF Y (K6.x s1) Y) Y<|dM Y (Ev.geq Y Y) Y<|bf (oP Y Y) Y<|D6 (t:=54) (u:=.bool (decide (x.E<=x2.E))) (v:=.bool (SC (Dz (iI l) x.X true) x.E)) Y (aY Value.bool (by rw [I6 (by assumption) nE]; rfl))<|jR rfl
  | false=>
   refine dw Y Y Y<|dw Y Y Y<|dw Y Y Y<|dw Y Y Y<|dw Y Y Y<|dw Y Y Y<|dw Y Y Y<|dw Y Y Y<|bf (oU Y Y) Y<|D6 (t:=54) (u:=.bool false) (v:=.bool (SC (Dz (iI l) x.X true) x.E)) Y (aY Value.bool (by rw [SE (by assumption)]; rfl))<|jR rfl
 refine bf (tF Y) Y<|pX λw7 e7=>?_
 have K7:=K6.grow e7;refine bS Y (λyt=>?_) (λyt=>?_)
 ·refine rg<|oJ Y<|fE Y<|YC Y ?_
  have H5:=K7.nil bg 140;have uO:Ox=((kU l x bB).1):=by unfold kU; rw [aQ (by rw [hc16]; decide),aQ (by rw [hc31]; decide),aS yt]
  have H6:=(uO▸H5:Hp w S0 w7 (aR bg 140 none 0 ((kU l x bB).1)::[aR bg 140 qj ql (iI l),dJ g1 140 [O x.X,O x.E,gP x.Sum,.bool x.fZ,.bool x.Bad]]));have zC:(6:Int)=((kU l x bB).2):=by unfold kU; rw [aQ (by rw [hc16]; decide),aQ (by rw [hc31]; decide),aS yt]
  exact⟨none,0,by rw [<- uO,<- zC] <;> rfl,(H6.cU 1 2)⟩
 refine pC 4 Y<|iJ 5 63 ((!(T9 (iI l) x.X true))&&(decide (bB<=(((iI l).length:Nat):Int)))) ?_ ?_
 ·cases aUF:(!(T9 (iI l) x.X true)) with
  | true=>
   refine pq 5 Y<|dK Y
  | false=>
   refine pq 5 Y<|dK Y
 refine fE Y<|bS Y (λatU=>?_) (λatU=>?_)
 ·refine rg<|oJ Y<|fE Y<|YC Y ?_
  have H7:=K7.nil bg 140;have BO:Ox=((kU l x bB).1):=by unfold kU; rw [aQ (by rw [hc16]; decide),aQ (by rw [hc31]; decide),aQ (by rw [yt]; decide),aS atU]
  have H8:=(BO▸H7:Hp w S0 w7 (aR bg 140 none 0 ((kU l x bB).1)::[aR bg 140 qj ql (iI l),dJ g1 140 [O x.X,O x.E,gP x.Sum,.bool x.fZ,.bool x.Bad]]));have hq8:(7:Int)=((kU l x bB).2):=by unfold kU; rw [aQ (by rw [hc16]; decide),aQ (by rw [hc31]; decide),aQ (by rw [yt]; decide),aS atU]
  exact⟨none,0,by rw [<- BO,<- hq8] <;> rfl,(H8.cU 1 2)⟩
 refine Gw ?_;refine rg<|zA g1 3 uL Y<|xD Y K7 s1 Y λw8 K8=>zA g1 4 ahM Y<|xD Y K8 U Y λw9 K9=>dn<|gD Y<|ev (fA pU Y Y (K9.x U))<|gu Y (amv ((K9.sel U).sel s1) (⟨x.X,x.E,x.Sum,true,false⟩:aI) aj) ?_
 rintro _ PE ⟨RL,RO,rfl,K10⟩;refine pA 3 Y<|iU Y ?_
 have Aa:((Bj (iI l) (⟨x.X,x.E,x.Sum,true,false⟩:aI)):V aI)=((kU l x bB).1):=by unfold kU; rw [aQ (by rw [hc16]; decide),aQ (by rw [hc31]; decide),aQ (by rw [yt]; decide),aQ (by rw [atU]; decide)]
 rw [Aa] at K10;have vL:(0:Int)=((kU l x bB).2):=by unfold kU; rw [aQ (by rw [hc16]; decide),aQ (by rw [hc31]; decide),aQ (by rw [yt]; decide),aQ (by rw [atU]; decide)]
 exact⟨RL,RO,by rw [Aa,<- vL] <;> rfl,(K10.rm s1)⟩
def akO(w:World)(jq:Sl bg S0 w jL jK l)(aN:Int)(bR:Int)(hn:l.length<=100000):bM prog 230 #[.slice jL l.length jK,O aN,O bR] w λv w'=>∃ A0 c0,v=.tuple #[.slice A0 (((mR l aN bR).1).length) c0,O ((mR l aN bR).2)]/\Hp w S0 w' [aR bg 140 A0 c0 ((mR l aN bR).1)]:=by
 refine lg S0 func230 ntmps230 Y λH0=>?_;have hfl:=xL l;refine pC 6 Y<|gu Y (SF _ (H0.a jq).any aj) ?_
 rintro _ w1 ⟨jT,jU,rfl,h1⟩;have K1:=H0.f1 h1;have La:=(K1.o U).bI;refine pB 5 Y<|mX K1 Y (Nr _ (K1.o U) aN true aj) λw2 K2=>pA 6 Y<|aZ ?_
 have hl2:=λh=>ZM (l:=iI l) (c:=aN) (t:=true) h;refine pC 4 Y<|iJ 8 29 (atN (Dz (iI l) aN true) bR) ?_ ?_
 ·cases WM:(!(T9 (iI l) aN true)) with
  | true=>
   refine pq 8 Y<|gZ (t:=29) Y (aY Value.bool (by rw [SE (by simpa using WM)]; rfl))<|dK rfl
  | false=>
   have hl3:=hl2 (by simpa using WM);refine pq 2 Y ?_;obtain⟨x1,bT⟩:=bH aj;refine uf Y (d9 (i:=atR (iI l) aN true) pE pR Y Y Y (aP bT) ((K2.o U).some_ bT)) Y<|uf Y (fq sJ Y (fD _ _ _)) Y<|uf Y (kG jF Y ((K2.o U).eZ (j:=1) bT Y)) Y<|pq 3 Y<|gZ (t:=29) (u:=.bool (!decide (x1.E=bR))) Y (aY Value.bool (by rw [I6 (by simpa using WM) bT]; rfl))<|dK rfl
 refine dn<|bS Y (λhc29=>?_) (λhc29=>?_)
 ·refine rg<|oJ Y<|fE Y<|Aw Y ?_
  have H1:=K2.nil bg 140;have gy:Ox=((mR l aN bR).1):=by unfold mR; rw [aS hc29]
  have H2:=(gy▸H1:Hp w S0 w2 (aR bg 140 none 0 ((mR l aN bR).1)::[aR bg 140 jT jU (iI l)]));have gH:(5:Int)=((mR l aN bR).2):=by unfold mR; rw [aS hc29]
  exact⟨none,0,by rw [<- gy,<- gH] <;> rfl,(H2.rm s1)⟩
 obtain⟨y,hy1,hy2,hy3,hy4⟩:=ahK hc29;have hl3:=aP hy2;refine jQ ?_;refine pC 3 Y ?_;obtain⟨x2,nE⟩:=bH aj;refine ev (d9 pE pR Y Y Y (aP nE) ((K2.o U).some_ nE))<|ev (iR pU Y Y ((K2.o U).fF nE))<|al yP Y K2 λg1 w3 K3=>sty Y K3 U Y λw4 K4=>dn<|rg<|zA g1 3 uL Y<|xD Y K4 U Y λw5 K5=>dn<|He K5 (λ_ K=>(K.rm s1)) (λl0 rk lJ wJ=>∃ jG jr,lJ=(6,.slice jG ((Bj ((iI l).take (atR (iI l) aN true)++(iI l).drop (atR (iI l) aN true+1)) (⟨x2.X,x2.E,x2.Sum,false,x2.Bad⟩:aI)).length) jr)::l0/\Hp w S0 wJ (aR bg 140 jG jr (Bj ((iI l).take (atR (iI l) aN true)++(iI l).drop (atR (iI l) aN true+1)) (⟨x2.X,x2.E,x2.Sum,false,x2.Bad⟩:aI))::rk)) (λhns H3=>?_) ?_
 ·have k1:=(H3.rm s1);refine lF 0 Y Y k1<|lF 1 Y Y k1<|lF 2 Y Y k1<|kI 3 Y (λ_ _=>eG Y Y) k1<|kI 5 Y (λ_ hK=>fA pU Y Y (hK.x U)) k1<|O1 4 Y<|gu Y (aey (i:=atR (iI l) aN true) (j:=atR (iI l) aN true+1) (H3.sel s1) aj aj) ?_
  rintro _ w6 ⟨rfl,K6⟩;have k2:=(K6.rm U);refine aO k2<|O1 6 Y<|gu Y (amv K6 (⟨x2.X,x2.E,x2.Sum,false,x2.Bad⟩:aI) (by simp only [jH,iX,uj]; omega)) ?_
  rintro _ w7 ⟨aHS,aHT,rfl,K7⟩;have k3:=(K7.rm U);refine aO k3<|xC 7 Y Y k3<|xC 8 Y Y k3<|Dn ⟨aHS,aHT,Y,K7⟩ Y
 rintro _ w8 ⟨jG,jr,rfl,K8⟩;refine iU Y ?_;have kN:((Bj ((iI l).take (atR (iI l) aN true)++(iI l).drop (atR (iI l) aN true+1)) (⟨x2.X,x2.E,x2.Sum,false,x2.Bad⟩:aI)):V aI)=((mR l aN bR).1):=by rw [hy2] at nE; cases nE; unfold mR; rw [aQ (by rw [hc29]; decide),hy4]; rfl
 rw [kN] at K8;have nM:(0:Int)=((mR l aN bR).2):=by unfold mR; rw [aQ (by rw [hc29]; decide)]
 exact⟨jG,jr,by rw [kN,<- nM] <;> rfl,(K8.rm s1)⟩
section
variable {P:Program}{n:Cx}{l:List (Nat × Value)}{w:World}{t ty d e:TypeId}{x y:Operand}
def bvI{k:Nat}(a:BitVec k):BitVec.ofInt k (a.toNat:Int)=a:=by simp
theorem w32(a:BitVec 32):IntKind.u32.wrap (a.toNat:Int)=(a.toNat:Int):=by rw [atS]; omega
theorem w8(a:BitVec 8):IntKind.u8.wrap (a.toNat:Int)=(a.toNat:Int):=by rw [IntKind.wrap_u8]; omega
def Ev.amw{b:BitVec 32}(hx:fM l x=some (gP (a.toNat:Int)))(hy:fM l y=some (gP (b.toNat:Int))):Ev P n l w (.binOp .xor t x y ty) (gP ((a ^^^ b).toNat:Int)):=
 pY hx hy (zP ..) λw=>by
  have h:(binOp .xor t (gP (a.toNat:Int)) (gP (b.toNat:Int))).run P w=.ok (gP (IntKind.u32.wrap (((BitVec.ofInt 32 (a.toNat:Int) ^^^ BitVec.ofInt 32 (b.toNat:Int)).toNat:Nat):Int))) w:=rfl
  grind [w32]
def Ev.amx{b:BitVec 32}(hx:fM l x=some (gP (a.toNat:Int)))(hy:fM l y=some (gP (b.toNat:Int))):Ev P n l w (.binOp .and t x y ty) (gP ((a&&& b).toNat:Int)):=
 pY hx hy (zP ..) λw=>by
  have h:(binOp .and t (gP (a.toNat:Int)) (gP (b.toNat:Int))).run P w=.ok (gP (IntKind.u32.wrap (((BitVec.ofInt 32 (a.toNat:Int)&&& BitVec.ofInt 32 (b.toNat:Int)).toNat:Nat):Int))) w:=rfl;rw [h,bvI,bvI,w32]
def Ev.aOk{a b:BitVec 8}(hx:fM l x=some (.int .u8 (a.toNat:Int)))(hy:fM l y=some (.int .u8 (b.toNat:Int))):Ev P n l w (.binOp .xor t x y ty) (.int .u8 ((a ^^^ b).toNat:Int)):=
 pY hx hy (zP ..) λw=>by
  have h:(binOp .xor t (.int .u8 (a.toNat:Int)) (.int .u8 (b.toNat:Int))).run P w=.ok (.int .u8 (IntKind.u8.wrap (((BitVec.ofInt 8 (a.toNat:Int) ^^^ BitVec.ofInt 8 (b.toNat:Int)).toNat:Nat):Int))) w:=rfl
  grind [w8]
def Ev.aBn(hx:fM l x=some (gP (a.toNat:Int))):Ev P n l w (.unOp .xor t x) (gP ((~~~ a).toNat:Int)):=λo a' w' ho ha _=>by
 unfold execOp; rw [ho];have h:(Op.unary .xor (gP (a.toNat:Int))).run P w'=.ok (gP (IntKind.u32.wrap (((BitVec.ofInt 32 IntKind.u32.max ^^^ BitVec.ofInt 32 (a.toNat:Int)).toNat:Nat):Int))) w':=rfl;have e:BitVec.ofInt 32 IntKind.u32.max=BitVec.allOnes 32:=au;rw [bvI,e,BitVec.allOnes_xor,w32] at h
 simp [ha.eval hx,h]
def Ev.aH3(hx:fM l x=some (gP (a.toNat:Int))):Ev P n l w (.unOp .neg t x) (gP ((-a).toNat:Int)):=λo a' w' ho ha _=>by
 unfold execOp; rw [ho];have h:(Op.unary .neg (gP (a.toNat:Int))).run P w'=.ok (gP (IntKind.u32.wrap (0 - (a.toNat:Int)))) w':=rfl
 have e:IntKind.u32.wrap (0 - (a.toNat:Int))=((-a).toNat:Int):=by
  rw [atS,BitVec.toNat_neg]; have:=a.isLt; omega
 rw [e] at h
 simp [ha.eval hx,h]
def Ev.atV(hx:fM l x=some (gP (a.toNat:Int)))(hy:fM l y=some (.int k (c:Int)))(hc:c<=32):Ev P n l w (.binOp .shr t x y ty) (gP ((a >>> c).toNat:Int)):=
 pY hx hy (zP ..) λw=>by
  have h:(binOp .shr t (gP (a.toNat:Int)) (.int k (c:Int)))=Op.shift .shr .u32 (a.toNat:Int) k (c:Int):=rfl;rw [h,shift_shr_any _ _ _ _ aj,akG,akH];have e:min (c:Int).toNat IntKind.u32.bits=c:=by show min (c:Int).toNat 32=c; omega
  rw [e]; norm_cast
def Ev.aOl{a:BitVec 8}(hx:fM l x=some (.int .u8 (a.toNat:Int)))(hy:fM l y=some (.int k (c:Int)))(hc:c<=8):Ev P n l w (.binOp .shl t x y ty) (.int .u8 ((a <<< c).toNat:Int)):=
 pY hx hy (zP ..) λw=>by
  have h:(binOp .shl t (.int .u8 (a.toNat:Int)) (.int k (c:Int)))=Op.shift .shl .u8 (a.toNat:Int) k (c:Int):=rfl;have e:min (c:Int).toNat IntKind.u8.bits=c:=by show min (c:Int).toNat 8=c; omega
  have e2:((a.toNat:Int)*2 ^ c) % 256=((a.toNat*2 ^ c % 2 ^ 8:Nat):Int):=by rw [Int.natCast_emod,Int.natCast_mul,Int.natCast_pow]; rfl
  rw [h,shift_shl_any _ _ _ _ aj,e,IntKind.wrap_u8,akI,akJ,e2]; rfl
def Ev.atW{a:BitVec 8}(hs:(P.underlying t).isSome=true)(hd:P.underlying d=some (.int (P.intKind d)))(hk:P.intKind d=.u32)(hx:fM l x=some (.int .u8 (a.toNat:Int))):Ev P n l w (.convert t d x) (gP ((a.setWidth 32).toNat:Int)):=by
 have:=Pz (P:=P) (n:=n) (w:=w) hs hd hk hx
 grind [IntKind.wrap_u32]
def Ev.ayU(hs:(P.underlying t).isSome=true)(hd:P.underlying d=some (.int (P.intKind d)))(hk:P.intKind d=.u32)(hx:fM l x=some (.int k (m:Int))):Ev P n l w (.convert t d x) (gP ((BitVec.ofNat 32 m).toNat:Int)):=by
 have:=Pz (P:=P) (n:=n) (w:=w) hs hd hk hx
 grind [IntKind.wrap_u32]
def Ev.aH4(hx:fM l x=some (O z))(hy:fM l y=some (.int k (c:Int)))(hc:c<=64):Ev P n l w (.binOp .shr t x y ty) (O (z / 2 ^ c)):=
 pY hx hy (zP ..) λw=>by
  have h:(binOp .shr t (O z) (.int k (c:Int)))=Op.shift .shr .i64 z k (c:Int):=rfl;have e:min (c:Int).toNat IntKind.i64.bits=c:=by show min (c:Int).toNat 64=c; omega
  rw [h,shift_shr_any _ _ _ _ aj,e]; rfl
def Ev.aOm{a:Nat}(hx:fM l x=some (O (a:Int)))(hy:fM l y=some (O z))(hz:z=(c:Int))(hc:0<c)(ha:a<=9223372036854775807):Ev P n l w (.binOp .quo t x y ty) (O ((a / c:Nat):Int)):=by
 subst hz;have e:(a:Int).tdiv (c:Int)=((a / c:Nat):Int):=rfl;have hq:∀ q:Nat,q<=a->I64 (q:Int):=by grind [I64.mk]
 have h2:=Ev.quo (P:=P) (n:=n) (w:=w) (t:=t) (ty:=ty) hx hy aj (by rw [e]; exact hq _ (Nat.div_le_self a c))
 grind
def Ev.aH5{a:Nat}(hx:fM l x=some (O (a:Int)))(hy:fM l y=some (O z))(hz:z=(c:Int))(hc:0<c)(ha:a<=9223372036854775807):Ev P n l w (.binOp .rem t x y ty) (O ((a % c:Nat):Int)):=
 pY hx hy (zP ..) λw=>by
  subst hz;have e:((a % c:Nat):Int)=(a:Int).tmod (c:Int):=rfl;have hc2:c≠0:=aj
  simp_all [binOp,Op.intDiv]
def Ev.aDY{len i g:Nat}(hu:P.underlying t=some (.array len e))(hs:Size P e 1)(hx:fM l x=some (fK g))(hy:fM l y=some (.int k z))(hz:z=(i:Int))(hi:i<len):Ev P n l w (.indexAddr t x y) (.pointer (some ⟨g,i,none⟩)):=λo a w' ho ha _=>by
 unfold execOp; rw [ho];have h1:P.arrayLen t=len:=by grind [Program.arrayLen]
 have h2:P.elem t=e:=by grind [Program.elem]
 have h3:(Instr.indexAt t (fK g) (.int k z)).run P w'=.ok (.pointer (some ⟨g,i,none⟩)) w':=by
  rw [run_indexAt_array w' t _ k z (by grind),hz,aS (by grind),h2,hs w']
  simp [Addr.add]
  intro h; exact h.symm
 simp [ha.eval hx,ha.eval hy,h3]
def Ev.aOn{f:Fn}{azv cs:Array Value}{vr:Bool}(hu:P.underlying t=some (.func ps rs' vr))(hx:fM l x=some (.func f azv cs)):Ev P n l w (.binOp .eql t x (.const .nilFunc) ty) (.bool false):=
 pY hx rfl (eqGuard_at_func ..) λw=>by
  have h:(Op.equal t (.func f azv cs) .nilFunc).run P w=.ok false w:=VP 9999 hu
  simp_all [binOp]
def zL:=@Ev.aOn
def Ev.aOo{vr:Bool}(hu:P.underlying t=some (.func ps rs' vr))(hx:fM l x=some .nilFunc):Ev P n l w (.binOp .eql t x (.const .nilFunc) ty) (.bool true):=
 pY hx rfl (eqGuard_at_nilFunc ..) λw=>by
  have h:(Op.equal t .nilFunc .nilFunc).run P w=.ok true w:=VQ 9999 hu
  simp_all [binOp]
end
section
variable {P:Program}{n:Cx}{l:List (Nat × Value)}{b w:World}{S:Nat->Prop}{rs rest:List kF}{Q:Exit->Act->World->Prop}{K:Act->World->Prop}{M:Array Oper}{os:List Oper}{ty:TypeId}{pos:String}{lN:Array Edge}{d:Nat}
def abm{g o:Nat}{t':TypeId}{cs ds:V Value}(hs:Size P t ds.length)(hb:Bx w g t' cs)(hl:o+ds.length<=cs.length)(h1:∀ u∈ds,u.oneCell'=true){v:Value}(hv:v.cells=ds.toArray):(Instr.storeAt t (.pointer (some ⟨g,o,none⟩)) v).run P w=.ok () (w.setRow g (cs.take o++ds++cs.drop (o+ds.length)).toArray):=by
 have hst:=abA P g o t' ds 0 cs.toArray w hb (by grind) h1
 simp only [Instr.storeAt,Instr.sureAddr,storeVar,hv,jh,kZ,jv,hs w]
 grind
def stp{t':TypeId}{x y:Operand}{g o:Nat}{v:Value}{cs ds cs':V Value}(hx:fM l x=some (.pointer (some ⟨g,o,none⟩)))(hy:fM l y=some v)(hv:v.cells=ds.toArray)(hs:Size P t ds.length)(H:Hp b S w rs)(s:nY rs (dJ g t' cs) rest)(hl:Nat.ble (o+ds.length) cs.length=true)(h1:ds.all (λu=>u.oneCell')=true)(hc:cs.take o++ds++cs.drop (o+ds.length)=cs')
  (k:∀ w',Hp b S w' (dJ g t' cs'::rest)->WL P n M Q K os l w'):WL P n M Q K (⟨none,.store t x y,ty,pos,lN,none⟩::os) l w:=
 Py (by simp [eY]) rfl (R:=λw'=>w'=w.setRow g (cs.take o++ds++cs.drop (o+ds.length)).toArray) (λa ha=>⟨_,by
  unfold execOp; simp [ha.eval hx,ha.eval hy,abm (P:=P) hs (H.x s) (nU hl) (by grind) hv],rfl⟩) λw' e=>by
  subst e; subst hc;exact k _ ((H.sel s).put (r':=dJ g t' (cs.take o++ds++cs.drop (o+ds.length))) (Wr.ajF (g:=g) ⟨Y,Y,Y,av,by grind [setRow_other],j4 _⟩ rfl) (λg hg=>.inl hg) (VK w g cs.toArray _ t' (0,0) (H.x s)))
def WL.ayV{o:Oper}{v:Value}(hw:∀ a,Has n l a->Region.wanted o (yielded M a.tmps)=true)(hdst:o.dst=none){R:World->Prop}
  (hrun:∀ a,Has n l a->∃ w',(execOp a.eval o).run P w=.ok (.value v) w'/\R w') (k:∀ w',R w'->WL P n M Q K os l w'):WL P n M Q K (o::os) l w:=by
 intro a ha;obtain⟨w',hr,hR⟩:=hrun a ha;unfold Ye;rw [aS (hw a ha)];refine NY hr ?_;rw [hdst];exact k w' hR a ha
end
end
section
variable {ms:List MapEntry}{j g:Nat}{P:Program}{kt:TypeId}{ν:Type}{S0:Nat->Prop}{A_b:ah}{v:ν}
structure Ns {κ:Type} [DecidableEq κ] (P:Program) (kt:TypeId) (ek:κ->Value):Prop where
  check:∀(w:World)(e:Bool)(a:κ),(Instr.checkKey e 10000 kt (ek a)).run P w=.ok () w
  find:∀(w:World)(a:κ)(ks:List κ)(l:List MapEntry),l.map MapEntry.key=ks.map ek->((Instr.findKey kt (ek a) l).run P w=.ok none w/\a∉ks)∨∃ j e,(Instr.findKey kt (ek a) l).run P w=.ok (some (j,e.val)) w/\l[j]? = some e/\ks[j]? = some a
  stays:∀(w:World)(a:κ),(Instr.keyThatStays (ek a) (ek a)).run P w=.ok (ek a) w
section
variable {κ ν:Type}[DecidableEq κ]
def cZ(k:κ)(es:List (κ × ν)):Option ν:=(es.find? λp=>decide (p.1=k)).map (·.2)
def fO(k:κ)(v:ν)(es:List (κ × ν)):List (κ × ν):=if(cZ k es).isSome=true then es.map (λp=>if p.1=k then(k,v) else p) else es++[(k,v)]
def ou(k:κ)(es:List (κ × ν)):List (κ × ν):=es.filter λp=>!decide (p.1=k)
def acn{k:κ}{es:V (κ × ν)}(h:k∉es.map Prod.fst):cZ k es=none:=by
 unfold cZ
 grind
def GV{k:κ}{v:ν}:∀ {es:V (κ × ν)} {j:Nat},(es.map Prod.fst).Nodup->es[j]? = some (k,v)->cZ k es=some v
 | [],_,_,h=>by simp at h
 | p::es,0,_,h=>by simp at h; subst h; simp [cZ]
 | p::es,j+1,hn,h=>by
  rw [mg,FL] at hn;have h':es[j]? = some (k,v):=by simpa using h
  have hne:p.1≠k:=λe=>hn.1 (e▸eX.2 ⟨(k,v),zy h',rfl⟩);have:=GV hn.2 h';unfold cZ at this ⊢;rw [Az (by simpa using hne)]; exact this
def aez{k:κ}{v v':ν}:∀ {es:V (κ × ν)} {j:Nat},(es.map Prod.fst).Nodup->es[j]? = some (k,v)->es.set j (k,v')=es.map (λp=>if p.1=k then(k,v') else p)
 | [],_,_,h=>by simp at h
 | p::es,0,hn,h=>by
  simp at h; subst h
  rw [mg,FL] at hn
  simp only [List.set_cons_zero,mg,if_true,List.cons.injEq,true_and]
  symm
  refine(ZO λp hp=>?_).trans (List.map_id _)
  grind
 | p::es,j+1,hn,h=>by
  rw [mg,FL] at hn;have h':es[j]? = some (k,v):=by simpa using h
  have hne:p.1≠k:=λe=>hn.1 (e▸eX.2 ⟨(k,v),zy h',rfl⟩);rw [List.set_cons_succ,mg,aQ hne,aez hn.2 h']
def erase_filter{k:κ}{v:ν}:∀ {es:V (κ × ν)} {j:Nat},(es.map Prod.fst).Nodup->es[j]? = some (k,v)->es.eraseIdx j=ou k es
 | [],_,_,h=>by simp at h
 | p::es,0,hn,h=>by
  simp at h; subst h
  rw [mg,FL] at hn;unfold ou
  grind [List.filter_eq_self]
 | p::es,j+1,hn,h=>by
  rw [mg,FL] at hn;have h':es[j]? = some (k,v):=by simpa using h
  have hne:p.1≠k:=λe=>hn.1 (e▸eX.2 ⟨(k,v),zy h',rfl⟩);have:=erase_filter hn.2 h';unfold ou at this ⊢;rw [List.eraseIdx_cons_succ,akK (by simpa using hne),this]
theorem ahQ{k:κ}{es:V (κ × ν)}(h:k∉es.map Prod.fst):ou k es=es:=by
 unfold ou
 grind [List.filter_eq_self]
def Nu{k:κ}{v:ν}{es:V (κ × ν)}(hn:(es.map Prod.fst).Nodup):((fO k v es).map Prod.fst).Nodup:=by
 unfold fO
 split
 ·grind
 ·rename_i h
  rw [sU,List.nodup_append];refine⟨hn,av,λa ha b hb=>?_⟩
  simp only [mg,wB,mU] at hb
  subst hb;intro e; subst e;obtain⟨p,hp,e⟩:=eX.1 ha;obtain⟨j,hj⟩:=Va.1 hp;obtain⟨p1,p2⟩:=p
  simp only at e; subst e
  rw [GV hn hj] at h; grind
def ZQ{k:κ}{es:V (κ × ν)}(hn:(es.map Prod.fst).Nodup):((ou k es).map Prod.fst).Nodup:=by
 grind [ou]
end
def rV{κ ν:Type}(ek:κ->Value)(ev:ν->Value)(g:Nat)(es:List (κ × ν)):kF where
  W:=λx=>x=g
  ok:=λ_ w=>(es.map Prod.fst).Nodup/\∃ ms BK,w.heap[g]? = some (.map ms BK)/\ms.toList.map (λe=>(e.key,e.val))=es.map λp=>(ek p.1,ev p.2)
  sub:=λ_ h=>h
  keep:=λhm ⟨hn,ms,BK,h,h2⟩=>⟨hn,ms,BK,(hm _ (.inl rfl) (vX.1 h).1).trans h,h2⟩
section
variable {κ ν:Type}[DecidableEq κ]{ek:κ->Value}{ev:ν->Value}{g:Nat}{es:List (κ × ν)}{P:Program}{n:Cx}{l:List (Nat × Value)}{b w:World}{S:Nat->Prop}{rs rest:List kF}{Q:Exit->Act->World->Prop}{K:Act->World->Prop}{M:Array Oper}{os:List Oper}{ty:TypeId}{pos:String}{lN:Array Edge}{d:Nat}{t kt et:TypeId}{m ky vy:Operand}{z:κ}{v:ν}
def Hp.mp(H:Hp b S w rs)(s:nY rs (rV ek ev g es) rest):(es.map Prod.fst).Nodup/\∃ ms BK,w.heap[g]? = some (.map ms BK)/\ms.toList.map (λe=>(e.key,e.val))=es.map λp=>(ek p.1,ev p.2):=H.ok (rV ek ev g es) (s.perm.mem_iff.2 av)
def Hp.ahR{es':V (κ × ν)}{ms:Array MapEntry}{BK:Nat}(H:Hp b S w rs)(s:nY rs (rV ek ev g es) rest)(hn:(es'.map Prod.fst).Nodup)(hm:ms.toList.map (λe=>(e.key,e.val))=es'.map λp=>(ek p.1,ev p.2)):Hp b S (w.putObj g (.map ms BK)) (rV ek ev g es'::rest):=by
 obtain⟨_,ms0,aUG,h0,_⟩:=H.mp s;exact(H.sel s).put (r':=rV ek ev g es') ⟨Y,Y,Y,av,λk hk hn=>World.putObj_heap_other hn,j4 _⟩ (λg hg=>.inl hg) ⟨hn,ms,BK,World.putObj_heap_same (vX.1 h0).1,hm⟩
def aeA(h:ms.map (λe=>(e.key,e.val))=es.map λp=>(ek p.1,ev p.2)):ms.map MapEntry.key=(es.map Prod.fst).map ek:=by
 have:=aY (List.map Prod.fst) h;rw [Qs,Qs] at this;rw [Qs]; exact this
def atX{e:MapEntry}{a:κ}(h:ms.map (λe=>(e.key,e.val))=es.map λp=>(ek p.1,ev p.2))(he:ms[j]? = some e)(ha:(es.map Prod.fst)[j]? = some a):∃ u,es[j]? = some (a,u)/\e.val=ev u/\e.key=ek a:=by
 have h1:=aY (λl=>l[j]?) h
 grind
def mkA(ek:κ->Value)(ev:ν->Value)(H:Hp b S w rs)(k:∀ g w',Hp b S w' (rV ek ev g ([]:V (κ × ν))::rs)->WL P n M Q K os ((d,.map (some g))::l) w')(hd:Nat.blt d n.size=true:=by rfl):WL P n M Q K (⟨some d,.makeMap t none,ty,pos,lN,none⟩::os) l w:=
 yD (by simp [eY]) rfl hd (λa ha=>⟨_,rfl,rfl⟩) λw2 e=>by
  subst e;exact k _ _ (H.new (anQ w _) (λg hg=>by show _/\_; rw [show g=w.heap.size from hg]; simp) ⟨av,#[],0,World.alloc_heap_new w _,rfl⟩)
def lkO(ev:ν->Value)(z:Value):Option ν->Value
  | some v=>ev v
  | none=>z
def Ev.atY{zv:Value}(H:Hp b S w rs)(s:nY rs (rV ek ev g es) rest)(hk:Ns P kt ek)(hm:P.underlying t=some (.map kt et))(hz:∀ w,(zeroValue et).run P w=.ok zv w)(hx:fM l m=some (.map (some g)))(hkey:fM l ky=some (ek z)):Ev P n l w (.lookup t m ky false) (lkO ev zv (cZ z es)):=λo a w' ho ha ex=>by
 obtain⟨hn,ms,BK,h0,h1⟩:=H.mp s;have hb:w'.heap[g]? = some (.map ms BK):=(ex.block g (vX.1 h0).1).trans h0
 have hr:(Instr.lookup t (.map (some g)) (ek z) false).run P w'=.ok (lkO ev zv (cZ z es)) w':=by
  rcases hk.find w' z (es.map Prod.fst) ms.toList (aeA h1) with ⟨h2,h3⟩ | ⟨j,e,h2,h3,h4⟩
  ·rw [acn h3]
   unfold Instr.lookup
   simp only [jh,jV hm,jv,sO hb,hk.check,h2,kZ,hz]
   rfl
  ·obtain⟨u,h5,h6,_⟩:=atX h1 h3 h4
   rw [GV hn h5];unfold Instr.lookup
   simp only [jh,jV hm,jv,sO hb,hk.check,h2,kZ,h6]
   rfl
 unfold execOp; rw [ho]; simp [ha.eval hx,ha.eval hkey,hr]
def aDZ(H:Hp b S w rs)(s:nY rs (rV ek ev g es) rest)(hk:Ns P kt ek)(hm:P.underlying t=some (.map kt et))(hx:fM l m=some (.map (some g)))(hkey:fM l ky=some (ek z))(hv:fM l vy=some (ev v))
  (k:∀ w',Hp b S w' (rV ek ev g (fO z v es)::rest)->WL P n M Q K os l w'):WL P n M Q K (⟨none,.mapUpdate t m ky vy,ty,pos,lN,none⟩::os) l w:=by
 obtain⟨hn,ms,BK,hb,h1⟩:=H.mp s
 rcases hk.find w z (es.map Prod.fst) ms.toList (aeA h1) with ⟨h2,h3⟩ | ⟨j,e,h2,h3,h4⟩
 ·refine Py (by simp [eY]) rfl (R:=λw'=>w'=w.putObj g (.map (ms.push ⟨ek z,ev v,BK⟩) (BK+1))) (λa ha=>⟨_,?_,rfl⟩) λw' e=>?_
  ·have hr:(Instr.mapUpdate t (.map (some g)) (ek z) (ev v)).run P w=.ok () (w.putObj g (.map (ms.push ⟨ek z,ev v,BK⟩) (BK+1))):=by
    unfold Instr.mapUpdate
    simp only [jh,jV hm,jv,sO hb,hk.check,h2,EU _ hb]
    rfl
   unfold execOp; simp [ha.eval hx,ha.eval hkey,ha.eval hv,hr]
  ·subst e
   refine k _ (H.ahR s (Nu hn) ?_)
   simp_all [fO,acn,aQ,Array.toList_push,sU]
 ·obtain⟨u,h5,h6,h7⟩:=atX h1 h3 h4
  have hj:ms[j]? = some e:=by grind
  refine Py (by simp [eY]) rfl (R:=λw'=>w'=w.putObj g (.map (ms.modify j λe=>{ e with key:=ek z,val:=ev v }) BK)) (λa ha=>⟨_,?_,rfl⟩) λw' e'=>?_
  ·have hr:(Instr.mapUpdate t (.map (some g)) (ek z) (ev v)).run P w=.ok () (w.putObj g (.map (ms.modify j λe=>{ e with key:=ek z,val:=ev v }) BK)):=by
    unfold Instr.mapUpdate
    simp only [jh,jV hm,jv,sO hb,hk.check,h2,hj,ac8,Option.getD_some,h7,hk.stays,EU _ hb]
    rfl
   unfold execOp; simp [ha.eval hx,ha.eval hkey,ha.eval hv,hr]
  ·subst e'
   refine k _ (H.ahR s (Nu hn) ?_);unfold fO;rw [GV hn h5,aS (show(some u).isSome=true from rfl),<- aez hn h5,Array.toList_modify,ChangeMaps.modify_eq_set _ _ _ _ h3,MP,MP,h1]
def aD0(H:Hp b S w rs)(s:nY rs (rV ek ev g es) rest)(hk:Ns P kt ek)(hm:P.underlying t=some (.map kt et))(hx:fM l m=some (.map (some g)))(hkey:fM l ky=some (ek z)){t2:TypeId}
  (k:∀ w',Hp b S w' (rV ek ev g (ou z es)::rest)->WL P n M Q K os l w'):WL P n M Q K (⟨none,.call ⟨.builtin .delete,#[m,ky],#[t,t2]⟩,ty,pos,lN,none⟩::os) l w:=by
 obtain⟨hn,ms,BK,hb,h1⟩:=H.mp s
 rcases hk.find w z (es.map Prod.fst) ms.toList (aeA h1) with ⟨h2,h3⟩ | ⟨j,e,h2,h3,h4⟩
 ·refine WL.ayV (v:=.tuple #[]) (by simp [eY]) rfl (R:=λw'=>w'=w.putObj g (.map ms BK)) (λa ha=>⟨_,?_,rfl⟩) λw' e=>?_
  ·have hr:(Builtin.delete_ #[t,t2] ty #[.map (some g),ek z]).run P w=.ok (.tuple #[]) (w.putObj g (.map ms BK)):=by
    simp [Builtin.delete_,jV hm,sO hb,hk.check,h2,EU _ hb,Result.andThen]; try rfl
   unfold execOp
   simp only [resolve,jh,kZ,jv,invoke,builtin,vI,mg,wB,ha.eval hx,ha.eval hkey,hr]
  ·subst e
   refine k _ (H.ahR s (ZQ hn) ?_)
   grind [ahQ]
 ·obtain⟨u,h5,h6,h7⟩:=atX h1 h3 h4
  refine WL.ayV (v:=.tuple #[]) (by simp [eY]) rfl (R:=λw'=>w'=w.putObj g (.map (ms.eraseIdxIfInBounds j) BK)) (λa ha=>⟨_,?_,rfl⟩) λw' e'=>?_
  ·have hr:(Builtin.delete_ #[t,t2] ty #[.map (some g),ek z]).run P w=.ok (.tuple #[]) (w.putObj g (.map (ms.eraseIdxIfInBounds j) BK)):=by
    simp [Builtin.delete_,jV hm,sO hb,hk.check,h2,EU _ hb,Result.andThen]; try rfl
   unfold execOp
   simp only [resolve,jh,kZ,jv,invoke,builtin,vI,mg,wB,ha.eval hx,ha.eval hkey,hr]
  ·subst e'
   refine k _ (H.ahR s (ZQ hn) ?_);have hjl:j<ms.size:=by grind
   rw [<- erase_filter hn h5,Array.eraseIdxIfInBounds,dif_pos hjl,Array.toList_eraseIdx,akL,h1,akL]
def aOq(H:Hp b S w rs)(s:nY rs (rV ek ev g es) rest)(hm:P.underlying t=some (.map kt et))(hx:fM l m=some (.map (some g)))
  (k:∀ w',Hp b S w' (rV ek ev g ([]:V (κ × ν))::rest)->WL P n M Q K os l w'):WL P n M Q K (⟨none,.call ⟨.builtin .clear,#[m],#[t]⟩,ty,pos,lN,none⟩::os) l w:=by
 obtain⟨hn,ms,BK,hb,h1⟩:=H.mp s;refine WL.ayV (v:=.tuple #[]) (by simp [eY]) rfl (R:=λw'=>w'=w.putObj g (.map #[] BK)) (λa ha=>⟨_,?_,rfl⟩) λw' e=>?_
 ·have h2:(Builtin.clear_ #[t] ty #[.map (some g)]).run P w=.ok (.tuple #[]) (w.putObj g (.map #[] BK)):=by
   simp only [Builtin.clear_]
   simp [jV hm,sO hb,EU _ hb,Result.andThen]
   rfl
  unfold execOp
  simp only [resolve,jh,kZ,jv,invoke,builtin,vI,mg,wB,ha.eval hx,h2]
 ·subst e
  exact k _ (H.ahR s av Y)
end
def ayW(hk:P.underlying kt=some (.int .i64)):Ns P kt (fun(z:Int)=>Value.int .i64 z) where
 check w e a:=MI (n:=9999) hk (by rfl) e
 stays w a:=ajJ (d:=.int .i64) (by rfl)
 find w a ks l h:=by
  have hks:∀ x∈l,MapKept.IsKey (.int .i64) x.key:=λx hx=>by
   have:x.key∈l.map MapEntry.key:=by grind
   grind [MapKept.IsKey]
  rcases Yy (d:=.int .i64) (k:=O a) (by rfl) l 0 hks with ⟨h1,h2⟩ | ⟨j,e,h1,h2,h3⟩
  ·refine .inl ⟨DR hk h1,λhm=>?_⟩
   have:(Value.int .i64 a)∈l.map MapEntry.key:=by grind
   grind
  ·refine .inr ⟨j,e,by grind [MapKept.run_findKey],h2,?_⟩
   have h4:=aY (λq=>q[j]?) h
   grind
def key_eq{κ:Type}[DecidableEq κ]{ek:κ->Value}{d:TypeDesc}(hk:P.underlying kt=some d)(hd:∀ a b,Instr.sameNow d a b=none)(hq:∀(a b:κ)(w:World),(Op.equal kt (ek a) (ek b)).run P w=.ok (decide (a=b)) w)
  (hc:∀(w:World)(e:Bool)(a:κ),(Instr.checkKey e 10000 kt (ek a)).run P w=.ok () w) (hs:∀ a,Instr.sameBits 10000 (ek a) (ek a)=true):Ns P kt ek where
 check:=hc
 stays w a:=by unfold Instr.keyThatStays; rw [aS (hs a)]; rfl
 find w a ks l h:=by
  have aOr:∀(l:V MapEntry)(ks:V κ)(i:Nat),l.map MapEntry.key=ks.map ek->((Instr.findAsking kt (ek a) l i).run P w=.ok none w/\a∉ks)∨∃ j e,(Instr.findAsking kt (ek a) l i).run P w=.ok (some (i+j,e.val)) w/\l[j]? = some e/\ks[j]? = some a:=by
   intro l
   induction l with
   | nil=>
    intro ks i h
    cases ks with
    | nil=>exact .inl ⟨rfl,av⟩
    | cons _ _=>simp at h
   | cons e l ih=>
    intro ks i h
    cases ks with
    | nil=>simp at h
    | cons c ks=>
     simp only [mg,List.cons.injEq] at h
     by_cases hac:a=c
     ·refine .inr ⟨0,e,?_,rfl,by rw [hac]; rfl⟩
      unfold Instr.findAsking
      simp only [jh,h.1,hq,jv,tY hac,if_true,Nat.add_zero]
      rfl
     ·have hstep:(Instr.findAsking kt (ek a) (e::l) i).run P w=(Instr.findAsking kt (ek a) l (i+1)).run P w:=by
       conv=>lhs; unfold Instr.findAsking
       simp only [jh,h.1,hq,jv,Zc hac]
       rfl
      rcases ih ks (i+1) h.2 with ⟨h1,h2⟩ | ⟨j,e',h1,h2,h3⟩
      ·exact .inl ⟨hstep.trans h1,by simp [hac,h2]⟩
      ·exact .inr ⟨j+1,e',by rw [hstep,h1,show i+1+j=i+(j+1) from by omega],by simpa using h2,by simpa using h3⟩
  have hf:(Instr.findKey kt (ek a) l).run P w=(Instr.findAsking kt (ek a) l 0).run P w:=by
   unfold Instr.findKey
   simp only [jh,jV hk,jv]
   cases l with
   | nil=>rfl
   | cons e l=>
    have:Instr.findNow d (ek a) (e::l) 0=none:=by unfold Instr.findNow; rw [hd]
    rw [this]
  rcases aOr l ks 0 h with ⟨h1,h2⟩ | ⟨j,e,h1,h2,h3⟩
  ·exact .inl ⟨hf.trans h1,h2⟩
  ·exact .inr ⟨j,e,by rw [hf,h1,Js],h2,h3⟩
theorem Vf{β:Type}{l:V β}{i:Nat}{x:β}(h:l[i]? = some x):l.set i x=l:=by
 grind [List.set_getElem_self]
section
variable {κ α:Type}[DecidableEq κ]{τ:Ty α}{e:TypeId}{b w:World}{S:Nat->Prop}{rs rest yF:List kF}{es:List (κ × (Option Addr × Nat × List α))}{k k2:κ}
def Hp.weak{r r':kF}(H:Hp b S w (r::rs))(hW:∀ g,r'.W g->r.W g)(hok:∀ {S':Nat->Prop},r.ok S' w->r'.ok S' w):Hp b S w (r'::rs):=
 H.put ⟨rfl,rfl,rfl,j4 _,av,j4 _⟩ (by grind) (hok (H.ok r av))
def fU(k:κ)(es:List (κ × (Option Addr × Nat × List α))):Option Addr × Nat × List α:=(cZ k es).getD (none,0,[])
abbrev xF(r:Option Addr × Nat × List α):Value:=.slice r.1 r.2.2.length r.2.1
def aD1(k:κ)(es:V (κ × (Option Addr × Nat × V α))):lkO xF (.slice none 0 0) (cZ k es)=.slice (fU k es).1 (fU k es).2.2.length (fU k es).2.1:=by
 unfold fU; cases cZ k es <;> rfl
theorem zW{es:V (κ × ν)}(h:cZ k es=some v):∃ j:Nat,es[j]? = some (k,v):=by
 unfold cZ at h
 cases hf:es.find? (λp=>decide (p.1=k)) with
 | none=>grind
 | some p=>
  grind [List.mem_iff_getElem?]
def Hp.atZ(H:Hp b S w rs)(s:nY rs (fH τ e (es.map Prod.snd)) rest)(k:κ):Sl τ Any w (fU k es).1 (fU k es).2.1 (fU k es).2.2:=by
 cases h:cZ k es with
 | none=>grind [fU,Sl.none_]
 | some r=>
  obtain⟨j,hj⟩:=zW h;have hx:(es.map Prod.snd)[j]? = some (r.1,r.2.1,r.2.2):=by grind
  rw [show fU k es=r from by grind [fU]];exact(H.Dm s hx).o U
def Hp.amy{L L':V (Option Addr × Nat × V α)}(H:Hp b S w rs)(s:nY rs (fH τ e L) rest)(h:L'.Sublist L):Hp b S w (fH τ e L'::rest):=
 Hp.weak (H.sel s) (λg ⟨r,hr,hg⟩=>⟨r,h.subset hr,hg⟩) (fun⟨h1,h2⟩=>⟨λr hr=>h1 r (h.subset hr),h2.sublist h⟩)
def Hp.amA(H:Hp b S w rs)(s:nY rs (fH τ e (es.map Prod.snd)) rest)(k:κ):Hp b S w (fH τ e ((ou k es).map Prod.snd)::rest):=H.amy s (List.Sublist.map _ Vb)
def I7{ν:Type}{es:V (κ × ν)}{v v':ν}{j:Nat}(hn:(es.map Prod.fst).Nodup)(h:es[j]? = some (k,v)):fO k v' es=es.set j (k,v'):=by
 unfold fO;rw [GV hn h,aS (show(some v).isSome=true from rfl),aez hn h]
def Hp.aeB{B:ah}{d:Nat}{xs:V α}(H:Hp b S w rs)(hn:(es.map Prod.fst).Nodup)(s:nY rs (aR τ e B d xs) rest)(s':nY rest (fH τ e (es.map Prod.snd)) yF)(k:κ):Hp b S w (fH τ e ((fO k (B,d,xs) es).map Prod.snd)::yF):=by
 cases h:cZ k es with
 | none=>
  have:=H.QV s s'
  grind [fO]
 | some r=>
  obtain⟨j,hj⟩:=zW h;have hx:(es.map Prod.snd)[j]? = some (r.1,r.2.1,r.2.2):=by grind
  have H1:=(H.sel s).Dm (.t s') hx;have H2:=H1.rm U;have H3:=H2.Ej hx (.t .h) .h;rw [I7 hn hj,MP]; exact H3
def ayX{es:V (κ × ν)}(h:k2≠k):ou k (fO k2 v es)=fO k2 v (ou k es):=by
 have hg:cZ k2 (ou k es)=cZ k2 es:=by grind [cZ,ou]
 unfold fO;rw [hg]
 split
 ·unfold ou
  rw [List.filter_map];have:(λp:κ × ν=>!decide (p.1=k)) ∘ (λp=>if p.1=k2 then(k2,v) else p)=λp=>!decide (p.1=k):=by grind
  rw [this]
 grind [ou]
def ZR{es:V (κ × ν)}(h:((fO k v es).map Prod.fst).Nodup):(es.map Prod.fst).Nodup:=by
 unfold fO at h
 grind
def Hp.at6(H:Hp b S w rs)(hn:(es.map Prod.fst).Nodup)(s:nY rs (fH τ e (es.map Prod.snd)) rest)(h:k2≠k):Hp b S w (fH τ e ((ou k (fO k2 (fU k es) es)).map Prod.snd)::rest):=by
 rw [ayX h]
 cases hg:cZ k es with
 | none=>
  have hk:k∉es.map Prod.fst:=λhm=>by
   obtain⟨p,hp,e⟩:=eX.1 hm;obtain⟨j,hj⟩:=Va.1 hp;obtain⟨p1,p2⟩:=p
   simp only at e; subst e
   rw [GV hn hj] at hg; cases hg
  rw [show fU k es=(none,0,[]) from by grind [fU],ahQ hk];exact((H.sel s).nil τ e).aeB hn .h .h k2
 | some r=>
  obtain⟨j,hj⟩:=zW hg;have hx:(es.map Prod.snd)[j]? = some (r.1,r.2.1,r.2.2):=by grind
  have H1:=H.Dm s hx;rw [show(es.map Prod.snd).eraseIdx j=(ou k es).map Prod.snd from by rw [<- erase_filter hn hj,akL]] at H1;rw [show fU k es=r from by grind [fU]];exact H1.aeB (ZQ hn) .h .h k2
def ayY(h:(fU k es).2.2.length≠0):∃ j:Nat,es[j]? = some (k,fU k es):=by
 cases hg:cZ k es with
 | none=>rw [show fU k es=(none,0,[]) from by unfold fU; rw [hg]; rfl] at h; exact absurd rfl h
 | some r=>
  grind [fU,zW]
def Hp.aD2{r:Option Addr × Nat × V α}(H:Hp b S w rs)(s:nY rs (fH τ e (es.map Prod.snd)) rest)(hj:es[j]? = some (k,r)):Hp b S w (aR τ e r.1 r.2.1 r.2.2::fH τ e ((es.map Prod.snd).eraseIdx j)::rest):=
 H.Dm s (by grind)
def Hp.aH7{ek:κ->Value}{g j:Nat}{r:Option Addr × Nat × V α}{xs:V α}{aBo:V kF}(H:Hp b S w rs)(hj:es[j]? = some (k,r))(hl:xs.length=r.2.2.length)(s:nY rs (aR τ e r.1 r.2.1 xs) rest)(s':nY rest (fH τ e ((es.map Prod.snd).eraseIdx j)) yF)(s2:nY yF (rV ek xF g es) aBo):Hp b S w (rV ek xF g (fO k (r.1,r.2.1,xs) es)::fH τ e ((fO k (r.1,r.2.1,xs) es).map Prod.snd)::aBo):=by
 have hx:(es.map Prod.snd)[j]? = some r:=by grind
 have H1:=H.Ej hx s s';have H2:=H1.sel (.t s2);have hn:=(H2.mp .h).1;rw [show(es.map Prod.snd).set j (r.1,r.2.1,xs)=(fO k (r.1,r.2.1,xs) es).map Prod.snd from by rw [I7 hn hj,MP]] at H2;refine H2.weak (λg h=>h) ?_;rintro S' ⟨h1,ms,BK,h2,h3⟩;refine⟨Nu h1,ms,BK,h2,h3.trans ?_⟩;rw [I7 h1 hj,MP]
 grind [Vf]
def Ev.ahS{n:Cx}{l:V (Nat × Value)}{ek:κ->Value}{t et:TypeId}{m ky:Operand}{z:κ}(H:Hp b S w rs)(s:nY rs (rV ek xF g es) rest)(hk:Ns P kt ek)(hm:P.underlying t=some (.map kt et))(hz:∀ w,(zeroValue et).run P w=.ok (.slice none 0 0) w)(hx:fM l m=some (.map (some g)))(hkey:fM l ky=some (ek z)):Ev P n l w (.lookup t m ky false) (.slice (fU z es).1 (fU z es).2.2.length (fU z es).2.1):=by
 rw [<- aD1]; exact Ev.atY H s hk hm hz hx hkey
end
def at7(x:BitVec 8):∀ u∈[Value.int .u8 (x.toNat:Int)],u.oneCell'=true:=by intro u hu; simp only [gW,lH,qM] at hu; rw [hu]; rfl
def fP:Ty (BitVec 8):=Ty.flat 1 (λx=>[.int .u8 (x.toNat:Int)]) au av at7
instance:Flat fP:=⟨λh=>h⟩
abbrev aD3:List (BitVec 32):=[0x00000000,0x1db71064,0x3b6e20c8,0x26d930ac,0x76dc4190,0x6b6b51f4,0x4db26158,0x5005713c,0xedb88320,0xf00f9344,0xd6d6a3e8,0xcb61b38c,0x9b64c2b0,0x86d3d2d4,0xa00ae278,0xbdbdf21c]
def I8(i:Nat):BitVec 32:=aD3.getD i 0
def SG(x:BitVec 32):BitVec 32:=I8 (x&&& 15#32).toNat ^^^ (x >>> 4)
def I9(x:BitVec 32):(x&&& 15#32).toNat<16:=by
 grind [Nat.and_le_right]
def FP(x:BitVec 32)(b:BitVec 8):BitVec 32:=SG (SG (x ^^^ b.setWidth 32))
def Xy(s:BitVec 32)(l:List (BitVec 8)):BitVec 32:= ~~~ (l.foldl FP (~~~ s))
def gI(l:List (BitVec 8)):BitVec 32:=Xy 0#32 l
def ahT:∀ {i:Nat},i<16->([gP 0,gP 498536548,gP 997073096,gP 651767980,gP 1994146192,gP 1802195444,gP 1303535960,gP 1342533948,gP 3988292384,gP 4027552580,gP 3604390888,gP 3412177804,gP 2607071920,gP 2262029012,gP 2685067896,gP 3183342108]:V Value)[i]? = some (gP ((I8 i).toNat:Int))
 | 0,_=>rfl
 | 1,_=>rfl
 | 2,_=>rfl
 | 3,_=>rfl
 | 4,_=>rfl
 | 5,_=>rfl
 | 6,_=>rfl
 | 7,_=>rfl
 | 8,_=>rfl
 | 9,_=>rfl
 | 10,_=>rfl
 | 11,_=>rfl
 | 12,_=>rfl
 | 13,_=>rfl
 | 14,_=>rfl
 | 15,_=>rfl
 | _+16,h=>by omega
def ayZ{b:V (BitVec 8)}{i:Nat}{x:BitVec 8}(h:b[i]? = some x):b.getD i 0#8=x:=by grind
def aua  : ∀ w,(Instr.buildSlice 42 0 (List.toArray [])).run prog w=.ok (.slice (some ⟨w.heap.size,0,none⟩) 0 0) (w.alloc (.cells (List.toArray []) 5)):=ay
def yu:kH prog 5 1 1:=by
 obtain⟨i,h1,h2,h3,h4⟩:=qo (show(prog.info? 5).map (λi=>(i.zero,i.size,i.bytes))=some (some (.int .u8 0),1,1) by kernel_rfl);exact⟨i,_,h1,h2,h3,h4,Y⟩
def ZT:∀ w,(zeroValue 240).run prog w=.ok (.agg #[gP 0,gP 0,gP 0,gP 0,gP 0,gP 0,gP 0,gP 0,gP 0,gP 0,gP 0,gP 0,gP 0,gP 0,gP 0,gP 0]) w:=by simp
def aD4:Size prog 240 16:=λ_=>by rfl
def aub:WC prog 240 16:=⟨av,aD4⟩
def ay0:Size prog 5 1:=λ_=>by rfl
def aId:kW prog 5:=λ_=>by rfl
def aeC:(prog.underlying 5).isSome=true/\prog.underlying 45=some (.int (prog.intKind 45))/\prog.intKind 45=.u32:=⟨by rfl,by rfl,by rfl⟩
def Bl(w:World){wP:ah}{vk:Nat}{s:V (BitVec 8)}(sP:Sl fP S0 w wP vk s)(hn:s.length<=1000000):bM prog 89 #[.slice wP s.length vk] w λv w'=>∃ A0 c0,v=.slice A0 s.length c0/\Hp w S0 w' [aR fP 5 A0 c0 s]:=by
 refine lg S0 func89 ntmps89 Y λH0=>?_;have qU:=zK;have qI:=yu;have qB:=@aua;exact mCL
instance Tk.b{α:Type}{n:Nat}{x y l xs r:List α}[h:Ap x y l][g:Tk (n+1) l xs r]:Tk (n+1) (x.append y) xs r:=⟨by rw [<- g.h]; exact h.h⟩
section
variable {P:Program}{n:Cx}{l:List (Nat × Value)}{w:World}{t e d ty:TypeId}{x y:Operand}{k:IntKind}{z:Int}
def Ev.aD5(hs:(P.underlying t).isSome=true)(hd:P.underlying d=some (.int (P.intKind d)))(hk:P.intKind d=.u32)(hx:fM l x=some (.int k z))(hz:z=(z.toNat:Int)):Ev P n l w (.convert t d x) (gP ((BitVec.ofNat 32 z.toNat).toNat:Int)):=
 Ev.ayU hs hd hk (hz▸hx)
def Ev.aOu{len:Nat}(hu:P.underlying t=some (.array len e))(hs:Size P e 1)(hx:fM l x=some (fK g))(hy:fM l y=some (.int k z))(hz:z=(z.toNat:Int))(hi:Nat.blt z.toNat len=true):Ev P n l w (.indexAddr t x y) (.pointer (some ⟨g,z.toNat,none⟩)):=
 Ev.aDY hu hs hx hy hz (by grind [Nat.blt_eq])
end
def Hp.reC{b w:World}{S:Nat->Prop}{t:Nat}{cs ds:V Value}{F:V kF}(H:Hp b S w (dJ g t cs::F))(h:cs=ds):Hp b S w (dJ g t ds::F):=h▸H
def aD6(w:World)  : bM prog 164 #[] w λv w'=>v=.agg #[gP 0,gP 498536548,gP 997073096,gP 651767980,gP 1994146192,gP 1802195444,gP 1303535960,gP 1342533948,gP 3988292384,gP 4027552580,gP 3604390888,gP 3412177804,gP 2607071920,gP 2262029012,gP 2685067896,gP 3183342108]/\Hp w S0 w' []:=by
 refine lg S0 func164 ntmps164 Y λH0=>rg<|al ZT Y H0 λg1 w1 K1=>dn<|rg<|al ZT Y K1 λg2 w2 K=>dn<|aZ<|gD Y<|dn<|dF<|Rn 17 (RN.s ?_)
 iterate 16
  refine rg<|ev (iH Y Y)<|dn<|cT Y<|jQ<|aZ<|dF<|pC 6 Y<|ev (Ev.aD5 Ez.1 Ez.2.1 Ez.2.2 Y Y)<|fE Y<|aZ<|gD Y<|dn<|dF<|Rn 5 (RN.s ?_)
  iterate 4
   refine rg<|ev (iH Y Y)<|dn<|cT Y<|jQ<|aZ<|dF<|jN<|mv Y<|ev (Ev.atV Y Y au)<|mv Y<|ev (Ev.amx (b:=1#32) Y Y)<|ev (Ev.aH3 Y)<|ev (Ev.amx (b:=3988292384#32) Y Y)<|ev (Ev.amw Y Y)<|oJ Y<|jO<|iF (fV ?_)
   refine jN<|ev (L6 Y Y (xR au au))<|mv Y<|jO<|l7.rnd (RN.s ?_)
  refine rg<|ev (iH Y Y)<|dn<|cF Y<|BU<|jN<|pq 2 Y<|ev (Ev.aOu underlying240 alQ Y Y Y Y)<|xD Y K U Y λw K=>jO<|iF (fV ?_)
  refine jN<|ev (L6 Y Y (xR au au))<|mv Y<|jO<|l7.rnd (RN.s ?_)
 refine rg<|ev (iH Y Y)<|dn<|cF Y<|BU ?_
 have K:=K.reC (ds:=[gP 0,gP 498536548,gP 997073096,gP 651767980,gP 1994146192,gP 1802195444,gP 1303535960,gP 1342533948,gP 3988292384,gP 4027552580,gP 3604390888,gP 3412177804,gP 2607071920,gP 2262029012,gP 2685067896,gP 3183342108]) ak;refine rg<|ev (fA aub Y Y (K.x U))<|sty Y K s1 Y λw19 Ai=>dn<|jE (qL Y ⟨_,_,Y,⟨_,Y,jo aub Y (Ai.x U)⟩,Y⟩ ?_)
 exact⟨Y,Ai.z⟩
def ay1(w:World)(sum:BitVec 32){c_b:Nat}{b:V (BitVec 8)}(h_b:Sl fP S0 w A_b c_b b):bM prog 90 #[gP ((sum).toNat:Int),.slice A_b b.length c_b] w λv w'=>v=gP ((Xy sum b).toNat:Int)/\Hp w S0 w' []:=by
 refine lg S0 func90 ntmps90 Y λH0=>?_;have aUI:=h_b.bI;refine kX Y<|WP.jumps (lb:=0) (λmJ lJ wJ=>∃ k gt,lJ=[(1,.slice A_b b.length c_b),(5,fK gt),(6,gP ((((b.take k).foldl FP (~~~sum))).toNat:Int)),(7,O ((k:Nat):Int))]/\mJ=b.length - k/\(k<=b.length)/\Hp w S0 wJ [dJ gt 240 [gP 0,gP 498536548,gP 997073096,gP 651767980,gP 1994146192,gP 1802195444,gP 1303535960,gP 1342533948,gP 3988292384,gP 4027552580,gP 3604390888,gP 3412177804,gP 2607071920,gP 2262029012,gP 2685067896,gP 3183342108]]) Y ?_ ?_
 ·rintro _ _ w4 ⟨k,gt,rfl,rfl,hk,K4⟩;refine aZ<|gD Y<|mv Y<|ev (jf zK Y)<|ev (iH Y Y)<|dn<|o8 Y (λrR=>?_) (λrR=>?_)
  ·refine pC 4 Y ?_;obtain⟨x1,bT⟩:=bH (xs:=b) (i:=k) aj;refine ev (d9 (i:=k) zK ay0 Y Y Y (aP bT) ((K4.a h_b).some_ bT))<|ev (kG aId Y ((K4.a h_b).eZ (j:=0) bT Y))<|ev (Ev.atW (a:=x1) aeC.1 aeC.2.1 aeC.2.2 Y)<|ev (Ev.amw (a:=((b.take k).foldl FP (~~~sum))) (b:=(x1.setWidth 32)) Y Y)<|pB 4 Y<|ev (Ev.amx Y Y)<|ev (Ev.aDY underlying240 alQ Y Y Y (by exact I9 _))<|ev (dU YN rfl (K4.x U) (ahT (I9 _)))<|mv rfl<|ev (Ev.atV (c:=4) rfl rfl aj)<|ev (Ev.amw rfl rfl)<|pB 4 rfl<|ev (Ev.amx (b:=15#32) rfl rfl)<|ev (Ev.aDY (i:=(((I8 ((((((b.take k).foldl FP (~~~sum)) ^^^ (x1.setWidth 32))&&& 15#32)).toNat) ^^^ ((((b.take k).foldl FP (~~~sum)) ^^^ (x1.setWidth 32)) >>> 4))&&& 15#32)).toNat) underlying240 alQ rfl rfl rfl (by exact I9 _))<|ev (dU YN rfl (K4.x U) (ahT (I9 _)))<|mv rfl<|ev (Ev.atV (a:=(I8 ((((((b.take k).foldl FP (~~~sum)) ^^^ (x1.setWidth 32))&&& 15#32)).toNat) ^^^ ((((b.take k).foldl FP (~~~sum)) ^^^ (x1.setWidth 32)) >>> 4))) (c:=4) rfl rfl aj)<|ev (Ev.amw (a:=I8 ((((I8 ((((((b.take k).foldl FP (~~~sum)) ^^^ (x1.setWidth 32))&&& 15#32)).toNat) ^^^ ((((b.take k).foldl FP (~~~sum)) ^^^ (x1.setWidth 32)) >>> 4))&&& 15#32)).toNat)) (b:=((I8 ((((((b.take k).foldl FP (~~~sum)) ^^^ (x1.setWidth 32))&&& 15#32)).toNat) ^^^ ((((b.take k).foldl FP (~~~sum)) ^^^ (x1.setWidth 32)) >>> 4)) >>> 4)) rfl rfl)<|pB 4 rfl<|ev (eG rfl rfl)<|fE rfl ?_
   refine WP.goto (l7.abC ?_);have gH:((((I8 ((((I8 ((((((b.take k).foldl FP (~~~sum)) ^^^ (x1.setWidth 32))&&& 15#32)).toNat) ^^^ ((((b.take k).foldl FP (~~~sum)) ^^^ (x1.setWidth 32)) >>> 4))&&& 15#32)).toNat) ^^^ ((I8 ((((((b.take k).foldl FP (~~~sum)) ^^^ (x1.setWidth 32))&&& 15#32)).toNat) ^^^ ((((b.take k).foldl FP (~~~sum)) ^^^ (x1.setWidth 32)) >>> 4)) >>> 4))).toNat:Int):Int)=((((b.take (k+1)).foldl FP (~~~sum))).toNat:Int):=by rw [eO bT,AP]; rfl
   refine ji (t:=6) Y (aY (Value.int .u32) gH)<|l7.jag ⟨(k+1),gt,Y,Y,aj,K4⟩ rfl aj
  refine jQ ?_;refine gD Y<|ev (Ev.aBn (a:=((b.take k).foldl FP (~~~sum))) Y)<|fE Y<|jE (l7.Yi (uo Y ?_))
  have kN:((((~~~((b.take k).foldl FP (~~~sum)))).toNat:Int):Int)=((Xy sum b).toNat:Int):=by rw [gY aj]; rfl
  exact⟨by rw [kN] <;> rfl,(K4.rm U)⟩
 ·intro hp0;refine rg<|mX H0 Y (aD6 (S0:=Any) _) λw1 K1=>al ZT Y K1 λg1 w2 K2=>sty Y K2 U Y λw3 K3=>dn<|gD Y<|ev (Ev.aBn (a:=sum) Y)<|pA 5 Y ?_
  have gy:((((~~~sum)).toNat:Int):Int)=((((b.take 0).foldl FP (~~~sum))).toNat:Int):=by rfl
  refine mP (t:=6) Y (aY (Value.int .u32) gy)<|WP.kp hp0 ⟨0,g1,Y,Y,by exact fI _,K3⟩ rfl
def Qv(w:World){c_b:Nat}{b:V (BitVec 8)}(h_b:Sl fP S0 w A_b c_b b):bM prog 41 #[.slice A_b b.length c_b] w λv w'=>v=gP ((gI b).toNat:Int)/\Hp w S0 w' []:=by
 refine lg S0 func41 ntmps41 Y λH0=>pC 5 Y<|mX H0 Y (ay1 _ (0#32) (H0.a h_b).any) λw1 K1=>fE Y<|iU Y ?_
 exact⟨by skip <;> rfl,K1⟩
end
section
variable {b w:World}{S:Nat->Prop}{F L:List kF}{oz gm c:Nat}{A:ah}{bB:Int}{l:List aI}{x:aI}{M:Array Oper}{aW full:Array Bool}{ν':Type}{K0:Act->World->Prop}
structure bP where
  aN:Int
  temp:Bool
  deriving DecidableEq
def bP.enc(x:bP):List Value:=[.int .i64 x.aN,.bool x.temp]
def bP.kP(x:bP):∀ u∈x.enc,u.oneCell'=true:=by
 intro u hu
 simp only [bP.enc,gW,lH,qM] at hu
 rcases hu with rfl | rfl <;> rfl
def yQ:bU prog 152 1 1:=ay
def aeD(a0:Int)(a1:Option Nat):prog.built 152 [(0,O a0),(2,.map a1)]=some #[O a0,.slice none 0 0,.map a1]:=ak
def auc:bC prog 41:=ay
def WS(a0:Int)(a1:Int)(a2:Int):prog.built 140 [(0,O a0),(1,O a1),(2,gP a2)]=some #[O a0,O a1,gP a2,.bool false,.bool false]:=ak
def aud:bU prog 152 0 0:=ay
def aD7:kW prog 135:=ay
def yR:bU prog 152 2 2:=ay
def qx(a0:Int)(a1:Bool):prog.built 154 [(0,O a0),(1,.bool a1)]=some #[O a0,.bool a1]:=ak
def aD8:kW prog 150:=ay
def Oy:∀ w,(zeroValue 42).run prog w=.ok (.slice none 0 0) w:=ay
def aD9:bC prog 151:=ay
abbrev yw(p:bP):Value:=.agg p.enc.toArray
def apk(x y:bP)(w:World):(Op.equalIn 10000 154 (.agg x.enc.toArray) (.agg y.enc.toArray)).run prog w=.ok (decide (x=y)) w:=by
 obtain⟨a0,a1⟩:=x; obtain⟨b0,b1⟩:=y
 simp only [bP.enc,bP.mk.injEq]
 simp [go_sem]
 repeat' split
 all_goals simp_all
def vW:Ns prog 154 yw:=key_eq underlying154 (λ_ _=>rfl) (λa b w=>apk a b w) (λw e a=>by
 obtain⟨c,t⟩:=a
 kernel_rfl) (λa=>by
 obtain⟨c,t⟩:=a;show((_ == _)&&((_&&(c == c))&&((t == t)&&true)))=true
 simp)
def Ja(r:Int):Int:=(if 16<(if 0>r then 0 else r) then 16 else(if 0>r then 0 else r))
def BQ(l:List aI)(bB c v sum:Int)(data:List (BitVec 8)):List aI:=if 64<data.length then l else if ¬ ((gI data).toNat:Int)=sum then l else if(kU l ⟨c,v,sum,false,false⟩ bB).2=0 then(kU l ⟨c,v,sum,false,false⟩ bB).1 else l
def Jb(l:List aI)(bB c v sum:Int)(data:List (BitVec 8))(B:ah)(d:Nat)(es:List (bP × Option Addr × Nat × List (BitVec 8))):List (bP × Option Addr × Nat × List (BitVec 8)):=if 64<data.length then es else if ¬ ((gI data).toNat:Int)=sum then es else if(kU l ⟨c,v,sum,false,false⟩ bB).2=0 then fO ⟨c,true⟩ (B,d,data) es else es
def Vg(l:List aI)(c v:Int):List aI:=if(mR l c v).2=0 then(mR l c v).1 else l
abbrev oh:=List (bP × Option Addr × Nat × List (BitVec 8))
def WT(l:List aI)(c v:Int)(es:oh):oh:=if(mR l c v).2=0 then ou ⟨c,true⟩ (fO ⟨c,false⟩ (fU ⟨c,true⟩ es) es) else es
def DC(l:List aI)(c:Int):List aI:=if(oZ l c).2=0 then(oZ l c).1 else l
def Qw(l:List aI)(c:Int)(es:oh):oh:=if(oZ l c).2=0 then ou ⟨c,false⟩ es else es
def rH(l:List aI)(bB c v sum:Int)(data:List (BitVec 8)):Int:=if 64<data.length then 7 else if ¬ ((gI data).toNat:Int)=sum then 4 else(kU l ⟨c,v,sum,false,false⟩ bB).2
def aeE{Av:ah}{nv cv:Nat}{u0 u1 u2:Value}(H0:Hp b S w (dJ oz 152 [u0,u1,u2]::F))(e:Int):bM prog 205 #[fK oz,.slice Av nv cv,O e] w λv w'=>v=O e/\Hp b S w' (dJ oz 152 [u0,(if e=0 then .slice Av nv cv else u1),u2]::F):=by
 refine qN func205 ntmps205 Y<|kX Y<|aZ<|gD Y<|ev (wQ Y Y)<|dn<|o8 Y (λhc8=>?_) (λhc8=>?_)
 ·refine jN<|pq 3 Y<|zA oz 1 yQ Y<|xD Y H0 U Y λw1 K1=>jO<|fV<|gD Y<|fE Y<|iU Y ?_
  exact⟨Y,by rw [aS hc8]; exact K1⟩
 refine jQ ?_;refine gD Y<|fE Y<|iU Y ?_
 exact⟨Y,by rw [aQ hc8]; exact H0⟩
def ay2 (H0:Hp b S w F)(bB:Int):bM prog 63 #[O bB] w λv w'=>∃ gs gm,v=fK gs/\Hp b S w' (dJ gs 152 [O (Ja bB),.slice none 0 0,.map (some gm)]::rV yw xF gm ([]:oh)::fH fP 5 (([]:oh).map Prod.snd)::F):=by
 refine qN func63 ntmps63 Y<|pC 7 Y<|mkA yw (xF (α:=BitVec 8)) H0 λg1 w1 K1=>?_
 have H1:=K1.af8 fP 5;refine ev (iT Y (by apply aeD))<|bx rfl rfl H1 λg2 w2 K2=>fE rfl<|iU rfl ?_
 exact⟨g2,g1,Y,by skip; exact((K2.sel s1).mV 1 2)⟩
abbrev sK:=bP × Option Addr × Nat × List (BitVec 8)
abbrev nO(gX:Int):=(⟨gX,true⟩:bP)
abbrev Dc(gX:List aI)(iP xE AU Gg:Int):=kU gX (⟨iP,xE,AU,false,false⟩:aI) Gg
def apl{ZU:ah}{ZV:Nat}{data:V (BitVec 8)}{es:V sK}(H0:Hp b S w (dJ oz 152 [O bB,.slice A l.length c,.map (some gm)]::dI bg A c l::rV yw xF gm es::fH fP 5 (es.map Prod.snd)::dI fP ZU ZV data::F))(aN:Int)(bR:Int)(sum:Int)(hl:l.length<=100000):bM prog 145 #[fK oz,O aN,O bR,gP sum,.slice ZU data.length ZV] w λv w'=>∃ A1 c1 B1 d1,v=O (rH l bB aN bR sum data)/\Hp b S w' (dJ oz 152 [O bB,.slice A1 ((BQ l bB aN bR sum data).length) c1,.map (some gm)]::dI bg A1 c1 (BQ l bB aN bR sum data)::rV yw xF gm (Jb l bB aN bR sum data B1 d1 es)::fH fP 5 ((Jb l bB aN bR sum data B1 d1 es).map Prod.snd)::F):=by
 refine qN func145 ntmps145 Y<|kX Y<|aZ<|dF<|gD Y<|ev (jf zK Y)<|ev (Ev.gtr Y Y)<|fE Y<|o8 Y (λoD=>?_) (λoD=>?_)
 ·refine kX Y<|YC Y ?_
  have gy:(7:Int)=(rH l bB aN bR sum data):=by first | (unfold rH; rw [aS aj]; done) | (unfold BQ; rw [aS aj]; done) | (unfold Jb; rw [aS aj]; done) | (unfold rH; rw [aS aj])
  have gH:(l:V aI)=(BQ l bB aN bR sum data):=by first | (unfold rH; rw [aS aj]; done) | (unfold BQ; rw [aS aj]; done) | (unfold Jb; rw [aS aj]; done) | (unfold rH; rw [aS aj])
  have kN:(es:V sK)=(Jb l bB aN bR sum data none 0 es):=by first | (unfold rH; rw [aS aj]; done) | (unfold BQ; rw [aS aj]; done) | (unfold Jb; rw [aS aj]; done) | (unfold rH; rw [aS aj])
  exact⟨A,c,none,0,by rw [<- gy] <;> rfl,by rw [<- gH,<- kN]; exact(H0.rm s4)⟩
 refine gD Y<|mX H0 Y (Qv _ (H0.s s4).any) λw1 K1=>pA 4 Y<|bS Y (λhc16=>?_) (λhc16=>?_)
 ·replace hc16:=oL hc16;refine kX Y<|YC Y ?_
  have nM:(4:Int)=(rH l bB aN bR sum data):=by first | (unfold rH; rw [aQ aj,aS hc16]; done) | (unfold BQ; rw [aQ aj,aS hc16]; done) | (unfold Jb; rw [aQ aj,aS hc16]; done) | (unfold rH; rw [aQ aj,aS hc16])
  have uO:(l:V aI)=(BQ l bB aN bR sum data):=by first | (unfold rH; rw [aQ aj,aS hc16]; done) | (unfold BQ; rw [aQ aj,aS hc16]; done) | (unfold Jb; rw [aQ aj,aS hc16]; done) | (unfold rH; rw [aQ aj,aS hc16])
  have zC:(es:V sK)=(Jb l bB aN bR sum data none 0 es):=by first | (unfold rH; rw [aQ aj,aS hc16]; done) | (unfold BQ; rw [aQ aj,aS hc16]; done) | (unfold Jb; rw [aQ aj,aS hc16]; done) | (unfold rH; rw [aQ aj,aS hc16])
  exact⟨A,c,none,0,by rw [<- nM] <;> rfl,by rw [<- uO,<- zC]; exact(K1.rm s4)⟩
 replace hc16:=oM hc16;refine Gw ?_;refine He K1 (λ_ K=>(K.rm U)) (λl0 rk lJ wJ=>∃ jG jr,lJ=(11,O ((Dc l aN bR sum bB).2))::l0/\Hp b S wJ (dJ oz 152 [O bB,(if((Dc l aN bR sum bB).2)=0 then .slice jG (((Dc l aN bR sum bB).1).length) jr else .slice A l.length c),.map (some gm)]::aR bg 140 jG jr ((Dc l aN bR sum bB).1)::rk)) (λhns H1=>?_) ?_
 ·have k1:=(H1.rm U);refine lF 0 Y Y k1<|qp 1 oz 1 yQ Y k1<|lF 5 Y Y k1<|lF 6 Y Y k1<|lF 7 Y Y k1<|kI 8 Y (λ_ _=>iT Y (by apply WS)) k1<|qp 9 oz 0 aud rfl k1<|Jn H1 (λl0 rk lJ wJ=>lJ=(25,.slice A l.length c)::(33,O bB)::l0/\Hp b S wJ rk) 5 8191 ?_ λhS1=>?_
  ·rintro _ w4 ⟨rfl,K4⟩;refine O1 13 Y<|gu Y (apj _ (K4.s s1).any (⟨aN,bR,sum,false,false⟩:aI) bB aj) ?_
   rintro _ w5 ⟨Du,Dv,rfl,h5⟩;have K5:=K4.f1 h5;have k4:=(K5.cU 0 2);refine aO k4<|yj 14 Y Y Y k4<|yj 15 Y Y Y k4<|O1 16 Y<|gu Y (aeE ((K5.sel U).sel s1) ((Dc l aN bR sum bB).2)) ?_
   rintro _ w6 ⟨rfl,K6⟩;have k5:=(K6.cU 0 2);refine aO k5<|xC 17 Y Y k5<|Dn ⟨Du,Dv,Y,K6⟩ Y
  refine O2 4 12 Y Y ?_ ?_
  ·refine lY H1 U Y<|aO k1<|O1 12 Y<|lY H1 U Y<|Kj hS1 k1 ⟨Y,H1⟩ Y
  ·refine lY H1 U Y<|aO k1<|O1 4 Y<|lY H1 U Y<|Kj hS1 k1 ⟨Y,H1⟩ Y
 rintro _ w7 ⟨jG,jr,rfl,K7⟩;refine aZ<|gD Y<|ev (wQ Y Y)<|dn<|o8 Y (λhc39=>?_) (λhc39=>?_)
 ·rw [aS hc39] at K7;refine Hf K7 (λ_ K=>((K.cU 3 2).cU 0 2)) (λl0 rk lJ wJ=>∃ oV cj2,lJ=l0/\Hp b S wJ (fH fP 5 ((fO (nO aN) (oV,cj2,data) es).map Prod.snd)::rV yw xF gm (fO (nO aN) (oV,cj2,data) es)::dJ oz 152 [O bB,.slice jG (((Dc l aN bR sum bB).1).length) jr,.map (some gm)]::aR bg 140 jG jr ((Dc l aN bR sum bB).1)::rk)) (λhns H2=>?_) ?_
  ·have k6:=((H2.cU 3 2).cU 0 2);refine qp 0 oz 2 yR Y k6<|lF 4 Y Y k6<|kI 5 Y (λ_ _=>iT Y (by apply qx)) k6<|lF 6 rfl rfl k6<|Jn H2 (λl0 rk lJ wJ=>∃ JQ JR,lJ=(43,.map (some gm))::(47,.slice JQ data.length JR)::l0/\Hp b S wJ (aR fP 5 JQ JR data::rk)) 1 255 ?_ λhS2=>?_
   ·rintro _ VY ⟨JQ,JR,rfl,vF⟩;refine O1 8 Y ?_;have hn2:=(vF.mp s4).1;refine aDZ (z:=(nO aN)) (v:=(JQ,JR,data)) vF s4 vW FM Y Y Y λUy uR=>?_;have H4:=uR.aeB hn2 s1 s4 (nO aN);have k10:=(H4.cU 0 4);refine aO k10<|Dn ⟨JQ,JR,Y,H4⟩ Y
   refine O2 3 7 Y Y ?_ ?_
   ·refine lY H2 U Y<|aO k6<|O1 7 Y<|gu Y (Bl _ (H2.s s5).any aj) ?_
    rintro _ YX ⟨asc,ase,rfl,h13⟩;have xk:=H2.f1 h13;have k11:=((xk.cU 4 2).cU 0 3);exact Kj hS2 k11 ⟨asc,ase,Y,xk⟩ Y
   ·refine gu Y (Bl _ (H2.s s5).any aj) ?_;rintro _ w14 ⟨aue,auf,rfl,h14⟩;have wF:=H2.f1 h14;have k12:=((wF.cU 4 2).cU 0 3);refine aO k12<|O1 3 Y<|lY wF s1 Y<|Kj hS2 k12 ⟨aue,auf,Y,wF⟩ Y
  rintro _ w15 ⟨oV,cj2,rfl,zI⟩;refine fV<|gD Y<|fE Y<|iU Y ?_
  have BO:(((Dc l aN bR sum bB).2):Int)=(rH l bB aN bR sum data):=by unfold rH; rw [aQ aj,aQ aj]
  have H5:=zI.fz s3;have hq8:((Dc l aN bR sum bB).1:V aI)=(BQ l bB aN bR sum data):=by unfold BQ; rw [aQ aj,aQ aj,aS hc39]
  have Aa:((fO (nO aN) (oV,cj2,data) es):V sK)=(Jb l bB aN bR sum data oV cj2 es):=by unfold Jb; rw [aQ aj,aQ aj,aS hc39]
  exact⟨jG,jr,oV,cj2,by rw [<- BO] <;> rfl,by rw [<- hq8,<- Aa]; exact((((H5.cU 4 2).sel s1).mV 1 2).sel s3)⟩
 rw [aQ hc39] at K7;refine jQ ?_;refine gD Y<|fE Y<|iU Y ?_
 have vL:(((Dc l aN bR sum bB).2):Int)=(rH l bB aN bR sum data):=by unfold rH; rw [aQ aj,aQ aj]
 have hq11:(l:V aI)=(BQ l bB aN bR sum data):=by unfold BQ; rw [aQ aj,aQ aj,aQ hc39]
 have hq12:(es:V sK)=(Jb l bB aN bR sum data none 0 es):=by unfold Jb; rw [aQ aj,aQ aj,aQ hc39]
 exact⟨A,c,none,0,by rw [<- vL] <;> rfl,by rw [<- hq11,<- hq12]; exact((K7.rm s5).rm s1)⟩
abbrev Kt(gX:Int):=(⟨gX,false⟩:bP)
def akP{es:V sK}(H0:Hp b S w (dJ oz 152 [O bB,.slice A l.length c,.map (some gm)]::dI bg A c l::rV yw xF gm es::fH fP 5 (es.map Prod.snd)::F))(aN:Int)(bR:Int)(hl:l.length<=100000):bM prog 146 #[fK oz,O aN,O bR] w λv w'=>∃ A1 c1,v=O ((mR l aN bR).2)/\Hp b S w' (dJ oz 152 [O bB,.slice A1 ((Vg l aN bR).length) c1,.map (some gm)]::dI bg A1 c1 (Vg l aN bR)::rV yw xF gm (WT l aN bR es)::fH fP 5 ((WT l aN bR es).map Prod.snd)::F):=by
 refine qN func146 ntmps146 Y<|pC 7 Y<|jP oz 1 yQ H0 U Y<|pq 2 Y<|gu Y (akO _ (H0.s s1).any aN bR aj) ?_
 rintro _ w1 ⟨jT,jU,rfl,h1⟩;have K1:=H0.f1 h1;refine pq 2 Y<|gu Y (aeE ((K1.sel U).sel s1) ((mR l aN bR).2)) ?_
 rintro _ w2 ⟨rfl,K2⟩;refine fE Y<|aZ<|gD Y<|ev (wQ Y Y)<|dn<|o8 Y (λl8=>?_) (λl8=>?_)
 ·rw [aS l8] at K2;refine He K2 (λ_ K=>((K.cU 3 2).cU 0 2)) (λl0 rk lJ wJ=>lJ=l0/\Hp b S wJ (rV yw xF gm (fO (Kt aN) ((fU (nO aN) es).1,(fU (nO aN) es).2.1,(fU (nO aN) es).2.2) es)::dJ oz 152 [O bB,.slice jT (((mR l aN bR).1).length) jU,.map (some gm)]::aR bg 140 jT jU ((mR l aN bR).1)::fH fP 5 (es.map Prod.snd)::rk)) (λhns H1=>?_) ?_
  ·have k1:=((H1.cU 3 2).cU 0 2);refine qp 0 oz 2 yR Y k1<|lF 4 Y Y k1<|kI 5 Y (λ_ _=>iT Y (by apply qx)) k1<|qp 6 oz 2 yR rfl k1<|lF 10 rfl rfl k1<|kI 11 rfl (λ_ _=>iT rfl (by apply qx)) k1<|Jn H1 (λl0 rk lJ wJ=>lJ=(24,.map (some gm))::(33,.slice ((fU (nO aN) es).1) (((fU (nO aN) es).2.2).length) ((fU (nO aN) es).2.1))::l0/\Hp b S wJ rk) 1 8191 ?_ λhS1=>?_
   ·rintro _ w4 ⟨rfl,K4⟩;refine O1 13 Y ?_;refine aDZ (z:=(Kt aN)) (v:=((fU (nO aN) es).1,(fU (nO aN) es).2.1,(fU (nO aN) es).2.2)) K4 s3 vW FM Y Y Y λw5 K5=>?_;have k3:=((K5.rm s4).cU 0 3);refine aO k3<|Dn ⟨Y,((K5.sel s3).mV 1 4)⟩ Y
   refine Jn H1 (λl0 rk lJ wJ=>lJ=(24,.map (some gm))::(30,.map (some gm))::l0/\Hp b S wJ rk) 2 4095 ?_ λhS2=>?_
   ·rintro _ w6 ⟨rfl,K6⟩;refine O1 12 Y<|ev (Ev.ahS (z:=(nO aN)) K6 s3 vW FM Oy Y Y) ?_
    have k4:=((K6.cU 3 2).cU 0 2);exact Kj hS1 k4 ⟨Y,K6⟩ Y
   refine O2 3 9 Y Y ?_ ?_
   ·refine lY H1 U Y<|aO k1<|O1 9 Y<|lY H1 U Y<|Kj hS2 k1 ⟨Y,H1⟩ Y
   ·refine lY H1 U Y<|aO k1<|O2 3 12 Y Y ?_ ?_
    ·refine lY H1 U Y<|Kj hS2 k1 ⟨Y,H1⟩ Y
    ·refine ev (Ev.ahS (z:=(nO aN)) H1 s3 vW FM Oy Y Y)<|aO k1<|O1 3 Y<|lY H1 U Y<|Kj hS1 k1 ⟨Y,H1⟩ Y
  rintro _ w7 ⟨rfl,K7⟩;refine jN<|pq 2 Y<|jP oz 2 yR K7 s1 Y<|mv Y<|ev (iT Y (by apply qx)) ?_
  have hn3:=ZR (K7.mp U).1;refine aD0 (z:=(nO aN)) K7 U vW FM Y Y λw8 K8=>?_;have H2:=K8.at6 (k2:=(Kt aN)) (k:=(nO aN)) hn3 s3 (by intro h; cases h);refine jO<|fV<|gD Y<|fE Y<|iU Y ?_
  have H3:=H2.fz s3;have gy:((mR l aN bR).1:V aI)=(Vg l aN bR):=by first | (unfold Vg; rw [aS l8]; done) | (unfold WT; rw [aS l8])
  have gH:((ou (nO aN) (fO (Kt aN) ((fU (nO aN) es).1,(fU (nO aN) es).2.1,(fU (nO aN) es).2.2) es)):V sK)=(WT l aN bR es):=by first | (unfold Vg; rw [aS l8]; done) | (unfold WT; rw [aS l8])
  exact⟨jT,jU,Y,by rw [<- gy,<- gH]; exact((((H3.rm s4).sel s1).mV 1 2).sel s3)⟩
 rw [aQ l8] at K2;refine jQ ?_;refine gD Y<|fE Y<|iU Y ?_
 have kN:(l:V aI)=(Vg l aN bR):=by first | (unfold Vg; rw [aQ l8]; done) | (unfold WT; rw [aQ l8])
 have nM:(es:V sK)=(WT l aN bR es):=by first | (unfold Vg; rw [aQ l8]; done) | (unfold WT; rw [aQ l8])
 exact⟨A,c,Y,by rw [<- kN,<- nM]; exact(K2.rm s1)⟩
def ZW{es:V sK}(H0:Hp b S w (dJ oz 152 [O bB,.slice A l.length c,.map (some gm)]::dI bg A c l::rV yw xF gm es::fH fP 5 (es.map Prod.snd)::F))(aN:Int)(hl:l.length<=100000):bM prog 131 #[fK oz,O aN] w λv w'=>∃ A1 c1,v=O ((oZ l aN).2)/\Hp b S w' (dJ oz 152 [O bB,.slice A1 ((DC l aN).length) c1,.map (some gm)]::dI bg A1 c1 (DC l aN)::rV yw xF gm (Qw l aN es)::fH fP 5 ((Qw l aN es).map Prod.snd)::F):=by
 refine qN func131 ntmps131 Y<|pC 7 Y<|jP oz 1 yQ H0 U Y<|mv Y<|gu Y (ayT _ (H0.s s1).any aN aj) ?_
 rintro _ w1 ⟨jT,jU,rfl,h1⟩;have K1:=H0.f1 h1;refine pq 2 Y<|gu Y (aeE ((K1.sel U).sel s1) ((oZ l aN).2)) ?_
 rintro _ w2 ⟨rfl,K2⟩;refine fE Y<|aZ<|gD Y<|ev (wQ Y Y)<|dn<|o8 Y (λhc17=>?_) (λhc17=>?_)
 ·rw [aS hc17] at K2;refine jN<|pq 2 Y<|jP oz 2 yR K2 U Y<|mv Y<|ev (iT Y (by apply qx))<|aD0 (z:=(Kt aN)) K2 s3 vW FM rfl rfl λw3 K3=>?_
  have H1:=K3.amA s4 (Kt aN);refine jO<|fV<|gD Y<|fE Y<|iU Y ?_
  have H2:=H1.fz s3;have gy:((oZ l aN).1:V aI)=(DC l aN):=by first | (unfold DC; rw [aS hc17]; done) | (unfold Qw; rw [aS hc17])
  have gH:((ou (Kt aN) es):V sK)=(Qw l aN es):=by first | (unfold DC; rw [aS hc17]; done) | (unfold Qw; rw [aS hc17])
  exact⟨jT,jU,Y,by rw [<- gy,<- gH]; exact((((H2.rm s4).sel s1).mV 1 2).sel s3)⟩
 rw [aQ hc17] at K2;refine jQ ?_;refine gD Y<|fE Y<|iU Y ?_
 have kN:(l:V aI)=(DC l aN):=by first | (unfold DC; rw [aQ hc17]; done) | (unfold Qw; rw [aQ hc17])
 have nM:(es:V sK)=(Qw l aN es):=by first | (unfold DC; rw [aQ hc17]; done) | (unfold Qw; rw [aQ hc17])
 exact⟨A,c,Y,by rw [<- kN,<- nM]; exact(K2.rm s1)⟩
def apm{es:V sK}(H0:Hp b S w (dJ oz 152 [O bB,.slice A l.length c,.map (some gm)]::dI bg A c l::rV yw xF gm es::fH fP 5 (es.map Prod.snd)::F))(aN:Int)(hl:l.length<=100000):bM prog 159 #[fK oz,O aN] w λv w'=>∃ A1 c1,v=.tuple #[]/\Hp b S w' (dJ oz 152 [O bB,.slice A1 ((FK l aN).length) c1,.map (some gm)]::dI bg A1 c1 (FK l aN)::rV yw xF gm (ou ⟨aN,true⟩ es)::fH fP 5 ((ou ⟨aN,true⟩ es).map Prod.snd)::F):=by
 refine qN func159 ntmps159 Y<|pC 4 Y<|jP oz 1 yQ H0 U Y<|mv Y<|gu Y (aph _ (H0.s s1).any aN aj) ?_
 rintro _ w1 ⟨jT,jU,rfl,h1⟩;have K1:=H0.f1 h1;refine pq 1 Y<|zA oz 1 yQ Y<|xD Y K1 s1 Y λw2 K2=>dn<|jN<|pq 2 Y<|jP oz 2 yR K2 U Y<|mv Y<|ev (iT Y (by apply qx))<|aD0 (z:=(nO aN)) K2 s3 vW FM rfl rfl λw3 K3=>?_
 have H1:=K3.amA s4 (nO aN);refine jO<|o7 (uo Y ?_)
 have H2:=H1.fz s3;exact⟨jT,jU,Y,by skip; exact((((H2.rm s4).sel s1).mV 1 2).sel s3)⟩
def aug{es:V sK}(H0:Hp b S w (dJ oz 152 [O bB,.slice A l.length c,.map (some gm)]::dI bg A c l::rV yw xF gm es::fH fP 5 (es.map Prod.snd)::F))  : bM prog 85 #[fK oz] w λv w'=>v=.tuple #[]/\Hp b S w' (dJ oz 152 [O bB,.slice none (([]:V aI).length) 0,.map (some gm)]::dI bg none 0 ([]:V aI)::rV yw xF gm ([]:oh)::fH fP 5 (([]:oh).map Prod.snd)::F):=by
 refine qN func85 ntmps85 Y<|pC 3 Y<|zA oz 1 yQ Y<|xD Y H0 U Y λw1 K1=>dn<|jN<|pq 2 Y<|jP oz 2 yR K1 U Y<|aOq K1 s2 FM Y λw2 K2=>?_
 have H1:=K2.amy s3 (List.nil_sublist _);refine jO<|o7 (uo Y ?_)
 have H2:=H1.push (O8 bg _ _);exact⟨Y,((((H2.rm s4).sel s1).mV 1 2).sel s3)⟩
def Qx{es:V sK}(H0:Hp b S w (dJ oz 152 [O bB,.slice A l.length c,.map (some gm)]::dI bg A c l::rV yw xF gm es::fH fP 5 (es.map Prod.snd)::F))(hl:l.length<=100000):bM prog 77 #[fK oz] w λv w'=>∃ A0 c0,v=.slice A0 ((dL l).length) c0/\Hp b S w' (aR bg 140 A0 c0 (dL l)::dJ oz 152 [O bB,.slice A l.length c,.map (some gm)]::dI bg A c l::rV yw xF gm es::fH fP 5 (es.map Prod.snd)::F):=by
 refine qN func77 ntmps77 Y<|pC 6 Y<|jP oz 1 yQ H0 U Y<|gu Y (ahP _ (H0.s s1).any aj) ?_
 rintro _ w1 ⟨jT,jU,rfl,h1⟩;have K1:=H0.f1 h1;refine fE Y<|iU Y ?_
 exact⟨jT,jU,Y,K1⟩
def ahU(s:List aI × oh)(x:aI):List aI × oh:=if x.fZ=true then(FK s.1 x.X,ou ⟨x.X,true⟩ s.2) else s
def qY(l:List aI)(es:oh)(k:Nat):List aI × oh:=(l.take k).foldl ahU (l,es)
def Ku{es:oh}{k:Nat}(hx:l[k]? = some x)(ht:x.fZ=true):qY l es (k+1)=(FK (qY l es k).1 x.X,ou ⟨x.X,true⟩ (qY l es k).2):=by
 unfold qY; rw [eO hx,AP];show ahU _ x=_;unfold ahU; rw [aS ht]
def Qy{es:oh}{k:Nat}(hx:l[k]? = some x)(ht:x.fZ=false):qY l es (k+1)=qY l es k:=by
 unfold qY; rw [eO hx,AP];show ahU _ x=_;unfold ahU; rw [aQ (by rw [ht]; decide)]
def akQ(l:V aI)(c:Int):(FK l c).length<=l.length:=lG (mW _ _) (xL l)
def ahV(l:V aI)(es:oh):∀ k,(qY l es k).1.length<=l.length
 | 0=>j4 _
 | k+1=>by
  have h:=ahV l es k
  rcases G6 k l.length with hk | hk
  ·obtain⟨x,hx⟩:=bH hk
   cases ht:x.fZ with
   | true=>rw [Ku hx ht]; exact lG (akQ _ _) h
   | false=>rw [Qy hx ht]; exact h
  ·unfold qY at h ⊢
   rw [gY aj] at h ⊢; exact h
def vQ(bit:Int)(n:Nat):Nat:=(if 0>bit then(0:Int) else bit).toNat % (8*n)
def ay3(xs:List (BitVec 8))(b:Nat):List (BitVec 8):=xs.set (b / 8) (xs.getD (b / 8) 0#8 ^^^ (1#8 <<< (b % 8)))
def SH(c bit:Int)(es:oh):oh:=if(fU ⟨c,false⟩ es).2.2.length=0 then es else fO ⟨c,false⟩ ((fU ⟨c,false⟩ es).1,(fU ⟨c,false⟩ es).2.1,ay3 (fU ⟨c,false⟩ es).2.2 (vQ bit (fU ⟨c,false⟩ es).2.2.length)) es
def ahW{es:V sK}(H0:Hp b S w (dJ oz 152 [O bB,.slice A l.length c,.map (some gm)]::dI bg A c l::rV yw xF gm es::fH fP 5 (es.map Prod.snd)::F))(hl:l.length<=100000):bM prog 82 #[fK oz] w λv w'=>∃ A1 c1,v=.tuple #[]/\Hp b S w' (dJ oz 152 [O bB,.slice A1 (((qY l es l.length).1).length) c1,.map (some gm)]::dI bg A1 c1 ((qY l es l.length).1)::rV yw xF gm ((qY l es l.length).2)::fH fP 5 (((qY l es l.length).2).map Prod.snd)::F):=by
 refine qN func82 ntmps82 Y ?_;have H1:=H0.push (H0.s s1);refine pC 3 Y<|jP oz 1 yQ H1 s1 Y<|pA 3 Y<|dF ?_
 have gy:(l:V aI)=(qY l es 0).1:=by rfl
 rw [gy] at H1;have gH:(.slice A l.length c:Value)=.slice A (((qY l es 0).1).length) c:=by rfl
 try rw [gH] at H1
 have kN:es=(qY l es 0).2:=by rfl
 rw [kN] at H1;refine Lp ((H1.cU 3 2).cU 0 2) (λl0 rk mJ lJ wJ=>∃ k A1 c1,lJ=(9,O ((k:Nat):Int))::l0/\mJ=l.length - k/\k<=l.length/\Hp b S wJ (dI bg A1 c1 ((qY l es k).1)::dJ oz 152 [O bB,.slice A1 (((qY l es k).1).length) c1,.map (some gm)]::rV yw xF gm ((qY l es k).2)::fH fP 5 (((qY l es k).2).map Prod.snd)::rk)) ⟨0,A,c,Y,Y,fI _,((H1.sel s2).mV 1 4)⟩ Y ?_;rintro _ _ w1 ⟨k,A1,c1,rfl,rfl,hk,K1⟩;refine rg<|ev (iH Y Y)<|dn<|r9 Y (λP5=>?_) (λP5=>?_)
 ·refine jQ ?_;refine aZ<|dF<|rg ?_
  obtain⟨x1,bT⟩:=bH (xs:=l) (i:=k) aj;refine ev (d9 (i:=k) pE pR Y Y Y (aP bT) ((K1.s s4).some_ bT))<|ev (iR pU Y Y ((K1.s s4).fF bT))<|al yP Y K1 λg1 w2 K2=>sty Y K2 U Y λw3 K3=>dn<|rg<|jP g1 3 uL K3 U Y<|dn<|bS Y (λrR=>?_) (λrR=>?_)
  ·have hrl:=ahV l es k;refine jN<|mv Y<|jP g1 0 mI K3 U Y<|gu Y (apm ((((K3.sel U).mV 3 2).sel s3).sel s4) x1.X aj) ?_
   rintro _ w4 ⟨aEa,aEb,rfl,K4⟩;refine jO<|iF (fV ?_)
   refine jN<|ev (eG Y Y)<|mv Y<|jO ?_
   have nM:((FK ((qY l es k).1) x1.X):V aI)=(qY l es (k+1)).1:=by first | rw [Ku bT rR] | rw [Qy bT rR]
   rw [nM] at K4;have uO:(.slice aEa ((FK ((qY l es k).1) x1.X).length) aEb:Value)=.slice aEa (((qY l es (k+1)).1).length) aEb:=by first | rw [Ku bT rR] | rw [Qy bT rR]
   try rw [uO] at K4
   have zC:(ou ⟨x1.X,true⟩ ((qY l es k).2))=(qY l es (k+1)).2:=by first | rw [Ku bT rR] | rw [Qy bT rR]
   rw [zC] at K4;exact dX ⟨(k+1),aEa,aEb,Y,Y,aj,(((K4.rm s4).sel U).sel s1)⟩ rfl aj
  refine Gw ?_;refine jN<|ev (eG Y Y)<|mv Y<|jO ?_
  have BO:((qY l es k).1:V aI)=(qY l es (k+1)).1:=by first | rw [Ku bT rR] | rw [Qy bT rR]
  rw [BO] at K3;have hq8:(.slice A1 (((qY l es k).1).length) c1:Value)=.slice A1 (((qY l es (k+1)).1).length) c1:=by first | rw [Ku bT rR] | rw [Qy bT rR]
  try rw [hq8] at K3
  have Aa:(qY l es k).2=(qY l es (k+1)).2:=by first | rw [Ku bT rR] | rw [Qy bT rR]
  rw [Aa] at K3;exact dX ⟨(k+1),A1,c1,Y,Y,aj,(K3.rm U)⟩ rfl aj
 refine tu (mG (mG (tZ (o7 (uo Y ?_)))));have vL:((qY l es k).1:V aI)=((qY l es l.length).1):=by rw [show k=l.length from by omega]
 have hq11:((qY l es k).2:V sK)=((qY l es l.length).2):=by rw [show k=l.length from by omega]
 exact⟨A1,c1,Y,by rw [<- vL,<- hq11]; exact(((K1.rm s4).sel U).sel s1)⟩
def apn{es:V (bP × Option Addr × Nat × V (BitVec 8))}(H0:Hp b S w (dJ oz 152 [O bB,.slice A l.length c,.map (some gm)]::dI bg A c l::rV yw xF gm es::fH fP 5 (es.map Prod.snd)::F))(aN:Int)(bit:Int)(hb:(fU ⟨aN,false⟩ es).2.2.length<=1000)(hi:vJ bit):bM prog 84 #[fK oz,O aN,O bit] w λv w'=>v=O (if(fU ⟨aN,false⟩ es).2.2.length=0 then 5 else 0)/\Hp b S w' (dJ oz 152 [O bB,.slice A l.length c,.map (some gm)]::dI bg A c l::rV yw xF gm (SH aN bit es)::fH fP 5 ((SH aN bit es).map Prod.snd)::F):=by
 refine qN func84 ntmps84 Y ?_;have hi2:bit<=9223372036854775807:=hi.2;have hi3:(if 0>bit then(0:Int) else bit).toNat<=9223372036854775807:=by split <;> omega
 refine pC 6 Y<|jP oz 2 yR H0 U Y<|mv Y<|ev (iT (vs:=[(0,O aN),(1,.bool false)]) (cs:=[O aN,.bool false]) Y (by apply qx))<|ev (Ev.ahS (z:=(⟨aN,false⟩:bP)) H0 s2 vW FM Oy rfl rfl)<|fE rfl<|aZ<|gD rfl<|ev (jf zK rfl)<|ev (wQ rfl rfl)<|dn<|o8 rfl (λhc17=>?_) (λhc17=>?_)
 ·refine kX Y<|Aw Y ?_
  have gy:(5:Int)=(if(fU ⟨aN,false⟩ es).2.2.length=0 then 5 else 0):=by rw [aS aj]
  have gH:(es:V (bP × Option Addr × Nat × V (BitVec 8)))=(SH aN bit es):=by unfold SH; rw [aS aj]
  exact⟨by rw [<- gy] <;> rfl,by rw [<- gH]; exact H0⟩
 have hlt:=Nat.mod_lt (if 0>bit then(0:Int) else bit).toNat (y:=8*(fU (⟨aN,false⟩:bP) es).2.2.length) aj;have hsb:vQ bit (fU (⟨aN,false⟩:bP) es).2.2.length<8*(fU (⟨aN,false⟩:bP) es).2.2.length:=hlt;refine jQ ?_;refine pC 3 Y<|gZ (t:=19) Y (aY (Value.int .i64) (show((if 0>bit then 0 else bit):Int)=(((if 0>bit then(0:Int) else bit).toNat:Nat):Int) by split <;> omega))<|pq 2 rfl<|ev (Ev.mul rfl rfl (xR aj aj))<|ev (Ev.aH5 (a:=(if 0>bit then(0:Int) else bit).toNat) (c:=8*((fU (⟨aN,false⟩:bP) es).2.2).length) rfl rfl rfl aj aj)<|gZ (t:=23) rfl (aY (Value.int .i64) (show(((((if 0>bit then(0:Int) else bit).toNat) % (8*((fU (⟨aN,false⟩:bP) es).2.2).length):Nat):Int):Int)=((vQ bit (fU (⟨aN,false⟩:bP) es).2.2.length:Nat):Int) by rfl))<|fE rfl ?_
 obtain⟨j,hj⟩:=ayY (k:=(⟨aN,false⟩:bP)) (es:=es) aj;have H1:=H0.aD2 s3 hj;obtain⟨x1,bT⟩:=bH (xs:=(fU (⟨aN,false⟩:bP) es).2.2) (i:=(vQ bit (fU (⟨aN,false⟩:bP) es).2.2.length) / 8) aj;refine He H1 (λ_ K=>((K.rm s4).cU 0 3)) (λl0 rk lJ wJ=>lJ=(7,.slice ((fU (⟨aN,false⟩:bP) es).1) ((((fU (⟨aN,false⟩:bP) es).2.2).set ((vQ bit (fU (⟨aN,false⟩:bP) es).2.2.length) / 8) (x1 ^^^ (1#8 <<< ((vQ bit (fU (⟨aN,false⟩:bP) es).2.2.length) % 8)))).length) ((fU (⟨aN,false⟩:bP) es).2.1))::(14,.slice ((fU (⟨aN,false⟩:bP) es).1) ((((fU (⟨aN,false⟩:bP) es).2.2).set ((vQ bit (fU (⟨aN,false⟩:bP) es).2.2.length) / 8) (x1 ^^^ (1#8 <<< ((vQ bit (fU (⟨aN,false⟩:bP) es).2.2.length) % 8)))).length) ((fU (⟨aN,false⟩:bP) es).2.1))::(15,.slice ((fU (⟨aN,false⟩:bP) es).1) ((((fU (⟨aN,false⟩:bP) es).2.2).set ((vQ bit (fU (⟨aN,false⟩:bP) es).2.2.length) / 8) (x1 ^^^ (1#8 <<< ((vQ bit (fU (⟨aN,false⟩:bP) es).2.2.length) % 8)))).length) ((fU (⟨aN,false⟩:bP) es).2.1))::(20,.slice ((fU (⟨aN,false⟩:bP) es).1) ((((fU (⟨aN,false⟩:bP) es).2.2).set ((vQ bit (fU (⟨aN,false⟩:bP) es).2.2.length) / 8) (x1 ^^^ (1#8 <<< ((vQ bit (fU (⟨aN,false⟩:bP) es).2.2.length) % 8)))).length) ((fU (⟨aN,false⟩:bP) es).2.1))::l0/\Hp b S wJ (aR fP 5 ((fU (⟨aN,false⟩:bP) es).1) ((fU (⟨aN,false⟩:bP) es).2.1) (((fU (⟨aN,false⟩:bP) es).2.2).set ((vQ bit (fU (⟨aN,false⟩:bP) es).2.2.length) / 8) (x1 ^^^ (1#8 <<< ((vQ bit (fU (⟨aN,false⟩:bP) es).2.2.length) % 8))))::fH fP 5 ((es.map Prod.snd).eraseIdx j)::dJ oz 152 [O bB,.slice A l.length c,.map (some gm)]::rV yw xF gm es::rk)) (λhns H2=>?_) ?_
 ·have k1:=((H2.rm s4).cU 0 3);refine lF 0 Y Y k1<|lF 1 Y Y k1<|kI 2 Y (λ_ _=>Ev.aOm (a:=vQ bit (fU (⟨aN,false⟩:bP) es).2.2.length) (c:=8) Y Y Y aj aj) k1<|lF 5 Y Y k1<|kI 6 Y (λ_ _=>Ev.aH5 (a:=vQ bit (fU (⟨aN,false⟩:bP) es).2.2.length) (c:=8) Y Y Y aj aj) k1<|kI 7 Y (λ_ _=>Ev.aOl (a:=1#8) (c:=(vQ bit (fU (⟨aN,false⟩:bP) es).2.2.length) % 8) Y Y aj) k1<|O1 3 Y<|ev (d9 (i:=(vQ bit (fU (⟨aN,false⟩:bP) es).2.2.length) / 8) zK ay0 Y Y Y (aP bT) ((H2.o U).some_ bT))<|aO k1<|O1 4 Y<|ev (kG aId Y ((H2.o U).eZ (j:=0) bT Y))<|aO k1<|kI 8 Y (λ_ _=>Ev.aOk (a:=x1) (b:=(1#8 <<< ((vQ bit (fU (⟨aN,false⟩:bP) es).2.2.length) % 8))) Y Y) k1<|O1 9 Y<|ev (d9 (i:=(vQ bit (fU (⟨aN,false⟩:bP) es).2.2.length) / 8) zK ay0 Y Y Y (aP bT) ((H2.o U).some_ bT))<|aO k1<|O1 10 Y<|se (i:=(vQ bit (fU (⟨aN,false⟩:bP) es).2.2.length) / 8) (f:=0) (x:=x1) (x':=(x1 ^^^ (1#8 <<< ((vQ bit (fU (⟨aN,false⟩:bP) es).2.2.length) % 8)))) (ds:=[.int .u8 (((x1 ^^^ (1#8 <<< ((vQ bit (fU (⟨aN,false⟩:bP) es).2.2.length) % 8)))).toNat:Int)]) H2 U Y Y Y bT Y ay0 (nU Y) Y (by rintro _ _ _ ⟨⟩; rfl) λw1 K1=>?_
  have hl1:(((fU (⟨aN,false⟩:bP) es).2.2).set ((vQ bit (fU (⟨aN,false⟩:bP) es).2.2.length) / 8) (x1 ^^^ (1#8 <<< ((vQ bit (fU (⟨aN,false⟩:bP) es).2.2.length) % 8)))).length=((fU (⟨aN,false⟩:bP) es).2.2).length:=iC ..;refine gZ (t:=14) (u:=.slice ((fU (⟨aN,false⟩:bP) es).1) (((fU (⟨aN,false⟩:bP) es).2.2).length) ((fU (⟨aN,false⟩:bP) es).2.1)) (v:=.slice ((fU (⟨aN,false⟩:bP) es).1) ((((fU (⟨aN,false⟩:bP) es).2.2).set ((vQ bit (fU (⟨aN,false⟩:bP) es).2.2.length) / 8) (x1 ^^^ (1#8 <<< ((vQ bit (fU (⟨aN,false⟩:bP) es).2.2.length) % 8)))).length) ((fU (⟨aN,false⟩:bP) es).2.1)) Y (by rw [hl1])<|gZ (t:=7) (u:=.slice ((fU (⟨aN,false⟩:bP) es).1) (((fU (⟨aN,false⟩:bP) es).2.2).length) ((fU (⟨aN,false⟩:bP) es).2.1)) (v:=.slice ((fU (⟨aN,false⟩:bP) es).1) ((((fU (⟨aN,false⟩:bP) es).2.2).set ((vQ bit (fU (⟨aN,false⟩:bP) es).2.2.length) / 8) (x1 ^^^ (1#8 <<< ((vQ bit (fU (⟨aN,false⟩:bP) es).2.2.length) % 8)))).length) ((fU (⟨aN,false⟩:bP) es).2.1)) rfl (by rw [hl1])<|gZ (t:=15) (u:=.slice ((fU (⟨aN,false⟩:bP) es).1) (((fU (⟨aN,false⟩:bP) es).2.2).length) ((fU (⟨aN,false⟩:bP) es).2.1)) (v:=.slice ((fU (⟨aN,false⟩:bP) es).1) ((((fU (⟨aN,false⟩:bP) es).2.2).set ((vQ bit (fU (⟨aN,false⟩:bP) es).2.2.length) / 8) (x1 ^^^ (1#8 <<< ((vQ bit (fU (⟨aN,false⟩:bP) es).2.2.length) % 8)))).length) ((fU (⟨aN,false⟩:bP) es).2.1)) rfl (by rw [hl1])<|gZ (t:=20) (u:=.slice ((fU (⟨aN,false⟩:bP) es).1) (((fU (⟨aN,false⟩:bP) es).2.2).length) ((fU (⟨aN,false⟩:bP) es).2.1)) (v:=.slice ((fU (⟨aN,false⟩:bP) es).1) ((((fU (⟨aN,false⟩:bP) es).2.2).set ((vQ bit (fU (⟨aN,false⟩:bP) es).2.2.length) / 8) (x1 ^^^ (1#8 <<< ((vQ bit (fU (⟨aN,false⟩:bP) es).2.2.length) % 8)))).length) ((fU (⟨aN,false⟩:bP) es).2.1)) rfl (by rw [hl1]) ?_
  refine gZ (t:=24) (u:=.slice ((fU (⟨aN,false⟩:bP) es).1) (((fU (⟨aN,false⟩:bP) es).2.2).length) ((fU (⟨aN,false⟩:bP) es).2.1)) (v:=.slice ((fU (⟨aN,false⟩:bP) es).1) ((((fU (⟨aN,false⟩:bP) es).2.2).set ((vQ bit (fU (⟨aN,false⟩:bP) es).2.2.length) / 8) (x1 ^^^ (1#8 <<< ((vQ bit (fU (⟨aN,false⟩:bP) es).2.2.length) % 8)))).length) ((fU (⟨aN,false⟩:bP) es).2.1)) Y (by rw [hl1]) ?_;have k2:=((K1.rm s4).cU 0 3);refine aO k2<|Dn ⟨Y,((K1.sel s3).mV 1 4)⟩ Y
 rintro _ w2 ⟨rfl,K2⟩;have H3:=K2.aH7 hj av U U s1;refine kX Y<|iU Y ?_
 have kN:(0:Int)=(if(fU ⟨aN,false⟩ es).2.2.length=0 then 5 else 0):=by rw [aQ aj]
 have nM:((fO (⟨aN,false⟩:bP) ((fU (⟨aN,false⟩:bP) es).1,(fU (⟨aN,false⟩:bP) es).2.1,(((fU (⟨aN,false⟩:bP) es).2.2).set ((vQ bit (fU (⟨aN,false⟩:bP) es).2.2.length) / 8) (x1 ^^^ (1#8 <<< ((vQ bit (fU (⟨aN,false⟩:bP) es).2.2.length) % 8))))) es):V (bP × Option Addr × Nat × V (BitVec 8)))=(SH aN bit es):=by unfold SH ay3; rw [aQ aj,ayZ bT]
 exact⟨by rw [<- kN] <;> rfl,by rw [<- nM]; exact((H3.mV 0 2).mV 2 2)⟩
def reqs(M:Array Oper)(i:Nat):List Nat:=match M[i]? with
  | some o=>(o.after.toList.filter λe=>Region.binds .any e).map (·.on)
  | none=>[]
def apo(M:Array Oper)(ids:List Nat)(full:Array Bool):Bool:=
  (nodupB ids&&(full.size == M.size&&(List.range M.size).all λi=>full.getD i false == ids.contains i))&&((ids.all λi=>decide (i<M.size)&&(reqs M i).all λj=>decide (j<i)&&ids.contains j)&&
  ((List.range M.size).all λr=>ids.contains r||((reqs M r).any (λj=>!ids.contains j)||ids.all λi=>(reqs M r).contains i||ids.any λj=>(reqs M j).contains i)))
def Kv(hs:aW.size=M.size)(i:Nat):i∈Region.ready .any M aW↔i<M.size/\aW.getD i false=false/\∀ j∈reqs M i,aW.getD j false=true:=by
 rw [mem_ready]
 by_cases hi:i<M.size
 ·have h1:aW.getD i true=aW.getD i false:=by
   rw [KX,KX,ac3 aj]; rfl
  have h2:M[i]? = some M[i]:=ac3 hi;rw [h1]
  constructor
  ·rintro⟨h3,o,h4,h5⟩
   refine⟨hi,h3,λj hj=>?_⟩;unfold reqs at hj;rw [h4] at hj;obtain⟨e,he,rfl⟩:=eX.1 hj;obtain⟨he1,he2⟩:=jJ.1 he;exact h5 e (by simpa using he1) he2
  ·rintro⟨_,h3,h5⟩
   refine⟨h3,M[i],h2,λe he hb=>h5 e.on ?_⟩;unfold reqs;rw [h2];exact eX.2 ⟨e,jJ.2 ⟨by simpa using he,hb⟩,rfl⟩
 ·constructor
  ·rintro⟨_,o,h4,_⟩
   exact absurd (vX.1 h4).1 hi
  ·rintro⟨h,_⟩; exact absurd h hi
def ZX:∀ {l:V Nat},nodupB l=true->l.Nodup
 | [],_=>List.nodup_nil
 | x::l,h=>by
  simp only [nodupB,bK,dZ] at h
  exact FL.2 ⟨λhm=>(by rw [nG.2 hm] at h; cases h.1),ZX h.2⟩
def Jc{r i:Nat}(hr:r<aW.size):(aW.setIfInBounds r true).getD i false=if i=r then true else aW.getD i false:=by
 rw [KX,KX,Array.getElem?_setIfInBounds]
 by_cases h:r=i
 ·subst h; simp [hr]
 ·rw [aQ h,aQ (λe=>h e.symm)]
def ay4{l:V Nat}{r:Nat}(hn:l.Nodup)(hr:r∈l)(hs:r<aW.size)(hu:aW.getD r false=false):(l.filter λi=>!(aW.setIfInBounds r true).getD i false).length+1=(l.filter λi=>!aW.getD i false).length:=by
 induction l with
 | nil=>cases hr
 | cons x l ih=>
  obtain⟨h1,h2⟩:=FL.1 hn
  rcases gW.1 hr with rfl | hr'
  ·have e:(l.filter λi=>!(aW.setIfInBounds r true).getD i false)=l.filter λi=>!aW.getD i false:=List.filter_congr λi hi=>by
    rw [Jc hs,aQ (fun(e:i=r)=>h1 (e▸hi))]
   rw [List.filter_cons_of_neg (by rw [Jc hs,aS rfl]; simp),akK (by rw [hu]; rfl),e]; rfl
  ·have hne:x≠r:=λe=>h1 (e▸hr')
   have:=ih h2 hr';rw [MO,MO,Jc hs,aQ hne]
   split <;> (try simp only [oO]) <;> omega
def amB{ids:V Nat}(h:apo M ids full=true)(rest:Nat):∀(fuel:Nat)(aW:Array Bool),aW.size=M.size->(∀ i,aW.getD i false=true->i∈ids)->
  (∀ i,aW.getD i false=true->∀ j∈reqs M i,aW.getD j false=true)->fuel=rest+(ids.filter λi=>!aW.getD i false).length->rC M ids rest full fuel aW=true:=by
 simp only [apo,bK,Uh,mD,List.mem_range,bN,eH,nG,MN,dZ] at h
 obtain⟨⟨hn,hfs,hfull⟩,apq,hoth⟩:=h;have hnd:=ZX hn;have hlt:∀ i∈ids,i<M.size:=λi hi=>(apq i hi).1
 -- all aW: the array is the full one
 have hfl:∀ {aW:Array Bool},aW.size=M.size->(∀ i,aW.getD i false=true->i∈ids)->(∀ i∈ids,aW.getD i false=true)->aW=full:=by
  intro aW hs h1 h2;refine Array.ext aj λi hi1 hi2=>?_;have e1:aW.getD i false=aW[i]:=by rw [KX,ac3 hi1]; rfl
  have e2:full.getD i false=full[i]:=by rw [KX,ac3 hi2]; rfl
  rw [<- e1,<- e2,hfull i aj]
  by_cases hm:i∈ids
  ·rw [h2 i hm,nG.2 hm]
  ·rw [Cm.2 (λe=>hm (h1 i e)),Cm.2 (λe=>hm (nG.1 e))]
 have hcz:∀ {aW:Array Bool},(ids.filter λi=>!aW.getD i false).length=0↔∀ i∈ids,aW.getD i false=true:=by
  intro aW;rw [List.length_eq_zero_iff,Vd]
  simp
 intro fuel
 induction fuel with
 | zero=>
  intro aW hs h1 h2 hf;have hz:=hcz.1 (by omega:(ids.filter λi=>!aW.getD i false).length=0);have hr0:rest=0:=aj;unfold rC;rw [hfl hs h1 hz,hr0]; simp
 | succ f ih=>
  intro aW hs h1 h2 hf;unfold rC
  by_cases he:aW=full
  ·have hz:(ids.filter λi=>!aW.getD i false).length=0:=hcz.2 λi hi=>by rw [he,hfull i (hlt i hi)]; exact nG.2 hi
   rw [aS (by rw [he]; simp)]
   simp only [Uh]; omega
  ·rw [aQ (by simpa using he)]
   have hun:∃ i∈ids,aW.getD i false=false:=by
    by_cases hh:∀ i∈ids,aW.getD i false=true
    ·exact absurd (hfl hs h1 hh) he
    ·simp only [Classical.not_forall] at hh
     obtain⟨i,hi,hx⟩:=hh;exact⟨i,hi,Cm.2 hx⟩
   have hmin:∀ m i,i<=m->i∈ids->aW.getD i false=false->∃ i∈ids,aW.getD i false=false/\∀ j∈reqs M i,aW.getD j false=true:=by
    intro m
    induction m with
    | zero=>
     intro i hi hm hu;refine⟨i,hm,hu,λj hj=>?_⟩;have:=((apq i hm).2 j hj).1;omega
    | succ m ihm=>
     intro i hi hm hu
     by_cases hall:∀ j∈reqs M i,aW.getD j false=true
     ·exact⟨i,hm,hu,hall⟩
     ·simp only [Classical.not_forall] at hall
      obtain⟨j,hj,hx⟩:=hall;obtain⟨hj1,hj2⟩:=(apq i hm).2 j hj;exact ihm j aj hj2 (Cm.2 hx)
   obtain⟨i0,hi0,hu0⟩:=hun;obtain⟨i1,hi1,hu1,hr1⟩:=hmin i0 i0 (j4 _) hi0 hu0
   have hin:∀ r∈Region.ready .any M aW,r∈ids:=by
    intro r hr;obtain⟨hr1,hr2,hr3⟩:=(Kv hs r).1 hr
    rcases hoth r hr1 with h3 | ⟨j,hj,hj2⟩ | h3
    ·exact h3
    ·exact absurd (h1 j (hr3 j hj)) (λhm=>(by rw [nG.2 hm] at hj2; cases hj2))
    ·exfalso
     have hall:∀ m i,M.size<=i+m->i∈ids->aW.getD i false=true:=by
      intro m
      induction m with
      | zero=>intro i hi hm; have:=hlt i hm; omega
      | succ m ihm=>
       intro i hi hm
       rcases h3 i hm with h4 | ⟨j,hj,hj2⟩
       ·exact hr3 i h4
       ·have hij:=((apq j hj).2 i hj2).1
        exact h2 j (ihm j aj hj) i hj2
     have:=hall M.size i0 aj hi0;rw [this] at hu0; cases hu0
   simp only [bK,dZ,mD]
   refine⟨?_,λr hr=>⟨nG.2 (hin r hr),?_⟩⟩
   ·have:i1∈Region.ready .any M aW:=(Kv hs i1).2 ⟨hlt i1 hi1,hu1,hr1⟩
    cases hq:Region.ready .any M aW with
    | nil=>rw [hq] at this; cases this
    | cons _ _=>rfl
   ·obtain⟨hr1,hr2,hr3⟩:=(Kv hs r).1 hr
    have hrs:r<aW.size:=aj;refine ih _ (by simpa using hs) (λi hi=>?_) (λi hi j hj=>?_) ?_
    ·rw [Jc hrs] at hi
     split at hi
     ·rename_i e; rw [e]; exact hin r hr
     ·exact h1 i hi
    ·rw [Jc hrs] at hi ⊢
     split
     ·rfl
     ·split at hi
      ·rename_i e; subst e; exact hr3 j hj
      ·exact h2 i hi j hj
    ·have:=ay4 hnd (hin r hr) hrs hr2
     omega
def aEc{ids:V Nat}{rest fuel n:Nat}(h:(apo M ids full&&(n == M.size&&fuel == rest+ids.length))=true):rC M ids rest full fuel (List.replicate n false).toArray=true:=by
 simp only [bK,Uh] at h
 have h0:∀ i,(List.replicate n false).toArray.getD i false=false:=λi=>by
  rw [KX]
  by_cases hi:i<n <;> simp [hi]
 refine amB h.1 rest fuel _ (by simpa using h.2.1) (λi hi=>?_) (λi hi=>?_) ?_
 ·rw [h0] at hi; cases hi
 ·rw [h0] at hi; cases hi
 ·rw [h.2.2]
  congr 1
  symm
  rw [DT.2 (λi _=>by rw [h0]; rfl)]
def Wn(es:oh)(x:aI):Bool:=!decide (((gI (fU (⟨x.X,false⟩:bP) es).2.2).toNat:Int)=x.Sum)
def Bn(l:List aI)(es:oh):List (aI × Bool):=(dL l).map λx=>(x,Wn es x)
def auh{es:oh}{k:Nat}(h:(dL l)[k]? = some x):((dL l).take k).map (fun(x:aI)=>(x,Wn es x))++[(x,Wn es x)] <+: Bn l es:=by
 refine⟨((dL l).drop (k+1)).map (fun(x:aI)=>(x,Wn es x)),?_⟩;unfold Bn
 conv=>rhs; rw [<- Gp (k+1) (dL l)]
 rw [sU,eO h,sU]; rfl
theorem EP(l:V aI):(dL l).length<=l.length:=lG (mW _ _) (xL l)
def Wp:kW prog 84:=ay
def SI:bU prog 140 2 2:=ay
abbrev amC:=List.toArray [true,true,true,true,true,true,true,true,true,true,true,true,true,true,true,true]
def aco{gp:Nat}{es:V sK}(hn:l.length<=100000):Iter prog 163 [fK gp] (fun(x:aI × Bool)=>[.agg #[O x.1.X,O x.1.E,gP x.1.Sum,.bool x.1.fZ,.bool x.1.Bad],.bool x.2]) (Bn l es) b S [dJ gp 84 [fK oz],dJ oz 152 [O bB,.slice A l.length c,.map (some gm)],dI bg A c l,rV yw xF gm es,fH fP 5 (es.map Prod.snd)]:=by
 intro lr Jf Jx w F0 H0 h0 hY;refine WP.ajI func163 Y ntmps163 Y ?_;have K0:=vg (F:=F0) H0;have hrl:=EP l;refine rg<|ev (dU Wp Y (K0.x U) Y)<|pq 1 Y<|ev (fq (q:=⟨oz,1,none⟩) yQ Y Y)<|ev (dU aD7 Y (K0.x s1) Y)<|KY Y Y Y aD9 (ahP _ (K0.s s2).any aj) Y ?_
 rintro _ w1 ⟨jT,jU,rfl,h1⟩;have K1:=K0.f1 h1;have La:=(K1.o U).bI;refine pA 3 Y<|dF<|qh (λmJ lJ wJ=>∃(k:Nat)(F:V kF),lJ=[(0,.func (.yield lr) #[] #[]),(1,fK gp),(9,.slice jT ((dL l).length) jU),(10,O (((dL l).length:Nat):Int)),(11,O ((k:Nat):Int))]/\mJ=(dL l).length - k/\k<=(dL l).length/\(Jf (((dL l).take k).map fun(x:aI)=>(x,Wn es x)) F)/\Hp b S wJ (aR bg 140 jT jU (dL l)::dJ gp 84 [fK oz]::dJ oz 152 [O bB,.slice A l.length c,.map (some gm)]::dI bg A c l::rV yw xF gm es::fH fP 5 (es.map Prod.snd)::F)) ⟨0,F0,Y,Y,fI _,by simpa using h0,K1⟩ rfl ?_
 rintro _ _ w2 ⟨k,F,rfl,rfl,hk,hJt,K2⟩;refine rg<|ev (iH Y Y)<|dn<|r9 Y (λoD=>?_) (λoD=>?_)
 ·refine yC (fV ?_);refine aZ<|dF<|rg ?_
  obtain⟨x1,bT⟩:=bH (xs:=dL l) (i:=k) aj;refine ev (d9 (i:=k) pE pR Y Y Y (aP bT) ((K2.o U).some_ bT))<|ev (iR pU Y Y ((K2.o U).fF bT))<|al yP Y K2 λg1 w3 K3=>stw Y Y Y pR K3 U Y Y λw4 K4=>dn<|WP.dr ak ?_
  have H1:=K4.grow (oW w4).drew;refine WI.block (S:=λwK=>Hp b S wK (dJ g1 140 [O x1.X,O x1.E,gP x1.Sum,.bool x1.fZ,.bool x1.Bad]::aR bg 140 jT jU (dL l)::dJ gp 84 [fK oz]::dJ oz 152 [O bB,.slice A l.length c,.map (some gm)]::dI bg A c l::rV yw xF gm es::fH fP 5 (es.map Prod.snd)::F)) [(0,15,.func (.yield lr) #[] #[]),(1,16,.agg #[O x1.X,O x1.E,gP x1.Sum,.bool x1.fZ,.bool x1.Bad]),(2,17,fK oz),(6,21,fK g1),(11,26,.pointer (some ⟨g1,2,none⟩)),(3,18,fK oz),(7,22,O x1.X),(12,27,gP x1.Sum),(4,19,.pointer (some ⟨oz,2,none⟩)),(8,23,.agg #[O x1.X,.bool false]),(5,20,.map (some gm)),(9,24,.slice ((fU (⟨x1.X,false⟩:bP) es).1) (((fU (⟨x1.X,false⟩:bP) es).2.2).length) ((fU (⟨x1.X,false⟩:bP) es).2.1)),(10,25,gP ((gI ((fU (⟨x1.X,false⟩:bP) es).2.2)).toNat:Int)),(13,28,.bool (!decide (((gI ((fU (⟨x1.X,false⟩:bP) es).2.2)).toNat:Int)=x1.Sum)))] 2 (List.toArray [true,true,true,true,true,true,true,true,true,true,true,true,true,true,false,false]) (aEc ak) Y Y Y ?_ H1 ?_
  ·simp only [rP,lH,wU,wV,uw]
   refine⟨?_,?_,?_,?_,?_,?_,?_,?_,?_,?_,?_,?_,?_,?_⟩
   ·exact⟨_,Y,Y,Y,Y,x8 (λ_ hK=>(dP Y))⟩
   ·exact⟨_,Y,Y,Y,Y,x8 (λ_ hK=>(fA pU Y Y (hK.x U)))⟩
   ·exact⟨_,Y,Y,Y,Y,x8 (λ_ hK=>(dU Wp Y (hK.x s2) Y))⟩
   ·exact⟨_,Y,Y,Y,Y,x8 (λ_ hK=>(fq mI Y Y))⟩
   ·exact⟨_,Y,Y,Y,Y,x8 (λ_ hK=>(fq SI Y Y))⟩
   ·exact⟨_,Y,Y,Y,Y,x8 (λ_ hK=>(nH Y))⟩
   ·exact⟨_,Y,Y,Y,Y,x8 (λ_ hK=>(dU jF Y (hK.x U) Y))⟩
   ·exact⟨_,Y,Y,Y,Y,x8 (λ_ hK=>(dU YN Y (hK.x U) Y))⟩
   ·exact⟨_,Y,Y,Y,Y,x8 (λ_ hK=>(fq yR Y Y))⟩
   ·exact⟨_,Y,Y,Y,Y,x8 (λ_ hK=>(iT Y (by apply qx)))⟩
   ·exact⟨_,Y,Y,Y,Y,x8 (λ_ hK=>(dU aD8 Y (hK.x s3) Y))⟩
   ·exact⟨_,Y,Y,Y,Y,x8 (λ_ hK=>(Ev.ahS hK s5 vW FM Oy Y Y))⟩
   ·exact⟨_,Y,Y,Y,Y,Qi.call Y Y Y auc (λ_ hK=>(Qv _ (hK.atZ s6 (⟨x1.X,false⟩:bP))).mono (by rintro _ _ ⟨rfl,gH⟩; exact⟨rfl,hK.grow gH.ext⟩))⟩
   ·exact⟨_,Y,Y,Y,Y,x8 (λ_ hK=>(Gq Y Y))⟩
  intro w5 K5;refine WI.one 14 ak Y ?_;have hy1:=hY ((((dL l).take k).map fun(x:aI)=>(x,Wn es x))) (x1,Wn es x1) _ _ [dJ g1 140 [O x1.X,O x1.E,gP x1.Sum,.bool x1.fZ,.bool x1.Bad],aR bg 140 jT jU (dL l)] hJt (auh bT) (vg ((K5.mV 0 2).mV 2 5));refine WL.yield trivial Y Y hy1 (by rintro e w' (⟨rfl,_⟩ | ⟨rfl,_⟩) <;> exact⟨_,rfl⟩) rfl rfl rfl ?_;rintro v w6 (⟨hv,F1,hJ1,K6⟩ | ⟨hv,F1,hJ1,K6⟩)
  ·cases hv
   have K6c:=vg (F:=F1) K6;refine WI.nx<|WI.block (S:=λwK=>Hp b S wK (dJ gp 84 [fK oz]::dJ oz 152 [O bB,.slice A l.length c,.map (some gm)]::dI bg A c l::rV yw xF gm es::fH fP 5 (es.map Prod.snd)::dJ g1 140 [O x1.X,O x1.E,gP x1.Sum,.bool x1.fZ,.bool x1.Bad]::aR bg 140 jT jU (dL l)::F1)) [(15,30,.bool false)] 0 amC ak Y Y Y ?_ K6c ?_
   ·simp only [rP,lH,wU,wV,uw]
    exact⟨_,Y,Y,Y,Y,x8 (λ_ hK=>(wC (b:=true) Y))⟩
   intro w7 K7;refine WI.dn ak<|bS Y (λ_h=>absurd _h au) (λ_h=>?_)
   refine yC (iF (fV ?_));refine jN<|ev (eG Y Y)<|mv Y<|jO<|dX ⟨(k+1),F1,Y,Y,aj,by rw [eO bT,sU]; assumption,(((K7.rm s5).mV 0 5).sel s5)⟩ rfl aj
  ·cases hv
   have K6c:=vg (F:=F1) K6;refine WI.nx<|WI.block (S:=λwK=>Hp b S wK (dJ gp 84 [fK oz]::dJ oz 152 [O bB,.slice A l.length c,.map (some gm)]::dI bg A c l::rV yw xF gm es::fH fP 5 (es.map Prod.snd)::dJ g1 140 [O x1.X,O x1.E,gP x1.Sum,.bool x1.fZ,.bool x1.Bad]::aR bg 140 jT jU (dL l)::F1)) [(15,30,.bool true)] 0 amC ak Y Y Y ?_ K6c ?_
   ·simp only [rP,lH,wU,wV,uw]
    exact⟨_,Y,Y,Y,Y,x8 (λ_ hK=>(wC (b:=false) Y))⟩
   intro w8 K8;refine WI.dn ak<|bS Y (λ_h=>?_) (λ_h=>absurd _h au)
   exact jE (jM (gG (gG (jM (l7.an7 Y ⟨⟨_,Y⟩,.inr ⟨_,_,hJ1,(vg (F:=[dJ gp 84 [fK oz],dJ oz 152 [O bB,.slice A l.length c,.map (some gm)],dI bg A c l,rV yw xF gm es,fH fP 5 (es.map Prod.snd)]) (K8.cU 5 2))⟩⟩)))))
 exact tu (mG (mG (tZ (l7.aq1 (l7.an7 Y ⟨⟨_,Y⟩,.inl ⟨_,by rw [gY aj] at hJt; exact hJt,(vg (F:=[dJ gp 84 [fK oz],dJ oz 152 [O bB,.slice A l.length c,.map (some gm)],dI bg A c l,rV yw xF gm es,fH fP 5 (es.map Prod.snd)]) (K2.rm U))⟩⟩)))))
def abn(L:List kF):kF where
  W:=λg=>∃ r∈L,r.W g
  ok:=λS w=>(∀ r∈L,r.ok S w)/\L.Pairwise fun(r s:kF)=>∀(g:Nat),r.W g->¬ s.W g
  sub:=λhs h=>⟨λr hr=>r.sub hs (h.1 r hr),h.2⟩
  keep:=λhm h=>⟨λr hr=>r.keep (λg hg=>hm g (hg.imp (λh=>⟨r,hr,h⟩) id)) (h.1 r hr),h.2⟩
section
variable {b w:World}{S:Nat->Prop}{rs rest L L':List kF}
def Hp.allOut(H:Hp b S w (abn L::rs)):Hp b S w (L++rs) where
 ext:=H.ext
 ok r hr:=by
  have hS:∀ g,Rd b S (abn L::rs) w g->Rd b S (L++rs) w g:=by
   rintro g (h | ⟨h1,h2,h3⟩)
   ·exact .inl h
   ·refine .inr ⟨h1,h2,λr hr hw=>?_⟩
    rcases j5.1 hr with h | h
    ·exact h3 (abn L) av ⟨r,h,hw⟩
    ·exact h3 r (by simp [h]) hw
  rcases j5.1 hr with h | h
  ·exact r.sub hS ((H.ok (abn L) av).1 r h)
  ·exact r.sub hS (H.ok r (by simp [h]))
 lo r hr g hg:=by
  rcases j5.1 hr with h | h
  ·exact H.lo (abn L) av g ⟨r,h,hg⟩
  ·exact H.lo r (by simp [h]) g hg
 dis:=by
  have hd:=nT.1 H.dis;exact zO.2 ⟨(H.ok (abn L) av).2,hd.2,λa ha c hc g hg=>hd.1 c hc g ⟨a,ha,hg⟩⟩
def Hp.allIn(H:Hp b S w (L++rs)):Hp b S w (abn L::rs) where
 ext:=H.ext
 ok r hr:=by
  have hS:∀ g,Rd b S (L++rs) w g->Rd b S (abn L::rs) w g:=by
   rintro g (h | ⟨h1,h2,h3⟩)
   ·exact .inl h
   ·refine .inr ⟨h1,h2,λr hr hw=>?_⟩
    rcases gW.1 hr with h | h
    ·subst h; obtain⟨q,hq,hw⟩:=hw; exact h3 q (j5.2 (.inl hq)) hw
    ·exact h3 r (j5.2 (.inr h)) hw
  rcases gW.1 hr with h | h
  ·subst h
   exact⟨λq hq=>q.sub hS (H.ok q (j5.2 (.inl hq))),(zO.1 H.dis).1⟩
  ·exact r.sub hS (H.ok r (j5.2 (.inr h)))
 lo r hr g hg:=by
  rcases gW.1 hr with h | h
  ·subst h; obtain⟨q,hq,hw⟩:=hg; exact H.lo q (j5.2 (.inl hq)) g hw
  ·exact H.lo r (j5.2 (.inr h)) g hg
 dis:=by
  have hd:=zO.1 H.dis;exact nT.2 ⟨λc hc g ⟨a,ha,hg⟩=>hd.2.2 a ha c hc g hg,hd.2.1⟩
def FQ:=@Hp.allIn
end
section
variable {κ ν:Type}[DecidableEq κ]
def SK(f:ν->ν')(k:κ)(es:V (κ × ν)):cZ k (es.map λp=>(p.1,f p.2))=(cZ k es).map f:=by
 unfold cZ;rw [List.find?_map];show Option.map _ (Option.map _ (es.find? λp=>decide (p.1=k)))=_
 cases es.find? (λp=>decide (p.1=k)) <;> rfl
def SL(f:ν->ν')(k:κ)(v:ν)(es:V (κ × ν)):(fO k v es).map (λp=>(p.1,f p.2))=fO k (f v) (es.map λp=>(p.1,f p.2)):=by
 unfold fO;rw [SK,Option.isSome_map]
 split
 ·rw [Qs,Qs]
  refine ZO λp _=>?_
  simp only [Function.comp]
  split <;> rfl
 ·rw [sU]; rfl
def aui(f:ν->ν')(k:κ)(es:V (κ × ν)):(ou k es).map (λp=>(p.1,f p.2))=ou k (es.map λp=>(p.1,f p.2)):=by
 unfold ou;rw [List.filter_map]; rfl
def apr{k:κ}{v:ν}{es:V (κ × ν)}(hn:(es.map Prod.fst).Nodup)(h:cZ k es=some v):es.Perm ((k,v)::ou k es):=by
 obtain⟨j,hj⟩:=zW h;rw [<- erase_filter hn hj];obtain⟨hl,he⟩:=rG.1 hj;rw [Uj];have h1:es=es.take j++((k,v)::es.drop (j+1)):=by rw [<- he,<- CF hl,Gp]
 conv=>lhs; rw [h1]
 exact HY
def ahX{k:κ}{v v':ν}{es:V (κ × ν)}(h:cZ k es=some v):ou k (fO k v' es)=ou k es:=by
 unfold fO ou;rw [h,aS (show(some v).isSome=true from rfl),List.filter_map]
 have:(λp:κ × ν=>!decide (p.1=k)) ∘ (λp=>if p.1=k then(k,v') else p)=λp=>!decide (p.1=k):=by
  funext p; simp only [Function.comp]; split
  ·rename_i hp; simp [hp]
  ·rfl
 rw [this];refine(ZO λp hp=>?_).trans (List.map_id _);have:=(jJ.1 hp).2;rw [aQ (by simpa using this)]; rfl
def ahY{k:κ}{v':ν}{es:V (κ × ν)}(hn:(es.map Prod.fst).Nodup):cZ k (fO k v' es)=some v':=by
 have h2:=Nu (k:=k) (v:=v') hn
 cases hg:cZ k es with
 | none=>
  have e:fO k v' es=es++[(k,v')]:=by unfold fO; rw [hg]; rfl
  rw [e] at h2 ⊢;exact GV h2 (j:=es.length) av
 | some v=>
  obtain⟨j,hj⟩:=zW hg;rw [I7 hn hj] at h2 ⊢;exact GV h2 (u7 (aP hj))
def Ky{k k2:κ}{v':ν}(h:k2≠k):∀(es:V (κ × ν)),(es.map λp=>if p.1=k then(k,v') else p).find? (λp=>decide (p.1=k2))=es.find? λp=>decide (p.1=k2)
 | []=>rfl
 | p::es=>by
  rw [mg]
  by_cases hp:p.1=k
  ·rw [aS hp,Az (by simpa using Ne.symm h),Az (by rw [hp]; simpa using Ne.symm h)]
   exact Ky h es
  ·rw [aQ hp]
   by_cases hq:p.1=k2
   ·rw [UL (by simpa using hq),UL (by simpa using hq)]
   ·rw [Az (by simpa using hq),Az (by simpa using hq)]
    exact Ky h es
theorem GX{k k2:κ}{v':ν}{es:V (κ × ν)}(h:k2≠k):cZ k2 (fO k v' es)=cZ k2 es:=by
 unfold fO
 split
 ·unfold cZ; rw [Ky h]
 ·unfold cZ
  rw [MS,Az (by simpa using Ne.symm h),List.find?_nil,Option.or_none]
end
def amD(ol:List Oper):Bool:=ol.all λo=>match o.op with | .defer _=>false | _=>true
section
variable {P:Program}{n:Cx}{l:List (Nat × Value)}{b w:World}{S:Nat->Prop}{rs rk:List kF}{Q:Exit->Act->World->Prop}{M:Array Oper}
def amE(h:LetsOut (Only K0)):False:=by
 obtain⟨_,_,hq⟩:=h; exact hq.elim
def ay5{o:Oper}{a:Act}{K:Act->World->Prop}(hnd:∀ c,o.op≠.defer c)(h:o.wp P a w K (Only K0)):o.wpIn n.fence 0 P a w K Q:=by
 refine⟨λ_ _=>trivial,?_⟩;rw [Oper.semAt_eq _ _ _ hnd];unfold Oper.wp at h
 generalize (execOp a.eval o).run P w=r at h ⊢
 cases r with
 | ok x w'=>
  cases x with
  | value v=>exact h
  | skip=>exact h
  | defer d=>exact h
  | enter f args=>
   refine⟨λhd=>(by cases hd),Yd _ (Gn h ?_)⟩;intro e w'' he
   cases e with
   | returned v=>exact he
   | panicked c=>exact he.elim
   | outgrown=>exact(amE he).elim
  | row row args=>exact⟨λhd=>(by cases hd),λc cs _=>let ⟨v,w',r,s⟩:=h c cs; ⟨v,w',r,stepsIn_wide.2 s⟩⟩
  | _=>exact h.elim
 | halt x w'=>
  cases x <;> exact h.elim
def SN(hnd:∀(i:Nat)(o:Oper),M[i]? = some o->∀ c,o.op≠.defer c)(hK:∀ a w,K0 a w->Q .normal a w):∀(fuel:Nat)(aW:Array Bool)(a:Act)(w:World),wpAny P .any M (Only K0) fuel aW a w->wpAnyIn n.fence 0 P .any M Q fuel aW a w
 | 0,_,_,_,h=>⟨h.1,hK _ _ h.2⟩
 | f+1,aW,a,w,h=>by
  refine⟨λh0=>hK _ _ (h.1 h0),λi hi=>?_⟩;have h1:=h.2 i hi;unfold wpOp at h1;unfold wpOpIn
  cases ho:M[i]? with
  | none=>rw [ho] at h1; exact SN hnd hK f _ _ _ h1
  | some o=>
   rw [ho] at h1
   simp only at h1 ⊢
   split
   ·rename_i hw
    rw [aS hw] at h1
    rcases h1 with h1 | ⟨_,h1⟩
    ·exact Oper.wpIn_mono (λa w h=>SN hnd hK f _ _ _ h) (ay5 (hnd i o ho) h1)
    ·exact(amE h1).elim
   ·rename_i hw
    rw [aQ hw] at h1;exact⟨λ_ _=>trivial,SN hnd hK f _ _ _ h1⟩
def akR{ol:V Oper}(h:amD ol=true):∀(i:Nat)(o:Oper),ol.toArray[i]? = some o->∀ c,o.op≠.defer c:=λi o ho c e=>by
 have h1:=mD.1 h o (zy (by simpa using ho));rw [e] at h1; cases h1
def HeR{ol:V Oper}{id:Nat}{y:Code}(H:Hp b S w rs)(_:∀ w',Hp b S w' rs->Hp b S w' rk)(aX9:V (Nat × Value)->V kF->V (Nat × Value)->World->Prop)
  (h:Region.noSelect ol.toArray=true->Hp b S w.drew rs->WH P n ol.toArray (JK n (aX9 l rk)) (λw'=>Hp b S w' rk) ol.length (List.replicate ol.length false).toArray l w.drew) (k:∀ l' w',aX9 l rk l' w'->WP P n y l' w' Q)
  (hm:P.follows .mixedOrders=true:=by kernel_rfl) (hs:Region.noSelect ol.toArray=true:=by kernel_rfl) (hnd:amD ol=true:=by kernel_rfl):WP P n (.seq (.region id ol.toArray true) y) l w Q:=λa ha=>by
 refine VJ (wpIn_region_any (Q:=Exit.then (G7 P n y Q) Q) hm ?_);have h1:=SN (n:=n) (Q:=Exit.then (G7 P n y Q) Q) (akR hnd) (λa' w' ⟨l',h1,h2⟩=>k l' w' h2 a' h1) _ _ _ _ (wpAny_of_held _ _ _ _ (h hs (H.grow (oW w).drew) a ha))
 simpa using h1
def Hp.tin{X1 X2:V kF}(H:Hp b S w ((L++F)++(X1++X2))):Hp b S w (L++(X1++(X2++F))):=H.perm (by
 rw [o9,<- o9 X1]
 exact Ar.append_left L)
def Hp.aIg{X1 X2:V kF}(H:Hp b S w (L++(X1++(X2++F)))):Hp b S w ((L++F)++(X1++X2)):=H.perm (by
 rw [o9,<- o9 X1]
 exact Ar.append_left L)
def Qz:=@Hp.aIg
def Hp.aBp{aYa:V kF}(H:Hp b S w (L++(aYa++F))):Hp b S w ((L++F)++aYa):=H.perm (by
 rw [o9]
 exact Ar.append_left L)
end
end
end Go.Proofs.YthcmboepffiliaaGreat
