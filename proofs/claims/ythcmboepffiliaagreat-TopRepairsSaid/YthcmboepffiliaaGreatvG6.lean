/- Lemmas. -/
import Derived.Test.YthcmboepffiliaaGreatvG5
set_option maxRecDepth 4000
set_option linter.all false
namespace Go.Proofs.YthcmboepffiliaaGreat
open Go.RowKit Go.Proofs.Tryz
def Qe:=@Nat.not_lt_zero
def sV:=@underlying171
def adI:=@List.getElem?_set
def J2:=@List.Perm.refl
def kL:=@List.mem_cons_of_mem
def HY:=@List.perm_middle
def xq:=@underlying62
def HZ:=@List.take_length
def FB:=@Int.le_refl
def Zc:=@decide_eq_false
section
variable {i g c:Nat}{S0 S:Nat->Prop}{b w:World}{F:List kF}{A:ah}{all:List aT}{D:List Int}{bQ:Int}{aYc:List aH}{x:aH}
structure dW where
  X:Int
  Have:Int
  Live:Int
  deriving DecidableEq
def dW.enc(x:dW):List Value:=[.int .i64 x.X,.int .i64 x.Have,.int .i64 x.Live]
def dW.kP(x:dW):∀ u∈x.enc,u.oneCell'=true:=by
 intro u hu
 simp only [dW.enc,gW,lH,qM] at hu
 rcases hu with rfl | rfl | rfl <;> rfl
def p9:Ty dW:=Ty.flat 3 dW.enc au (λ_=>rfl) dW.kP
instance:Flat p9:=⟨λh=>h⟩
def AX(a b:dW):Bool:=decide (VZ [bL a.Live b.Live,bL a.Have b.Have,bL a.X b.X]<0)
def upG:Nat->List dW->Nat->List dW
  | 0,l,_=>l
  | f+1,l,i=>match l[i]?,l[(i - 1) / 2]? with
    | some x,some y=>if(decide (0<i)&&AX x y)=true then upG f ((l.set i y).set ((i - 1) / 2) x) ((i - 1) / 2) else l
    | _,_=>l
def upL(l:List dW):List dW:=upG l.length l (l.length - 1)
def amd:∀(f:Nat)(l:V dW)(i:Nat),(upG f l i).length=l.length
 | 0,_,_=>rfl
 | f+1,l,i=>by
  unfold upG
  split
  ·split
   ·rw [amd f,iC,iC]
   ·rfl
  ·rfl
theorem agM:∀(f f':Nat)(l:V dW)(i:Nat),i<f->i<f'->upG f l i=upG f' l i
 | 0,_,_,_,h,_=>absurd h (Qe _)
 | _+1,0,_,_,_,h=>absurd h (Qe _)
 | f+1,f'+1,l,i,h1,h2=>by
  unfold upG
  split
  ·split
   ·rename_i hc
    simp only [bK,bN] at hc
    exact agM f f' _ _ aj aj
   ·rfl
  ·rfl
def aC2{l:V dW}{x y:dW}(hx:l[i]? = some x)(hy:l[(i - 1) / 2]? = some y)(hi:0<i)(h:AX x y=true):upG (i+1) l i=upG ((i - 1) / 2+1) ((l.set i y).set ((i - 1) / 2) x) ((i - 1) / 2):=by
 conv=>lhs; unfold upG
 grind [agM]
def asC{l:V dW}(h:∀ x y,l[i]? = some x->l[(i - 1) / 2]? = some y->(decide (0<i)&&AX x y)=false):upG (i+1) l i=l:=by
 grind [upG]
def Zd:bU prog 251 2 2:=λ_ _=>by rfl
def RG:bU prog 251 1 1:=λ_ _=>by rfl
def RH:bU prog 251 0 0:=λ_ _=>by rfl
def agN(a0:Int)(a1:Int)(a2:Int):∀ w,(Instr.buildSlice 46 3 (List.toArray [(0,O a0),(1,O a1),(2,O a2)])).run prog w=.ok (.slice (some ⟨w.heap.size,0,none⟩) 3 3) (w.alloc (.cells (List.toArray [O a0,O a1,O a2]) 3)):=ay
def qQ:Size prog 251 3:=λ_=>by rfl
def qw:WC prog 251 3:=⟨av,qQ⟩
def mH:bU prog 333 0 0:=λ_ _=>by rfl
def Ze:kW prog 171:=λ_=>by rfl
def agO:bU prog 333 1 1:=λ_ _=>by rfl
def asD:kW prog 331:=λ_=>by rfl
def asE:bC prog 244:=λ_ _=>by rfl
abbrev adK(gX iP:dW):=([bL gX.Live iP.Live,bL gX.Have iP.Have,bL gX.X iP.X]:List Int)
def aoR(w:World)(a:dW)(b:dW):bM prog 319 #[.agg #[O a.X,O a.Have,O a.Live],.agg #[O b.X,O b.Have,O b.Live]] w λv w'=>v=O (VZ [bL a.Live b.Live,bL a.Have b.Have,bL a.X b.X])/\Hp w S0 w' []:=by
 refine lg S0 func319 ntmps319 Y λH0=>rg<|bx Y Y H0 λg1 w1 K1=>bx Y Y K1 λg2 w2 K2=>fE Y<|He K2 (λ_ K=>K) (λl0 rk lJ wJ=>lJ=(4,O (VZ (adK a b)))::l0/\Hp w S0 wJ rk) (λhns H1=>?_) ?_
 ·refine mK 0 1 g1 2 Zd s1 Y H1<|mK 2 3 g2 2 Zd U Y H1<|mK 5 6 g1 1 RG s1 Y H1<|mK 7 8 g2 1 RG U Y H1<|mK 10 11 g1 0 RH s1 Y H1<|mK 12 13 g2 0 RH U Y H1<|O1 4 Y<|mX H1 Y (nV (S0:=Any) _ a.Live b.Live) λw3 K3=>aO K3<|O1 9 Y<|mX K3 Y (nV (S0:=Any) _ a.Have b.Have) λw4 K4=>aO K4<|O1 14 Y<|mX K4 Y (nV (S0:=Any) _ a.X b.X) λw5 K5=>aO K5<|O1 15 Y<|bsn (τ:=dN) (xs:=(adK a b)) (vs:=[(0,O (bL a.Live b.Live)),(1,O (bL a.Have b.Have)),(2,O (bL a.X b.X))]) (css:=[[O (bL a.Live b.Live)],[O (bL a.Have b.Have)],[O (bL a.X b.X)]]) Y (by intro _; apply agN) rfl rfl K5 (λ_ e=>⟨rfl,rfl,rfl,trivial⟩) λg3 w6 K6=>?_
  have k1:=(K6.rm U);refine aO k1<|O1 16 Y<|mX K6 Y (agC _ (K6.o U)) λw7 K7=>?_
  have k2:=(K7.rm U);refine aO k2<|xC 17 Y Y k2<|Dn ⟨Y,(K7.rm U)⟩ Y
 rintro _ w8 ⟨rfl,K8⟩;refine iU Y ?_;have gy:(VZ (adK a b):Int)=(VZ [bL a.Live b.Live,bL a.Have b.Have,bL a.X b.X]):=by rfl
 exact⟨by rw [gy] <;> rfl,K8.z⟩
def Zf(w:World)(a:dW)(b:dW):bM prog 244 #[.agg #[O a.X,O a.Have,O a.Live],.agg #[O b.X,O b.Have,O b.Live]] w λv w'=>v=.bool (AX a b)/\Hp w S0 w' []:=by
 refine lg S0 func244 ntmps244 Y λH0=>rg<|bx Y Y H0 λg1 w1 K1=>bx Y Y K1 λg2 w2 K2=>fE Y<|rg<|ev (fA qw Y Y (K2.x s1))<|ev (fA qw Y Y (K2.x U))<|mX K2 Y (aoR (S0:=Any) _ a b) λw3 K3=>pA 3 Y<|iU Y ?_
 exact⟨by skip <;> rfl,K3.z⟩
abbrev Xg(gX:Nat)(iP:ah)(xE:List dW)(AU:Nat)(Gg:List kF):=dJ gX 335 [.slice iP xE.length AU,.func (.func 244) #[] #[]]::aR p9 251 iP AU xE::Gg
def aC3{l:V dW}(H0:Hp b S w (Xg g A l c F))(hn:l.length<=1000000)(h1:1<=l.length):bM prog 245 #[fK g] w λv w'=>v=.tuple #[]/\Hp b S w' (dJ g 335 [.slice A (upL l).length c,.func (.func 244) #[] #[]]::aR p9 251 A c (upL l)::F):=by
 refine qN func245 ntmps245 Y<|WP.jumps (lb:=0) (λmJ lJ wJ=>∃(i:Nat)(ys:V dW),lJ=[(0,fK g),(2,O ((i:Nat):Int))]/\mJ=i+1/\(ys.length=l.length)/\(i<l.length)/\(upG (i+1) ys i=upG l.length l (l.length - 1))/\Hp b S wJ (aR p9 251 A c ys::dJ g 335 [.slice A ys.length c,.func (.func 244) #[] #[]]::F)) Y ?_ ?_
 ·rintro _ _ w1 ⟨i,ys,rfl,rfl,hyl,hil,hup,K1⟩;have aRc:=half i;refine gD Y<|ev (VO Y Y)<|ev (Ev.quo Y Y au (xR aj aj))<|fE Y<|mP (t:=3) (u:=O ((((i:Nat):Int) - 1).tdiv 2)) Y (aY (Value.int .i64) (half i)) ?_
  obtain⟨x1,bT⟩:=bH (xs:=ys) (i:=i) aj;obtain⟨x2,nE⟩:=bH (xs:=ys) (i:=(i - 1) / 2) aj;refine pW ak ak<|bf (dP Y) Y<|bf (Ev.gtr Y Y) Y<|bf (dP Y) Y<|rO 20 35 ((decide (0<((i:Nat):Int)))&&(AX x1 x2)) ?_ ?_
  ·cases WJ:decide (0<((i:Nat):Int)) with
   | true=>
    have ame:=iY WJ;refine dM Y (dP Y) Y<|dM Y (nH Y) Y<|dM Y (fq (q:=⟨g,1,none⟩) agO Y Y) Y<|dM Y (dU asD Y (K1.x s1) Y) Y<|dM Y (dP Y) Y<|dM Y (nH Y) Y<|dM Y (fq mH Y Y) Y<|dM Y (dU Ze Y (K1.x s1) Y) Y<|dM Y (dP Y) Y<|dM Y (d9 sV qQ Y Y Y (aP bT) ((K1.o U).some_ bT)) Y<|dM Y (iR qw Y Y ((K1.o U).fF bT)) Y<|dM Y (dP Y) Y<|dM Y (nH Y) Y<|dM Y (fq mH Y Y) Y<|dM Y (dU Ze Y (K1.x s1) Y) Y<|dM Y (dP Y) Y<|dM Y (d9 sV qQ Y Y Y (aP nE) ((K1.o U).some_ nE)) Y<|dM Y (iR qw Y Y ((K1.o U).fF nE)) Y<|QS Y (v:=.bool (AX x1 x2)) Y Y Y asE (λwq eq=>(Zf (S0:=Any) wq x1 x2).mono (by rintro _ _ ⟨rfl,gH⟩; exact⟨rfl,gH.ext⟩)) rfl<|bf (oP rfl rfl) rfl<|jR rfl
   | false=>
    refine dw Y Y Y<|dw Y Y Y<|dw Y Y Y<|dw Y Y Y<|dw Y Y Y<|dw Y Y Y<|dw Y Y Y<|dw Y Y Y<|dw Y Y Y<|dw Y Y Y<|dw Y Y Y<|dw Y Y Y<|dw Y Y Y<|dw Y Y Y<|dw Y Y Y<|dw Y Y Y<|dw Y Y Y<|dw Y Y Y<|dw Y Y Y<|bf (oU Y Y) Y<|jR Y
  refine pX λw2 e2=>?_;have K2:=K1.grow e2;refine bS Y (λIa=>?_) (λIa=>?_)
  ·have hsA:=(K2.o U).some_ bT;have hp:=(bK _ _).mp Ia;have hp1:=iY hp.1;have hgo:=aC2 bT nE aj hp.2;refine He K2 (λ_ K=>(K.rm U)) (λl0 rk lJ wJ=>lJ=l0/\Hp b S wJ (aR p9 251 A c ((ys.set i x2).set ((i - 1) / 2) x1)::rk)) (λhns H1=>?_) ?_
   ·have k1:=(H1.rm U);refine qp 0 g 0 mH Y k1<|xS 3 U Y k1<|lF 4 Y Y k1<|qp 5 g 0 mH Y k1<|xS 8 U Y k1<|lF 9 Y Y k1<|qp 10 g 0 mH Y k1<|xS 13 U Y k1<|lF 14 Y Y k1<|kI 15 Y (λ_ _=>d9 (i:=(i - 1) / 2) sV qQ Y Y Y (aP nE) hsA) k1<|qp 17 g 0 mH Y k1<|xS 20 U Y k1<|lF 21 Y Y k1<|kI 22 Y (λ_ _=>d9 (i:=i) sV qQ Y Y Y (aP bT) hsA) k1<|Jn H1 (λl0 rk lJ wJ=>lJ=(52,.agg #[O x2.X,O x2.Have,O x2.Live])::(59,.agg #[O x1.X,O x1.Have,O x1.Live])::l0/\Hp b S wJ rk) 4 16777215 ?_ λhS1=>?_
    ·rintro _ w5 ⟨rfl,K5⟩;have k4:=(K5.rm U);refine kI 24 Y (λ_ _=>d9 (i:=i) sV qQ Y Y Y (aP bT) hsA) k4<|O1 25 Y<|se (i:=i) (f:=0) (x:=x1) (x':=x2) (ds:=[O x2.X,O x2.Have,O x2.Live]) K5 U Y Y Y bT Y qQ (nU Y) Y (by rintro _ _ _ ⟨⟩; rfl) λw6 K6=>?_
     have hl3:(ys.set i x2).length=ys.length:=iC ..;refine gZ (t:=39) (u:=.slice A ys.length c) (v:=.slice A ((ys.set i x2).length) c) Y (by rw [hl3])<|gZ (t:=44) (u:=.slice A ys.length c) (v:=.slice A ((ys.set i x2).length) c) rfl (by rw [hl3]) ?_
     have k5:=(K6.rm U);refine aO k5 ?_;obtain⟨x4,hx7⟩:=bH (xs:=(ys.set i x2)) (i:=(i - 1) / 2) aj;refine kI 26 Y (λ_ _=>d9 (i:=(i - 1) / 2) sV qQ Y Y Y (aP hx7) hsA) k5<|O1 27 Y<|se (i:=(i - 1) / 2) (f:=0) (x:=x4) (x':=x1) (ds:=[O x1.X,O x1.Have,O x1.Live]) K6 U Y Y Y hx7 Y qQ (nU Y) Y (by rintro _ _ _ ⟨⟩; rfl) λw7 K7=>?_
     have hl4:((ys.set i x2).set ((i - 1) / 2) x1).length=(ys.set i x2).length:=iC ..;refine gZ (t:=39) (u:=.slice A ((ys.set i x2).length) c) (v:=.slice A (((ys.set i x2).set ((i - 1) / 2) x1).length) c) Y (by rw [hl4])<|gZ (t:=44) (u:=.slice A ((ys.set i x2).length) c) (v:=.slice A (((ys.set i x2).set ((i - 1) / 2) x1).length) c) rfl (by rw [hl4]) ?_
     have k6:=(K7.rm U);refine aO k6<|Dn ⟨Y,K7⟩ Y
    refine O2 16 23 Y Y ?_ ?_
    ·refine ev (iR qw Y Y ((H1.o U).fF nE))<|aO k1<|O1 23 Y<|ev (iR qw Y Y ((H1.o U).fF bT))<|Kj hS1 k1 ⟨Y,H1⟩ Y
    ·refine ev (iR qw Y Y ((H1.o U).fF bT))<|aO k1<|O1 16 Y<|ev (iR qw Y Y ((H1.o U).fF nE))<|Kj hS1 k1 ⟨Y,H1⟩ Y
   rintro _ w8 ⟨rfl,K8⟩;refine gD Y<|fE Y<|WP.goto ?_
   have gy:(.slice A ys.length c:Value)=.slice A (((ys.set i x2).set ((i - 1) / 2) x1).length) c:=by rw [iC,iC]
   try rw [gy] at K8
   exact l7.jag ⟨((i - 1) / 2),((ys.set i x2).set ((i - 1) / 2) x1),Y,Y,by rw [iC,iC]; exact hyl,aj,by rw [<- hgo]; exact hup,K8⟩ rfl aj
  refine yC (l7.abD (o7 (uo Y ?_)));have hst:upG (i+1) ys i=ys:=asC (λx y e1 e2=>by rw [bT] at e1; cases e1; rw [nE] at e2; cases e2; rw [show decide (0<i)=decide ((0:Int)<(i:Int)) from decide_eq_decide.2 aj]; exact Ia);have hfi:ys=upL l:=by rw [<- hst,hup]; rfl
  exact⟨Y,by rw [<- hfi]; exact((K2.sel U).sel s1)⟩
 ·intro hp0;refine pC 3 Y<|jP g 0 mH H0 U Y<|pq 1 Y<|ev (Ev.axj (a:=l.length) (b:=1) Y Y Y aj aj)<|pA 5 Y<|WP.kp hp0 ⟨(l.length - 1),l,Y,Y,by rfl,aj,by rw [Nat.sub_add_cancel h1],((H0.sel U).sel s1)⟩ rfl
def WR(l:List dW)(a m:Nat):Bool:=match l[a]?,l[m]? with | some x,some y=>AX x y | _,_=>false
def jA(l:List dW)(i:Nat):Nat->Nat
  | 0=>i
  | k+1=>if WR l (2*i+1+k) (jA l i k)=true then 2*i+1+k else jA l i k
abbrev lsB(l:List dW)(i k:Nat):Bool:=WR l (2*i+1+k) (jA l i k)
def akl{l:V dW}{a m:Nat}{x y:dW}(hx:l[a]? = some x)(hy:l[m]? = some y):AX x y=WR l a m:=by grind [WR]
def akm{l:V dW}{a m:Nat}(h:¬ a<l.length):false=WR l a m:=by grind [WR]
theorem EN(l:V dW)(i:Nat):∀ k,jA l i k=i∨(2*i+1<=jA l i k/\jA l i k<l.length/\i<l.length)
 | 0=>.inl rfl
 | k+1=>by
  unfold jA
  split
  ·rename_i h
   right
   have h1:2*i+1+k<l.length:=by
    rcases G6 (2*i+1+k) l.length with h2 | h2
    ·exact h2
    ·rw [<- akm aj] at h; cases h
   omega
  ·exact EN l i k
def zU:Nat->List dW->Nat->List dW
  | 0,l,_=>l
  | f+1,l,i=>if jA l i 2=i then l else match l[i]?,l[jA l i 2]? with
    | some x,some y=>zU f ((l.set i y).set (jA l i 2) x) (jA l i 2)
    | _,_=>l
def RI(l:List dW):List dW:=zU (l.length+1) l 0
def UZ:∀(f:Nat)(l:V dW)(i:Nat),(zU f l i).length=l.length
 | 0,_,_=>rfl
 | f+1,l,i=>by
  unfold zU
  split
  ·rfl
  ·split
   ·rw [UZ f,iC,iC]
   ·rfl
theorem Zg:∀(f f':Nat)(l:V dW)(i:Nat),l.length - i<f->l.length - i<f'->zU f l i=zU f' l i
 | 0,_,_,_,h,_=>absurd h (Qe _)
 | _+1,0,_,_,_,h=>absurd h (Qe _)
 | f+1,f'+1,l,i,h1,h2=>by
  unfold zU
  split
  ·rfl
  ·rename_i hne
   have h3:=EN l i 2
   split
   ·exact Zg f f' _ _ (by rw [iC,iC]; omega) (by rw [iC,iC]; omega)
   ·rfl
def asF{l:V dW}{m:Nat}{x y:dW}(hm:jA l i 2=m)(hne:m≠i)(hx:l[i]? = some x)(hy:l[m]? = some y):zU (l.length - i+1) l i=zU (l.length - m+1) ((l.set i y).set m x) m:=by
 subst hm
 conv=>lhs; unfold zU
 rw [aQ hne,hx,hy]
 grind [EN,Zg,List.length_set]
def akn{l:V dW}(h:jA l i 2=i):zU (l.length - i+1) l i=l:=by grind [zU]
def adL(a0:Int)(a1:Int):prog.built 399 [(0,O a0),(1,O a1)]=some #[O a0,O a1]:=by rfl
def asG{l:V dW}(H0:Hp b S w (Xg g A l c F))(hn:l.length<=1000000):bM prog 246 #[fK g] w λv w'=>v=.tuple #[]/\Hp b S w' (dJ g 335 [.slice A (RI l).length c,.func (.func 244) #[] #[]]::aR p9 251 A c (RI l)::F):=by
 refine qN func246 ntmps246 Y<|WP.jumps (lb:=0) (λmJ lJ wJ=>∃(i:Nat)(ys:V dW),lJ=[(0,fK g),(2,O ((i:Nat):Int))]/\mJ=l.length - i+1/\(ys.length=l.length)/\(i<=l.length)/\(zU (ys.length - i+1) ys i=zU (l.length+1) l 0)/\Hp b S wJ (aR p9 251 A c ys::dJ g 335 [.slice A ys.length c,.func (.func 244) #[] #[]]::F)) Y ?_ ?_
 ·rintro _ _ w1 ⟨i,ys,rfl,rfl,hyl,hil,hdn,K1⟩;refine gD Y<|fE Y<|aZ<|gD Y<|ev (Ev.mul Y Y (xR aj aj))<|ev (eG Y Y)<|mv Y<|ev (Ev.mul Y Y (xR aj aj))<|ev (eG Y Y)<|ev (iT (vs:=[(0,O ((2*i+1:Nat):Int)),(1,O ((2*i+2:Nat):Int))]) (cs:=[O ((2*i+1:Nat):Int),O ((2*i+2:Nat):Int)]) Y (by apply adL))<|mv rfl<|dn<|dF ?_
  have gy:(((i:Nat):Int):Int)=((jA ys i 0:Nat):Int):=by rfl
  refine mP (t:=3) Y (aY (Value.int .i64) gy)<|Lp K1 (λl0 rk mJ lJ wJ=>∃ k,lJ=(3,O ((jA ys i k:Nat):Int))::(14,O ((k:Nat):Int))::l0/\mJ=2 - k/\k<=2/\Hp b S wJ rk) ⟨0,Y,Y,fI _,K1⟩ Y ?_
  rintro _ _ w2 ⟨k,rfl,rfl,hk,K2⟩;refine rg<|ev (iH Y Y)<|dn<|r9 Y (λzB=>?_) (λzB=>?_)
  ·refine jQ ?_;refine aZ<|dF<|rg<|ev (Ev.aM8 (v:=O ((2*i+1+k:Nat):Int)) (i:=k) underlying399 wX jF aj Y Y (by rcases(by omega:k=0∨k=1) with rfl | rfl <;> rfl))<|fE rfl ?_
   have hlt:=EN ys i k;refine pW ak ak<|bf (dP Y) Y<|bf (dP Y) Y<|bf (nH Y) Y<|bf (fq mH Y Y) Y<|bf (dU Ze Y (K2.x s1) Y) Y<|bf (jf sV Y) Y<|bf (iH Y Y) Y<|bf (dP Y) Y<|rO 20 44 (lsB ys i k) ?_ ?_
   ·cases ax0:decide (((2*i+1+k:Nat):Int)<((ys.length:Nat):Int)) with
    | true=>
     have aG9:=iY ax0;refine dM Y (dP Y) Y<|dM Y (nH Y) Y<|dM Y (fq agO Y Y) Y<|dM Y (dU asD Y (K2.x s1) Y) Y<|dM Y (dP Y) Y<|dM Y (nH Y) Y<|dM Y (fq mH Y Y) Y<|dM Y (dU Ze Y (K2.x s1) Y) Y<|dM Y (dP Y) Y ?_
     obtain⟨x1,bT⟩:=bH (xs:=ys) (i:=2*i+1+k) aj;refine dM Y (d9 (i:=2*i+1+k) sV qQ Y Y Y (aP bT) ((K2.o U).some_ bT)) Y<|dM Y (iR qw Y Y ((K2.o U).fF bT)) Y<|dM Y (dP Y) Y<|dM Y (nH Y) Y<|dM Y (fq (q:=⟨g,0,none⟩) mH Y Y) Y<|dM Y (dU Ze Y (K2.x s1) Y) Y<|dM Y (dP Y) Y ?_
     obtain⟨x2,nE⟩:=bH (xs:=ys) (i:=jA ys i k) aj;refine dM Y (d9 (i:=jA ys i k) sV qQ Y Y Y (aP nE) ((K2.o U).some_ nE)) Y<|dM Y (iR qw Y Y ((K2.o U).fF nE)) Y<|QS Y (v:=.bool (AX x1 x2)) Y Y Y asE (λwq eq=>(Zf (S0:=Any) wq x1 x2).mono (by rintro _ _ ⟨rfl,gH⟩; exact⟨rfl,gH.ext⟩)) rfl<|bf (oP rfl rfl) rfl<|D6 (t:=44) (u:=.bool (AX x1 x2)) (v:=.bool (lsB ys i k)) rfl (aY Value.bool (by exact akl bT nE))<|jR rfl
    | false=>
     refine dw Y Y Y<|dw Y Y Y<|dw Y Y Y<|dw Y Y Y<|dw Y Y Y<|dw Y Y Y<|dw Y Y Y<|dw Y Y Y<|dw Y Y Y<|dw Y Y Y<|dw Y Y Y<|dw Y Y Y<|dw Y Y Y<|dw Y Y Y<|dw Y Y Y<|dw Y Y Y<|dw Y Y Y<|dw Y Y Y<|dw Y Y Y<|bf (oU Y Y) Y<|D6 (t:=44) (u:=.bool false) (v:=.bool (lsB ys i k)) Y (aY Value.bool (by exact akm (by have:=jX ax0; omega)))<|jR rfl
   refine pX λw3 e3=>?_;have K3:=K2.grow e3;refine bS Y (λZh=>?_) (λZh=>?_)
   ·refine jN<|pq 2 Y<|jO<|iF (fV ?_)
    refine jN<|ev (eG Y Y)<|mv Y<|jO ?_
    have gH:(((2*i+1+k:Nat):Int):Int)=((jA ys i (k+1):Nat):Int):=by simp only [jA]; first | rw [aS (show WR ys (2*i+1+k) (jA ys i k)=true from Zh)] | rw [aQ (show ¬ WR ys (2*i+1+k) (jA ys i k)=true by rw [show WR ys (2*i+1+k) (jA ys i k)=false from Zh]; decide)]
    refine ji (t:=3) Y (aY (Value.int .i64) gH)<|dX ⟨(k+1),Y,Y,aj,K3⟩ rfl aj
   refine Gw ?_;refine jN<|ev (eG Y Y)<|mv Y<|jO ?_
   have kN:(((jA ys i k:Nat):Int):Int)=((jA ys i (k+1):Nat):Int):=by simp only [jA]; first | rw [aS (show WR ys (2*i+1+k) (jA ys i k)=true from Zh)] | rw [aQ (show ¬ WR ys (2*i+1+k) (jA ys i k)=true by rw [show WR ys (2*i+1+k) (jA ys i k)=false from Zh]; decide)]
   refine ji (t:=3) Y (aY (Value.int .i64) kN)<|dX ⟨(k+1),Y,Y,aj,K3⟩ rfl aj
  refine BU ?_;have hk2:k=2:=aj;have hlm:jA ys i 2=jA ys i k:=by rw [hk2]
  have hlt:=EN ys i k;refine gD Y<|mv Y<|ev (Gq Y Y)<|dn<|bS Y (λasH=>?_) (λasH=>?_)
  ·replace asH:=oL asH;obtain⟨x3,hx3⟩:=bH (xs:=ys) (i:=i) aj;obtain⟨x4,hx4⟩:=bH (xs:=ys) (i:=jA ys i k) aj;have hsA:=(K2.o U).some_ hx3;have hgo:=asF hlm aj hx3 hx4;refine He K2 (λ_ K=>(K.rm U)) (λl0 rk lJ wJ=>lJ=l0/\Hp b S wJ (aR p9 251 A c ((ys.set i x4).set (jA ys i k) x3)::rk)) (λhns H1=>?_) ?_
   ·have k1:=(H1.rm U);refine qp 0 g 0 mH Y k1<|xS 3 U Y k1<|lF 4 Y Y k1<|qp 5 g 0 mH Y k1<|xS 8 U Y k1<|lF 9 Y Y k1<|qp 10 g 0 mH Y k1<|xS 13 U Y k1<|lF 14 Y Y k1<|kI 15 Y (λ_ _=>d9 (i:=jA ys i k) sV qQ Y Y Y (aP hx4) hsA) k1<|qp 17 g 0 mH Y k1<|xS 20 U Y k1<|lF 21 Y Y k1<|kI 22 Y (λ_ _=>d9 (i:=i) sV qQ Y Y Y (aP hx3) hsA) k1<|Jn H1 (λl0 rk lJ wJ=>lJ=(66,.agg #[O x4.X,O x4.Have,O x4.Live])::(73,.agg #[O x3.X,O x3.Have,O x3.Live])::l0/\Hp b S wJ rk) 4 16777215 ?_ λhS1=>?_
    ·rintro _ w6 ⟨rfl,K6⟩;have k4:=(K6.rm U);refine kI 24 Y (λ_ _=>d9 (i:=i) sV qQ Y Y Y (aP hx3) hsA) k4<|O1 25 Y<|se (i:=i) (f:=0) (x:=x3) (x':=x4) (ds:=[O x4.X,O x4.Have,O x4.Live]) K6 U Y Y Y hx3 Y qQ (nU Y) Y (by rintro _ _ _ ⟨⟩; rfl) λw7 K7=>?_
     have hl3:(ys.set i x4).length=ys.length:=iC ..;refine gZ (t:=53) (u:=.slice A ys.length c) (v:=.slice A ((ys.set i x4).length) c) Y (by rw [hl3])<|gZ (t:=58) (u:=.slice A ys.length c) (v:=.slice A ((ys.set i x4).length) c) rfl (by rw [hl3]) ?_
     have k5:=(K7.rm U);refine aO k5 ?_;obtain⟨x6,hx9⟩:=bH (xs:=(ys.set i x4)) (i:=jA ys i k) aj;refine kI 26 Y (λ_ _=>d9 (i:=jA ys i k) sV qQ Y Y Y (aP hx9) hsA) k5<|O1 27 Y<|se (i:=jA ys i k) (f:=0) (x:=x6) (x':=x3) (ds:=[O x3.X,O x3.Have,O x3.Live]) K7 U Y Y Y hx9 Y qQ (nU Y) Y (by rintro _ _ _ ⟨⟩; rfl) λw8 K8=>?_
     have hl4:((ys.set i x4).set (jA ys i k) x3).length=(ys.set i x4).length:=iC ..;refine gZ (t:=53) (u:=.slice A ((ys.set i x4).length) c) (v:=.slice A (((ys.set i x4).set (jA ys i k) x3).length) c) Y (by rw [hl4])<|gZ (t:=58) (u:=.slice A ((ys.set i x4).length) c) (v:=.slice A (((ys.set i x4).set (jA ys i k) x3).length) c) rfl (by rw [hl4]) ?_
     have k6:=(K8.rm U);refine aO k6<|Dn ⟨Y,K8⟩ Y
    refine O2 16 23 Y Y ?_ ?_
    ·refine ev (iR qw Y Y ((H1.o U).fF hx4))<|aO k1<|O1 23 Y<|ev (iR qw Y Y ((H1.o U).fF hx3))<|Kj hS1 k1 ⟨Y,H1⟩ Y
    ·refine ev (iR qw Y Y ((H1.o U).fF hx3))<|aO k1<|O1 16 Y<|ev (iR qw Y Y ((H1.o U).fF hx4))<|Kj hS1 k1 ⟨Y,H1⟩ Y
   rintro _ w9 ⟨rfl,K9⟩;refine gD Y<|fE Y<|WP.goto ?_
   have nM:(.slice A ys.length c:Value)=.slice A (((ys.set i x4).set (jA ys i k) x3).length) c:=by rw [iC,iC]
   try rw [nM] at K9
   exact l7.jag ⟨(jA ys i k),((ys.set i x4).set (jA ys i k) x3),Y,Y,by rw [iC,iC]; exact hyl,aj,by rw [iC,iC,<- hgo]; exact hdn,K9⟩ rfl aj
  replace asH:=oM asH;refine yC (l7.abD (o7 (uo Y ?_)));have hst:zU (ys.length - i+1) ys i=ys:=akn aj;have hfi:ys=RI l:=by rw [<- hst,hdn]; rfl
  exact⟨Y,by rw [<- hfi]; exact((K2.sel U).sel s1)⟩
 ·intro hp0;refine rg<|oJ Y<|fE Y<|WP.kp hp0 ⟨0,l,Y,Y,by rfl,aj,by rw [VI],((H0.sel U).sel s1)⟩ rfl
def ax2(l:V dW):(upL l).length=l.length:=amd _ _ _
theorem aoS(l:V dW):(RI l).length=l.length:=UZ _ _ _
def adM(l:List dW)(n:dW):List dW:=upL (l++[n])
theorem asI(l:V dW)(n:dW):(adM l n).length=l.length+1:=by simp [adM,ax2]
def takeN(l:List dW):dW:=match l[0]? with | some x=>x | none=>⟨0,0,0⟩
def takeB(l:List dW):Bool:=decide (0<l.length)
def D8(l:List dW):List dW:=match l[l.length - 1]? with | some z=>RI ((l.set 0 z).take (l.length - 1)) | none=>l
theorem U0(l:V dW):(D8 l).length=l.length - 1:=by
 grind [D8,aoS,List.getElem?_eq_none_iff]
def Zi{l:V dW}{x:dW}(hx:l[0]? = some x):takeN l=x:=by grind [takeN]
def asJ{l:V dW}(h:0<l.length):takeB l=true:=tY h
def agP{l:V dW}{z:dW}(hz:l[l.length - 1]? = some z):D8 l=RI ((l.set 0 z).take (l.length - 1)):=by grind [D8]
def adN  : prog.built 333 [(1,.func (.func 244) #[] #[])]=some #[.slice none 0 0,.func (.func 244) #[] #[]]:=by rfl
def aoT(RJ:ah)(V5 V6:Nat):prog.built 335 [(0,.agg #[.slice RJ V5 V6,.func (.func 244) #[] #[]])]=some #[.slice RJ V5 V6,.func (.func 244) #[] #[]]:=by rfl
def yK:bU prog 335 0 0:=λ_ _=>by rfl
def J3(a0:Int)(a1:Int)(a2:Int):∀ w,(Instr.buildSlice 171 1 (List.toArray [(0,.agg #[O a0,O a1,O a2])])).run prog w=.ok (.slice (some ⟨w.heap.size,0,none⟩) 1 1) (w.alloc (.cells (List.toArray [O a0,O a1,O a2]) 251)):=ay
def asK:kH prog 251 3 24:=by
 obtain⟨i,h1,h2,h3,h4⟩:=qo (show(prog.info? 251).map (λi=>(i.zero,i.size,i.bytes))=some (some (.agg #[O 0,O 0,O 0]),3,24) by kernel_rfl);exact⟨i,_,h1,h2,h3,h4,Y⟩
def Dx:∀ w,(zeroValue 251).run prog w=.ok (.agg #[O 0,O 0,O 0]) w:=by simp
def ax3  : prog.built 251 []=some #[O 0,O 0,O 0]:=by rfl
def ax4(w:World):bM prog 174 #[] w λv w'=>∃ g,v=fK g/\Hp w S0 w' [dJ g 335 [.slice none 0 0,.func (.func 244) #[] #[]],aR p9 251 none 0 []]:=by
 refine lg S0 func174 ntmps174 Y λH0=>kX Y<|rg<|ev (iT Y (by apply adN))<|ev (iT rfl (by apply aoT))<|bx rfl rfl H0 λg1 w1 K1=>fE rfl<|iU rfl ?_
 have H1:=K1.nil p9 251;exact⟨_,Y,((H1.sel U).sel s1)⟩
def ax5{l:V dW}(H0:Hp b S w (Xg g A l c F))(n:dW)(hn:l.length<=100000):bM prog 175 #[fK g,.agg #[O n.X,O n.Have,O n.Live]] w λv w'=>v=.tuple #[]/\∃ A' c',Hp b S w' (dJ g 335 [.slice A' (adM l n).length c',.func (.func 244) #[] #[]]::aR p9 251 A' c' (adM l n)::F):=by
 refine qN func175 ntmps175 Y<|rg<|bx Y Y H0 λg1 w1 K1=>dn<|He K1 (λ_ K=>(K.cU 1 2)) (λl0 rk lJ wJ=>∃ jG jr,lJ=l0/\Hp b S wJ (dJ g 335 [.slice jG ((l++([n]:V dW)).length) jr,.func (.func 244) #[] #[]]::aR p9 251 jG jr (l++([n]:V dW))::rk)) (λhns H1=>?_) ?_
 ·have k1:=(H1.cU 1 2);refine lF 0 Y Y k1<|qp 1 g 0 yK Y k1<|Iy 4 g 0 mH Y k1<|kI 6 Y (λ_ hK=>fA qw Y Y (hK.x U)) k1<|Jn H1 (λl0 rk lJ wJ=>∃ g2,lJ=(9,.slice A l.length c)::(11,.slice (some ⟨g2,0,none⟩) (([n]:V dW).length) 1)::l0/\Hp b S wJ (aR p9 251 (some ⟨g2,0,none⟩) 1 ([n]:V dW)::rk)) 5 255 ?_ λhS1=>?_
  ·rintro _ w6 ⟨g2,rfl,K6⟩;refine O1 8 Y<|ap K6 s3 Y Y (K6.o U) sV asK (by first | omega | (simp; omega) | (simp; done)) av rfl λWO cp2 w7 K7=>?_
   have k6:=((K7.rm s3).cU 0 2);refine aO k6<|JG 9 g 0 yK Y k6<|Iy 11 g 0 mH Y k6<|O1 12 Y<|xD Y K7 s3 Y λw8 K8=>?_
   have k7:=(K8.cU 0 3);refine aO k7<|Dn ⟨WO,cp2,Y,(K8.rm s2)⟩ Y
  refine O2 5 7 Y Y ?_ ?_
  ·refine lY H1 s1 Y<|aO k1<|O1 7 Y<|yV (τ:=p9) (x:=n) Y (by intro _; apply J3) rfl H1 (λ_ _=>rfl) λg4 w9 K9=>?_
   have k8:=((K9.cU 2 2).rm U);exact Kj hS1 k8 ⟨g4,Y,K9⟩ Y
  ·refine yV (τ:=p9) Y (by intro _; apply J3) rfl H1 (λ_ _=>rfl) λg5 PE K10=>?_;have k9:=((K10.cU 2 2).rm U);refine aO k9<|O1 5 Y<|lY K10 s2 Y<|Kj hS1 k9 ⟨g5,Y,K10⟩ Y
 rintro _ VY ⟨jG,jr,rfl,vF⟩;refine jN<|pq 2 Y<|zA g 0 yK Y<|gu Y (aC3 vF (by first | omega | (simp; done) | (simp; omega)) (by first | omega | (simp; done) | (simp; omega))) ?_
 rintro _ Uy ⟨rfl,uR⟩;refine jO<|o7 (uo Y ?_)
 have H2:=(uR.rm s2);exact⟨Y,_,_,H2⟩
def agQ{l:V dW}(H0:Hp b S w (Xg g A l c F))(hn:l.length<=100000):bM prog 176 #[fK g] w λv w'=>v=.tuple #[.agg #[O ((takeN l).X),O ((takeN l).Have),O ((takeN l).Live)],.bool (takeB l)]/\Hp b S w' (dJ g 335 [.slice A (D8 l).length c,.func (.func 244) #[] #[]]::aR p9 251 A c (D8 l)::F):=by
 refine qN func176 ntmps176 Y<|rg<|al Dx Y H0 λg1 w1 K1=>pB 5 Y<|zA g 0 yK Y<|jP g 0 mH K1 s1 Y<|pq 1 Y<|ev (VO Y Y)<|fE Y<|aZ<|gD Y<|ev (iH Y Y)<|dn<|o8 Y (λrR=>?_) (λrR=>?_)
 ·refine rg<|ev (iT Y (by apply ax3))<|sty rfl K1 U rfl λw2 K2=>fE rfl<|jE (gG (qL rfl ⟨_,_,rfl,⟨_,rfl,jo qw rfl (K2.x U)⟩,⟨_,_,rfl,rfl,rfl⟩⟩ ?_))
  have H1:=(K2.rm U);have hl0:l=[]:=xY aj;exact⟨by subst hl0; rfl,by subst hl0; exact H1⟩
 refine jQ ?_;refine mP (t:=4) (u:=O (((l.length:Nat):Int) - 1)) Y (aY (Value.int .i64) (show(((l.length:Nat):Int) - 1:Int)=((l.length - 1:Nat):Int) by omega)) ?_;obtain⟨x1,bT⟩:=bH (xs:=l) (i:=0) aj;obtain⟨x2,nE⟩:=bH (xs:=l) (i:=l.length - 1) aj;refine pC 3 Y<|zA g 0 yK Y<|jP g 0 mH K1 s1 Y<|ev (d9 (i:=0) sV qQ Y Y Y (aP bT) ((K1.o s2).some_ bT))<|ev (iR qw Y Y ((K1.o s2).fF bT))<|al Dx Y K1 λg2 w3 K3=>sty Y K3 U Y λw4 K4=>dn ?_
 have hsA:=(K4.o s3).some_ bT;refine He K4 (λ_ K=>(K.rm s3)) (λl0 rk lJ wJ=>lJ=(10,.slice A ((l.set 0 x2).length) c)::(20,.slice A ((l.set 0 x2).length) c)::l0/\Hp b S wJ (aR p9 251 A c (l.set 0 x2)::rk)) (λhns H2=>?_) ?_
 ·have k1:=(H2.rm s3);refine qp 0 g 0 yK Y k1<|mK 3 4 g 0 mH s2 Y k1<|qp 5 g 0 yK Y k1<|mK 8 9 g 0 mH s2 Y k1<|lF 10 Y Y k1<|kI 11 Y (λ_ _=>d9 (i:=l.length - 1) sV qQ Y Y Y (aP nE) hsA) k1<|O1 12 Y<|ev (iR qw Y Y ((H2.o s3).fF nE))<|aO k1<|kI 13 Y (λ_ _=>d9 (i:=0) sV qQ Y Y Y (aP bT) hsA) k1<|O1 14 Y<|se (x':=x2) H2 s3 Y Y Y bT Y qQ (nU Y) Y (by rintro _ _ _ ⟨⟩; rfl) λw5 K5=>?_
  have hl1:(l.set 0 x2).length=l.length:=iC ..;refine gZ (t:=10) (u:=.slice A l.length c) (v:=.slice A ((l.set 0 x2).length) c) Y (by rw [hl1])<|gZ (t:=20) (u:=.slice A l.length c) (v:=.slice A ((l.set 0 x2).length) c) rfl (by rw [hl1])<|gZ (t:=27) (u:=.slice A l.length c) (v:=.slice A ((l.set 0 x2).length) c) rfl (by rw [hl1])<|gZ (t:=32) (u:=.slice A l.length c) (v:=.slice A ((l.set 0 x2).length) c) rfl (by rw [hl1]) ?_
  have k2:=(K5.rm U);refine aO k2<|Dn ⟨Y,K5⟩ Y
 rintro _ w6 ⟨rfl,K6⟩;refine pC 4 Y<|zA g 0 yK Y<|jP g 0 mH K6 s3 Y<|mv Y ?_
 have hcp:=(K6.o U).cap
 try simp only [iC] at hcp
 refine ev (Ev.ac4 (hi:=l.length - 1) sV qQ Y Y Y aj) ?_;have hct:(((l.set 0 x2)).take (l.length - 1)).length=l.length - 1:=by simp only [iX,iC]; omega
 have H3:=K6.ajG (hi:=l.length - 1) U (by first | omega | (simp only [iC]; omega));refine gZ (t:=44) (v:=.slice A (((l.set 0 x2).take (l.length - 1))).length c) Y (by rw [hct])<|pq 1 rfl<|zA g 0 yK rfl<|zA g 0 mH rfl<|xD rfl H3 s3 rfl λw7 K7=>pB 4 rfl<|zA g 0 yK rfl<|gu rfl (asG K7 (by first | omega | (simp; done) | (simp; omega))) ?_
 rintro _ w8 ⟨rfl,K8⟩;refine dn<|rg<|ev (fA qw Y Y (K8.x s2))<|sty Y K8 s3 Y λw9 K9=>fE Y<|jE (qL Y ⟨_,_,Y,⟨_,Y,jo qw Y (K9.x U)⟩,⟨_,_,Y,Y,Y⟩⟩ ?_)
 have H4:=((K9.rm s3).rm U);exact⟨by rw [Zi bT,asJ aj] <;> rfl,by rw [agP nE]; exact H4⟩
def PK(all:List aT)(D:List Int)(bQ:Int)(c:aH):Bool:=decide ((0:Int)<((Gl c D).length:Int))&&decide (((iW c all D).length:Int)<bQ)
def Nb(all:List aT)(D:List Int)(c:aH):dW:=⟨c.ID,((iW c all D).length:Int),((Gl c D).length:Int)⟩
def J4(all:List aT)(D:List Int)(bQ:Int)(q:List dW)(c:aH):List dW:=if PK all D bQ c=true then adM q (Nb all D c) else q
def pQ(all:List aT)(D:List Int)(bQ:Int)(aYc:List aH):List dW:=aYc.foldl (J4 all D bQ) []
def drain:Nat->List dW->List dW
  | 0,_=>[]
  | f+1,q=>if takeB q=true then takeN q::drain f (D8 q) else[]
def Ib(l:List aH)(all:List aT)(D:List Int)(bQ:Int):List dW:=drain (pQ all D bQ l).length (pQ all D bQ l)
def V7{k:Nat}(hx:aYc[k]? = some x):pQ all D bQ (aYc.take (k+1))=J4 all D bQ (pQ all D bQ (aYc.take k)) x:=by
 simp_all [pQ,eO,AP]
def Zj(all:V aT)(D:V Int)(bQ:Int)(aYc:V aH):(pQ all D bQ aYc).length<=aYc.length:=by
 have key:∀(aYc:V aH)(q:V dW),(aYc.foldl (J4 all D bQ) q).length<=q.length+aYc.length:=by
  intro aYc
  induction aYc with
  | nil=>simp
  | cons c aYc ih=>
   grind [J4,asI,List.length_cons]
 grind [pQ]
def Zk(q:V dW):drain q.length q=if takeB q=true then takeN q::drain (D8 q).length (D8 q) else[]:=by
 cases q with
 | nil=>rfl
 | cons x q=>
  rw [U0]
  rfl
def ako(q:V dW):(D8 q).length+(if takeB q=true then 1 else 0)=q.length:=by
 grind [takeB,U0]
def agR{k:Nat}(hx:aYc[k]? = some x)(h:PK all D bQ x=true):adM (pQ all D bQ (aYc.take k)) (Nb all D x)=pQ all D bQ (aYc.take (k+1)):=by
 simp_all [J4,V7,aS]
def agS{k:Nat}(hx:aYc[k]? = some x)(h:PK all D bQ x=false):pQ all D bQ (aYc.take k)=pQ all D bQ (aYc.take (k+1)):=by
 simp_all [J4,V7,aQ]
def Ll(a0:Int)(a1:Int)(a2:Int):prog.built 251 [(0,O a0),(1,O a1),(2,O a2)]=some #[O a0,O a1,O a2]:=by rfl
set_option maxHeartbeats 1000000 in
def asL(w:World){jL:ah}{jK:Nat}{l:V aH}(jq:Sl bD S0 w jL jK l){asM:ah}{asN:Nat}(aAM:Sl bW S0 w asM asN all){j3:ah}{jZ:Nat}(kQ:Sl dN S0 w j3 jZ D)(bQ:Int)(hl:l.length<=10000)(hh:∀ x∈l,x.aD.length<=100000)(hn:all.length<=100000):bM prog 99 #[.slice jL l.length jK,.slice asM all.length asN,.slice j3 D.length jZ,O bQ] w λv w'=>∃ A0 c0,v=.slice A0 ((Ib l all D bQ).length) c0/\Hp w S0 w' [aR p9 251 A0 c0 (Ib l all D bQ)]:=by
 refine lg S0 func99 ntmps99 Y λH0=>kX Y<|rg<|gu Y (ax4 (S0:=Any) _) ?_
 rintro _ w1 ⟨gq1,rfl,hn1⟩;have K1:=H0.f2 hn1;refine fE Y<|aZ<|gD Y<|ev (jf lT Y)<|mv Y<|dn<|dF ?_
 have H1:=K1.nil p9 251;have gy:([]:V dW)=(pQ all D bQ (l.take 0)):=by rfl
 rw [gy] at H1;have gH:(.slice none 0 0:Value)=.slice none ((pQ all D bQ (l.take 0)).length) 0:=by rfl
 try rw [gH] at H1
 refine qh (λmJ lJ wJ=>∃ k A9 c9,lJ=[(1,.slice asM all.length asN),(2,.slice j3 D.length jZ),(3,O bQ),(9,fK gq1),(17,.slice jL l.length jK),(18,O ((l.length:Nat):Int)),(19,O ((k:Nat):Int))]/\mJ=l.length - k/\k<=l.length/\Hp w S0 wJ [aR p9 251 A9 c9 (pQ all D bQ (l.take k)),dJ gq1 335 [.slice A9 ((pQ all D bQ (l.take k)).length) c9,.func (.func 244) #[] #[]]]) ⟨0,none,0,Y,Y,fI _,(H1.rm s2)⟩ Y ?_;rintro _ _ w2 ⟨k,A9,c9,rfl,rfl,hk,K2⟩;refine rg<|ev (iH Y Y)<|dn<|r9 Y (λl8=>?_) (λl8=>?_)
 ·refine jQ ?_;refine aZ<|dF<|rg ?_
  obtain⟨x1,bT⟩:=bH (xs:=l) (i:=k) aj;refine ev (d9 lT tH Y Y Y (aP bT) ((K2.a jq).some_ bT)) ?_;obtain⟨B1,d1,yG,hi1⟩:=CG (jq.row bT);refine ev (iR p8 Y Y (Gu (λj u hu=>K2.ext.cell (yG j u hu))))<|al lX Y K2 λg1 w3 K3=>sty Y K3 U Y λw4 K4=>dn ?_
  have hhx:=hh _ (dz bT);have hql:=Zj all D bQ (l.take k)
  simp only [iX] at hql
  refine He K4 (λ_ K=>K) (λl0 rk lJ wJ=>∃ qF,lJ=(12,fK qF)::l0/\Hp w S0 wJ (dJ qF 251 [O x1.ID,O (((iW x1 all D).length:Nat):Int),O (((Gl x1 D).length:Nat):Int)]::rk)) (λhns H2=>?_) ?_
  ·refine mK 0 1 g1 0 pG U Y H2<|kI 2 Y (λ_ hK=>fA p8 Y Y (hK.x U)) H2<|lF 3 Y Y H2<|lF 4 Y Y H2<|kI 7 Y (λ_ hK=>fA p8 Y Y (hK.x U)) H2<|lF 8 Y Y H2<|Jn H2 (λl0 rk lJ wJ=>∃ RL RO g3 Du Dv,lJ=(12,fK g3)::(29,O (((iW x1 all D).length:Nat):Int))::(32,.slice RL ((Gl x1 D).length) RO)::l0/\Hp w S0 wJ (aR dN 3 RL RO (Gl x1 D)::dJ g3 251 [O 0,O 0,O 0]::aR dN 3 Du Dv (iW x1 all D)::rk)) 3 5119 ?_ λhS1=>?_
   ·rintro _ w15 ⟨RL,RO,g3,Du,Dv,rfl,zI⟩;have k9:=(zI.cU 0 3);refine kI 10 Y (λ_ _=>jf gq Y) k9<|kI 11 Y (λ_ _=>iT (cs:=[O x1.ID,O (((iW x1 all D).length:Nat):Int),O (((Gl x1 D).length:Nat):Int)]) Y (by apply Ll)) k9<|O1 13 rfl<|sty rfl zI s1 rfl λw16 BZ=>?_
    have k10:=(BZ.cU 0 3);refine aO k10<|Dn ⟨g3,Y,(BZ.cU 1 2)⟩ Y
   refine O2 5 12 Y Y ?_ ?_
   ·refine gu Y (RB _ x1 (H2.a hi1).any (H2.a aAM).any (H2.a kQ).any hhx aj) ?_;rintro _ w17 ⟨aHc,aHd,rfl,h17⟩;have zT:=H2.f1 h17;have k11:=(zT.rm U);refine aO k11<|kI 6 Y (λ_ _=>jf gq Y) k11<|O2 9 12 Y Y ?_ ?_
    ·refine gu Y (Xf _ x1 (zT.a hi1).any (zT.a kQ).any hhx) ?_;rintro _ w18 ⟨aRd,aRe,rfl,h18⟩;have EL:=zT.f1 h18;have k12:=(EL.cU 0 2);refine aO k12<|kI 10 Y (λ_ _=>jf gq Y) k12<|kI 11 Y (λ_ _=>iT (vs:=[(0,O x1.ID),(1,O (((iW x1 all D).length:Nat):Int)),(2,O (((Gl x1 D).length:Nat):Int))]) Y (by apply Ll)) k12<|O1 12 rfl<|al Dx rfl EL λg5 w19 Ai=>?_
     have k13:=(Ai.cU 0 3);refine aO k13<|O1 13 Y<|sty Y Ai U Y λw20 Fg=>?_
     have k14:=(Fg.cU 0 3);refine aO k14<|Dn ⟨g5,Y,(Fg.cU 1 2)⟩ Y
    ·refine al Dx Y zT λg6 w21 IJ=>?_;have k15:=(IJ.cU 0 2);refine aO k15<|O1 9 Y<|gu Y (Xf _ x1 (IJ.a hi1).any (IJ.a kQ).any hhx) ?_
     rintro _ w22 ⟨agT,agU,rfl,h22⟩;have Hy:=IJ.f1 h22;have aC4:=(Hy.o U).bI;have k16:=(Hy.cU 0 3);exact Kj hS1 k16 ⟨agT,agU,g6,aHc,aHd,Y,Hy⟩ Y
   ·refine al Dx Y H2 λg7 w23 Le=>?_;have k17:=(Le.rm U);refine aO k17<|O1 5 Y<|gu Y (RB _ x1 (Le.a hi1).any (Le.a aAM).any (Le.a kQ).any hhx aj) ?_
    rintro _ w24 ⟨asO,asP,rfl,h24⟩;have pz:=Le.f1 h24;have aC5:=(pz.o U).bI;have k18:=(pz.cU 0 2);refine aO k18<|kI 6 Y (λ_ _=>jf gq Y) k18<|O1 9 Y<|gu Y (Xf _ x1 (pz.a hi1).any (pz.a kQ).any hhx) ?_
    rintro _ w25 ⟨aHf,aHg,rfl,h25⟩;have DU:=pz.f1 h25;have aC6:=(DU.o U).bI;have k19:=(DU.cU 0 3);exact Kj hS1 k19 ⟨aHf,aHg,g7,asO,asP,Y,((DU.sel s1).mV 1 2)⟩ Y
  rintro _ w26 ⟨qF,rfl,JU⟩;refine rg<|jP qF 2 Zd JU U Y<|pq 2 Y<|iJ 5 43 ((decide (0<(((Gl x1 D).length:Nat):Int)))&&(decide ((((iW x1 all D).length:Nat):Int)<bQ))) ?_ ?_
  ·cases aCu:decide (0<(((Gl x1 D).length:Nat):Int)) with
   | true=>
    have aRf:=iY aCu;refine wW qF 1 RG JU U Y<|pq 3 Y<|dK Y
   | false=>
    refine pq 5 Y<|dK Y
  refine dn<|bS Y (λyt=>?_) (λyt=>?_)
  ·refine jN<|mv Y<|ev (fA qw Y Y (JU.x U))<|gu Y (ax5 (((JU.mV 0 2).sel s2).sel s3) (⟨x1.ID,(((iW x1 all D).length:Nat):Int),(((Gl x1 D).length:Nat):Int)⟩:dW) aj) ?_
   rintro _ w27 ⟨rfl,Aq1,cq1,LG⟩;refine jO<|iF (fV ?_)
   refine jN<|ev (eG Y Y)<|mv Y<|jO ?_
   have kN:((adM (pQ all D bQ (l.take k)) (⟨x1.ID,(((iW x1 all D).length:Nat):Int),(((Gl x1 D).length:Nat):Int)⟩:dW)):V dW)=(pQ all D bQ (l.take (k+1))):=by first | exact agR bT yt | exact agS bT yt
   rw [kN] at LG;exact dX ⟨(k+1),Aq1,cq1,Y,Y,aj,(((LG.cU 2 2).sel U).sel s1)⟩ rfl aj
  refine Gw ?_;refine jN<|ev (eG Y Y)<|mv Y<|jO ?_
  have nM:((pQ all D bQ (l.take k)):V dW)=(pQ all D bQ (l.take (k+1))):=by first | exact agR bT yt | exact agS bT yt
  rw [nM] at JU;exact dX ⟨(k+1),A9,c9,Y,Y,aj,(JU.cU 0 2)⟩ rfl aj
 refine BU ?_;refine kX Y<|aZ ?_
 have hql:=Zj all D bQ (l.take k)
 simp only [iX] at hql
 refine gD Y<|gu Y (agQ ((K2.sel U).sel s1) aj) ?_
 rintro _ w28 ⟨rfl,Fh⟩;refine pq 3 Y<|al Dx Y Fh λg8 w29 Fp=>sty Y Fp U Y λw30 Fq=>fE Y<|dF ?_
 have H3:=Fq.nil p9 251;have H4:=H3.nil p9 251;refine Lp (H4.cU 0 5) (λl0 rk mJ lJ wJ=>∃(A9:ah)(c9:Nat)(q:V dW)(n:dW)(f:Bool)(g14:Nat)(out:V dW)(A13:ah)(c13:Nat),lJ=(13,.slice A13 out.length c13)::(14,fK g14)::(15,.bool f)::l0/\mJ=q.length+(if f=true then 1 else 0)/\(out++(if f=true then n::drain q.length q else[])=Ib l all D bQ)/\(q.length+(if f=true then 1 else 0)+out.length<=20000)/\Hp w S0 wJ (aR p9 251 A9 c9 q::dJ gq1 335 [.slice A9 q.length c9,.func (.func 244) #[] #[]]::dJ g14 251 [O n.X,O n.Have,O n.Live]::aR p9 251 A13 c13 out::rk)) ⟨A9,c9,(D8 (pQ all D bQ (l.take k))),(takeN (pQ all D bQ (l.take k))),(takeB (pQ all D bQ (l.take k))),g8,([]:V dW),none,0,Y,Y,by rw [MB,<- Zk,gY aj]; rfl,by rw [ako]; simp only [u6]; omega,(((((H4.rm s1).sel U).sel s1).sel s2).sel s3)⟩ rfl ?_;rintro _ _ w31 ⟨A9,c9,q,n,f,g14,out,A13,c13,rfl,rfl,hdr,aTL,Lh⟩;refine aZ<|gD Y<|dn<|bS Y (λax6=>?_) (λax6=>?_)
 ·refine jQ ?_;refine aZ<|dF ?_
  have htm:=ako q;have hif:(if f=true then 1 else 0:Nat)=1:=aS ax6;refine jN<|mv Y<|ev (fA qw Y Y (Lh.x s2))<|yV Y (by intro _; apply J3) rfl Lh (λ_ _=>rfl) λg9 w32 M4=>ap (ys:=([n]:V dW)) M4 s4 rfl rfl (M4.o U) sV asK aj av rfl λsQ sS w33 P7=>oJ rfl<|jO<|iF (fV ?_)
  refine aZ<|rg<|ev (fA qw Y Y (P7.x s4))<|dn<|jN<|al Dx Y P7 λg10 w34 Xd=>sty Y Xd U Y λw35 K35=>jO<|fV<|jN<|mv Y<|gu Y (agQ (((K35.mV 0 3).sel s3).sel s4) aj) ?_
  rintro _ w36 ⟨rfl,K36⟩;refine pq 3 Y<|sty Y K36 s2 Y λw37 V8=>oJ Y<|jO<|dX ⟨A9,c9,(D8 q),(takeN q),(takeB q),g10,(out++([n]:V dW)),sQ,sS,Y,Y,by rw [<- Zk]; simpa [ax6] using hdr,by rw [ako]; simp only [jH,oO,u6]; omega,((((V8.cU 4 2).sel U).sel s1).sel s2)⟩ rfl aj
 refine BU ?_;refine gD Y<|fE Y<|iU Y ?_
 have uO:(out:V dW)=(Ib l all D bQ):=by simpa [ax6] using hdr
 have H5:=(uO▸Lh:Hp w S0 w31 [aR p9 251 A9 c9 q,dJ gq1 335 [.slice A9 q.length c9,.func (.func 244) #[] #[]],dJ g14 251 [O n.X,O n.Have,O n.Live],aR p9 251 A13 c13 (Ib l all D bQ)]);exact⟨A13,c13,by rw [<- uO] <;> rfl,(H5.cU 0 3)⟩
def U1{a b:dW}:AX a b=true↔a.Live<b.Live∨(a.Live=b.Live/\(a.Have<b.Have∨(a.Have=b.Have/\a.X<b.X))):=by
 unfold AX VZ bL
 by_cases h1:a.Live<b.Live <;> by_cases h2:b.Live<a.Live <;> by_cases h3:a.Have<b.Have <;> by_cases h4:b.Have<a.Have <;> by_cases h5:a.X<b.X <;> by_cases h6:b.X<a.X <;> simp [h1,h2,h3,h4,h5,h6] <;> omega
def RP{a b:dW}:AX a b=false↔¬ (a.Live<b.Live∨(a.Live=b.Live/\(a.Have<b.Have∨(a.Have=b.Have/\a.X<b.X)))):=by
 rw [<- U1]; cases AX a b <;> simp
def QK(a b:dW):Prop:=AX b a=false
def QK.tr{a b c:dW}(h1:QK a b)(h2:QK b c):QK a c:=by unfold QK at *; rw [RP] at *; omega
def QK.of{a b:dW}(h:AX a b=true):QK a b:=by unfold QK; rw [U1] at h; rw [RP]; omega
def QK.rf(a:dW):QK a a:=by unfold QK; rw [RP]; omega
def agV(l:List dW)(j:Nat):Prop:=∀ x y,l[(j - 1) / 2]? = some x->l[j]? = some y->QK x y
def D9(l:List dW):Prop:=∀ j,0<j->agV l j
def agW{l:V dW}{p j:Nat}{x y:dW}(hi:i<l.length)(hp:p<l.length)(hne:p≠i):((l.set i y).set p x)[j]? = if j=p then some x else if j=i then some y else l[j]?:=by
 rw [adI,adI,iC]
 by_cases h1:p=j
 ·subst h1; simp [hp]
 ·rw [aQ h1,aQ (show ¬ j=p from λh=>h1 h.symm)]
  by_cases h2:i=j
  ·subst h2; rw [aS rfl,aS rfl,aS hi]
  ·rw [aQ h2,aQ (show ¬ j=i from λh=>h2 h.symm)]
def swap_perm{l:V dW}{p:Nat}{x y:dW}(hx:l[i]? = some x)(hy:l[p]? = some y):((l.set i y).set p x).Perm l:=by
 obtain⟨h1,rfl⟩:=rG.1 hx;obtain⟨h2,rfl⟩:=rG.1 hy;exact List.set_set_perm h1 h2
def agX:∀(f:Nat)(l:V dW)(i:Nat),(upG f l i).Perm l
 | 0,_,_=>J2 _
 | f+1,l,i=>by
  unfold upG
  split
  ·rename_i x y hx hy
   split
   ·exact(agX f _ _).trans (swap_perm hx hy)
   ·exact J2 _
  ·exact J2 _
def Zl:∀(f:Nat)(l:V dW)(i:Nat),(zU f l i).Perm l
 | 0,_,_=>J2 _
 | f+1,l,i=>by
  unfold zU
  split
  ·exact J2 _
  ·split
   ·rename_i x y hx hy
    exact(Zl f _ _).trans (swap_perm hx hy)
   ·exact J2 _
def agY:∀(f:Nat)(l:V dW)(i:Nat),i<f->i<l.length->(∀ j,0<j->j≠i->agV l j)->
  (∀ j,(j - 1) / 2=i->0<i->0<j->∀ z y,l[(i - 1) / 2]? = some z->l[j]? = some y->QK z y)->D9 (upG f l i)
 | 0,_,_,h,_,_,_=>absurd h (Qe _)
 | f+1,l,i,hf,hi,h1,h2=>by
  unfold upG;have hp:(i - 1) / 2<l.length:=aj;obtain⟨x,hx⟩:=bH hi;obtain⟨y,hy⟩:=bH (i:=(i - 1) / 2) hp;rw [hx,hy];show D9 (if(decide (0<i)&&AX x y)=true then _ else _)
  split
  ·rename_i hc
   simp only [bK,bN] at hc
   have hne:(i - 1) / 2≠i:=aj;have hg:=λj=>agW (j:=j) (x:=x) (y:=y) hi hp hne;refine agY f _ _ aj (by rw [iC,iC]; omega) (λj hj hjp u v hu hv=>?_) (λj hj hp0 hj0 u v hu hv=>?_)
   ·rw [hg] at hu hv
    rw [aQ hjp] at hv
    by_cases e1:j=i
    ·subst e1
     rw [aS rfl] at hu hv
     cases hu; cases hv; exact QK.of hc.2
    ·rw [aQ e1] at hv
     by_cases e2:(j - 1) / 2=(i - 1) / 2
     ·rw [aS e2] at hu
      cases hu
      exact(QK.of hc.2).tr (h1 j hj e1 _ _ (e2▸hy) hv)
     ·rw [aQ e2] at hu
      by_cases e3:(j - 1) / 2=i
      ·rw [aS e3] at hu; cases hu
       exact h2 j e3 hc.1 hj _ _ hy hv
      ·rw [aQ e3] at hu
       exact h1 j hj e1 _ _ hu hv
   ·rw [hg] at hu hv
    rw [aQ aj,aQ aj] at hu;have hyu:=h1 _ hp0 hne _ _ hu hy;rw [aQ aj] at hv
    by_cases e1:j=i
    ·rw [aS e1] at hv; cases hv; exact hyu
    ·rw [aQ e1] at hv
     exact hyu.tr (h1 j hj0 e1 _ _ (hj▸hy) hv)
  ·rename_i hc
   intro j hj
   by_cases e:j=i
   ·subst e
    intro u v hu hv;rw [hy] at hu; rw [hx] at hv; cases hu; cases hv;unfold QK
    cases hq:AX x y
    ·rfl
    ·exact absurd (by simp [hq,hj]) hc
   ·exact h1 j hj e
def Zm(l:V dW)(i:Nat){x:dW}(hx:l[i]? = some x):∀ k,∃ y,l[jA l i k]? = some y/\QK y x/\(jA l i k≠i->AX y x=true)/\∀ q,q<k->∀ z,l[2*i+1+q]? = some z->QK y z
 | 0=>⟨x,hx,QK.rf x,λh=>absurd rfl h,λq h=>absurd h (Qe _)⟩
 | k+1=>by
  obtain⟨y,h1,h2,h3,h4⟩:=Zm l i hx k;unfold jA
  split
  ·rename_i hc
   have hlt:2*i+1+k<l.length:=by
    rcases G6 (2*i+1+k) l.length with h5 | h5
    ·exact h5
    ·rw [<- akm aj] at hc; cases hc
   obtain⟨z,hz⟩:=bH hlt;rw [<- akl hz h1] at hc;refine⟨z,hz,(QK.of hc).tr h2,λ_=>?_,λq hq u hu=>?_⟩
   ·unfold QK at h2; rw [RP] at h2; rw [U1] at hc ⊢; omega
   ·rcases G6 q k with h5 | h5
    ·exact(QK.of hc).tr (h4 q h5 u hu)
    ·obtain rfl:q=k:=aj
     rw [hz] at hu; cases hu; exact QK.rf _
  ·rename_i hc
   refine⟨y,h1,h2,h3,λq hq u hu=>?_⟩
   rcases G6 q k with h5 | h5
   ·exact h4 q h5 u hu
   ·obtain rfl:q=k:=aj
    rw [<- akl hu h1] at hc;unfold QK; simpa using hc
def ab2(l:V dW)(i:Nat):∀ k,jA l i k=i∨jA l i k<=2*i+k
 | 0=>.inl rfl
 | k+1=>by
  unfold jA; split
  ·right; omega
  ·have:=ab2 l i k; omega
def Zn:∀(f:Nat)(l:V dW)(i:Nat),l.length - i<f->i<l.length->(∀ j,0<j->(j - 1) / 2≠i->agV l j)->
  (∀ j,(j - 1) / 2=i->0<i->0<j->∀ z y,l[(i - 1) / 2]? = some z->l[j]? = some y->QK z y)->D9 (zU f l i)
 | 0,_,_,h,_,_,_=>absurd h (Qe _)
 | f+1,l,i,hf,hi,h1,h2=>by
  unfold zU;obtain⟨x,hx⟩:=bH hi;obtain⟨y,hy,hyx,hy3,hy4⟩:=Zm l i hx 2;have hlt:=EN l i 2;have hle:=ab2 l i 2
  generalize jA l i 2=m at *
  split
  ·rename_i e
   subst e;rw [hx] at hy; cases hy;intro j hj
   by_cases e:(j - 1) / 2=m
   ·intro u v hu hv
    rw [e,hx] at hu; cases hu;exact hy4 (j - (2*m+1)) aj v (by rw [show 2*m+1+(j - (2*m+1))=j by omega]; exact hv)
   ·exact h1 j hj e
  ·rename_i hne
   rw [hx,hy];show D9 (zU f ((l.set i y).set m x) m);have hm:m<l.length:=aP hy;have hpm:(m - 1) / 2=i:=aj;have hg:=λj=>agW (j:=j) (x:=x) (y:=y) hi hm hne;refine Zn f _ _ (by rw [iC,iC]; omega) (by rw [iC,iC]; omega) (λj hj hjp u v hu hv=>?_) (λj hj hp0 hj0 u v hu hv=>?_)
   ·rw [hg] at hu hv
    rw [aQ hjp] at hu
    by_cases e1:j=m
    ·subst e1
     rw [aS rfl] at hv; rw [aS hpm] at hu
     cases hu; cases hv; exact hyx
    ·rw [aQ e1] at hv
     by_cases e2:j=i
     ·subst e2
      rw [aS rfl] at hv; cases hv;rw [aQ aj] at hu;exact h2 m hpm hj aj _ _ hu hy
     ·rw [aQ e2] at hv
      by_cases e3:(j - 1) / 2=i
      ·rw [aS e3] at hu; cases hu
       exact hy4 (j - (2*i+1)) aj v (by rw [show 2*i+1+(j - (2*i+1))=j by omega]; exact hv)
      ·rw [aQ e3] at hu
       exact h1 j hj e3 _ _ hu hv
   ·rw [hg] at hu hv
    rw [aQ aj,aS hpm] at hu; cases hu;rw [aQ aj,aQ aj] at hv;exact h1 j hj0 aj _ _ (hj▸hy) hv
def D9.top{l:V dW}(h:D9 l){t:dW}(ht:l[0]? = some t):∀(j:Nat)(y:dW),l[j]? = some y->QK t y:=λj=>by
 induction j using Nat.strongRecOn with
 | ind j ih=>
  intro y hy
  by_cases e:j=0
  ·subst e; rw [ht] at hy; cases hy; exact QK.rf _
  ·have hj:=aP hy
   obtain⟨x,hx⟩:=bH (xs:=l) (i:=(j - 1) / 2) aj;exact(ih _ aj x hx).tr (h j aj x y hx hy)
def asQ{l:V dW}(hl:0<l.length)(h:∀ j,0<j->j≠l.length - 1->agV l j):D9 (upL l):=
 agY _ _ _ aj aj h λj hj hp hj0 z y _ hy=>by have:=aP hy; omega
def aoU{l:V dW}(h:D9 l)(n:dW):D9 (adM l n):=by
 refine asQ av λj hj hne x y hx hy=>?_;have hlt:=aP hy
 simp only [jH,oO,u6] at hlt hne
 rw [Yk aj] at hx hy;exact h j hj x y hx hy
def aoV(l:V dW)(n:dW):(adM l n).Perm (n::l):=(agX _ _ _).trans Ar
def akp{l:V dW}(h:∀ j,0<j->(j - 1) / 2≠0->agV l j):D9 (RI l):=by
 rcases Nat.eq_zero_or_pos l.length with h0 | h0
 ·obtain rfl:=xY h0
  intro j _ x y hx hy;have:=aP hy;unfold RI at this; rw [UZ] at this; simp at this
 ·exact Zn _ _ _ aj h0 h λj hj h0=>by omega
def akq{l:V dW}(h:D9 l):D9 (D8 l):=by
 unfold D8
 split
 ·rename_i z hz
  refine akp λj hj hne x y hx hy=>?_;have hlt:=aP hy;rw [YL (by simp at hlt; omega),Jv aj] at hx hy;exact h j hj x y hx hy
 ·exact h
def Zo{l:V dW}(hl:0<l.length):(takeN l::D8 l).Perm l:=by
 obtain⟨t,ht⟩:=bH hl;obtain⟨z,hz⟩:=bH (xs:=l) (i:=l.length - 1) aj;rw [Zi ht,agP hz];have h1:(RI ((l.set 0 z).take (l.length - 1))).Perm ((l.set 0 z).take (l.length - 1)):=Zl _ _ _;refine(h1.cons t).trans ?_
 cases l with
 | nil=>simp at hl
 | cons a r=>
  simp only [List.getElem?_cons_zero,Yp] at ht; subst ht
  simp only [oO,Nat.add_sub_cancel,List.set_cons_zero] at hz ⊢
  cases hr:r.length with
  | zero=>obtain rfl:=xY hr; exact J2 _
  | succ m=>
   rw [hr] at hz;rw [List.take_succ_cons]
   simp only [List.getElem?_cons_succ] at hz
   have h2:r=r.take m++[z]:=by
    obtain⟨hm,hz'⟩:=rG.1 hz;have h3:r.drop m=[z]:=by rw [CF hm,hz',Hg aj]
    have:=Gp m r;rw [h3] at this; exact this.symm
   refine List.Perm.cons _ ?_
   conv=>rhs; rw [h2]
   exact(Ar (l₁:=[z]))
def agZ:∀(f:Nat)(q:V dW),q.length<=f->D9 q->(drain f q).Perm q/\(drain f q).Pairwise QK
 | 0,q,h,_=>by obtain rfl:=xY (Nat.le_zero.1 h); exact⟨J2 _,List.Pairwise.nil⟩
 | f+1,q,h,hh=>by
  unfold drain
  split
  ·rename_i hc
   have hl:0<q.length:=iY hc;have ih:=agZ f (D8 q) (by rw [U0]; omega) (akq hh);refine⟨(ih.1.cons _).trans (Zo hl),nT.2 ⟨λy hy=>?_,ih.2⟩⟩;obtain⟨t,ht⟩:=bH hl;rw [Zi ht];have hm:y∈q:=(Zo hl).mem_iff.1 (kL _ (ih.1.mem_iff.1 hy));obtain⟨j,hj⟩:=uq hm;exact hh.top ht j y hj
  ·rename_i hc
   have hl:¬ 0<q.length:=λh=>hc (tY h);obtain rfl:=xY (show q.length=0 by omega);exact⟨J2 _,List.Pairwise.nil⟩
def aoW(all:V aT)(D:V Int)(bQ:Int)(aYc:V aH):(pQ all D bQ aYc).Perm ((aYc.filter (PK all D bQ)).map (Nb all D))/\D9 (pQ all D bQ aYc):=by
 have key:∀(aYc:V aH)(q:V dW),D9 q->(aYc.foldl (J4 all D bQ) q).Perm (q++(aYc.filter (PK all D bQ)).map (Nb all D))/\D9 (aYc.foldl (J4 all D bQ) q):=by
  intro aYc
  induction aYc with
  | nil=>intro q h; exact⟨av,h⟩
  | cons c aYc ih=>
   intro q h;rw [vY,MO];unfold J4
   split
   ·rename_i hc
    have h1:=ih _ (aoU h (Nb all D c));refine⟨h1.1.trans ?_,h1.2⟩;rw [mg];exact((aoV _ _).append_right _).trans (HY).symm
   ·rename_i hc
    exact ih q h
 have:=key aYc [] (λj hj x y hx=>by simp at hx)
 simpa [pQ] using this
def ab3(l:V aH)(all:V aT)(D:V Int)(bQ:Int):(Ib l all D bQ).Perm ((l.filter (PK all D bQ)).map (Nb all D))/\(Ib l all D bQ).Pairwise QK:=by
 have h1:=aoW all D bQ l;have h2:=agZ _ _ (j4 _) h1.2;exact⟨h2.1.trans h1.1,h2.2⟩
theorem Qf{l:V aH}{n:dW}:n∈Ib l all D bQ↔∃ c∈l,PK all D bQ c=true/\n=Nb all D c:=by
 rw [(ab3 l all D bQ).1.mem_iff,eX]
 constructor
 ·rintro⟨c,h,rfl⟩; exact⟨c,(jJ.1 h).1,(jJ.1 h).2,rfl⟩
 ·rintro⟨c,h1,h2,rfl⟩; exact⟨c,jJ.2 ⟨h1,h2⟩,rfl⟩
def akr(l:V aH)(all:V aT)(D:V Int)(bQ:Int):(Ib l all D bQ).length<=l.length:=by
 rw [(ab3 l all D bQ).1.length_eq,jW]; exact mW _ _
end
section
variable {iL:List aL}{l:List aH}{S0 S:Nat->Prop}{wP Xh AL:ah}{b w:World}{F:List kF}{Xi:Nat}{ls:List bq}{v0 v2 v5 v6 v9 v11 v13 v14 v16:Value}{dG all:Int}
structure ARules where
  lD:Int
  l9:Int
  All:Int
  je:Int
  gV:Int
  eF:Int
  deriving DecidableEq
def ARules.enc(x:ARules):List Value:=[.int .i64 x.lD,.int .i64 x.l9,.int .i64 x.All,.int .i64 x.je,.int .i64 x.gV,.int .i64 x.eF]
def ARules.kP(x:ARules):∀ u∈x.enc,u.oneCell'=true:=by
 intro u hu
 simp only [ARules.enc,gW,lH,qM] at hu
 rcases hu with rfl | rfl | rfl | rfl | rfl | rfl <;> rfl
def ARules.wf(x:ARules):Prop:=vJ x.lD/\vJ x.l9/\vJ x.All/\vJ x.je/\vJ x.gV/\vJ x.eF
def tRules:Ty ARules:=Ty.flat 6 ARules.enc au (λ_=>rfl) ARules.kP
instance:Flat tRules:=⟨λh=>h⟩
structure fQ where
  bZ:List eP
  bG:List bq
  bn:List aL
  deriving DecidableEq
def sW(n most:Int):Bool:=decide (1<=n)&&decide (n<=most)
def l5(r:ARules):Bool:=((((sW r.lD 1048576&&sW r.gV 1048576)&&sW r.l9 64)&&sW r.All 64)&&sW r.je 8)&&sW r.eF 16
def mQ(iL:List aL)(aN:Int):List Int:=(iL.filter fun(o:aL)=>decide (o.X=aN)).map aL.To
def ab4(Z:Int)(o:aL):Bool:=decide (o.iK<Z)
def eT(s:fQ)(Z:Int):fQ:=⟨s.bZ,s.bG.filter (inB Z),s.bn.filter fun(x9:aL)=>!(ab4 Z x9)⟩
def oo(iL:List aL)(c:aH):aH:={ c with aD:=c.aD.filter fun(x9:Int)=>!((mQ iL c.ID).contains x9) }
abbrev vN(iL:List aL)(l:List aH)(k:Nat):List aH:=(l.take k).map (oo iL)++l.drop k
def zV(l:List aH)(iL:List aL):List aH:=l.map (oo iL)
def ab5(iL:V aL)(l:V aH)(k:Nat):(vN iL l k).length=l.length:=by simp [vN]; omega
def ab6{k:Nat}{x:aH}(hx:(vN iL l k)[k]? = some x):l[k]? = some x:=by
 have hk:=aP hx;rw [ab5] at hk;rw [aby (by simp; omega)] at hx;rw [G5] at hx
 simp only [jW,iX] at hx
 rwa [show k+(k - min k l.length)=k by omega] at hx
abbrev GH(gX:List aL)(iP:aH)(xE:Int):=(mQ gX iP.ID).contains xE
def aoX{k:Nat}{x:aH}(hx0:(vN iL l k)[k]? = some x):(vN iL l k).set k { x with aD:=x.aD.filter fun(x9:Int)=>!(GH iL x x9) }=vN iL l (k+1):=by
 have hx:=ab6 hx0;have hk:=aP hx;have hd:l.drop k=x::l.drop (k+1):=by rw [CF hk,(rG.1 hx).2]
 have hl:((l.take k).map (oo iL)).length=k:=by simp; omega
 show((l.take k).map (oo iL)++l.drop k).set k (oo iL x)=_;unfold vN;rw [eO hx,sU,hd,List.set_append_right _ _ aj,hl,Nat.sub_self]
 simp
def aoY(iL:V aL)(aN:Int):(mQ iL aN).length<=iL.length:=by unfold mQ; rw [jW]; exact mW _ _
def asR  : ∀ w,(Instr.buildSlice 62 0 (List.toArray [])).run prog w=.ok (.slice (some ⟨w.heap.size,0,none⟩) 0 0) (w.alloc (.cells (List.toArray []) 121)):=ay
abbrev adO:Value:=.agg #[O 0,O 0,O 0,gP 0,O 0,O 0,O 0]
def FC:kH prog 121 7 56:=by
 obtain⟨i,h1,h2,h3,h4⟩:=qo (show(prog.info? 121).map (λi=>(i.zero,i.size,i.bytes))=some (some adO,7,56) by kernel_rfl);exact⟨i,_,h1,h2,h3,h4,Y⟩
def asT:wT prog 121 7 56:=by
 obtain⟨i,h1,h2,h3,h4⟩:=qo (show(prog.info? 121).map (λi=>(i.zero,i.size,i.bytes))=some (some adO,7,56) by kernel_rfl);exact⟨i,_,h1,h2,h3,h4,Y,λv hv=>mD.1 (show(Value.cells adO).toList.all (λv=>v.oneCell')=true from Y) v hv⟩
def adP:bU prog 23 0 0:=ay
def ag0:bC prog 61:=ay
def RQ:bU prog 23 4 4:=ay
def adQ:bU prog 23 1 1:=ay
def amf:bU prog 23 2 2:=ay
def GI:bU prog 23 3 3:=ay
def adR:bU prog 23 5 5:=ay
def AY:bU prog 121 5 5:=ay
def Zp:bU prog 121 6 6:=ay
def Et:∀ w,(zeroValue 64).run prog w=.ok (.agg #[.slice none 0 0,.slice none 0 0,.slice none 0 0]) w:=ay
def GJ:bU prog 64 0 0:=ay
def yZ:bU prog 64 1 1:=ay
def aAO:kW prog 61:=ay
def aHi:Size prog 61 1:=ay
def Eu:bU prog 64 2 2:=ay
def aAP:kW prog 62:=ay
def aC9:bC prog 171:=ay
def aAQ:Size prog 64 3:=ay
def Lm:WC prog 64 3:=⟨λ_=>by kernel_rfl,aAQ⟩
def Db(w:World){vk:Nat}{s:V aL}(sP:Sl bA S0 w wP vk s)(hn:s.length<=1000000):bM prog 65 #[.slice wP s.length vk] w λv w'=>∃ A0 c0,v=.slice A0 s.length c0/\Hp w S0 w' [aR bA 121 A0 c0 s]:=by
 refine lg S0 func65 ntmps65 Y λH0=>?_;have qU:=xq;have qI:=FC;have qB:=@asR;exact mCL
abbrev amg(gX:aL):=([.agg #[O gX.Kind,O gX.X,O gX.E,gP gX.Sum,O gX.jm,O gX.To,O gX.iK]]:List Value)
def GK(w:World){vk:Nat}{s:V aL}(sP:Sl bA S0 w wP vk s){CK:FuncId}{Hr:V Value}(VR:bC prog CK)(f:aL->Bool)(VT:∀(w':World)(x:aL),Ext w w'->x∈s->bM prog CK ((amg x)++Hr).toArray w' λv w''=>v=.bool (f x)/\Ext w' w''):bM prog 237 #[.slice wP s.length vk,.func (.func CK) #[] Hr.toArray] w λv w'=>v=O (idxOf f s)/\Hp w S0 w' []:=by
 refine lg S0 func237 ntmps237 Y λH0=>?_;have qU:=xq;have qZ:=UM;have qG:=zH;exact mIF
def Qg{A:ah}{c:Nat}{xs:V aL}(H0:Hp b S w (aR bA 121 A c xs::F)){fd:FuncId}{kd:V Value}(qd:bC prog fd)(p:aL->Bool)
    (hd:∀(w':World)(ys:V aL)(x:aL),ys.length=xs.length->Hp b S w' (aR bA 121 A c ys::F)->bM prog fd ((amg x)++kd).toArray w' λv w''=>v=.bool (p x)/\Ext w' w'') (hn:xs.length<=1000000) :
    bM prog 170 #[.slice A xs.length c,.func (.func fd) #[] kd.toArray] w λv w'=>v=.slice A (xs.filter λx=>!p x).length c/\Hp b S w' (aR bA 121 A c (xs.filter λx=>!p x)::F):=by
 refine qN func170 ntmps170 Y ?_;have qU:=xq;have qZ:=UM;have qG:=zH;have qO:=Dw;have qE:=asT;have qX:=@GK;exact mDF
def IU(w:World)(n:Int)(most:Int):bM prog 61 #[O n,O most] w λv w'=>v=.bool (sW n most)/\Hp w S0 w' []:=by
 refine lg S0 func61 ntmps61 Y λH0=>pC 7 Y<|iJ 4 11 ((decide (1<=n))&&(decide (n<=most))) ?_ ?_
 ·cases hb7:decide (1<=n) with
  | true=>
   refine pq 4 Y<|dK Y
  | false=>
   refine pq 4 Y<|dK Y
 refine fE Y<|iU Y ?_
 exact⟨by skip <;> rfl,H0⟩
def adS(w:World)(r:ARules):bM prog 19 #[.agg #[O r.lD,O r.l9,O r.All,O r.je,O r.gV,O r.eF]] w λv w'=>v=.bool (l5 r)/\Hp w S0 w' []:=by
 refine lg S0 func19 ntmps19 Y λH0=>rg<|bx Y Y H0 λg1 w1 K1=>fE Y<|rg<|jP g1 0 adP K1 U Y<|mX K1 Y (IU (S0:=Any) _ r.lD 1048576) λw2 K2=>mv Y<|qg 4 10 ((sW r.lD 1048576)&&(sW r.gV 1048576)) ?_ ?_
 ·cases hb6:sW r.lD 1048576 with
  | true=>
   refine wW g1 4 RQ K2 U Y<|om Y Y Y Y ag0 (IU (S0:=Any) _ r.gV 1048576) Y ?_
   rintro _ w3 ⟨rfl,h3⟩;refine pq 1 Y<|jI Y h3.ext
  | false=>
   refine pq 4 Y<|jI Y (oW _)
 intro w4 e4;have K4:=K2.grow e4;refine mv Y<|qg 4 15 (((sW r.lD 1048576)&&(sW r.gV 1048576))&&(sW r.l9 64)) ?_ ?_
 ·cases UD:((sW r.lD 1048576)&&(sW r.gV 1048576)) with
  | true=>
   have MW:=UD
   try simp only [aA] at MW
   refine wW g1 1 adQ K4 U Y<|om Y Y Y Y ag0 (IU (S0:=Any) _ r.l9 64) Y ?_
   rintro _ w5 ⟨rfl,h5⟩;refine pq 1 Y<|jI Y h5.ext
  | false=>
   refine pq 4 Y<|jI Y (oW _)
 intro w6 e6;have K6:=K4.grow e6;refine mv Y<|qg 4 20 ((((sW r.lD 1048576)&&(sW r.gV 1048576))&&(sW r.l9 64))&&(sW r.All 64)) ?_ ?_
 ·cases YQ:(((sW r.lD 1048576)&&(sW r.gV 1048576))&&(sW r.l9 64)) with
  | true=>
   have Rf:=YQ
   try simp only [aA] at Rf
   refine wW g1 2 amf K6 U Y<|om Y Y Y Y ag0 (IU (S0:=Any) _ r.All 64) Y ?_
   rintro _ w7 ⟨rfl,h7⟩;refine pq 1 Y<|jI Y h7.ext
  | false=>
   refine pq 4 Y<|jI Y (oW _)
 intro w8 e8;have K8:=K6.grow e8;refine mv Y<|qg 4 25 (((((sW r.lD 1048576)&&(sW r.gV 1048576))&&(sW r.l9 64))&&(sW r.All 64))&&(sW r.je 8)) ?_ ?_
 ·cases WM:((((sW r.lD 1048576)&&(sW r.gV 1048576))&&(sW r.l9 64))&&(sW r.All 64)) with
  | true=>
   have aHj:=WM
   try simp only [aA] at aHj
   refine wW g1 3 GI K8 U Y<|om Y Y Y Y ag0 (IU (S0:=Any) _ r.je 8) Y ?_
   rintro _ w9 ⟨rfl,h9⟩;refine pq 1 Y<|jI Y h9.ext
  | false=>
   refine pq 4 Y<|jI Y (oW _)
 intro PE e10;have K10:=K8.grow e10;refine mv Y<|qg 4 30 ((((((sW r.lD 1048576)&&(sW r.gV 1048576))&&(sW r.l9 64))&&(sW r.All 64))&&(sW r.je 8))&&(sW r.eF 16)) ?_ ?_
 ·cases aNI:(((((sW r.lD 1048576)&&(sW r.gV 1048576))&&(sW r.l9 64))&&(sW r.All 64))&&(sW r.je 8)) with
  | true=>
   have aHk:=aNI
   try simp only [aA] at aHk
   refine wW g1 5 adR K10 U Y<|om Y Y Y Y ag0 (IU (S0:=Any) _ r.eF 16) Y ?_
   rintro _ VY ⟨rfl,h11⟩;refine pq 1 Y<|jI Y h11.ext
  | false=>
   refine pq 4 Y<|jI Y (oW _)
 intro Uy e12;have uR:=K10.grow e12;refine fE Y<|iU Y ?_
 exact⟨by skip <;> rfl,(uR.rm U)⟩
def ag1(w:World)(RS:Sl bA S0 w Xh Xi iL)(aN:Int)(hn:iL.length<=100000):bM prog 172 #[.slice Xh iL.length Xi,O aN] w λv w'=>∃ A0 c0,v=.slice A0 ((mQ iL aN).length) c0/\Hp w S0 w' [aR dN 3 A0 c0 (mQ iL aN)]:=by
 refine lg S0 func172 ntmps172 Y λH0=>?_;have hq:=λk=>mW (fun(o:aL)=>decide (o.X=aN)) (iL.take k)
 simp only [iX] at hq
 refine kX Y<|kX Y<|aZ<|gD Y<|ev (jf xq Y)<|mv Y<|dn<|dF ?_
 have H1:=H0.nil dN 3;have gy:(([]:V Int):V Int)=(((iL.take 0).filter (fun(o:aL)=>decide (o.X=aN))).map aL.To):=by rfl
 refine mP (t:=5) Y (aY (λz=>Value.slice none (List.length z) 0) gy) ?_;have H2:=H1.nil dN 3;have H3:=(gy▸H2:Hp w S0 w (aR dN 3 none 0 (((iL.take 0).filter (fun(o:aL)=>decide (o.X=aN))).map aL.To)::[aR dN 3 none 0 []]));refine Lp (H3.cU 0 2) (λl0 rk mJ lJ wJ=>∃ k A5 c5,lJ=(5,.slice A5 ((((iL.take k).filter (fun(o:aL)=>decide (o.X=aN))).map aL.To).length) c5)::(10,O ((k:Nat):Int))::l0/\mJ=iL.length - k/\k<=iL.length/\Hp w S0 wJ (aR dN 3 A5 c5 (((iL.take k).filter (fun(o:aL)=>decide (o.X=aN))).map aL.To)::rk)) ⟨0,none,0,Y,Y,fI _,(H3.rm s1)⟩ Y ?_;rintro _ _ w1 ⟨k,A5,c5,rfl,rfl,hk,K1⟩;refine rg<|ev (iH Y Y)<|dn<|r9 Y (λzG=>?_) (λzG=>?_)
 ·refine jQ ?_;refine aZ<|dF<|rg ?_
  obtain⟨x1,bT⟩:=bH (xs:=iL) (i:=k) aj;refine ev (d9 (i:=k) xq UM Y Y Y (aP bT) ((K1.a RS).some_ bT))<|ev (iR zH Y Y ((K1.a RS).fF bT))<|al Dw Y K1 λg1 w2 K2=>sty Y K2 U Y λw3 K3=>dn<|rg<|jP g1 1 uF K3 U Y<|pA 3 Y<|o8 Y (λhc17=>?_) (λhc17=>?_)
  ·refine jN<|mv Y<|jP g1 5 AY K3 U Y<|yV Y (by intro _; apply pI) rfl K3 (λ_ _=>rfl) λg2 w4 K4=>ap (ys:=([x1.To]:V Int)) K4 s2 rfl rfl (K4.o U) gq LB (by have:=hq k; simp only [jW]; omega) av rfl λsQ sS w5 K5=>oJ rfl<|jO<|iF (fV ?_)
   refine jN<|ev (eG Y Y)<|mv Y<|jO ?_
   have gH:(((((iL.take k).filter (fun(o:aL)=>decide (o.X=aN))).map aL.To)++([x1.To]:V Int)):V Int)=(((iL.take (k+1)).filter (fun(o:aL)=>decide (o.X=aN))).map aL.To):=by rw [nL bT]; simp [hc17]
   refine ji (t:=5) Y (aY (λz=>Value.slice sQ (List.length z) sS) gH) ?_;rw [gH] at K5;exact dX ⟨(k+1),sQ,sS,Y,Y,aj,(K5.cU 1 2)⟩ rfl aj
  refine Gw ?_;refine jN<|ev (eG Y Y)<|mv Y<|jO ?_
  have kN:((((iL.take k).filter (fun(o:aL)=>decide (o.X=aN))).map aL.To):V Int)=(((iL.take (k+1)).filter (fun(o:aL)=>decide (o.X=aN))).map aL.To):=by rw [nL bT]; simp [hc17]
  refine ji (t:=5) Y (aY (λz=>Value.slice A5 (List.length z) c5) kN) ?_;rw [kN] at K3;exact dX ⟨(k+1),A5,c5,Y,Y,aj,(K3.rm U)⟩ rfl aj
 refine BU ?_;refine gD Y<|fE Y<|iU Y ?_
 have nM:((((iL.take k).filter (fun(o:aL)=>decide (o.X=aN))).map aL.To):V Int)=(mQ iL aN):=by rw [gY aj]; rfl
 rw [nM] at K1;exact⟨A5,c5,by rw [nM] <;> rfl,K1⟩
def aoZ(w:World)(o:aL){aAR:Nat}(Z:Int)(aHl:Bx w aAR 3 [O Z]):bM prog 171 #[.agg #[O o.Kind,O o.X,O o.E,gP o.Sum,O o.jm,O o.To,O o.iK],fK aAR] w λv w'=>v=.bool (ab4 Z o)/\Hp w S0 w' []:=by
 refine lg S0 func171 ntmps171 Y λH0=>rg<|bx Y Y H0 λg1 w1 K1=>fE Y<|rg<|jP g1 6 Zp K1 U Y<|ev (dU jF Y (aHl.ext K1.ext) Y)<|pA 3 Y<|iU Y ?_
 exact⟨by skip <;> rfl,(K1.rm U)⟩
def ag2(w:World)(s:fQ){adT:ah}{adU:Nat}(ax7:Sl iG S0 w adT adU s.bZ){adV:ah}{adW:Nat}(ax8:Sl dB S0 w adV adW s.bG){adX:ah}{adY:Nat}(ax9:Sl bA S0 w adX adY s.bn)(Z:Int)(hb:s.bZ.length<=100000)(hl:s.bG.length<=1000)(hd:s.bn.length<=100000):bM prog 97 #[.agg #[.slice adT s.bZ.length adU,.slice adV s.bG.length adW,.slice adX s.bn.length adY],O Z] w λv w'=>∃ wM wN Ab Ad Ae Af,v=.agg #[.slice wM (((eT s Z).bZ).length) wN,.slice Ab (((eT s Z).bG).length) Ad,.slice Ae (((eT s Z).bn).length) Af]/\Hp w S0 w' [aR iG 162 wM wN ((eT s Z).bZ),aR dB 165 Ab Ad ((eT s Z).bG),aR bA 121 Ae Af ((eT s Z).bn)]:=by
 refine lg S0 func97 ntmps97 Y λH0=>rg<|bx Y Y H0 λg1 w1 K1=>bx Y Y K1 λg2 w2 K2=>al Et Y K2 λg3 w3 K3=>dn<|rg<|jP g1 0 GJ K3 s2 Y<|gu Y (Es _ (K3.a ax7).any aj) ?_
 rintro _ w4 ⟨sG,sH,rfl,h4⟩;have K4:=K3.f1 h4;refine zA g1 0 GJ Y<|xD Y K4 s3 Y λw5 K5=>dn<|rg<|jP g1 1 yZ K5 U Y<|lY K5 s3 Y<|gu Y (agI _ (K5.a ax8).any Z aj) ?_
 rintro _ w6 ⟨Gi,Gj,aTM,aTN,rfl,h6⟩;have K6:=K5.f2 h6;refine pq 3 Y<|zA g1 1 yZ Y<|xD Y K6 s2 Y λw7 K7=>dn<|rg<|jP g1 2 Eu K7 U Y<|gu Y (Db _ (K7.a ax9).any aj) ?_
 rintro _ w8 ⟨JQ,JR,rfl,h8⟩;have K8:=K7.f1 h8;refine ev (rZ Y)<|gu Y (Qg (K8.sel U) aC9 (λx9=>ab4 Z x9) (λw9 ys x9 hl9 K9=>(aoZ (S0:=Any) w9 x9 Z (K9.x s6)).mono (by rintro _ w8 ⟨rfl,K8⟩; exact⟨rfl,K8.ext⟩)) aj) ?_
 rintro _ w9 ⟨rfl,K9⟩;refine zA g1 2 Eu Y<|xD Y K9 s1 Y λPE K10=>dn<|rg<|ev (fA Lm Y Y (K10.x U))<|sty Y K10 s5 Y λVY vF=>dn<|jE (qL Y ⟨_,_,Y,⟨_,Y,jo Lm Y (vF.x U)⟩,Y⟩ ?_)
 have gy:((⟨s.bZ,s.bG.filter (inB Z),(s.bn.filter λx9=>!(ab4 Z x9))⟩:fQ):fQ)=(eT s Z):=by rfl
 have gH:(s.bZ:V eP)=((eT s Z).bZ):=by rw [<- gy]
 have kN:(s.bG.filter (inB Z):V bq)=((eT s Z).bG):=by rw [<- gy]
 have nM:((s.bn.filter λx9=>!(ab4 Z x9)):V aL)=((eT s Z).bn):=by rw [<- gy]
 exact⟨sG,sH,Gi,Gj,JQ,JR,by rw [gH,kN,nM] <;> rfl,by rw [<- gH,<- kN,<- nM]; exact((((((vF.rm s6).rm s4).cU 0 2).sel U).sel s1).sel s2)⟩
def aDa:bC prog 173:=ay
def ao0(w:World)(id:Int){asU:Nat}{asV:ah}{asW:Nat}{went:V Int}(aDb:Bx w asU 46 [.slice asV went.length asW])(aDc:Sl dN S0 w asV asW went):bM prog 173 #[O id,fK asU] w λv w'=>v=.bool (went.contains id)/\Hp w S0 w' []:=by
 refine lg S0 func173 ntmps173 Y λH0=>kX Y<|rg<|ev (dU EX Y (aDb.ext H0.ext) Y)<|mv Y<|mX H0 Y (kJ _ (H0.a aDc).any id) λw1 K1=>fE Y<|iU Y ?_
 exact⟨Y,K1⟩
def asX(w:World){jL:ah}{jK:Nat}(jq:Sl bD S0 w jL jK l)(RS:Sl bA Any w Xh Xi iL)(hn:l.length<=100000)(hd:iL.length<=100000)(hh:∀ x∈l,x.aD.length<=100000):bM prog 98 #[.slice jL l.length jK,.slice Xh iL.length Xi] w λv w'=>∃ A0 c0,v=.slice A0 ((zV l iL).length) c0/\Hp w S0 w' [aR bD 48 A0 c0 (zV l iL)]:=by
 refine lg S0 func98 ntmps98 Y λH0=>?_;have Iz:=jq.bI;have aHm:=RS.bI;refine pC 5 Y<|gu Y (vS _ (H0.a jq) aj) ?_
 rintro _ w1 ⟨jT,jU,rfl,h1⟩;have K1:=H0.c1 h1;refine fE Y<|aZ<|gD Y<|ev (jf lT Y)<|mv Y<|dn<|dF ?_
 have gy:(l:V aH)=(vN iL l 0):=by simp [vN]
 refine mP (t:=5) Y (aY (λz=>Value.slice jT (List.length z) jU) gy)<|mP (t:=11) Y (aY (λz=>Value.slice jT (List.length z) jU) gy) ?_
 rw [gy] at K1;refine Lp (K1.rm U) (λl0 rk mJ lJ wJ=>∃ k A5 c5,lJ=(5,.slice A5 ((vN iL l k).length) c5)::(11,.slice A5 ((vN iL l k).length) c5)::(13,O ((k:Nat):Int))::l0/\mJ=l.length - k/\k<=l.length/\Hp w S0 wJ (aR bD 48 A5 c5 (vN iL l k)::rk)) ⟨0,jT,jU,Y,Y,fI _,K1⟩ Y ?_;rintro _ _ w2 ⟨k,A5,c5,rfl,rfl,hk,K2⟩;have hml:=ab5 iL l k;refine rg<|ev (iH Y Y)<|dn<|r9 Y (λrR=>?_) (λrR=>?_)
 ·refine jQ ?_;refine aZ<|dF<|gD Y ?_
  obtain⟨x1,bT⟩:=bH (xs:=(vN iL l k)) (i:=k) aj;refine ev (d9 lT tH Y Y Y (aP bT) ((K2.o U).some_ bT)) ?_;obtain⟨B1,d1,yG,hi1⟩:=CG (K2.oi U bT);have H1:=K2.push hi1;refine ev (iR p8 Y Y (Gu yG))<|al lX Y H1 λg1 w3 K3=>oJ Y<|sty Y K3 U Y λw4 K4=>dn<|gD Y<|jP g1 0 pG K4 U Y<|gu Y (ag1 _ (RS.ext K4.ext) x1.ID aj) ?_
  rintro _ w5 ⟨Du,Dv,rfl,h5⟩;have K5:=K4.f1 h5;have aHa:=(K5.o U).bI;refine al adF Y K5 λg2 w6 K6=>xD Y K6 U Y λw7 K7=>dn ?_;have hhx:=hh _ (dz (ab6 bT));refine jN<|pq 2 Y<|jP g1 3 kr K7 s2 Y<|gu Y (sw _ (K7.s s3).any aj) ?_
  rintro _ w8 ⟨JQ,JR,rfl,h8⟩;have K8:=K7.f1 h8;refine ev (rZ Y)<|gu Y (oN (K8.sel U) aDa (λx9=>(mQ iL x1.ID).contains x9) (λw9 ys x9 hl9 K9=>(ao0 w9 x9 (K9.x s1) (K9.o s2)).mono (by rintro _ w8 ⟨rfl,K8⟩; exact⟨rfl,K8.ext⟩)) aj) ?_
  rintro _ w9 ⟨rfl,K9⟩;refine ev (d9 lT tH Y Y Y (aP bT) ((K9.o s5).some_ bT))<|ev (fq kr Y (fD _ _ _)) ?_
  have H2:=K9.fz U;refine se (x':={ x1 with aD:=(x1.aD.filter λx9=>!(GH iL x1 x9)) }) (ds:=[.slice JQ ((x1.aD.filter λx9=>!(GH iL x1 x9)).length) JR]) H2 s5 Y Y Y bT Y VU (nU Y) Y (λ_ _ hk h=>by obtain⟨_,_,rfl,_⟩:=h; exact⟨_,_,rfl,hk (H2.s U)⟩) λPE K10=>?_;have hl1:((vN iL l k).set k ({ x1 with aD:=(x1.aD.filter λx9=>!(GH iL x1 x9)) })).length=(vN iL l k).length:=iC ..;refine gZ (t:=5) (u:=.slice A5 ((vN iL l k).length) c5) (v:=.slice A5 (((vN iL l k).set k ({ x1 with aD:=(x1.aD.filter λx9=>!(GH iL x1 x9)) })).length) c5) Y (by rw [hl1])<|gZ (t:=11) (u:=.slice A5 ((vN iL l k).length) c5) (v:=.slice A5 (((vN iL l k).set k ({ x1 with aD:=(x1.aD.filter λx9=>!(GH iL x1 x9)) })).length) c5) rfl (by rw [hl1])<|gZ (t:=22) (u:=.slice A5 ((vN iL l k).length) c5) (v:=.slice A5 (((vN iL l k).set k ({ x1 with aD:=(x1.aD.filter λx9=>!(GH iL x1 x9)) })).length) c5) rfl (by rw [hl1]) ?_
  refine jO<|iF (fV ?_)
  refine jN<|ev (eG Y Y)<|mv Y<|jO ?_
  have gH:(((vN iL l k).set k ({ x1 with aD:=(x1.aD.filter λx9=>!(GH iL x1 x9)) })):V aH)=(vN iL l (k+1)):=by exact aoX bT
  refine ji (t:=5) Y (aY (λz=>Value.slice A5 (List.length z) c5) gH)<|ji (t:=11) Y (aY (λz=>Value.slice A5 (List.length z) c5) gH) ?_
  rw [gH] at K10;exact dX ⟨(k+1),A5,c5,Y,Y,aj,(K10.cU 1 5)⟩ rfl aj
 refine BU ?_;refine gD Y<|fE Y<|iU Y ?_
 have kN:((vN iL l k):V aH)=(zV l iL):=by have hk':k=l.length:=aj; rw [hk']; unfold vN zV; rw [HZ,List.drop_length,Aj]
 rw [kN] at K2;exact⟨A5,c5,by rw [kN] <;> rfl,K2⟩
structure fB where
  Client:Int
  Seq:Int
  Answer:Int
  deriving DecidableEq
def fB.enc(x:fB):List Value:=[.int .i64 x.Client,.int .i64 x.Seq,.int .i64 x.Answer]
def fB.kP(x:fB):∀ u∈x.enc,u.oneCell'=true:=by
 intro u hu
 simp only [fB.enc,gW,lH,qM] at hu
 rcases hu with rfl | rfl | rfl <;> rfl
def cB:Ty fB:=Ty.flat 3 fB.enc au (λ_=>rfl) fB.kP
instance:Flat cB:=⟨λh=>h⟩
structure eU where
  Client:Int
  Seq:Int
  Kind:Int
  A:Int
  B:Int
  C:Int
  deriving DecidableEq
def eU.enc(x:eU):List Value:=[.int .i64 x.Client,.int .i64 x.Seq,.int .i64 x.Kind,.int .i64 x.A,.int .i64 x.B,.int .i64 x.C]
def eU.kP(x:eU):∀ u∈x.enc,u.oneCell'=true:=by
 intro u hu
 simp only [eU.enc,gW,lH,qM] at hu
 rcases hu with rfl | rfl | rfl | rfl | rfl | rfl <;> rfl
def BP:Ty eU:=Ty.flat 6 eU.enc au (λ_=>rfl) eU.kP
instance:Flat BP:=⟨λh=>h⟩
structure bY where
  aM:List aT
  J:List aH
  aU:List fB
  deriving DecidableEq
def jB(ls:List bq)(aN:Int):List Int:=(ls.filter fun(x:bq)=>decide (x.X=aN)).map bq.To
def ag3(ls:V bq)(aN:Int):(jB ls aN).length<=ls.length:=by unfold jB; rw [jW]; exact mW _ _
def PL(l:List fJ)(x:bq):List fJ:=⟨x.To,nX l x.To+1⟩::l
def iQ(cs:List aH)(ns:List aT)(ls:List bq):List fJ:=ls.foldl PL (oq cs ns)
def ag4{cs:V aH}{ns:V aT}{k:Nat}{x:bq}(hx:ls[k]? = some x):iQ cs ns (ls.take (k+1))=PL (iQ cs ns (ls.take k)) x:=by
 unfold iQ; rw [eO hx,AP]; rfl
def adZ{P:Int->Prop}{l:V fJ}(h0:P 0)(h:∀ x∈l,P x.N)(id:Int):P (nX l id):=by
 unfold nX; split
 ·rename_i x hx; exact h x (YU hx)
 ·exact h0
def U2(cs:V aH)(ns:V aT)(ls:V bq):(∀ x∈iQ cs ns ls,0<=x.N/\x.N<=cs.length+ls.length)/\(iQ cs ns ls).length<=ns.length+ls.length:=by
 have key:∀(ls:V bq)(l:V fJ)(m:Nat),(∀ x∈l,0<=x.N/\x.N<=(m:Int))->(∀ x∈ls.foldl PL l,0<=x.N/\x.N<=(m:Int)+ls.length)/\(ls.foldl PL l).length=l.length+ls.length:=by
  intro ls
  induction ls with
  | nil=>intro l m h; exact⟨λx hx=>by have:=h x hx; simp; omega,av⟩
  | cons y ls ih=>
   intro l m h;have hp:0<=nX l y.To/\nX l y.To<=(m:Int):=adZ (P:=λz=>0<=z/\z<=(m:Int)) ⟨FB _,aj⟩ h y.To
   have h1:=ih (PL l y) (m+1) (λx hx=>by
    rcases gW.1 hx with rfl | hx
    ·simp only; omega
    ·have:=h x hx; omega)
   refine⟨λx hx=>?_,?_⟩
   ·have:=h1.1 x hx
    simp only [oO]; omega
   ·rw [vY,h1.2]; simp only [PL,oO]; omega
 have h0:(∀ x∈oq cs ns,0<=x.N/\x.N<=(cs.length:Int))/\(oq cs ns).length<=ns.length:=by
  unfold oq; split
  ·refine⟨λx hx=>?_,av⟩
   obtain⟨n,_,rfl⟩:=eX.1 hx;have:=Rk cs n.ID
   simp only; omega
  ·simp
 have h1:=key ls (oq cs ns) cs.length h0.1;exact⟨h1.1,by show(ls.foldl PL (oq cs ns)).length<=_; rw [h1.2]; omega⟩
def aDd:wT prog 221 2 16:=by
 obtain⟨i,h1,h2,h3,h4⟩:=qo (show(prog.info? 221).map (λi=>(i.zero,i.size,i.bytes))=some (some (.agg #[O 0,O 0]),2,16) by kernel_rfl);exact⟨i,_,h1,h2,h3,h4,Y,λv hv=>mD.1 (show(Value.cells (.agg #[O 0,O 0])).toList.all (λv=>v.oneCell')=true from Y) v hv⟩
def sI:bU prog 169 0 0:=ay
def FD:bU prog 169 1 3:=ay
def jC:bU prog 37 1 1:=ay
def lQ:bU prog 37 0 0:=ay
def aya:ags 140 224 225 131 221 2 16 Tryz.f140.name:=⟨func140.trans (aY some ak),⟨_,func224,ak,ak,ak,ak⟩,YM,ig,adu,ak,ajW,aDd⟩
def PN:=@Ux _ _ _ _ _ _ _ _ nW aya
def U3{g:Nat}{v3 v4 v7 v8 v10 v12 v15:Value}{cL:Nat} (H0:Hp b S w (dJ g 169 [v0,.slice AL ls.length cL,v2,v3,v4,v5,v6,v7,v8,v9,v10,v11,v12,v13,v14,v15,v16]::aR dB 165 AL cL ls::F))(hl:ls.length<=1000)(aN:Int):bM prog 178 #[fK g,O aN] w λv w'=>∃ A c,v=.slice A (jB ls aN).length c/\Hp b S w' (aR dN 3 A c (jB ls aN)::dJ g 169 [v0,.slice AL ls.length cL,v2,v3,v4,v5,v6,v7,v8,v9,v10,v11,v12,v13,v14,v15,v16]::aR dB 165 AL cL ls::F):=by
 refine qN func178 ntmps178 Y ?_;have hq:=λk=>mW (fun(x:bq)=>decide (x.X=aN)) (ls.take k)
 simp only [iX] at hq
 refine kX Y<|kX Y<|aZ<|pC 3 Y<|zA g 0 sI Y<|jP g 1 yZ H0 U Y<|pA 3 Y<|dF ?_
 have H1:=H0.nil dN 3;have gy:(([]:V Int):V Int)=(((ls.take 0).filter (fun(x:bq)=>decide (x.X=aN))).map bq.To):=by rfl
 refine mP (t:=5) Y (aY (λz=>Value.slice none (List.length z) 0) gy) ?_;have H2:=H1.nil dN 3;have H3:=(gy▸H2:Hp b S w (aR dN 3 none 0 (((ls.take 0).filter (fun(x:bq)=>decide (x.X=aN))).map bq.To)::(aR dN 3 none 0 []::dJ g 169 [v0,.slice AL ls.length cL,v2,v3,v4,v5,v6,v7,v8,v9,v10,v11,v12,v13,v14,v15,v16]::aR dB 165 AL cL ls::F)));refine Lp (H3.cU 0 2) (λl0 rk mJ lJ wJ=>∃ k A5 c5,lJ=(5,.slice A5 ((((ls.take k).filter (fun(x:bq)=>decide (x.X=aN))).map bq.To).length) c5)::(14,O ((k:Nat):Int))::l0/\mJ=ls.length - k/\k<=ls.length/\Hp b S wJ (aR dN 3 A5 c5 (((ls.take k).filter (fun(x:bq)=>decide (x.X=aN))).map bq.To)::rk)) ⟨0,none,0,Y,Y,fI _,(H3.rm s1)⟩ Y ?_;rintro _ _ w1 ⟨k,A5,c5,rfl,rfl,hk,K1⟩;refine rg<|ev (iH Y Y)<|dn<|r9 Y (λzB=>?_) (λzB=>?_)
 ·refine jQ ?_;refine aZ<|dF<|rg ?_
  obtain⟨x1,bT⟩:=bH (xs:=ls) (i:=k) aj;refine ev (d9 (i:=k) vw Hz Y Y Y (aP bT) ((K1.o s2).some_ bT))<|ev (iR JY Y Y ((K1.o s2).fF bT))<|al Ru Y K1 λg1 w2 K2=>sty Y K2 U Y λw3 K3=>dn<|rg<|jP g1 0 Rt K3 U Y<|pA 3 Y<|o8 Y (λhc21=>?_) (λhc21=>?_)
  ·refine jN<|mv Y<|jP g1 3 yJ K3 U Y<|yV Y (by intro _; apply pI) rfl K3 (λ_ _=>rfl) λg2 w4 K4=>ap (ys:=([x1.To]:V Int)) K4 s2 rfl rfl (K4.o U) gq LB (by have:=hq k; simp only [jW]; omega) av rfl λsQ sS w5 K5=>oJ rfl<|jO<|iF (fV ?_)
   refine jN<|ev (eG Y Y)<|mv Y<|jO ?_
   have gH:(((((ls.take k).filter (fun(x:bq)=>decide (x.X=aN))).map bq.To)++([x1.To]:V Int)):V Int)=(((ls.take (k+1)).filter (fun(x:bq)=>decide (x.X=aN))).map bq.To):=by rw [nL bT]; simp [hc21]
   refine ji (t:=5) Y (aY (λz=>Value.slice sQ (List.length z) sS) gH) ?_;rw [gH] at K5;exact dX ⟨(k+1),sQ,sS,Y,Y,aj,(K5.cU 1 2)⟩ rfl aj
  refine Gw ?_;refine jN<|ev (eG Y Y)<|mv Y<|jO ?_
  have kN:((((ls.take k).filter (fun(x:bq)=>decide (x.X=aN))).map bq.To):V Int)=(((ls.take (k+1)).filter (fun(x:bq)=>decide (x.X=aN))).map bq.To):=by rw [nL bT]; simp [hc21]
  refine ji (t:=5) Y (aY (λz=>Value.slice A5 (List.length z) c5) kN) ?_;rw [kN] at K3;exact dX ⟨(k+1),A5,c5,Y,Y,aj,(K3.rm U)⟩ rfl aj
 refine BU ?_;refine gD Y<|fE Y<|iU Y ?_
 have hfx:(((ls.take k).filter (fun(x:bq)=>decide (x.X=aN))).map bq.To)=(jB ls aN):=by rw [gY aj]; rfl
 rw [hfx] at K1;exact⟨_,_,by rw [hfx] <;> rfl,K1⟩
def ab7{g:Nat}{v7 v8 v10 v12 v15:Value}{cL:Nat}{AN:ah}{cN:Nat}{ns:V aT}{AK:ah}{cK:Nat}{ks:V aH} (H0:Hp b S w (dJ g 169 [v0,.slice AL ls.length cL,v2,.slice AN ns.length cN,.slice AK ks.length cK,v5,v6,v7,v8,v9,v10,v11,v12,v13,v14,v15,v16]::aR dB 165 AL cL ls::dI bW AN cN ns::dI bD AK cK ks::F))(hl:ls.length<=1000)(hn:ns.length<=1000)(hc:ks.length<=1000):bM prog 180 #[fK g] w λv w'=>∃ A c,v=.slice A (iQ ks ns ls).length c/\Hp b S w' (aR nW 221 A c (iQ ks ns ls)::dJ g 169 [v0,.slice AL ls.length cL,v2,.slice AN ns.length cN,.slice AK ks.length cK,v5,v6,v7,v8,v9,v10,v11,v12,v13,v14,v15,v16]::aR dB 165 AL cL ls::dI bW AN cN ns::dI bD AK cK ks::F):=by
 refine qN func180 ntmps180 Y<|kX Y<|He H0 (λ_ K=>K) (λl0 rk lJ wJ=>∃ jG jr,lJ=(3,.slice jG ((oq ks ns).length) jr)::l0/\Hp b S wJ (aR nW 221 jG jr (oq ks ns)::rk)) (λhns H1=>?_) ?_
 ·refine qp 0 g 3 FD Y H1<|mK 3 4 g 4 jC U Y H1<|qp 5 g 3 FD Y H1<|mK 8 9 g 3 lQ U Y H1<|O1 10 Y<|gu Y (UG _ (H1.s s3).any (H1.s s2).any aj) ?_
  rintro _ w1 ⟨jT,jU,rfl,h1⟩;have K1:=H1.f1 h1;have La:=(K1.o U).bI;have k1:=(K1.rm U);refine aO k1<|xC 11 Y Y k1<|Dn ⟨jT,jU,Y,K1⟩ Y
 rintro _ w2 ⟨jG,jr,rfl,K2⟩;refine aZ<|pC 3 Y<|zA g 0 sI Y<|jP g 1 yZ K2 s1 Y<|pA 3 Y<|dF ?_
 have gy:(oq ks ns:V fJ)=(iQ ks ns (ls.take 0)):=by rfl
 refine mP (t:=3) Y (aY (λz=>Value.slice jG (List.length z) jr) gy) ?_;rw [gy] at K2;refine qh (λmJ lJ wJ=>∃ k A3 c3,lJ=[(3,.slice A3 ((iQ ks ns (ls.take k)).length) c3),(21,.slice AL ls.length cL),(22,O ((ls.length:Nat):Int)),(23,O ((k:Nat):Int))]/\mJ=ls.length - k/\k<=ls.length/\Hp b S wJ (aR nW 221 A3 c3 (iQ ks ns (ls.take k))::dJ g 169 [v0,.slice AL ls.length cL,v2,.slice AN ns.length cN,.slice AK ks.length cK,v5,v6,v7,v8,v9,v10,v11,v12,v13,v14,v15,v16]::aR dB 165 AL cL ls::dI bW AN cN ns::dI bD AK cK ks::F)) ⟨0,jG,jr,Y,Y,fI _,K2⟩ Y ?_;rintro _ _ w3 ⟨k,A3,c3,rfl,rfl,hk,K3⟩;refine rg<|ev (iH Y Y)<|dn<|r9 Y (λhc24=>?_) (λhc24=>?_)
 ·refine jQ ?_;refine aZ<|dF<|rg ?_
  obtain⟨x1,bT⟩:=bH (xs:=ls) (i:=k) aj;refine ev (d9 (i:=k) vw Hz Y Y Y (aP bT) ((K3.o s2).some_ bT))<|ev (iR JY Y Y ((K3.o s2).fF bT))<|al Ru Y K3 λg1 w4 K4=>sty Y K4 U Y λw5 K5=>dn ?_
  have hgb:=U2 ks ns (ls.take k)
  simp only [iX] at hgb
  have hpb:0<=nX (iQ ks ns (ls.take k)) x1.To/\nX (iQ ks ns (ls.take k)) x1.To<=2000:=adZ (P:=λz=>0<=z/\z<=2000) aj (λx hx=>by have:=hgb.1 x hx; omega) _;refine Hf K5 (λ_ K=>(K.rm s1)) (λl0 rk lJ wJ=>∃ oV cj2,lJ=(3,.slice oV (((iQ ks ns (ls.take k)).take 0++[(⟨x1.To,nX (iQ ks ns (ls.take k)) x1.To+1⟩:fJ)]++(iQ ks ns (ls.take k)).drop 0).length) cj2)::l0/\Hp b S wJ (aR nW 221 oV cj2 ((iQ ks ns (ls.take k)).take 0++[(⟨x1.To,nX (iQ ks ns (ls.take k)) x1.To+1⟩:fJ)]++(iQ ks ns (ls.take k)).drop 0)::rk)) (λhns H2=>?_) ?_
  ·have k2:=(H2.rm s1);refine lF 0 Y Y k2<|mK 1 2 g1 3 yJ U Y k2<|lF 3 Y Y k2<|mK 4 5 g1 3 yJ U Y k2<|O1 6 Y<|mX H2 Y (vM _ (H2.o s1) x1.To) λw6 K6=>?_
   have k3:=(K6.rm s1);refine aO k3<|kI 7 Y (λ_ _=>eG Y Y) k3<|kI 8 Y (λ_ _=>iT (vs:=[(0,O x1.To),(1,O (nX (iQ ks ns (ls.take k)) x1.To+1))]) (cs:=[O x1.To,O (nX (iQ ks ns (ls.take k)) x1.To+1)]) Y (by apply JM)) k3<|O1 9 rfl<|yV (τ:=nW) (x:=(⟨x1.To,nX (iQ ks ns (ls.take k)) x1.To+1⟩:fJ)) rfl (by intro _; apply MX) rfl K6 (λ_ _=>rfl) λg2 w7 K7=>?_
   have k4:=((K7.rm s2).rm U);refine aO k4<|O1 10 Y<|gu Y (PN (i:=0) K7 s2 U aj aj) ?_
   rintro _ w8 ⟨sQ,sS,rfl,K8⟩;have k5:=(K8.rm U);refine aO k5<|xC 11 Y Y k5<|Dn ⟨sQ,sS,Y,K8⟩ Y
  rintro _ w9 ⟨oV,cj2,rfl,K9⟩;refine iF (fV ?_);refine jN<|ev (eG Y Y)<|mv Y<|jO ?_
  have gH:(((iQ ks ns (ls.take k)).take 0++[(⟨x1.To,nX (iQ ks ns (ls.take k)) x1.To+1⟩:fJ)]++(iQ ks ns (ls.take k)).drop 0):V fJ)=(iQ ks ns (ls.take (k+1))):=by rw [ag4 bT]; rfl
  refine ji (t:=3) Y (aY (λz=>Value.slice oV (List.length z) cj2) gH) ?_;rw [gH] at K9;exact dX ⟨(k+1),oV,cj2,Y,Y,aj,(K9.rm s1)⟩ rfl aj
 refine BU ?_;refine gD Y<|fE Y<|iU Y ?_
 have hfx:(iQ ks ns (ls.take k))=(iQ ks ns ls):=by rw [gY aj]
 rw [hfx] at K3;exact⟨_,_,by rw [hfx] <;> rfl,K3⟩
abbrev AZ(c:aH)(fr nZ u:Int):bq:=⟨c.ID,c.E,fr,nZ,u⟩
abbrev Ew(c:aH)(fr nZ u:Int):aL:=⟨0,c.ID,c.E,c.Sum,fr,nZ,u⟩
def Ea(ls:List bq)(dG all:Int)(c:aH)(fr nZ u:Int):Bool:=decide (pO ls (AZ c fr nZ u) dG all=0)
def yL(ls:List bq)(dG all:Int)(c:aH)(fr nZ u:Int):List bq:=if Ea ls dG all c fr nZ u=true then ls++[AZ c fr nZ u] else ls
def xV(ls:List bq)(os:List aL)(dG all:Int)(c:aH)(fr nZ u:Int):List aL:=if Ea ls dG all c fr nZ u=true then os++[Ew c fr nZ u] else os
def ayb{c:aH}{fr nZ u:Int}(h:¬ pO ls (AZ c fr nZ u) dG all=0):Ea ls dG all c fr nZ u=false/\yL ls dG all c fr nZ u=ls/\∀ os,xV ls os dG all c fr nZ u=os:=by
 have hb:Ea ls dG all c fr nZ u=false:=Zc h;refine⟨hb,aQ (by rw [hb]; decide),λos=>aQ (by rw [hb]; decide)⟩
def asY{c:aH}{fr nZ u:Int}(h:pO ls (AZ c fr nZ u) dG all=0):Ea ls dG all c fr nZ u=true/\yL ls dG all c fr nZ u=wh ls (AZ c fr nZ u) dG all/\∀ os,xV ls os dG all c fr nZ u=os++[Ew c fr nZ u]:=by
 have hb:Ea ls dG all c fr nZ u=true:=tY h;refine⟨hb,?_,λos=>aS hb⟩;unfold yL wh; rw [aS hb,aS h]
def ag5:bU prog 169 3 12:=ay
def Dy:bU prog 169 2 6:=ay
def LJ(a0:Int)(a1:Int)(a2:Int)(a3:Int)(a4:Int):prog.built 165 [(0,O a0),(1,O a1),(2,O a2),(3,O a3),(4,O a4)]=some #[O a0,O a1,O a2,O a3,O a4]:=ak
def IV:bU prog 169 6 15:=ay
def nN(a0:Int)(a1:Int)(a2:Int)(a3:Int)(a4:Int)(a5:Int)(a6:Int):prog.built 121 [(0,O a0),(1,O a1),(2,O a2),(3,gP a3),(4,O a4),(5,O a5),(6,O a6)]=some #[O a0,O a1,O a2,gP a3,O a4,O a5,O a6]:=ak
def fC(a0:Int)(a1:Int)(a2:Int)(a3:Int)(a4:Int)(a5:Int)(a6:Int):∀ w,(Instr.buildSlice 62 1 (List.toArray [(0,.agg #[O a0,O a1,O a2,gP a3,O a4,O a5,O a6])])).run prog w=.ok (.slice (some ⟨w.heap.size,0,none⟩) 1 1) (w.alloc (.cells (List.toArray [O a0,O a1,O a2,gP a3,O a4,O a5,O a6]) 121)):=ay
abbrev Xj(gX:aH)(iP xE AU Gg:Int):=([(⟨0,gX.ID,gX.E,gX.Sum,iP,xE,AU+Gg⟩:aL)]:List aL)
abbrev RU(gX:aH)(iP xE AU Gg:Int):=(⟨gX.ID,gX.E,iP,xE,AU+Gg⟩:bq)
set_option maxHeartbeats 1000000 in
def Zq{g:Nat}{v3 v4:Value}{AO Bc:ah}{cL cO dc:Nat}{os:V aL}{dY Z:Int}(H0:Hp b S w (dJ g 169 [v0,.slice AL ls.length cL,v2,v3,v4,v5,v6,O dG,O all,v9,O dY,v11,O Z,v13,v14,.slice AO os.length cO,v16]::aR dB 165 AL cL ls::aR bA 121 AO cO os::F))(c:aH)(fr nZ:Int)(hn:ls.length<=100)(ho:os.length<=100000)(hu:-1099511627776<=Z/\Z<=4398046511104/\-1099511627776<=dY/\dY<=1099511627776):bM prog 182 #[fK g,.agg #[O c.ID,O c.E,gP c.Sum,.slice Bc c.aD.length dc],O fr,O nZ] w λv w'=>v=.bool (Ea ls dG all c fr nZ (Z+dY))/\∃ AL' cL' AO' cO',Hp b S w' (dJ g 169 [v0,.slice AL' ((yL ls dG all c fr nZ (Z+dY)).length) cL',v2,v3,v4,v5,v6,O dG,O all,v9,O dY,v11,O Z,v13,v14,.slice AO' ((xV ls os dG all c fr nZ (Z+dY)).length) cO',v16]::aR dB 165 AL' cL' (yL ls dG all c fr nZ (Z+dY))::aR bA 121 AO' cO' (xV ls os dG all c fr nZ (Z+dY))::F):=by
 refine qN func182 ntmps182 Y<|rg<|bx Y Y H0 λg1 w1 K1=>fE Y<|pW ak ak<|bf (dP Y) Y<|bf (nH Y) Y<|bf (fq ag5 Y Y) Y<|bf (dU jF Y (K1.x s1) Y) Y<|bf (dP Y) Y<|bf (nH Y) Y<|bf (fq Dy Y Y) Y<|bf (fq RQ Y Y) Y<|bf (dU jF Y (K1.x s1) Y) Y<|bf (eG Y Y) Y<|bf (tF Y) Y<|pX λw2 e2=>?_
 have K2:=K1.grow e2;refine He K2 (λ_ K=>K) (λl0 rk lJ wJ=>∃ jG jr,lJ=(10,.slice jG ((wh ls (RU c fr nZ Z dY) dG all).length) jr)::(11,O (pO ls (RU c fr nZ Z dY) dG all))::l0/\Hp b S wJ (aR dB 165 jG jr (wh ls (RU c fr nZ Z dY) dG all)::rk)) (λhns H1=>?_) ?_
 ·refine qp 0 g 0 sI Y H1<|mK 3 4 g 1 yZ s1 Y H1<|mK 5 6 g1 0 pG U Y H1<|mK 7 8 g1 1 tO U Y H1<|lF 9 Y Y H1<|lF 10 Y Y H1<|lF 11 Y Y H1<|kI 12 Y (λ_ _=>iT Y (by apply LJ)) H1<|qp 13 g 6 Dy rfl H1<|mK 16 17 g 7 adQ s1 rfl H1<|qp 18 g 6 Dy rfl H1<|mK 21 22 g 8 amf s1 rfl H1<|O1 23 rfl<|gu rfl (akd _ (H1.o s2) (RU c fr nZ Z dY) dG all aj) ?_
  rintro _ w3 ⟨rE,rF,rfl,h3⟩;have K3:=H1.f1 h3;have k1:=(K3.rm U);refine aO k1<|lF 24 Y Y k1<|yj 25 Y Y Y k1<|yj 26 Y Y Y k1<|xC 27 Y Y k1<|xC 28 Y Y k1<|Dn ⟨rE,rF,Y,K3⟩ Y
 rintro _ w4 ⟨jG,jr,rfl,K4⟩;refine aZ<|gD Y<|ev (Gq Y Y)<|dn<|bS Y (λaks=>?_) (λaks=>?_)
 ·replace aks:=oL aks;refine kX Y<|Aw Y ?_
  have H2:=(K4.cU 0 2);have hcn:=ayb aks;exact⟨by rw [hcn.1]; rfl,_,_,_,_,by rw [hcn.2.1,hcn.2.2 os]; exact H2⟩
 replace aks:=oM aks;refine jQ ?_;refine pC 4 Y<|zA g 0 sI Y<|zA g 1 yZ Y<|xD Y K4 s2 Y λw5 K5=>dn<|He K5 (λ_ K=>((K.rm s4).rm U)) (λl0 rk lJ wJ=>∃ oV cj2,lJ=l0/\Hp b S wJ (dJ g 169 [v0,.slice jG ((wh ls (RU c fr nZ Z dY) dG all).length) jr,v2,v3,v4,v5,v6,O dG,O all,v9,O dY,v11,O Z,v13,v14,.slice oV ((os++(Xj c fr nZ Z dY)).length) cj2,v16]::aR bA 121 oV cj2 (os++(Xj c fr nZ Z dY))::rk)) (λhns H3=>?_) ?_
 ·have k2:=((H3.rm s4).rm U);refine lF 0 Y Y k2<|qp 1 g 15 IV Y k2<|mK 5 6 g1 0 pG s1 Y k2<|mK 7 8 g1 1 tO s1 Y k2<|mK 9 10 g1 2 JH s1 Y k2<|lF 11 Y Y k2<|lF 12 Y Y k2<|lF 13 Y Y k2<|kI 14 Y (λ_ _=>iT Y (by apply nN)) k2<|Jn H3 (λl0 rk lJ wJ=>∃ g2,lJ=(60,.slice AO os.length cO)::(71,.slice (some ⟨g2,0,none⟩) ((Xj c fr nZ Z dY).length) 1)::l0/\Hp b S wJ (aR bA 121 (some ⟨g2,0,none⟩) 1 (Xj c fr nZ Z dY)::rk)) 4 65535 ?_ λhS1=>?_
  ·rintro _ PE ⟨g2,rfl,K10⟩;refine O1 16 Y<|ap K10 s5 Y Y (K10.o U) xq FC (by first | omega | (simp; omega) | (simp; done)) av rfl λWO cp2 VY vF=>?_
   have k7:=(vF.cU 0 3);refine aO k7<|JG 17 g 15 IV Y k7<|O1 19 Y<|xD Y vF s2 Y λUy uR=>?_
   have k8:=(uR.cU 0 3);refine aO k8<|Dn ⟨WO,cp2,Y,(uR.rm s2)⟩ Y
  refine O2 4 15 Y Y ?_ ?_
  ·refine lY H3 U Y<|aO k2<|O1 15 Y<|yV (τ:=bA) (x:=(⟨0,c.ID,c.E,c.Sum,fr,nZ,Z+dY⟩:aL)) Y (by intro _; apply fC) rfl H3 (λ_ _=>rfl) λg4 YX xk=>?_
   have k9:=((xk.rm s5).cU 0 2);exact Kj hS1 k9 ⟨g4,Y,xk⟩ Y
  ·refine yV (τ:=bA) (x:=(⟨0,c.ID,c.E,c.Sum,fr,nZ,Z+dY⟩:aL)) Y (by intro _; apply fC) rfl H3 (λ_ _=>rfl) λg5 w14 wF=>?_;have k10:=((wF.rm s5).cU 0 2);refine aO k10<|O1 4 Y<|lY wF s1 Y<|Kj hS1 k10 ⟨g5,Y,wF⟩ Y
 rintro _ w15 ⟨oV,cj2,rfl,zI⟩;refine kX Y<|iU Y ?_
 have H4:=(zI.cU 3 2);have hcy:=asY (c:=c) (fr:=fr) aks;exact⟨by rw [hcy.1]; rfl,_,_,_,_,by rw [hcy.2.1,hcy.2.2 os]; exact((H4.sel s1).mV 1 2)⟩
end
end Go.Proofs.YthcmboepffiliaaGreat
