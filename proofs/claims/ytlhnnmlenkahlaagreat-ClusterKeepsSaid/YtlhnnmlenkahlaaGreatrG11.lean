/- Lemmas. -/
import Derived.Test.YtlhnnmlenkahlaaGreatrG10
set_option maxRecDepth 4000
set_option linter.all false
namespace Go.Proofs.YtlhnnmlenkahlaaGreat
open Go.RowKit Go.Proofs.Tryz
def O9:=@Nat.not_lt_zero
def qC:=@underlying197
def XM:=@List.getElem?_set
def XO:=@Option.some.injEq
def ou:=@List.mem_cons_of_mem
def Gt:=@List.perm_middle
variable {i g c:Nat}{S0 S:Nat->Prop}{b w:World}{F:List lH}{A:ah}{all:List aV}{aG:List Int}{bW:Int}{M:List aH}{x:aH}
structure fA where
  aC:Int
  Have:Int
  Live:Int
  deriving DecidableEq
def fA.enc(x:fA):List Value:=[.int .i64 x.aC,.int .i64 x.Have,.int .i64 x.Live]
theorem fA.lF(x:fA):∀ u∈x.enc,u.oneCell'=true:=by
  intro u hu
  simp only [fA.enc,iX,lM,sN] at hu
  rcases hu with rfl | rfl | rfl <;> rfl
def pX:Ty fA:=Ty.flat 3 fA.enc au (λ_=>rfl) fA.lF
instance:Flat pX:=⟨λh=>h⟩
def xV(a b:fA):Bool:=decide (OA [bB a.Live b.Live,bB a.Have b.Have,bB a.aC b.aC]<0)
def upG:Nat->List fA->Nat->List fA
  | 0,l,_=>l
  | f+1,l,i=>match l[i]?,l[(i - 1) / 2]? with
    | some x,some y=>if(decide (0<i)&&xV x y)=true then upG f ((l.set i y).set ((i - 1) / 2) x) ((i - 1) / 2) else l
    | _,_=>l
def upL(l:List fA):List fA:=upG l.length l (l.length - 1)
theorem akr:∀(f:Nat)(l:List fA)(i:Nat),(upG f l i).length=l.length
  | 0,_,_=>rfl
  | f+1,l,i=>by
    unfold upG
    split
    · split
      · rw [akr f,gJ,gJ]
      · rfl
    · rfl
theorem afu:∀(f f':Nat)(l:List fA)(i:Nat),i<f->i<f'->upG f l i=upG f' l i
  | 0,_,_,_,h,_=>absurd h (O9 _)
  | _+1,0,_,_,_,h=>absurd h (O9 _)
  | f+1,f'+1,l,i,h1,h2=>by
    unfold upG
    split
    · split
      · rename_i hc
        simp only [bN,bO] at hc
        exact afu f f' _ _ aj aj
      · rfl
    · rfl
theorem azh{l:List fA}{x y:fA}(hx:l[i]? = some x)(hy:l[(i - 1) / 2]? = some y)(hi:0<i)(h:xV x y=true):upG (i+1) l i=upG ((i - 1) / 2+1) ((l.set i y).set ((i - 1) / 2) x) ((i - 1) / 2):=by
  conv=>lhs; unfold upG
  rw [hx,hy];show(if(decide (0<i)&&xV x y)=true then _ else _)=_;rw [aO (by simp [hi,h])];exact afu _ _ _ _ aj aj
theorem ap2{l:List fA}(h:∀ x y,l[i]? = some x->l[(i - 1) / 2]? = some y->(decide (0<i)&&xV x y)=false):upG (i+1) l i=l:=by
  unfold upG
  split
  · rename_i x y hx hy
    rw [aK (by rw [h x y hx hy]; decide)]
  · rfl
theorem XP:eu prog 242 2 2:=ay
theorem QO:eu prog 242 1 1:=ay
theorem QS:eu prog 242 0 0:=ay
theorem afv(a0:Int)(a1:Int)(a2:Int):∀ w,(Instr.buildSlice 55 3 (List.toArray [(0,aF a0),(1,aF a1),(2,aF a2)])).run prog w=.ok (.slice (some ⟨w.heap.size,0,none⟩) 3 3) (w.alloc (.cells (List.toArray [aF a0,aF a1,aF a2]) 3)):=ay
theorem qN:Size prog 242 3:=ay
theorem qD:Agg prog 242 3:=⟨λ_=>by kernel_rfl,qN⟩
theorem mK:eu prog 333 0 0:=ay
theorem XQ:l9 prog 197:=ay
theorem afw:eu prog 333 1 1:=ay
theorem ap3:l9 prog 331:=ay
theorem ap4:bF prog 327:=ay
abbrev acB(iD ji:fA):=([bB iD.Live ji.Live,bB iD.Have ji.Have,bB iD.aC ji.aC]:List Int)
theorem am3(w:World)(a:fA)(b:fA) :
    bS prog 402 #[.agg #[aF a.aC,aF a.Have,aF a.Live],.agg #[aF b.aC,aF b.Have,aF b.Live]] w λv w'=>v=aF (OA [bB a.Live b.Live,bB a.Have b.Have,bB a.aC b.aC])/\Hp w S0 w' []:=by
 refine kP S0 func402 ntmps402 Y λH0=>rg<|bx Y Y H0 λg1 w1 K1=>bx Y Y K1 λg2 w2 K2=>bU Y<|He K2 (λ_ K=>K) (λl0 rk lJ wJ=>lJ=(4,aF (OA (acB a b)))::l0/\Hp w S0 wJ rk) (λhns H1=>?_) ?_
 ·refine ng 0 1 g1 2 XP s1 Y H1<|ng 2 3 g2 2 XP s0 Y H1<|ng 5 6 g1 1 QO s1 Y H1<|ng 7 8 g2 1 QO s0 Y H1<|ng 10 11 g1 0 QS s1 Y H1<|ng 12 13 g2 0 QS s0 Y H1<|O1 4 Y<|mU H1 Y (nK (S0:=Any) _ a.Live b.Live) λw3 K3=>aQ K3<|O1 9 Y<|mU K3 Y (nK (S0:=Any) _ a.Have b.Have) λw4 K4=>aQ K4<|O1 14 Y<|mU K4 Y (nK (S0:=Any) _ a.aC b.aC) λw5 K5=>aQ K5<|O1 15 Y<|bsn (τ:=dQ) (xs:=(acB a b)) (vs:=[(0,aF (bB a.Live b.Live)),(1,aF (bB a.Have b.Have)),(2,aF (bB a.aC b.aC))]) (css:=[[aF (bB a.Live b.Live)],[aF (bB a.Have b.Have)],[aF (bB a.aC b.aC)]]) Y (by intro _; apply afv) rfl rfl K5 (λ_ e=>⟨rfl,rfl,rfl,trivial⟩) λg3 w6 K6=>?_
  have k1:=(K6.rm s0);refine aQ k1<|O1 16 Y<|mU K6 Y (afg _ (K6.o s0)) λw7 K7=>?_
  have k2:=(K7.rm s0);refine aQ k2<|xI 17 Y Y k2<|Dn ⟨Y,(K7.rm s0)⟩ Y
 rintro _ w8 ⟨rfl,K8⟩;refine jc Y ?_;have eO:(OA (acB a b):Int)=(OA [bB a.Live b.Live,bB a.Have b.Have,bB a.aC b.aC]):=by rfl
 exact⟨by rw [eO] <;> rfl,K8.z⟩
theorem XR(w:World)(a:fA)(b:fA) :
    bS prog 327 #[.agg #[aF a.aC,aF a.Have,aF a.Live],.agg #[aF b.aC,aF b.Have,aF b.Live]] w λv w'=>v=.bool (xV a b)/\Hp w S0 w' []:=by
 refine kP S0 func327 ntmps327 Y λH0=>rg<|bx Y Y H0 λg1 w1 K1=>bx Y Y K1 λg2 w2 K2=>bU Y<|rg<|ev (dU qD Y Y (K2.x s1))<|ev (dU qD Y Y (K2.x s0))<|mU K2 Y (am3 (S0:=Any) _ a b) λw3 K3=>ev (fC Y Y)<|bU Y<|jc Y ?_
 have eO:(decide (OA [bB a.Live b.Live,bB a.Have b.Have,bB a.aC b.aC]<0):Bool)=(xV a b):=by rfl
 exact⟨by rw [eO] <;> rfl,K3.z⟩
abbrev Vy(iD:Nat)(ji:ah)(uS:List fA)(wV:Nat)(ES:List lH):=dY iD 335 [.slice ji uS.length wV,.func (.func 327) #[] #[]]::aS pX 242 ji wV uS::ES
theorem azi{l:List fA}(H0:Hp b S w (Vy g A l c F))(hn:l.length<=1000000)(h1:1<=l.length) :
    bS prog 328 #[gD g] w λv w'=>v=.tuple #[]/\Hp b S w' (dY g 335 [.slice A (upL l).length c,.func (.func 327) #[] #[]]::aS pX 242 A c (upL l)::F):=by
 refine sV func328 ntmps328 Y<|WP.jumps (lb:=0) (λmJ lJ wJ=>∃(i:Nat)(ys:List fA),lJ=[(0,gD g),(2,aF ((i:Nat):Int))]/\mJ=i+1/\(ys.length=l.length)/\(i<l.length)/\(upG (i+1) ys i=upG l.length l (l.length - 1))/\Hp b S wJ (aS pX 242 A c ys::dY g 335 [.slice A ys.length c,.func (.func 327) #[] #[]]::F)) Y ?_ ?_
 ·rintro _ _ w1 ⟨i,ys,rfl,rfl,hyl,hil,hup,K1⟩;have aJC:=half i;refine bQ Y<|ev (UD Y Y)<|ev (Ev.quo Y Y au (wQ aj aj))<|bU Y<|lC (t:=3) (u:=aF ((((i:Nat):Int) - 1).tdiv 2)) Y (aR (Value.int .i64) (half i)) ?_
  obtain⟨x1,bP⟩:=bC (xs:=ys) (i:=i) aj;obtain⟨x2,kZ⟩:=bC (xs:=ys) (i:=(i - 1) / 2) aj;refine qo ak ak<|bA (bf Y) Y<|bA (pV Y Y) Y<|bA (bf Y) Y<|rJ 20 35 ((decide (0<((i:Nat):Int)))&&(xV x1 x2)) ?_ ?_
  ·cases Tc:decide (0<((i:Nat):Int)) with
   | true=>
    have aks:=gW Tc;refine eT Y (bf Y) Y<|eT Y (eX Y) Y<|eT Y (dW (q:=⟨g,1,none⟩) afw Y Y) Y<|eT Y (dx ap3 Y (K1.x s1) Y) Y<|eT Y (bf Y) Y<|eT Y (eX Y) Y<|eT Y (dW (q:=⟨g,0,none⟩) mK Y Y) Y<|eT Y (dx XQ Y (K1.x s1) Y) Y<|eT Y (bf Y) Y<|eT Y (cu (i:=i) qC qN Y Y Y (aJ bP) ((K1.o s0).some_ bP)) Y<|eT Y (gI qD Y Y ((K1.o s0).fE bP)) Y<|eT Y (bf Y) Y<|eT Y (eX Y) Y<|eT Y (dW (q:=⟨g,0,none⟩) mK Y Y) Y<|eT Y (dx XQ Y (K1.x s1) Y) Y<|eT Y (bf Y) Y<|eT Y (cu (i:=(i - 1) / 2) qC qN Y Y Y (aJ kZ) ((K1.o s0).some_ kZ)) Y<|eT Y (gI qD Y Y ((K1.o s0).fE kZ)) Y<|Qg Y (v:=.bool (xV x1 x2)) Y Y Y ap4 (λwq eq=>(XR (S0:=Any) wq x1 x2).mono (by rintro _ _ ⟨rfl,fQ⟩; exact⟨rfl,fQ.ext⟩)) rfl<|bA (dH rfl rfl) rfl<|j3 rfl
   | false=>
    refine dZ Y Y Y<|dZ Y Y Y<|dZ Y Y Y<|dZ Y Y Y<|dZ Y Y Y<|dZ Y Y Y<|dZ Y Y Y<|dZ Y Y Y<|dZ Y Y Y<|dZ Y Y Y<|dZ Y Y Y<|dZ Y Y Y<|dZ Y Y Y<|dZ Y Y Y<|dZ Y Y Y<|dZ Y Y Y<|dZ Y Y Y<|dZ Y Y Y<|dZ Y Y Y<|bA (dL Y Y) Y<|j3 Y
  refine qp λw2 e2=>?_;have K2:=K1.grow e2;refine bK Y (λPg=>?_) (λPg=>?_)
  ·have hsA:=(K2.o s0).some_ bP;have hp:=(bN _ _).mp Pg;have hp1:=gW hp.1;have hgo:=azh bP kZ aj hp.2;refine He K2 (λ_ K=>(K.rm s0)) (λl0 rk lJ wJ=>lJ=l0/\Hp b S wJ (aS pX 242 A c ((ys.set i x2).set ((i - 1) / 2) x1)::rk)) (λhns H1=>?_) ?_
   ·have k1:=(H1.rm s0);refine uw 0 g 0 mK Y k1<|Ci 3 s0 Y k1<|kX 4 Y Y k1<|uw 5 g 0 mK Y k1<|Ci 8 s0 Y k1<|kX 9 Y Y k1<|uw 10 g 0 mK Y k1<|Ci 13 s0 Y k1<|kX 14 Y Y k1<|lD 15 Y (λ_ _=>cu (i:=(i - 1) / 2) qC qN Y Y Y (aJ kZ) hsA) k1<|uw 17 g 0 mK Y k1<|Ci 20 s0 Y k1<|kX 21 Y Y k1<|lD 22 Y (λ_ _=>cu (i:=i) qC qN Y Y Y (aJ bP) hsA) k1<|Jn H1 (λl0 rk lJ wJ=>lJ=(52,.agg #[aF x2.aC,aF x2.Have,aF x2.Live])::(59,.agg #[aF x1.aC,aF x1.Have,aF x1.Live])::l0/\Hp b S wJ rk) 4 16777215 ?_ λhS1=>?_
    ·rintro _ w5 ⟨rfl,K5⟩;have k4:=(K5.rm s0);refine lD 24 Y (λ_ _=>cu (i:=i) qC qN Y Y Y (aJ bP) hsA) k4<|O1 25 Y<|se (i:=i) (f:=0) (x:=x1) (x':=x2) (ds:=[aF x2.aC,aF x2.Have,aF x2.Live]) K5 s0 Y Y Y bP Y qN (pU Y) Y (by rintro _ _ _ ⟨⟩; rfl) λw6 K6=>?_
     have hl3:(ys.set i x2).length=ys.length:=gJ ..;refine fU (t:=39) (u:=.slice A ys.length c) (v:=.slice A ((ys.set i x2).length) c) Y (by rw [hl3])<|fU (t:=44) (u:=.slice A ys.length c) (v:=.slice A ((ys.set i x2).length) c) rfl (by rw [hl3]) ?_
     have k5:=(K6.rm s0);refine aQ k5 ?_;obtain⟨x4,hx7⟩:=bC (xs:=(ys.set i x2)) (i:=(i - 1) / 2) aj;refine lD 26 Y (λ_ _=>cu (i:=(i - 1) / 2) qC qN Y Y Y (aJ hx7) hsA) k5<|O1 27 Y<|se (i:=(i - 1) / 2) (f:=0) (x:=x4) (x':=x1) (ds:=[aF x1.aC,aF x1.Have,aF x1.Live]) K6 s0 Y Y Y hx7 Y qN (pU Y) Y (by rintro _ _ _ ⟨⟩; rfl) λw7 K7=>?_
     have hl4:((ys.set i x2).set ((i - 1) / 2) x1).length=(ys.set i x2).length:=gJ ..;refine fU (t:=39) (u:=.slice A ((ys.set i x2).length) c) (v:=.slice A (((ys.set i x2).set ((i - 1) / 2) x1).length) c) Y (by rw [hl4])<|fU (t:=44) (u:=.slice A ((ys.set i x2).length) c) (v:=.slice A (((ys.set i x2).set ((i - 1) / 2) x1).length) c) rfl (by rw [hl4]) ?_
     have k6:=(K7.rm s0);refine aQ k6<|Dn ⟨Y,K7⟩ Y
    refine O2 16 23 Y Y ?_ ?_
    ·refine ev (gI qD Y Y ((H1.o s0).fE kZ))<|aQ k1<|O1 23 Y<|ev (gI qD Y Y ((H1.o s0).fE bP))<|Kj hS1 k1 ⟨Y,H1⟩ Y
    ·refine ev (gI qD Y Y ((H1.o s0).fE bP))<|aQ k1<|O1 16 Y<|ev (gI qD Y Y ((H1.o s0).fE kZ))<|Kj hS1 k1 ⟨Y,H1⟩ Y
   rintro _ w8 ⟨rfl,K8⟩;refine bQ Y<|bU Y<|WP.goto ?_
   have eO:(.slice A ys.length c:Value)=.slice A (((ys.set i x2).set ((i - 1) / 2) x1).length) c:=by rw [gJ,gJ]
   try rw [eO] at K8
   exact l8.jag ⟨((i - 1) / 2),((ys.set i x2).set ((i - 1) / 2) x1),Y,Y,by rw [gJ,gJ]; exact hyl,aj,by rw [<- hgo]; exact hup,K8⟩ rfl aj
  refine ze (l8.aaz (rU (zA Y ?_)));have hst:upG (i+1) ys i=ys:=ap2 (λx y e1 e2=>by rw [bP] at e1; cases e1; rw [kZ] at e2; cases e2; rw [show decide (0<i)=decide ((0:Int)<(i:Int)) from decide_eq_decide.2 aj]; exact Pg);have hfi:ys=upL l:=by rw [<- hst,hup]; rfl
  exact⟨Y,by rw [<- hfi]; exact((K2.sel s0).sel s1)⟩
 ·intro hp0;refine bQ Y<|ev (eX Y)<|jT g 0 mK H0 s0 Y<|ev (eU qC Y)<|ev (Ev.auf (a:=l.length) (b:=1) Y Y Y aj aj)<|bU Y<|iZ Y<|WP.kp hp0 ⟨(l.length - 1),l,Y,Y,by rfl,aj,by rw [Nat.sub_add_cancel h1],((H0.sel s0).sel s1)⟩ rfl
def Vf(l:List fA)(a m:Nat):Bool:=match l[a]?,l[m]? with | some x,some y=>xV x y | _,_=>false
def jJ(l:List fA)(i:Nat):Nat->Nat
  | 0=>i
  | k+1=>if Vf l (2*i+1+k) (jJ l i k)=true then 2*i+1+k else jJ l i k
abbrev lsB(l:List fA)(i k:Nat):Bool:=Vf l (2*i+1+k) (jJ l i k)
theorem aiS{l:List fA}{a m:Nat}{x y:fA}(hx:l[a]? = some x)(hy:l[m]? = some y):xV x y=Vf l a m:=by unfold Vf; rw [hx,hy]
theorem aiT{l:List fA}{a m:Nat}(h:¬ a<l.length):false=Vf l a m:=by unfold Vf; rw [yP aj]
theorem DR(l:List fA)(i:Nat):∀ k,jJ l i k=i∨(2*i+1<=jJ l i k/\jJ l i k<l.length/\i<l.length)
  | 0=>.inl rfl
  | k+1=>by
    unfold jJ
    split
    · rename_i h
      right
      have h1:2*i+1+k<l.length:=by
        rcases P8 (2*i+1+k) l.length with h2 | h2
        · exact h2
        · rw [<- aiT aj] at h; cases h
      omega
    · exact DR l i k
def zo:Nat->List fA->Nat->List fA
  | 0,l,_=>l
  | f+1,l,i=>if jJ l i 2=i then l else match l[i]?,l[jJ l i 2]? with
    | some x,some y=>zo f ((l.set i y).set (jJ l i 2) x) (jJ l i 2)
    | _,_=>l
def QT(l:List fA):List fA:=zo (l.length+1) l 0
theorem TP:∀(f:Nat)(l:List fA)(i:Nat),(zo f l i).length=l.length
  | 0,_,_=>rfl
  | f+1,l,i=>by
    unfold zo
    split
    · rfl
    · split
      · rw [TP f,gJ,gJ]
      · rfl
theorem XT:∀(f f':Nat)(l:List fA)(i:Nat),l.length - i<f->l.length - i<f'->zo f l i=zo f' l i
  | 0,_,_,_,h,_=>absurd h (O9 _)
  | _+1,0,_,_,_,h=>absurd h (O9 _)
  | f+1,f'+1,l,i,h1,h2=>by
    unfold zo
    split
    · rfl
    · rename_i hne
      have h3:=DR l i 2
      split
      · exact XT f f' _ _ (by rw [gJ,gJ]; omega) (by rw [gJ,gJ]; omega)
      · rfl
theorem ap5{l:List fA}{m:Nat}{x y:fA}(hm:jJ l i 2=m)(hne:m≠i)(hx:l[i]? = some x)(hy:l[m]? = some y):zo (l.length - i+1) l i=zo (l.length - m+1) ((l.set i y).set m x) m:=by
  subst hm
  conv=>lhs; unfold zo
  rw [aK hne,hx,hy];have h3:=DR l i 2;exact XT _ _ _ _ (by rw [gJ,gJ]; omega) (by rw [gJ,gJ]; omega)
theorem aiU{l:List fA}(h:jJ l i 2=i):zo (l.length - i+1) l i=l:=by unfold zo; rw [aO h]
theorem acC(a0:Int)(a1:Int):prog.built 374 [(0,aF a0),(1,aF a1)]=some #[aF a0,aF a1]:=ak
theorem ap6{l:List fA}(H0:Hp b S w (Vy g A l c F))(hn:l.length<=1000000) :
    bS prog 329 #[gD g] w λv w'=>v=.tuple #[]/\Hp b S w' (dY g 335 [.slice A (QT l).length c,.func (.func 327) #[] #[]]::aS pX 242 A c (QT l)::F):=by
 refine sV func329 ntmps329 Y<|WP.jumps (lb:=0) (λmJ lJ wJ=>∃(i:Nat)(ys:List fA),lJ=[(0,gD g),(2,aF ((i:Nat):Int))]/\mJ=l.length - i+1/\(ys.length=l.length)/\(i<=l.length)/\(zo (ys.length - i+1) ys i=zo (l.length+1) l 0)/\Hp b S wJ (aS pX 242 A c ys::dY g 335 [.slice A ys.length c,.func (.func 327) #[] #[]]::F)) Y ?_ ?_
 ·rintro _ _ w1 ⟨i,ys,rfl,rfl,hyl,hil,hdn,K1⟩;refine bQ Y<|bU Y<|aW<|bQ Y<|ev (Ev.mul Y Y (wQ aj aj))<|ev (dO Y Y)<|mv Y<|ev (Ev.mul Y Y (wQ aj aj))<|ev (dO Y Y)<|ev (iY (vs:=[(0,aF ((2*i+1:Nat):Int)),(1,aF ((2*i+2:Nat):Int))]) (cs:=[aF ((2*i+1:Nat):Int),aF ((2*i+2:Nat):Int)]) Y (by apply acC))<|mv rfl<|dn<|cB ?_
  have eO:(((i:Nat):Int):Int)=((jJ ys i 0:Nat):Int):=by rfl
  refine lC (t:=3) Y (aR (Value.int .i64) eO)<|Lp K1 (λl0 rk mJ lJ wJ=>∃(k:Nat),lJ=(3,aF ((jJ ys i k:Nat):Int))::(14,aF ((k:Nat):Int))::l0/\mJ=2 - k/\k<=2/\Hp b S wJ rk) ⟨0,Y,Y,fJ _,K1⟩ Y ?_
  rintro _ _ w2 ⟨k,rfl,rfl,hk,K2⟩;refine rg<|ev (fC Y Y)<|dn<|pQ Y (λtY=>?_) (λtY=>?_)
  ·refine jm ?_;refine aW<|cB<|rg<|ev (Ev.aGW (v:=aF ((2*i+1+k:Nat):Int)) (i:=k) underlying374 rZ jD aj Y Y (by rcases(by omega:k=0∨k=1) with rfl | rfl <;> rfl))<|bU rfl ?_
   have hlt:=DR ys i k;refine qo ak ak<|bA (bf Y) Y<|bA (bf Y) Y<|bA (eX Y) Y<|bA (dW (q:=⟨g,0,none⟩) mK Y Y) Y<|bA (dx XQ Y (K2.x s1) Y) Y<|bA (eU qC Y) Y<|bA (fC Y Y) Y<|bA (bf Y) Y<|rJ 20 44 (lsB ys i k) ?_ ?_
   ·cases auV:decide (((2*i+1+k:Nat):Int)<((ys.length:Nat):Int)) with
    | true=>
     have aCq:=gW auV;refine eT Y (bf Y) Y<|eT Y (eX Y) Y<|eT Y (dW (q:=⟨g,1,none⟩) afw Y Y) Y<|eT Y (dx ap3 Y (K2.x s1) Y) Y<|eT Y (bf Y) Y<|eT Y (eX Y) Y<|eT Y (dW (q:=⟨g,0,none⟩) mK Y Y) Y<|eT Y (dx XQ Y (K2.x s1) Y) Y<|eT Y (bf Y) Y ?_
     obtain⟨x1,bP⟩:=bC (xs:=ys) (i:=2*i+1+k) aj;refine eT Y (cu (i:=2*i+1+k) qC qN Y Y Y (aJ bP) ((K2.o s0).some_ bP)) Y<|eT Y (gI qD Y Y ((K2.o s0).fE bP)) Y<|eT Y (bf Y) Y<|eT Y (eX Y) Y<|eT Y (dW (q:=⟨g,0,none⟩) mK Y Y) Y<|eT Y (dx XQ Y (K2.x s1) Y) Y<|eT Y (bf Y) Y ?_
     obtain⟨x2,kZ⟩:=bC (xs:=ys) (i:=jJ ys i k) aj;refine eT Y (cu (i:=jJ ys i k) qC qN Y Y Y (aJ kZ) ((K2.o s0).some_ kZ)) Y<|eT Y (gI qD Y Y ((K2.o s0).fE kZ)) Y<|Qg Y (v:=.bool (xV x1 x2)) Y Y Y ap4 (λwq eq=>(XR (S0:=Any) wq x1 x2).mono (by rintro _ _ ⟨rfl,fQ⟩; exact⟨rfl,fQ.ext⟩)) rfl<|bA (dH rfl rfl) rfl<|CY (t:=44) (u:=.bool (xV x1 x2)) (v:=.bool (lsB ys i k)) rfl (aR Value.bool (by exact aiS bP kZ))<|j3 rfl
    | false=>
     refine dZ Y Y Y<|dZ Y Y Y<|dZ Y Y Y<|dZ Y Y Y<|dZ Y Y Y<|dZ Y Y Y<|dZ Y Y Y<|dZ Y Y Y<|dZ Y Y Y<|dZ Y Y Y<|dZ Y Y Y<|dZ Y Y Y<|dZ Y Y Y<|dZ Y Y Y<|dZ Y Y Y<|dZ Y Y Y<|dZ Y Y Y<|dZ Y Y Y<|dZ Y Y Y<|bA (dL Y Y) Y<|CY (t:=44) (u:=.bool false) (v:=.bool (lsB ys i k)) Y (aR Value.bool (by exact aiT (by have:=iJ auV; omega)))<|j3 rfl
   refine qp λw3 e3=>?_;have K3:=K2.grow e3;refine bK Y (λXU=>?_) (λXU=>?_)
   ·refine jy<|mv Y<|iI Y<|jA<|iE (gG ?_)
    refine jy<|ev (dO Y Y)<|mv Y<|jA ?_
    have fQ:(((2*i+1+k:Nat):Int):Int)=((jJ ys i (k+1):Nat):Int):=by simp only [jJ]; first | rw [aO (show Vf ys (2*i+1+k) (jJ ys i k)=true from XU)] | rw [aK (show ¬ Vf ys (2*i+1+k) (jJ ys i k)=true by rw [show Vf ys (2*i+1+k) (jJ ys i k)=false from XU]; decide)]
    refine jq (t:=3) Y (aR (Value.int .i64) fQ)<|dI ⟨(k+1),Y,Y,aj,K3⟩ rfl aj
   refine xQ ?_;refine jy<|ev (dO Y Y)<|mv Y<|jA ?_
   have jW:(((jJ ys i k:Nat):Int):Int)=((jJ ys i (k+1):Nat):Int):=by simp only [jJ]; first | rw [aO (show Vf ys (2*i+1+k) (jJ ys i k)=true from XU)] | rw [aK (show ¬ Vf ys (2*i+1+k) (jJ ys i k)=true by rw [show Vf ys (2*i+1+k) (jJ ys i k)=false from XU]; decide)]
   refine jq (t:=3) Y (aR (Value.int .i64) jW)<|dI ⟨(k+1),Y,Y,aj,K3⟩ rfl aj
  refine wE ?_;have hk2:k=2:=aj;have hlm:jJ ys i 2=jJ ys i k:=by rw [hk2]
  have hlt:=DR ys i k;refine bQ Y<|mv Y<|ev (nQ Y Y)<|dn<|bK Y (λap7=>?_) (λap7=>?_)
  ·replace ap7:=oQ ap7;obtain⟨x3,hx3⟩:=bC (xs:=ys) (i:=i) aj;obtain⟨x4,hx4⟩:=bC (xs:=ys) (i:=jJ ys i k) aj;have hsA:=(K2.o s0).some_ hx3;have hgo:=ap5 hlm aj hx3 hx4;refine He K2 (λ_ K=>(K.rm s0)) (λl0 rk lJ wJ=>lJ=l0/\Hp b S wJ (aS pX 242 A c ((ys.set i x4).set (jJ ys i k) x3)::rk)) (λhns H1=>?_) ?_
   ·have k1:=(H1.rm s0);refine uw 0 g 0 mK Y k1<|Ci 3 s0 Y k1<|kX 4 Y Y k1<|uw 5 g 0 mK Y k1<|Ci 8 s0 Y k1<|kX 9 Y Y k1<|uw 10 g 0 mK Y k1<|Ci 13 s0 Y k1<|kX 14 Y Y k1<|lD 15 Y (λ_ _=>cu (i:=jJ ys i k) qC qN Y Y Y (aJ hx4) hsA) k1<|uw 17 g 0 mK Y k1<|Ci 20 s0 Y k1<|kX 21 Y Y k1<|lD 22 Y (λ_ _=>cu (i:=i) qC qN Y Y Y (aJ hx3) hsA) k1<|Jn H1 (λl0 rk lJ wJ=>lJ=(66,.agg #[aF x4.aC,aF x4.Have,aF x4.Live])::(73,.agg #[aF x3.aC,aF x3.Have,aF x3.Live])::l0/\Hp b S wJ rk) 4 16777215 ?_ λhS1=>?_
    ·rintro _ w6 ⟨rfl,K6⟩;have k4:=(K6.rm s0);refine lD 24 Y (λ_ _=>cu (i:=i) qC qN Y Y Y (aJ hx3) hsA) k4<|O1 25 Y<|se (i:=i) (f:=0) (x:=x3) (x':=x4) (ds:=[aF x4.aC,aF x4.Have,aF x4.Live]) K6 s0 Y Y Y hx3 Y qN (pU Y) Y (by rintro _ _ _ ⟨⟩; rfl) λw7 K7=>?_
     have hl3:(ys.set i x4).length=ys.length:=gJ ..;refine fU (t:=53) (u:=.slice A ys.length c) (v:=.slice A ((ys.set i x4).length) c) Y (by rw [hl3])<|fU (t:=58) (u:=.slice A ys.length c) (v:=.slice A ((ys.set i x4).length) c) rfl (by rw [hl3]) ?_
     have k5:=(K7.rm s0);refine aQ k5 ?_;obtain⟨x6,hx9⟩:=bC (xs:=(ys.set i x4)) (i:=jJ ys i k) aj;refine lD 26 Y (λ_ _=>cu (i:=jJ ys i k) qC qN Y Y Y (aJ hx9) hsA) k5<|O1 27 Y<|se (i:=jJ ys i k) (f:=0) (x:=x6) (x':=x3) (ds:=[aF x3.aC,aF x3.Have,aF x3.Live]) K7 s0 Y Y Y hx9 Y qN (pU Y) Y (by rintro _ _ _ ⟨⟩; rfl) λw8 K8=>?_
     have hl4:((ys.set i x4).set (jJ ys i k) x3).length=(ys.set i x4).length:=gJ ..;refine fU (t:=53) (u:=.slice A ((ys.set i x4).length) c) (v:=.slice A (((ys.set i x4).set (jJ ys i k) x3).length) c) Y (by rw [hl4])<|fU (t:=58) (u:=.slice A ((ys.set i x4).length) c) (v:=.slice A (((ys.set i x4).set (jJ ys i k) x3).length) c) rfl (by rw [hl4]) ?_
     have k6:=(K8.rm s0);refine aQ k6<|Dn ⟨Y,K8⟩ Y
    refine O2 16 23 Y Y ?_ ?_
    ·refine ev (gI qD Y Y ((H1.o s0).fE hx4))<|aQ k1<|O1 23 Y<|ev (gI qD Y Y ((H1.o s0).fE hx3))<|Kj hS1 k1 ⟨Y,H1⟩ Y
    ·refine ev (gI qD Y Y ((H1.o s0).fE hx3))<|aQ k1<|O1 16 Y<|ev (gI qD Y Y ((H1.o s0).fE hx4))<|Kj hS1 k1 ⟨Y,H1⟩ Y
   rintro _ w9 ⟨rfl,K9⟩;refine bQ Y<|bU Y<|WP.goto ?_
   have mH:(.slice A ys.length c:Value)=.slice A (((ys.set i x4).set (jJ ys i k) x3).length) c:=by rw [gJ,gJ]
   try rw [mH] at K9
   exact l8.jag ⟨(jJ ys i k),((ys.set i x4).set (jJ ys i k) x3),Y,Y,by rw [gJ,gJ]; exact hyl,aj,by rw [gJ,gJ,<- hgo]; exact hdn,K9⟩ rfl aj
  replace ap7:=oU ap7;refine ze (l8.aaz (rU (zA Y ?_)));have hst:zo (ys.length - i+1) ys i=ys:=aiU aj;have hfi:ys=QT l:=by rw [<- hst,hdn]; rfl
  exact⟨Y,by rw [<- hfi]; exact((K2.sel s0).sel s1)⟩
 ·intro hp0;refine rg<|iI Y<|bU Y<|WP.kp hp0 ⟨0,l,Y,Y,by rfl,aj,by rw [Qc],((H0.sel s0).sel s1)⟩ rfl
theorem auX(l:List fA):(upL l).length=l.length:=akr _ _ _
theorem am4(l:List fA):(QT l).length=l.length:=TP _ _ _
def acD(l:List fA)(n:fA):List fA:=upL (l++[n])
theorem ap8(l:List fA)(n:fA):(acD l n).length=l.length+1:=by unfold acD; rw [auX]; simp
def takeN(l:List fA):fA:=match l[0]? with | some x=>x | none=>⟨0,0,0⟩
def takeB(l:List fA):Bool:=decide (0<l.length)
def Db(l:List fA):List fA:=match l[l.length - 1]? with | some z=>QT ((l.set 0 z).take (l.length - 1)) | none=>l
theorem TQ(l:List fA):(Db l).length=l.length - 1:=by
  unfold Db
  split
  · rw [am4]; simp
  · rename_i h
    have:=Wv.1 h;omega
theorem XV{l:List fA}{x:fA}(hx:l[0]? = some x):takeN l=x:=by unfold takeN; rw [hx]
theorem ap9{l:List fA}(h:0<l.length):takeB l=true:=F8 h
theorem afx{l:List fA}{z:fA}(hz:l[l.length - 1]? = some z):Db l=QT ((l.set 0 z).take (l.length - 1)):=by unfold Db; rw [hz]
theorem acE  : prog.built 333 [(1,.func (.func 327) #[] #[])]=some #[.slice none 0 0,.func (.func 327) #[] #[]]:=ak
theorem am5(XW:ah)(UK UL:Nat):prog.built 335 [(0,.agg #[.slice XW UK UL,.func (.func 327) #[] #[]])]=some #[.slice XW UK UL,.func (.func 327) #[] #[]]:=ak
theorem xW:eu prog 335 0 0:=ay
theorem I9(a0:Int)(a1:Int)(a2:Int):∀ w,(Instr.buildSlice 197 1 (List.toArray [(0,.agg #[aF a0,aF a1,aF a2])])).run prog w=.ok (.slice (some ⟨w.heap.size,0,none⟩) 1 1) (w.alloc (.cells (List.toArray [aF a0,aF a1,aF a2]) 242)):=ay
theorem aqa:lW prog 242 3 24:=by
  obtain⟨i,h1,h2,h3,h4⟩:=tX (show(prog.info? 242).map (λi=>(i.zero,i.size,i.bytes))=some (some (.agg #[aF 0,aF 0,aF 0]),3,24) by kernel_rfl);exact⟨i,_,h1,h2,h3,h4,Y⟩
theorem BS:∀ w,(zeroValue 242).run prog w=.ok (.agg #[aF 0,aF 0,aF 0]) w:=ay
theorem auY  : prog.built 242 []=some #[aF 0,aF 0,aF 0]:=ak
theorem auZ(w:World) :
    bS prog 236 #[] w λv w'=>∃ g,v=gD g/\Hp w S0 w' [dY g 335 [.slice none 0 0,.func (.func 327) #[] #[]],aS pX 242 none 0 []]:=by
 refine kP S0 func236 ntmps236 Y λH0=>iZ Y<|rg<|ev (iY (vs:=[(1,.func (.func 327) #[] #[])]) (cs:=[.slice none 0 0,.func (.func 327) #[] #[]]) Y (by apply acE))<|ev (iY (vs:=[(0,.agg #[.slice none 0 0,.func (.func 327) #[] #[]])]) (cs:=[.slice none 0 0,.func (.func 327) #[] #[]]) rfl (by apply am5))<|bx rfl rfl H0 λg1 w1 K1=>bU rfl<|jc rfl ?_
 have H1:=K1.nil pX 242;exact⟨_,Y,((H1.sel s0).sel s1)⟩
theorem au0{l:List fA}(H0:Hp b S w (Vy g A l c F))(n:fA)(hn:l.length<=100000) :
    bS prog 237 #[gD g,.agg #[aF n.aC,aF n.Have,aF n.Live]] w λv w'=>v=.tuple #[]/\∃ A' c',Hp b S w' (dY g 335 [.slice A' (acD l n).length c',.func (.func 327) #[] #[]]::aS pX 242 A' c' (acD l n)::F):=by
 refine sV func237 ntmps237 Y<|rg<|bx Y Y H0 λg1 w1 K1=>dn<|He K1 (λ_ K=>(K.cU 1 2)) (λl0 rk lJ wJ=>∃(jR:ah)(jO:Nat),lJ=l0/\Hp b S wJ (dY g 335 [.slice jR ((l++([n]:List fA)).length) jO,.func (.func 327) #[] #[]]::aS pX 242 jR jO (l++([n]:List fA))::rk)) (λhns H1=>?_) ?_
 ·have k1:=(H1.cU 1 2);refine kX 0 Y Y k1<|uw 1 g 0 xW Y k1<|Np 4 g 0 mK Y k1<|lD 6 Y (λ_ hK=>dU qD Y Y (hK.x s0)) k1<|Jn H1 (λl0 rk lJ wJ=>∃(g2:Nat),lJ=(9,.slice A l.length c)::(11,.slice (some ⟨g2,0,none⟩) (([n]:List fA).length) 1)::l0/\Hp b S wJ (aS pX 242 (some ⟨g2,0,none⟩) 1 ([n]:List fA)::rk)) 5 255 ?_ λhS1=>?_
  ·rintro _ w6 ⟨g2,rfl,K6⟩;refine O1 8 Y<|ap (ys:=([n]:List fA)) K6 s3 Y Y (K6.o s0) qC aqa (by first | omega | (simp; omega) | (simp; done)) av rfl λVs cp2 w7 K7=>?_
   have k6:=((K7.rm s3).cU 0 2);refine aQ k6<|SX 9 g 0 xW Y k6<|Np 11 g 0 mK Y k6<|O1 12 Y<|xP Y K7 s3 Y λw8 K8=>?_
   have k7:=(K8.cU 0 3);refine aQ k7<|Dn ⟨Vs,cp2,Y,(K8.rm s2)⟩ Y
  refine O2 5 7 Y Y ?_ ?_
  ·refine nO H1 s1 Y<|aQ k1<|O1 7 Y<|Az (τ:=pX) (x:=n) Y (by intro _; apply I9) rfl H1 (λ_ _=>rfl) λg4 w9 K9=>?_
   have k8:=((K9.cU 2 2).rm s0);exact Kj hS1 k8 ⟨g4,Y,K9⟩ Y
  ·refine Az (τ:=pX) (x:=n) Y (by intro _; apply I9) rfl H1 (λ_ _=>rfl) λg5 Oz K10=>?_;have k9:=((K10.cU 2 2).rm s0);refine aQ k9<|O1 5 Y<|nO K10 s2 Y<|Kj hS1 k9 ⟨g5,Y,K10⟩ Y
 rintro _ Ti ⟨jR,jO,rfl,tZ⟩;refine jy<|mv Y<|ev (eX Y)<|yA g 0 xW Y<|gX Y (azi tZ (by first | omega | (simp; done) | (simp; omega)) (by first | omega | (simp; done) | (simp; omega))) ?_
 rintro _ Sm ⟨rfl,sJ⟩;refine jA<|rU (zA Y ?_)
 have H2:=(sJ.rm s2);exact⟨Y,_,_,H2⟩
theorem afy{l:List fA}(H0:Hp b S w (Vy g A l c F))(hn:l.length<=100000) :
    bS prog 238 #[gD g] w λv w'=>v=.tuple #[.agg #[aF ((takeN l).aC),aF ((takeN l).Have),aF ((takeN l).Live)],.bool (takeB l)]/\Hp b S w' (dY g 335 [.slice A (Db l).length c,.func (.func 327) #[] #[]]::aS pX 242 A c (Db l)::F):=by
 refine sV func238 ntmps238 Y<|rg<|al BS Y H0 λg1 w1 K1=>bU Y<|bQ Y<|ev (eX Y)<|yA g 0 xW Y<|jT g 0 mK K1 s1 Y<|ev (eU qC Y)<|ev (UD Y Y)<|bU Y<|aW<|bQ Y<|ev (fC Y Y)<|dn<|mQ Y (λrM=>?_) (λrM=>?_)
 ·refine rg<|ev (iY (vs:=[]) (cs:=[aF 0,aF 0,aF 0]) Y (by apply auY))<|sty rfl K1 s0 rfl λw2 K2=>bU rfl<|jf (fT (qA rfl ⟨_,_,rfl,⟨_,rfl,jL (cs:=[aF 0,aF 0,aF 0]) qD rfl (K2.x s0)⟩,⟨_,_,rfl,rfl,rfl⟩⟩ ?_))
  have H1:=(K2.rm s0);have hl0:l=[]:=uE aj;exact⟨by subst hl0; rfl,by subst hl0; exact H1⟩
 refine jm ?_;refine lC (t:=4) (u:=aF (((l.length:Nat):Int) - 1)) Y (aR (Value.int .i64) (show(((l.length:Nat):Int) - 1:Int)=((l.length - 1:Nat):Int) by omega)) ?_;obtain⟨x1,bP⟩:=bC (xs:=l) (i:=0) aj;obtain⟨x2,kZ⟩:=bC (xs:=l) (i:=l.length - 1) aj;refine bQ Y<|ev (eX Y)<|yA g 0 xW Y<|jT g 0 mK K1 s1 Y<|ev (cu (i:=0) qC qN Y Y Y (aJ bP) ((K1.o s2).some_ bP))<|ev (gI qD Y Y ((K1.o s2).fE bP))<|al BS Y K1 λg2 w3 K3=>sty Y K3 s0 Y λw4 K4=>dn ?_
 have hsA:=(K4.o s3).some_ bP;refine He K4 (λ_ K=>(K.rm s3)) (λl0 rk lJ wJ=>lJ=(10,.slice A ((l.set 0 x2).length) c)::(20,.slice A ((l.set 0 x2).length) c)::l0/\Hp b S wJ (aS pX 242 A c (l.set 0 x2)::rk)) (λhns H2=>?_) ?_
 ·have k1:=(H2.rm s3);refine uw 0 g 0 xW Y k1<|ng 3 4 g 0 mK s2 Y k1<|uw 5 g 0 xW Y k1<|ng 8 9 g 0 mK s2 Y k1<|kX 10 Y Y k1<|lD 11 Y (λ_ _=>cu (i:=l.length - 1) qC qN Y Y Y (aJ kZ) hsA) k1<|O1 12 Y<|ev (gI qD Y Y ((H2.o s3).fE kZ))<|aQ k1<|lD 13 Y (λ_ _=>cu (i:=0) qC qN Y Y Y (aJ bP) hsA) k1<|O1 14 Y<|se (i:=0) (f:=0) (x:=x1) (x':=x2) (ds:=[aF x2.aC,aF x2.Have,aF x2.Live]) H2 s3 Y Y Y bP Y qN (pU Y) Y (by rintro _ _ _ ⟨⟩; rfl) λw5 K5=>?_
  have hl1:(l.set 0 x2).length=l.length:=gJ ..;refine fU (t:=10) (u:=.slice A l.length c) (v:=.slice A ((l.set 0 x2).length) c) Y (by rw [hl1])<|fU (t:=20) (u:=.slice A l.length c) (v:=.slice A ((l.set 0 x2).length) c) rfl (by rw [hl1])<|fU (t:=27) (u:=.slice A l.length c) (v:=.slice A ((l.set 0 x2).length) c) rfl (by rw [hl1])<|fU (t:=32) (u:=.slice A l.length c) (v:=.slice A ((l.set 0 x2).length) c) rfl (by rw [hl1]) ?_
  have k2:=(K5.rm s0);refine aQ k2<|Dn ⟨Y,K5⟩ Y
 rintro _ w6 ⟨rfl,K6⟩;refine bQ Y<|mv Y<|ev (eX Y)<|yA g 0 xW Y<|jT g 0 mK K6 s3 Y<|mv Y ?_
 have hcp:=(K6.o s0).cap
 try simp only [gJ] at hcp
 refine ev (SH (hi:=l.length - 1) qC qN Y Y Y aj) ?_;have hct:(((l.set 0 x2)).take (l.length - 1)).length=l.length - 1:=by simp only [fO,gJ]; omega
 have H3:=K6.Wz (hi:=l.length - 1) s0 (by first | omega | (simp only [gJ]; omega));refine fU (t:=44) (v:=.slice A (((l.set 0 x2).take (l.length - 1))).length c) Y (by rw [hct])<|ev (eX rfl)<|yA g 0 xW rfl<|yA g 0 mK rfl<|xP rfl H3 s3 rfl λw7 K7=>dn<|bQ rfl<|ev (eX rfl)<|yA g 0 xW rfl<|gX rfl (ap6 K7 (by first | omega | (simp; done) | (simp; omega))) ?_
 rintro _ w8 ⟨rfl,K8⟩;refine dn<|rg<|ev (dU qD Y Y (K8.x s2))<|sty Y K8 s3 Y λw9 K9=>bU Y<|jf (qA Y ⟨_,_,Y,⟨_,Y,jL (cs:=[aF x1.aC,aF x1.Have,aF x1.Live]) qD Y (K9.x s0)⟩,⟨_,_,Y,Y,Y⟩⟩ ?_)
 have H4:=((K9.rm s3).rm s0);exact⟨by rw [XV bP,ap9 aj] <;> rfl,by rw [afx kZ]; exact H4⟩
def XY(all:List aV)(aG:List Int)(bW:Int)(c:aH):Bool:=decide ((0:Int)<((E8 c aG).length:Int))&&decide (((jH c all aG).length:Int)<bW)
def OH(all:List aV)(aG:List Int)(c:aH):fA:=⟨c.ID,((jH c all aG).length:Int),((E8 c aG).length:Int)⟩
def Et(all:List aV)(aG:List Int)(bW:Int)(q:List fA)(c:aH):List fA:=if XY all aG bW c=true then acD q (OH all aG c) else q
def qh(all:List aV)(aG:List Int)(bW:Int)(M:List aH):List fA:=M.foldl (Et all aG bW) []
def drain:Nat->List fA->List fA
  | 0,_=>[]
  | f+1,q=>if takeB q=true then takeN q::drain f (Db q) else[]
def Gu(l:List aH)(all:List aV)(aG:List Int)(bW:Int):List fA:=drain (qh all aG bW l).length (qh all aG bW l)
theorem UM{k:Nat}(hx:M[k]? = some x):qh all aG bW (M.take (k+1))=Et all aG bW (qh all aG bW (M.take k)) x:=by
  unfold qh; rw [fD hx,yU]; rfl
theorem XZ(all:List aV)(aG:List Int)(bW:Int)(M:List aH):(qh all aG bW M).length<=M.length:=by
  have key:∀(M:List aH)(q:List fA),(M.foldl (Et all aG bW) q).length<=q.length+M.length:=by
    intro M
    induction M with
    | nil=>intro q; simp
    | cons c M ih=>
      intro q;rw [sK];have h1:=ih (Et all aG bW q c);have h2:(Et all aG bW q c).length<=q.length+1:=by unfold Et; split; rw [ap8]; omega; omega
      simp only [pF]; omega
  have:=key M []
  simpa [qh] using this
theorem X0(q:List fA):drain q.length q=if takeB q=true then takeN q::drain (Db q).length (Db q) else[]:=by
  cases q with
  | nil=>rfl
  | cons x q=>
    rw [TQ]
    rfl
theorem aiV(q:List fA):(Db q).length+(if takeB q=true then 1 else 0)=q.length:=by
  rw [TQ]; unfold takeB
  cases q with
  | nil=>rfl
  | cons x q=>simp
theorem afz{k:Nat}(hx:M[k]? = some x)(h:XY all aG bW x=true):acD (qh all aG bW (M.take k)) (OH all aG x)=qh all aG bW (M.take (k+1)):=by
  rw [UM hx]; unfold Et; rw [aO h]
theorem afA{k:Nat}(hx:M[k]? = some x)(h:XY all aG bW x=false):qh all aG bW (M.take k)=qh all aG bW (M.take (k+1)):=by
  rw [UM hx]; unfold Et; rw [aK (by rw [h]; decide)]
theorem J9(a0:Int)(a1:Int)(a2:Int):prog.built 242 [(0,aF a0),(1,aF a1),(2,aF a2)]=some #[aF a0,aF a1,aF a2]:=ak
set_option maxHeartbeats 1000000 in
theorem aqb(w:World){jl:ah}{jk:Nat}{l:List aH}(jo:Sl bJ S0 w jl jk l){aqc:ah}{aqd:Nat}(axt:Sl cZ S0 w aqc aqd all){kC:ah}{ku:Nat}(kM:Sl dQ S0 w kC ku aG)(bW:Int)(hl:l.length<=10000)(hh:∀ x∈l,x.aD.length<=100000)(hn:all.length<=100000) :
    bS prog 154 #[.slice jl l.length jk,.slice aqc all.length aqd,.slice kC aG.length ku,aF bW] w λv w'=>∃(A0:ah)(c0:Nat),v=.slice A0 ((Gu l all aG bW).length) c0/\Hp w S0 w' [aS pX 242 A0 c0 (Gu l all aG bW)]:=by
 refine kP S0 func154 ntmps154 Y λH0=>iZ Y<|rg<|gX Y (auZ (S0:=Any) _) ?_
 rintro _ w1 ⟨gq1,rfl,hn1⟩;have K1:=H0.f2 hn1;refine bU Y<|aW<|bQ Y<|ev (eU iN Y)<|mv Y<|dn<|cB ?_
 have H1:=K1.nil pX 242;have eO:([]:List fA)=(qh all aG bW (l.take 0)):=by rfl
 rw [eO] at H1;have fQ:(.slice none 0 0:Value)=.slice none ((qh all aG bW (l.take 0)).length) 0:=by rfl
 try rw [fQ] at H1
 refine pK (λmJ lJ wJ=>∃(k:Nat)(A9:ah)(c9:Nat),lJ=[(1,.slice aqc all.length aqd),(2,.slice kC aG.length ku),(3,aF bW),(9,gD gq1),(17,.slice jl l.length jk),(18,aF ((l.length:Nat):Int)),(19,aF ((k:Nat):Int))]/\mJ=l.length - k/\k<=l.length/\Hp w S0 wJ [aS pX 242 A9 c9 (qh all aG bW (l.take k)),dY gq1 335 [.slice A9 ((qh all aG bW (l.take k)).length) c9,.func (.func 327) #[] #[]]]) ⟨0,none,0,Y,Y,fJ _,(H1.rm s2)⟩ Y ?_;rintro _ _ w2 ⟨k,A9,c9,rfl,rfl,hk,K2⟩;refine rg<|ev (fC Y Y)<|dn<|pQ Y (λlN=>?_) (λlN=>?_)
 ·refine jm ?_;refine aW<|cB<|rg ?_
  obtain⟨x1,bP⟩:=bC (xs:=l) (i:=k) aj;refine ev (cu (i:=k) iN o9 Y Y Y (aJ bP) ((K2.a jo).some_ bP)) ?_;obtain⟨B1,d1,zP,hi1⟩:=uP (jo.row bP);refine ev (gI (cs:=[aF x1.ID,aF x1.aB,gK x1.Sum,.slice B1 x1.aD.length d1]) qw Y Y (GV (λj u hu=>K2.ext.cell (zP j u hu))))<|al lU Y K2 λg1 w3 K3=>sty Y K3 s0 Y λw4 K4=>dn ?_
  have hhx:=hh _ (bT bP);have hql:=XZ all aG bW (l.take k)
  simp only [fO] at hql
  refine He K4 (λ_ K=>K) (λl0 rk lJ wJ=>∃(tN:Nat),lJ=(12,gD tN)::l0/\Hp w S0 wJ (dY tN 242 [aF x1.ID,aF (((jH x1 all aG).length:Nat):Int),aF (((E8 x1 aG).length:Nat):Int)]::rk)) (λhns H2=>?_) ?_
  ·refine ng 0 1 g1 0 pq s0 Y H2<|lD 2 Y (λ_ hK=>dU qw Y Y (hK.x s0)) H2<|kX 3 Y Y H2<|kX 4 Y Y H2<|lD 7 Y (λ_ hK=>dU qw Y Y (hK.x s0)) H2<|kX 8 Y Y H2<|Jn H2 (λl0 rk lJ wJ=>∃(LK:ah)(LP g3:Nat)(yS:ah)(yT:Nat),lJ=(12,gD g3)::(29,aF (((jH x1 all aG).length:Nat):Int))::(32,.slice LK ((E8 x1 aG).length) LP)::l0/\Hp w S0 wJ (aS dQ 3 LK LP (E8 x1 aG)::dY g3 242 [aF 0,aF 0,aF 0]::aS dQ 3 yS yT (jH x1 all aG)::rk)) 3 5119 ?_ λhS1=>?_
   ·rintro _ Z4 ⟨LK,LP,g3,yS,yT,rfl,zB⟩;have k9:=(zB.cU 0 3);refine lD 10 Y (λ_ _=>eU fB Y) k9<|lD 11 Y (λ_ _=>iY (vs:=[(0,aF x1.ID),(1,aF (((jH x1 all aG).length:Nat):Int)),(2,aF (((E8 x1 aG).length:Nat):Int))]) (cs:=[aF x1.ID,aF (((jH x1 all aG).length:Nat):Int),aF (((E8 x1 aG).length:Nat):Int)]) Y (by apply J9)) k9<|O1 13 rfl<|sty rfl zB s1 rfl λw16 BR=>?_
    have k10:=(BR.cU 0 3);refine aQ k10<|Dn ⟨g3,Y,(BR.cU 1 2)⟩ Y
   refine O2 5 12 Y Y ?_ ?_
   ·refine gX Y (XF _ x1 (H2.a hi1).any (H2.a axt).any (H2.a kM).any hhx aj) ?_;rintro _ w17 ⟨aCt,aCu,rfl,h17⟩;have yB:=H2.f1 h17;have k11:=(yB.rm s0);refine aQ k11<|lD 6 Y (λ_ _=>eU fB Y) k11<|O2 9 12 Y Y ?_ ?_
    ·refine gX Y (Vx _ x1 (yB.a hi1).any (yB.a kM).any hhx) ?_;rintro _ w18 ⟨aqe,aqf,rfl,h18⟩;have ET:=yB.f1 h18;have k12:=(ET.cU 0 2);refine aQ k12<|lD 10 Y (λ_ _=>eU fB Y) k12<|lD 11 Y (λ_ _=>iY (vs:=[(0,aF x1.ID),(1,aF (((jH x1 all aG).length:Nat):Int)),(2,aF (((E8 x1 aG).length:Nat):Int))]) (cs:=[aF x1.ID,aF (((jH x1 all aG).length:Nat):Int),aF (((E8 x1 aG).length:Nat):Int)]) Y (by apply J9)) k12<|O1 12 rfl<|al BS rfl ET λg5 w19 Cc=>?_
     have k13:=(Cc.cU 0 3);refine aQ k13<|O1 13 Y<|sty Y Cc s0 Y λw20 C8=>?_
     have k14:=(C8.cU 0 3);refine aQ k14<|Dn ⟨g5,Y,(C8.cU 1 2)⟩ Y
    ·refine al BS Y yB λg6 w21 FH=>?_;have k15:=(FH.cU 0 2);refine aQ k15<|O1 9 Y<|gX Y (Vx _ x1 (FH.a hi1).any (FH.a kM).any hhx) ?_
     rintro _ w22 ⟨afB,afC,rfl,h22⟩;have EU:=FH.f1 h22;have aqg:=(EU.o s0).bH;have k16:=(EU.cU 0 3);exact Kj hS1 k16 ⟨afB,afC,g6,aCt,aCu,Y,EU⟩ Y
   ·refine al BS Y H2 λg7 w23 KA=>?_;have k17:=(KA.rm s0);refine aQ k17<|O1 5 Y<|gX Y (XF _ x1 (KA.a hi1).any (KA.a axt).any (KA.a kM).any hhx aj) ?_
    rintro _ w24 ⟨aqh,aqi,rfl,h24⟩;have qB:=KA.f1 h24;have azj:=(qB.o s0).bH;have k18:=(qB.cU 0 2);refine aQ k18<|lD 6 Y (λ_ _=>eU fB Y) k18<|O1 9 Y<|gX Y (Vx _ x1 (qB.a hi1).any (qB.a kM).any hhx) ?_
    rintro _ w25 ⟨aCw,aCx,rfl,h25⟩;have FI:=qB.f1 h25;have aHh:=(FI.o s0).bH;have k19:=(FI.cU 0 3);exact Kj hS1 k19 ⟨aCw,aCx,g7,aqh,aqi,Y,((FI.sel s1).mV 1 2)⟩ Y
  rintro _ w26 ⟨tN,rfl,Nw⟩;refine rg<|jT tN 2 XP Nw s0 Y<|ev (pV Y Y)<|mv Y<|iP 5 43 ((decide (0<(((E8 x1 aG).length:Nat):Int)))&&(decide ((((jH x1 all aG).length:Nat):Int)<bW))) ?_ ?_
  ·cases ayE:decide (0<(((E8 x1 aG).length:Nat):Int)) with
   | true=>
    have aJD:=gW ayE;refine wL tN 1 QO Nw s0 Y<|bn Y (bf Y) Y<|bn Y (fC Y Y) Y<|ev (dH Y Y)<|dM Y
   | false=>
    refine dN<|dN<|dN<|dN<|ev (dL Y Y)<|dM Y
  refine dn<|bK Y (λxE=>?_) (λxE=>?_)
  ·refine jy<|mv Y<|ev (dU qD Y Y (Nw.x s0))<|gX Y (au0 (((Nw.mV 0 2).sel s2).sel s3) (⟨x1.ID,(((jH x1 all aG).length:Nat):Int),(((E8 x1 aG).length:Nat):Int)⟩:fA) aj) ?_
   rintro _ w27 ⟨rfl,Aq1,cq1,OB⟩;refine jA<|iE (gG ?_)
   refine jy<|ev (dO Y Y)<|mv Y<|jA ?_
   have jW:((acD (qh all aG bW (l.take k)) (⟨x1.ID,(((jH x1 all aG).length:Nat):Int),(((E8 x1 aG).length:Nat):Int)⟩:fA)):List fA)=(qh all aG bW (l.take (k+1))):=by first | exact afz bP xE | exact afA bP xE
   rw [jW] at OB;exact dI ⟨(k+1),Aq1,cq1,Y,Y,aj,(((OB.cU 2 2).sel s0).sel s1)⟩ rfl aj
  refine xQ ?_;refine jy<|ev (dO Y Y)<|mv Y<|jA ?_
  have mH:((qh all aG bW (l.take k)):List fA)=(qh all aG bW (l.take (k+1))):=by first | exact afz bP xE | exact afA bP xE
  rw [mH] at Nw;exact dI ⟨(k+1),A9,c9,Y,Y,aj,(Nw.cU 0 2)⟩ rfl aj
 refine wE ?_;refine iZ Y<|aW ?_
 have hql:=XZ all aG bW (l.take k)
 simp only [fO] at hql
 refine bQ Y<|gX Y (afy ((K2.sel s0).sel s1) aj) ?_
 rintro _ w28 ⟨rfl,FJ⟩;refine mv Y<|xt Y Y<|xt Y Y<|al BS Y FJ λg8 w29 Lx=>sty Y Lx s0 Y λw30 KC=>bU Y<|cB ?_
 have H3:=KC.nil pX 242;have H4:=H3.nil pX 242;refine Lp (H4.cU 0 5) (λl0 rk mJ lJ wJ=>∃(A9:ah)(c9:Nat)(q:List fA)(n:fA)(f:Bool)(g14:Nat)(out:List fA)(A13:ah)(c13:Nat),lJ=(13,.slice A13 out.length c13)::(14,gD g14)::(15,.bool f)::l0/\mJ=q.length+(if f=true then 1 else 0)/\(out++(if f=true then n::drain q.length q else[])=Gu l all aG bW)/\(q.length+(if f=true then 1 else 0)+out.length<=20000)/\Hp w S0 wJ (aS pX 242 A9 c9 q::dY gq1 335 [.slice A9 q.length c9,.func (.func 327) #[] #[]]::dY g14 242 [aF n.aC,aF n.Have,aF n.Live]::aS pX 242 A13 c13 out::rk)) ⟨A9,c9,(Db (qh all aG bW (l.take k))),(takeN (qh all aG bW (l.take k))),(takeB (qh all aG bW (l.take k))),g8,([]:List fA),none,0,Y,Y,by rw [KQ,<- X0,iH aj]; rfl,by rw [aiV]; simp only [rH]; omega,(((((H4.rm s1).sel s0).sel s1).sel s2).sel s3)⟩ rfl ?_;rintro _ _ w31 ⟨A9,c9,q,n,f,g14,out,A13,c13,rfl,rfl,hdr,aLV,QC⟩;refine aW<|bQ Y<|dn<|bK Y (λau1=>?_) (λau1=>?_)
 ·refine jm ?_;refine aW<|cB ?_
  have htm:=aiV q;have hif:(if f=true then 1 else 0:Nat)=1:=aO au1;refine jy<|mv Y<|ev (dU qD Y Y (QC.x s2))<|Az (τ:=pX) (x:=n) Y (by intro _; apply I9) rfl QC (λ_ _=>rfl) λg9 w32 OC=>ap (ys:=([n]:List fA)) OC s4 rfl rfl (OC.o s0) qC aqa aj av rfl λoL oM w33 Xy=>iI rfl<|jA<|iE (gG ?_)
  refine aW<|rg<|ev (dU qD Y Y (Xy.x s4))<|dn<|jy<|al BS Y Xy λg10 w34 K34=>sty Y K34 s0 Y λw35 K35=>jA<|gG<|jy<|mv Y<|gX Y (afy (((K35.mV 0 3).sel s3).sel s4) aj) ?_
  rintro _ w36 ⟨rfl,Zl⟩;refine mv Y<|xt Y Y<|xt Y Y<|sty Y Zl s2 Y λw37 K37=>iI Y<|jA<|dI ⟨A9,c9,(Db q),(takeN q),(takeB q),g10,(out++([n]:List fA)),oL,oM,Y,Y,by rw [<- X0]; simpa [au1] using hdr,by rw [aiV]; simp only [jd,pF,rH]; omega,((((K37.cU 4 2).sel s0).sel s1).sel s2)⟩ rfl aj
 refine wE ?_;refine bQ Y<|bU Y<|jc Y ?_
 have rR:(out:List fA)=(Gu l all aG bW):=by simpa [au1] using hdr
 have H5:=(rR▸QC:Hp w S0 w31 [aS pX 242 A9 c9 q,dY gq1 335 [.slice A9 q.length c9,.func (.func 327) #[] #[]],dY g14 242 [aF n.aC,aF n.Have,aF n.Live],aS pX 242 A13 c13 (Gu l all aG bW)]);exact⟨A13,c13,by rw [<- rR] <;> rfl,(H5.cU 0 3)⟩
theorem TR{a b:fA}:xV a b=true↔a.Live<b.Live∨(a.Live=b.Live/\(a.Have<b.Have∨(a.Have=b.Have/\a.aC<b.aC))):=by
  unfold xV OA bB
  by_cases h1:a.Live<b.Live <;> by_cases h2:b.Live<a.Live <;> by_cases h3:a.Have<b.Have <;> by_cases h4:b.Have<a.Have <;> by_cases h5:a.aC<b.aC <;> by_cases h6:b.aC<a.aC <;> simp [h1,h2,h3,h4,h5,h6] <;> omega
theorem QU{a b:fA}:xV a b=false↔¬ (a.Live<b.Live∨(a.Live=b.Live/\(a.Have<b.Have∨(a.Have=b.Have/\a.aC<b.aC)))):=by
  rw [<- TR]; cases xV a b <;> simp
def P6(a b:fA):Prop:=xV b a=false
theorem P6.tr{a b c:fA}(h1:P6 a b)(h2:P6 b c):P6 a c:=by unfold P6 at *; rw [QU] at *; omega
theorem P6.of{a b:fA}(h:xV a b=true):P6 a b:=by unfold P6; rw [TR] at h; rw [QU]; omega
theorem P6.rf(a:fA):P6 a a:=by unfold P6; rw [QU]; omega
def afD(l:List fA)(j:Nat):Prop:=∀ x y,l[(j - 1) / 2]? = some x->l[j]? = some y->P6 x y
def Dc(l:List fA):Prop:=∀ j,0<j->afD l j
theorem afE{l:List fA}{p j:Nat}{x y:fA}(hi:i<l.length)(hp:p<l.length)(hne:p≠i):((l.set i y).set p x)[j]? = if j=p then some x else if j=i then some y else l[j]?:=by
  rw [XM,XM,gJ]
  by_cases h1:p=j
  · subst h1; simp [hp]
  · rw [aK h1,aK (show ¬ j=p from λh=>h1 h.symm)]
    by_cases h2:i=j
    · subst h2; rw [aO rfl,aO rfl,aO hi]
    · rw [aK h2,aK (show ¬ j=i from λh=>h2 h.symm)]
theorem swap_perm{l:List fA}{p:Nat}{x y:fA}(hx:l[i]? = some x)(hy:l[p]? = some y):((l.set i y).set p x).Perm l:=by
  obtain⟨h1,rfl⟩:=nP.1 hx;obtain⟨h2,rfl⟩:=nP.1 hy;exact List.set_set_perm h1 h2
theorem afF:∀(f:Nat)(l:List fA)(i:Nat),(upG f l i).Perm l
  | 0,_,_=>KL _
  | f+1,l,i=>by
    unfold upG
    split
    · rename_i x y hx hy
      split
      · exact(afF f _ _).trans (swap_perm hx hy)
      · exact KL _
    · exact KL _
theorem X3:∀(f:Nat)(l:List fA)(i:Nat),(zo f l i).Perm l
  | 0,_,_=>KL _
  | f+1,l,i=>by
    unfold zo
    split
    · exact KL _
    · split
      · rename_i x y hx hy
        exact(X3 f _ _).trans (swap_perm hx hy)
      · exact KL _
theorem afG:∀(f:Nat)(l:List fA)(i:Nat),i<f->i<l.length->(∀ j,0<j->j≠i->afD l j)->
    (∀ j,(j - 1) / 2=i->0<i->0<j->∀ z y,l[(i - 1) / 2]? = some z->l[j]? = some y->P6 z y)->Dc (upG f l i)
  | 0,_,_,h,_,_,_=>absurd h (O9 _)
  | f+1,l,i,hf,hi,h1,h2=>by
    unfold upG;have hp:(i - 1) / 2<l.length:=aj;obtain⟨x,hx⟩:=bC (xs:=l) (i:=i) hi;obtain⟨y,hy⟩:=bC (xs:=l) (i:=(i - 1) / 2) hp;rw [hx,hy];show Dc (if(decide (0<i)&&xV x y)=true then _ else _)
    split
    · rename_i hc
      simp only [bN,bO] at hc
      have hne:(i - 1) / 2≠i:=aj;have hg:=λj=>afE (j:=j) (x:=x) (y:=y) hi hp hne;refine afG f _ _ aj (by rw [gJ,gJ]; omega) (λj hj hjp u v hu hv=>?_) (λj hj hp0 hj0 u v hu hv=>?_)
      · rw [hg] at hu hv
        rw [aK hjp] at hv
        by_cases e1:j=i
        · subst e1
          rw [aO rfl] at hu hv
          cases hu; cases hv; exact P6.of hc.2
        · rw [aK e1] at hv
          by_cases e2:(j - 1) / 2=(i - 1) / 2
          · rw [aO e2] at hu
            cases hu
            exact(P6.of hc.2).tr (h1 j hj e1 _ _ (e2▸hy) hv)
          · rw [aK e2] at hu
            by_cases e3:(j - 1) / 2=i
            · rw [aO e3] at hu; cases hu
              exact h2 j e3 hc.1 hj _ _ hy hv
            · rw [aK e3] at hu
              exact h1 j hj e1 _ _ hu hv
      · rw [hg] at hu hv
        rw [aK aj,aK aj] at hu;have hyu:=h1 _ hp0 hne _ _ hu hy;rw [aK aj] at hv
        by_cases e1:j=i
        · rw [aO e1] at hv; cases hv; exact hyu
        · rw [aK e1] at hv
          exact hyu.tr (h1 j hj0 e1 _ _ (hj▸hy) hv)
    · rename_i hc
      intro j hj
      by_cases e:j=i
      · subst e
        intro u v hu hv;rw [hy] at hu; rw [hx] at hv; cases hu; cases hv;unfold P6
        cases hq:xV x y
        · rfl
        · exact absurd (by simp [hq,hj]) hc
      · exact h1 j hj e
theorem X4(l:List fA)(i:Nat){x:fA}(hx:l[i]? = some x):∀ k,∃ y,l[jJ l i k]? = some y/\P6 y x/\(jJ l i k≠i->xV y x=true)/\∀ q,q<k->∀ z,l[2*i+1+q]? = some z->P6 y z
  | 0=>⟨x,hx,P6.rf x,λh=>absurd rfl h,λq h=>absurd h (O9 _)⟩
  | k+1=>by
    obtain⟨y,h1,h2,h3,h4⟩:=X4 l i hx k;unfold jJ
    split
    · rename_i hc
      have hlt:2*i+1+k<l.length:=by
        rcases P8 (2*i+1+k) l.length with h5 | h5
        · exact h5
        · rw [<- aiT aj] at hc; cases hc
      obtain⟨z,hz⟩:=bC (xs:=l) (i:=2*i+1+k) hlt;rw [<- aiS hz h1] at hc;refine⟨z,hz,(P6.of hc).tr h2,λ_=>?_,λq hq u hu=>?_⟩
      · unfold P6 at h2; rw [QU] at h2; rw [TR] at hc ⊢; omega
      · rcases P8 q k with h5 | h5
        · exact(P6.of hc).tr (h4 q h5 u hu)
        · obtain rfl:q=k:=aj
          rw [hz] at hu; cases hu; exact P6.rf _
    · rename_i hc
      refine⟨y,h1,h2,h3,λq hq u hu=>?_⟩
      rcases P8 q k with h5 | h5
      · exact h4 q h5 u hu
      · obtain rfl:q=k:=aj
        rw [<- aiS hu h1] at hc;unfold P6; simpa using hc
theorem aaV(l:List fA)(i:Nat):∀ k,jJ l i k=i∨jJ l i k<=2*i+k
  | 0=>.inl rfl
  | k+1=>by
    unfold jJ; split
    · right; omega
    · have:=aaV l i k; omega
theorem X5:∀(f:Nat)(l:List fA)(i:Nat),l.length - i<f->i<l.length->(∀ j,0<j->(j - 1) / 2≠i->afD l j)->
    (∀ j,(j - 1) / 2=i->0<i->0<j->∀ z y,l[(i - 1) / 2]? = some z->l[j]? = some y->P6 z y)->Dc (zo f l i)
  | 0,_,_,h,_,_,_=>absurd h (O9 _)
  | f+1,l,i,hf,hi,h1,h2=>by
    unfold zo;obtain⟨x,hx⟩:=bC (xs:=l) (i:=i) hi;obtain⟨y,hy,hyx,hy3,hy4⟩:=X4 l i hx 2;have hlt:=DR l i 2;have hle:=aaV l i 2
    generalize jJ l i 2=m at *
    split
    · rename_i e
      subst e;rw [hx] at hy; cases hy;intro j hj
      by_cases e:(j - 1) / 2=m
      · intro u v hu hv
        rw [e,hx] at hu; cases hu;exact hy4 (j - (2*m+1)) aj v (by rw [show 2*m+1+(j - (2*m+1))=j by omega]; exact hv)
      · exact h1 j hj e
    · rename_i hne
      rw [hx,hy];show Dc (zo f ((l.set i y).set m x) m);have hm:m<l.length:=aJ hy;have hpm:(m - 1) / 2=i:=aj;have hg:=λj=>afE (j:=j) (x:=x) (y:=y) hi hm hne;refine X5 f _ _ (by rw [gJ,gJ]; omega) (by rw [gJ,gJ]; omega) (λj hj hjp u v hu hv=>?_) (λj hj hp0 hj0 u v hu hv=>?_)
      · rw [hg] at hu hv
        rw [aK hjp] at hu
        by_cases e1:j=m
        · subst e1
          rw [aO rfl] at hv; rw [aO hpm] at hu
          cases hu; cases hv; exact hyx
        · rw [aK e1] at hv
          by_cases e2:j=i
          · subst e2
            rw [aO rfl] at hv; cases hv;rw [aK aj] at hu;exact h2 m hpm hj aj _ _ hu hy
          · rw [aK e2] at hv
            by_cases e3:(j - 1) / 2=i
            · rw [aO e3] at hu; cases hu
              exact hy4 (j - (2*i+1)) aj v (by rw [show 2*i+1+(j - (2*i+1))=j by omega]; exact hv)
            · rw [aK e3] at hu
              exact h1 j hj e3 _ _ hu hv
      · rw [hg] at hu hv
        rw [aK aj,aO hpm] at hu; cases hu;rw [aK aj,aK aj] at hv;exact h1 j hj0 aj _ _ (hj▸hy) hv
theorem Dc.top{l:List fA}(h:Dc l){t:fA}(ht:l[0]? = some t):∀(j:Nat)(y:fA),l[j]? = some y->P6 t y:=λj=>by
  induction j using Nat.strongRecOn with
  | ind j ih=>
    intro y hy
    by_cases e:j=0
    · subst e; rw [ht] at hy; cases hy; exact P6.rf _
    · have hj:=aJ hy
      obtain⟨x,hx⟩:=bC (xs:=l) (i:=(j - 1) / 2) aj;exact(ih _ aj x hx).tr (h j aj x y hx hy)
theorem aqj{l:List fA}(hl:0<l.length)(h:∀ j,0<j->j≠l.length - 1->afD l j):Dc (upL l):=
  afG _ _ _ aj aj h λj hj hp hj0 z y _ hy=>by have:=aJ hy; omega
theorem am6{l:List fA}(h:Dc l)(n:fA):Dc (acD l n):=by
  refine aqj av λj hj hne x y hx hy=>?_;have hlt:=aJ hy
  simp only [jd,pF,rH] at hlt hne
  rw [P9 aj] at hx hy;exact h j hj x y hx hy
theorem am7(l:List fA)(n:fA):(acD l n).Perm (n::l):=(afF _ _ _).trans zK
theorem aiW{l:List fA}(h:∀ j,0<j->(j - 1) / 2≠0->afD l j):Dc (QT l):=by
  rcases abV l.length with h0 | h0
  · obtain rfl:=uE h0
    intro j _ x y hx hy;have:=aJ hy;unfold QT at this; rw [TP] at this; simp at this
  · exact X5 _ _ _ aj h0 h λj hj h0=>by omega
theorem aiX{l:List fA}(h:Dc l):Dc (Db l):=by
  unfold Db
  split
  · rename_i z hz
    refine aiW λj hj hne x y hx hy=>?_;have hlt:=aJ hy;rw [OW (by simp at hlt; omega),Ea aj] at hx hy;exact h j hj x y hx hy
  · exact h
theorem X6{l:List fA}(hl:0<l.length):(takeN l::Db l).Perm l:=by
  obtain⟨t,ht⟩:=bC (xs:=l) (i:=0) hl;obtain⟨z,hz⟩:=bC (xs:=l) (i:=l.length - 1) aj;rw [XV ht,afx hz];have h1:(QT ((l.set 0 z).take (l.length - 1))).Perm ((l.set 0 z).take (l.length - 1)):=X3 _ _ _;refine(h1.cons t).trans ?_
  cases l with
  | nil=>simp at hl
  | cons a r=>
    simp only [List.getElem?_cons_zero,XO] at ht; subst ht
    simp only [pF,Nat.add_sub_cancel,List.set_cons_zero] at hz ⊢
    cases hr:r.length with
    | zero=>obtain rfl:=uE hr; exact KL _
    | succ m=>
      rw [hr] at hz;rw [abN]
      simp only [List.getElem?_cons_succ] at hz
      have h2:r=r.take m++[z]:=by
        obtain⟨hm,hz'⟩:=nP.1 hz;have h3:r.drop m=[z]:=by rw [zO hm,hz',Bj aj]
        have:=uF m r;rw [h3] at this; exact this.symm
      refine List.Perm.cons _ ?_
      conv=>rhs; rw [h2]
      exact(zK (l₁:=[z]))
theorem afH:∀(f:Nat)(q:List fA),q.length<=f->Dc q->(drain f q).Perm q/\(drain f q).Pairwise P6
  | 0,q,h,_=>by obtain rfl:=uE (Nat.le_zero.1 h); exact⟨KL _,List.Pairwise.nil⟩
  | f+1,q,h,hh=>by
    unfold drain
    split
    · rename_i hc
      have hl:0<q.length:=gW hc;have ih:=afH f (Db q) (by rw [TQ]; omega) (aiX hh);refine⟨(ih.1.cons _).trans (X6 hl),pG.2 ⟨λy hy=>?_,ih.2⟩⟩;obtain⟨t,ht⟩:=bC (xs:=q) (i:=0) hl;rw [XV ht];have hm:y∈q:=(X6 hl).mem_iff.1 (ou _ (ih.1.mem_iff.1 hy));obtain⟨j,hj⟩:=sM hm;exact hh.top ht j y hj
    · rename_i hc
      have hl:¬ 0<q.length:=λh=>hc (F8 h);obtain rfl:=uE (show q.length=0 by omega);exact⟨KL _,List.Pairwise.nil⟩
theorem am8(all:List aV)(aG:List Int)(bW:Int)(M:List aH):(qh all aG bW M).Perm ((M.filter (XY all aG bW)).map (OH all aG))/\Dc (qh all aG bW M):=by
  have key:∀(M:List aH)(q:List fA),Dc q->(M.foldl (Et all aG bW) q).Perm (q++(M.filter (XY all aG bW)).map (OH all aG))/\Dc (M.foldl (Et all aG bW) q):=by
    intro M
    induction M with
    | nil=>intro q h; exact⟨av,h⟩
    | cons c M ih=>
      intro q h;rw [sK,Iz];unfold Et
      split
      · rename_i hc
        have h1:=ih _ (am6 h (OH all aG c));refine⟨h1.1.trans ?_,h1.2⟩;rw [nG];exact((am7 _ _).append_right _).trans (Gt (l₁:=q)).symm
      · rename_i hc
        exact ih q h
  have:=key M [] (λj hj x y hx=>by simp at hx)
  simpa [qh] using this
theorem aaW(l:List aH)(all:List aV)(aG:List Int)(bW:Int):(Gu l all aG bW).Perm ((l.filter (XY all aG bW)).map (OH all aG))/\(Gu l all aG bW).Pairwise P6:=by
  have h1:=am8 all aG bW l;have h2:=afH _ _ (kV _) h1.2;exact⟨h2.1.trans h1.1,h2.2⟩
theorem X7{l:List aH}{n:fA}:n∈Gu l all aG bW↔∃ c∈l,XY all aG bW c=true/\n=OH all aG c:=by
  rw [(aaW l all aG bW).1.mem_iff,gQ]
  constructor
  · rintro⟨c,h,rfl⟩; exact⟨c,(nJ.1 h).1,(nJ.1 h).2,rfl⟩
  · rintro⟨c,h1,h2,rfl⟩; exact⟨c,nJ.2 ⟨h1,h2⟩,rfl⟩
theorem aiY(l:List aH)(all:List aV)(aG:List Int)(bW:Int):(Gu l all aG bW).length<=l.length:=by
  rw [(aaW l all aG bW).1.length_eq,jY]; exact mR _ _
end Go.Proofs.YtlhnnmlenkahlaaGreat
