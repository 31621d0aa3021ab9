/- Lemmas. -/
import Derived.Test.YtlhnnmlenkahlaaGreatvG10
set_option maxRecDepth 4000
set_option linter.all false
namespace Go.Proofs.YtlhnnmlenkahlaaGreat
open Go.RowKit Go.Proofs.Tryz
def MK:=@Nat.not_lt_zero
def oZ:=@underlying197
def Vd:=@List.getElem?_set
def ZL:=@Option.some.injEq
def Ve:=@List.mem_cons_of_mem
def EK:=@List.perm_middle
variable {i g c:Nat}{S0 S:Nat->Prop}{b w:World}{F:List lC}{A:ah}{all:List aW}{aG:List Int}{bW:Int}{M:List aI}{x:aI}
structure eP where
  aB:Int
  Have:Int
  Live:Int
  deriving DecidableEq
def eP.enc(x:eP):List Value:=[.int .i64 x.aB,.int .i64 x.Have,.int .i64 x.Live]
theorem eP.kC(x:eP):∀ u∈x.enc,u.oneCell'=true:=by
  intro u hu
  simp only [eP.enc,iN,kY,qW] at hu
  rcases hu with rfl | rfl | rfl <;> rfl
def oK:Ty eP:=Ty.flat 3 eP.enc au (λ_=>rfl) eP.kC
instance:Flat oK:=⟨λh=>h⟩
def wG(a b:eP):Bool:=decide (LD [bn a.Live b.Live,bn a.Have b.Have,bn a.aB b.aB]<0)
def ZM:Nat->List eP->Nat->List eP
  | 0,l,_=>l
  | f+1,l,i=>match l[i]?,l[(i - 1) / 2]? with
    | some x,some y=>if(decide (0<i)&&wG x y)=true then ZM f ((l.set i y).set ((i - 1) / 2) x) ((i - 1) / 2) else l
    | _,_=>l
def upL(l:List eP):List eP:=ZM l.length l (l.length - 1)
theorem ahs:∀(f:Nat)(l:List eP)(i:Nat),(ZM f l i).length=l.length
  | 0,_,_=>rfl
  | f+1,l,i=>by
    unfold ZM
    split
    · split
      · rw [ahs f,fQ,fQ]
      · rfl
    · rfl
theorem acK:∀(f f':Nat)(l:List eP)(i:Nat),i<f->i<f'->ZM f l i=ZM f' l i
  | 0,_,_,_,h,_=>absurd h (MK _)
  | _+1,0,_,_,_,h=>absurd h (MK _)
  | f+1,f'+1,l,i,h1,h2=>by
    unfold ZM
    split
    · split
      · rename_i hc
        simp only [bK,bL] at hc
        exact acK f f' _ _ aj aj
      · rfl
    · rfl
theorem auU{l:List eP}{x y:eP}(hx:l[i]? = some x)(hy:l[(i - 1) / 2]? = some y)(hi:0<i)(h:wG x y=true):ZM (i+1) l i=ZM ((i - 1) / 2+1) ((l.set i y).set ((i - 1) / 2) x) ((i - 1) / 2):=by
  conv=>lhs; unfold ZM
  rw [hx,hy];show(if(decide (0<i)&&wG x y)=true then _ else _)=_;rw [aO (by simp [hi,h])];exact acK _ _ _ _ aj aj
theorem amy{l:List eP}(h:∀ x y,l[i]? = some x->l[(i - 1) / 2]? = some y->(decide (0<i)&&wG x y)=false):ZM (i+1) l i=l:=by
  unfold ZM
  split
  · rename_i x y hx hy
    rw [aK (by rw [h x y hx hy]; decide)]
  · rfl
theorem Vf:dH prog 242 2 2:=ay
theorem Om:dH prog 242 1 1:=ay
theorem Oo:dH prog 242 0 0:=ay
theorem acL(a0:Int)(a1:Int)(a2:Int):∀ w,(Instr.buildSlice 55 3 (List.toArray [(0,aD a0),(1,aD a1),(2,aD a2)])).run prog w=.ok (.slice (some ⟨w.heap.size,0,none⟩) 3 3) (w.alloc (.cells (List.toArray [aD a0,aD a1,aD a2]) 3)):=ay
theorem pV:Size prog 242 3:=ay
theorem o7:XY prog 242 3:=⟨λ_=>by kernel_rfl,pV⟩
theorem lI:dH prog 333 0 0:=ay
theorem Vg:kW prog 197:=ay
theorem acM:dH prog 333 1 1:=ay
theorem amA:kW prog 331:=ay
theorem amB:bI prog 327:=ay
abbrev ZN(gJ iK:eP):=([bn gJ.Live iK.Live,bn gJ.Have iK.Have,bn gJ.aB iK.aB]:List Int)
theorem ajE(w:World)(a:eP)(b:eP) :
    bO prog 402 #[.agg #[aD a.aB,aD a.Have,aD a.Live],.agg #[aD b.aB,aD b.Have,aD b.Live]] w λv w'=>v=aD (LD [bn a.Live b.Live,bn a.Have b.Have,bn a.aB b.aB])/\Hp w S0 w' []:=by
 refine j4 S0 func402 ntmps402 Y λH0=>rg<|bx Y Y H0 λg1 w1 K1=>bx Y Y K1 λg2 w2 K2=>bS Y<|He K2 (λ_ K=>K) (λl0 rk lJ wJ=>lJ=(4,aD (LD (ZN a b)))::l0/\Hp w S0 wJ rk) (λhns H1=>?_) ?_
 ·refine mD 0 1 g1 2 Vf s1 Y H1<|mD 2 3 g2 2 Vf s0 Y H1<|mD 5 6 g1 1 Om s1 Y H1<|mD 7 8 g2 1 Om s0 Y H1<|mD 10 11 g1 0 Oo s1 Y H1<|mD 12 13 g2 0 Oo s0 Y H1<|O1 4 Y<|lF H1 Y (mF (S0:=Any) _ a.Live b.Live) λw3 K3=>aP K3<|O1 9 Y<|lF K3 Y (mF (S0:=Any) _ a.Have b.Have) λw4 K4=>aP K4<|O1 14 Y<|lF K4 Y (mF (S0:=Any) _ a.aB b.aB) λw5 K5=>aP K5<|O1 15 Y<|bsn (τ:=dL) (xs:=(ZN a b)) (vs:=[(0,aD (bn a.Live b.Live)),(1,aD (bn a.Have b.Have)),(2,aD (bn a.aB b.aB))]) (css:=[[aD (bn a.Live b.Live)],[aD (bn a.Have b.Have)],[aD (bn a.aB b.aB)]]) Y (by intro _; apply acL) rfl rfl K5 (λ_ e=>⟨rfl,rfl,rfl,trivial⟩) λg3 w6 K6=>?_
  have k1:=(K6.rm s0);refine aP k1<|O1 16 Y<|lF K6 Y (acu _ (K6.o s0)) λw7 K7=>?_
  have k2:=(K7.rm s0);refine aP k2<|xJ 17 Y Y k2<|Dn ⟨Y,(K7.rm s0)⟩ Y
 rintro _ w8 ⟨rfl,K8⟩;refine iI Y ?_;have d9:(LD (ZN a b):Int)=(LD [bn a.Live b.Live,bn a.Have b.Have,bn a.aB b.aB]):=by rfl
 exact⟨by rw [d9] <;> rfl,K8.z⟩
theorem Vh(w:World)(a:eP)(b:eP) :
    bO prog 327 #[.agg #[aD a.aB,aD a.Have,aD a.Live],.agg #[aD b.aB,aD b.Have,aD b.Live]] w λv w'=>v=.bool (wG a b)/\Hp w S0 w' []:=by
 refine j4 S0 func327 ntmps327 Y λH0=>rg<|bx Y Y H0 λg1 w1 K1=>bx Y Y K1 λg2 w2 K2=>bS Y<|rg<|ev (dK o7 Y Y (K2.x s1))<|ev (dK o7 Y Y (K2.x s0))<|lF K2 Y (ajE (S0:=Any) _ a b) λw3 K3=>ev (fB Y Y)<|bS Y<|iI Y ?_
 have d9:(decide (LD [bn a.Live b.Live,bn a.Have b.Have,bn a.aB b.aB]<0):Bool)=(wG a b):=by rfl
 exact⟨by rw [d9] <;> rfl,K3.z⟩
abbrev SK(gJ:Nat)(iK:ah)(tF:List eP)(vP:Nat)(DI:List lC):=dJ gJ 335 [.slice iK tF.length vP,.func (.func 327) #[] #[]]::aR oK 242 iK vP tF::DI
theorem auV{l:List eP}(H0:Hp b S w (SK g A l c F))(hn:l.length<=1000000)(h1:1<=l.length) :
    bO prog 328 #[fP g] w λv w'=>v=.tuple #[]/\Hp b S w' (dJ g 335 [.slice A (upL l).length c,.func (.func 327) #[] #[]]::aR oK 242 A c (upL l)::F):=by
 refine sF func328 ntmps328 Y<|WP.jumps (lb:=0) (λmJ lJ wJ=>∃(i:Nat)(ys:List eP),lJ=[(0,fP g),(2,aD ((i:Nat):Int))]/\mJ=i+1/\(ys.length=l.length)/\(i<l.length)/\(ZM (i+1) ys i=ZM l.length l (l.length - 1))/\Hp b S wJ (aR oK 242 A c ys::dJ g 335 [.slice A ys.length c,.func (.func 327) #[] #[]]::F)) Y ?_ ?_
 ·rintro _ _ w1 ⟨i,ys,rfl,rfl,hyl,hil,hup,K1⟩;have aFp:=half i;refine bQ Y<|ev (RA Y Y)<|ev (Ev.quo Y Y au (vM aj aj))<|bS Y<|kP (t:=3) (u:=aD ((((i:Nat):Int) - 1).tdiv 2)) Y (aS (Value.int .i64) (half i)) ?_
  obtain⟨x1,bP⟩:=bC (xs:=ys) (i:=i) aj;obtain⟨x2,kK⟩:=bC (xs:=ys) (i:=(i - 1) / 2) aj;refine qo ak ak<|bD (bA Y) Y<|bD (pJ Y Y) Y<|bD (bA Y) Y<|qy 20 35 ((decide (0<((i:Nat):Int)))&&(wG x1 x2)) ?_ ?_
  ·cases Qm:decide (0<((i:Nat):Int)) with
   | true=>
    have aht:=jC Qm;refine dV Y (bA Y) Y<|dV Y (dS Y) Y<|dV Y (eF (q:=⟨g,1,none⟩) acM Y Y) Y<|dV Y (cu amA Y (K1.x s1) Y) Y<|dV Y (bA Y) Y<|dV Y (dS Y) Y<|dV Y (eF (q:=⟨g,0,none⟩) lI Y Y) Y<|dV Y (cu Vg Y (K1.x s1) Y) Y<|dV Y (bA Y) Y<|dV Y (eU (i:=i) oZ pV Y Y Y (aJ bP) ((K1.o s0).some_ bP)) Y<|dV Y (fV o7 Y Y ((K1.o s0).eX bP)) Y<|dV Y (bA Y) Y<|dV Y (dS Y) Y<|dV Y (eF (q:=⟨g,0,none⟩) lI Y Y) Y<|dV Y (cu Vg Y (K1.x s1) Y) Y<|dV Y (bA Y) Y<|dV Y (eU (i:=(i - 1) / 2) oZ pV Y Y Y (aJ kK) ((K1.o s0).some_ kK)) Y<|dV Y (fV o7 Y Y ((K1.o s0).eX kK)) Y<|NA Y (v:=.bool (wG x1 x2)) Y Y Y amB (λwq eq=>(Vh (S0:=Any) wq x1 x2).mono (by rintro _ _ ⟨rfl,fG⟩; exact⟨rfl,fG.ext⟩)) rfl<|bD (dY rfl rfl) rfl<|jJ rfl
   | false=>
    refine dF Y Y Y<|dF Y Y Y<|dF Y Y Y<|dF Y Y Y<|dF Y Y Y<|dF Y Y Y<|dF Y Y Y<|dF Y Y Y<|dF Y Y Y<|dF Y Y Y<|dF Y Y Y<|dF Y Y Y<|dF Y Y Y<|dF Y Y Y<|dF Y Y Y<|dF Y Y Y<|dF Y Y Y<|dF Y Y Y<|dF Y Y Y<|bD (eG Y Y) Y<|jJ Y
  refine qp λw2 e2=>?_;have K2:=K1.grow e2;refine bR Y (λML=>?_) (λML=>?_)
  ·have hsA:=(K2.o s0).some_ bP;have hp:=(bK _ _).mp ML;have hp1:=jC hp.1;have hgo:=auU bP kK aj hp.2;refine He K2 (λ_ K=>(K.rm s0)) (λl0 rk lJ wJ=>lJ=l0/\Hp b S wJ (aR oK 242 A c ((ys.set i x2).set ((i - 1) / 2) x1)::rk)) (λhns H1=>?_) ?_
   ·have k1:=(H1.rm s0);refine sw 0 g 0 lI Y k1<|Ai 3 s0 Y k1<|kT 4 Y Y k1<|sw 5 g 0 lI Y k1<|Ai 8 s0 Y k1<|kT 9 Y Y k1<|sw 10 g 0 lI Y k1<|Ai 13 s0 Y k1<|kT 14 Y Y k1<|lH 15 Y (λ_ _=>eU (i:=(i - 1) / 2) oZ pV Y Y Y (aJ kK) hsA) k1<|sw 17 g 0 lI Y k1<|Ai 20 s0 Y k1<|kT 21 Y Y k1<|lH 22 Y (λ_ _=>eU (i:=i) oZ pV Y Y Y (aJ bP) hsA) k1<|Jn H1 (λl0 rk lJ wJ=>lJ=(52,.agg #[aD x2.aB,aD x2.Have,aD x2.Live])::(59,.agg #[aD x1.aB,aD x1.Have,aD x1.Live])::l0/\Hp b S wJ rk) 4 16777215 ?_ λhS1=>?_
    ·rintro _ w5 ⟨rfl,K5⟩;have k4:=(K5.rm s0);refine lH 24 Y (λ_ _=>eU (i:=i) oZ pV Y Y Y (aJ bP) hsA) k4<|O1 25 Y<|se (i:=i) (f:=0) (x:=x1) (x':=x2) (ds:=[aD x2.aB,aD x2.Have,aD x2.Live]) K5 s0 Y Y Y bP Y pV (oJ Y) Y (by rintro _ _ _ ⟨⟩; rfl) λw6 K6=>?_
     have hl3:(ys.set i x2).length=ys.length:=fQ ..;refine fJ (t:=39) (u:=.slice A ys.length c) (v:=.slice A ((ys.set i x2).length) c) Y (by rw [hl3])<|fJ (t:=44) (u:=.slice A ys.length c) (v:=.slice A ((ys.set i x2).length) c) rfl (by rw [hl3]) ?_
     have k5:=(K6.rm s0);refine aP k5 ?_;obtain⟨x4,hx7⟩:=bC (xs:=(ys.set i x2)) (i:=(i - 1) / 2) aj;refine lH 26 Y (λ_ _=>eU (i:=(i - 1) / 2) oZ pV Y Y Y (aJ hx7) hsA) k5<|O1 27 Y<|se (i:=(i - 1) / 2) (f:=0) (x:=x4) (x':=x1) (ds:=[aD x1.aB,aD x1.Have,aD x1.Live]) K6 s0 Y Y Y hx7 Y pV (oJ Y) Y (by rintro _ _ _ ⟨⟩; rfl) λw7 K7=>?_
     have hl4:((ys.set i x2).set ((i - 1) / 2) x1).length=(ys.set i x2).length:=fQ ..;refine fJ (t:=39) (u:=.slice A ((ys.set i x2).length) c) (v:=.slice A (((ys.set i x2).set ((i - 1) / 2) x1).length) c) Y (by rw [hl4])<|fJ (t:=44) (u:=.slice A ((ys.set i x2).length) c) (v:=.slice A (((ys.set i x2).set ((i - 1) / 2) x1).length) c) rfl (by rw [hl4]) ?_
     have k6:=(K7.rm s0);refine aP k6<|Dn ⟨Y,K7⟩ Y
    refine O2 16 23 Y Y ?_ ?_
    ·refine ev (fV o7 Y Y ((H1.o s0).eX kK))<|aP k1<|O1 23 Y<|ev (fV o7 Y Y ((H1.o s0).eX bP))<|Kj hS1 k1 ⟨Y,H1⟩ Y
    ·refine ev (fV o7 Y Y ((H1.o s0).eX bP))<|aP k1<|O1 16 Y<|ev (fV o7 Y Y ((H1.o s0).eX kK))<|Kj hS1 k1 ⟨Y,H1⟩ Y
   rintro _ w8 ⟨rfl,K8⟩;refine bQ Y<|bS Y<|WP.goto ?_
   have d9:(.slice A ys.length c:Value)=.slice A (((ys.set i x2).set ((i - 1) / 2) x1).length) c:=by rw [fQ,fQ]
   try rw [d9] at K8
   exact kV.jag ⟨((i - 1) / 2),((ys.set i x2).set ((i - 1) / 2) x1),Y,Y,by rw [fQ,fQ]; exact hyl,aj,by rw [<- hgo]; exact hup,K8⟩ rfl aj
  refine xH (kV.XZ (qA (zD Y ?_)));have hst:ZM (i+1) ys i=ys:=amy (λx y e1 e2=>by rw [bP] at e1; cases e1; rw [kK] at e2; cases e2; rw [show decide (0<i)=decide ((0:Int)<(i:Int)) from decide_eq_decide.2 aj]; exact ML);have hfi:ys=upL l:=by rw [<- hst,hup]; rfl
  exact⟨Y,by rw [<- hfi]; exact((K2.sel s0).sel s1)⟩
 ·intro hp0;refine bQ Y<|ev (dS Y)<|jD g 0 lI H0 s0 Y<|ev (eY oZ Y)<|ev (Ev.apQ (a:=l.length) (b:=1) Y Y Y aj aj)<|bS Y<|iY Y<|WP.kp hp0 ⟨(l.length - 1),l,Y,Y,by rfl,aj,by rw [Nat.sub_add_cancel h1],((H0.sel s0).sel s1)⟩ rfl
def R7(l:List eP)(a m:Nat):Bool:=match l[a]?,l[m]? with | some x,some y=>wG x y | _,_=>false
def jk(l:List eP)(i:Nat):Nat->Nat
  | 0=>i
  | k+1=>if R7 l (2*i+1+k) (jk l i k)=true then 2*i+1+k else jk l i k
abbrev lsB(l:List eP)(i k:Nat):Bool:=R7 l (2*i+1+k) (jk l i k)
theorem afT{l:List eP}{a m:Nat}{x y:eP}(hx:l[a]? = some x)(hy:l[m]? = some y):wG x y=R7 l a m:=by unfold R7; rw [hx,hy]
theorem afU{l:List eP}{a m:Nat}(h:¬ a<l.length):false=R7 l a m:=by unfold R7; rw [xu aj]
theorem BS(l:List eP)(i:Nat):∀ k,jk l i k=i∨(2*i+1<=jk l i k/\jk l i k<l.length/\i<l.length)
  | 0=>.inl rfl
  | k+1=>by
    unfold jk
    split
    · rename_i h
      right
      have h1:2*i+1+k<l.length:=by
        rcases Nr (2*i+1+k) l.length with h2 | h2
        · exact h2
        · rw [<- afU aj] at h; cases h
      omega
    · exact BS l i k
def xL:Nat->List eP->Nat->List eP
  | 0,l,_=>l
  | f+1,l,i=>if jk l i 2=i then l else match l[i]?,l[jk l i 2]? with
    | some x,some y=>xL f ((l.set i y).set (jk l i 2) x) (jk l i 2)
    | _,_=>l
def Oq(l:List eP):List eP:=xL (l.length+1) l 0
theorem QM:∀(f:Nat)(l:List eP)(i:Nat),(xL f l i).length=l.length
  | 0,_,_=>rfl
  | f+1,l,i=>by
    unfold xL
    split
    · rfl
    · split
      · rw [QM f,fQ,fQ]
      · rfl
theorem Vi:∀(f f':Nat)(l:List eP)(i:Nat),l.length - i<f->l.length - i<f'->xL f l i=xL f' l i
  | 0,_,_,_,h,_=>absurd h (MK _)
  | _+1,0,_,_,_,h=>absurd h (MK _)
  | f+1,f'+1,l,i,h1,h2=>by
    unfold xL
    split
    · rfl
    · rename_i hne
      have h3:=BS l i 2
      split
      · exact Vi f f' _ _ (by rw [fQ,fQ]; omega) (by rw [fQ,fQ]; omega)
      · rfl
theorem amC{l:List eP}{m:Nat}{x y:eP}(hm:jk l i 2=m)(hne:m≠i)(hx:l[i]? = some x)(hy:l[m]? = some y):xL (l.length - i+1) l i=xL (l.length - m+1) ((l.set i y).set m x) m:=by
  subst hm
  conv=>lhs; unfold xL
  rw [aK hne,hx,hy];have h3:=BS l i 2;exact Vi _ _ _ _ (by rw [fQ,fQ]; omega) (by rw [fQ,fQ]; omega)
theorem afV{l:List eP}(h:jk l i 2=i):xL (l.length - i+1) l i=l:=by unfold xL; rw [aO h]
theorem ZO(a0:Int)(a1:Int):prog.built 374 [(0,aD a0),(1,aD a1)]=some #[aD a0,aD a1]:=ak
theorem amD{l:List eP}(H0:Hp b S w (SK g A l c F))(hn:l.length<=1000000) :
    bO prog 329 #[fP g] w λv w'=>v=.tuple #[]/\Hp b S w' (dJ g 335 [.slice A (Oq l).length c,.func (.func 327) #[] #[]]::aR oK 242 A c (Oq l)::F):=by
 refine sF func329 ntmps329 Y<|WP.jumps (lb:=0) (λmJ lJ wJ=>∃(i:Nat)(ys:List eP),lJ=[(0,fP g),(2,aD ((i:Nat):Int))]/\mJ=l.length - i+1/\(ys.length=l.length)/\(i<=l.length)/\(xL (ys.length - i+1) ys i=xL (l.length+1) l 0)/\Hp b S wJ (aR oK 242 A c ys::dJ g 335 [.slice A ys.length c,.func (.func 327) #[] #[]]::F)) Y ?_ ?_
 ·rintro _ _ w1 ⟨i,ys,rfl,rfl,hyl,hil,hdn,K1⟩;refine bQ Y<|bS Y<|aZ<|bQ Y<|ev (Ev.mul Y Y (vM aj aj))<|ev (dW Y Y)<|mv Y<|ev (Ev.mul Y Y (vM aj aj))<|ev (dW Y Y)<|ev (iE (vs:=[(0,aD ((2*i+1:Nat):Int)),(1,aD ((2*i+2:Nat):Int))]) (cs:=[aD ((2*i+1:Nat):Int),aD ((2*i+2:Nat):Int)]) Y (by apply ZO))<|mv rfl<|dn<|cZ ?_
  have d9:(((i:Nat):Int):Int)=((jk ys i 0:Nat):Int):=by rfl
  refine kP (t:=3) Y (aS (Value.int .i64) d9)<|Lp K1 (λl0 rk mJ lJ wJ=>∃(k:Nat),lJ=(3,aD ((jk ys i k:Nat):Int))::(14,aD ((k:Nat):Int))::l0/\mJ=2 - k/\k<=2/\Hp b S wJ rk) ⟨0,Y,Y,fK _,K1⟩ Y ?_
  rintro _ _ w2 ⟨k,rfl,rfl,hk,K2⟩;refine rg<|ev (fB Y Y)<|dn<|oC Y (λrU=>?_) (λrU=>?_)
  ·refine jh ?_;refine aZ<|cZ<|rg<|ev (Ev.aCR (v:=aD ((2*i+1+k:Nat):Int)) (i:=k) underlying374 sZ jG aj Y Y (by rcases(by omega:k=0∨k=1) with rfl | rfl <;> rfl))<|bS rfl ?_
   have hlt:=BS ys i k;refine qo ak ak<|bD (bA Y) Y<|bD (bA Y) Y<|bD (dS Y) Y<|bD (eF (q:=⟨g,0,none⟩) lI Y Y) Y<|bD (cu Vg Y (K2.x s1) Y) Y<|bD (eY oZ Y) Y<|bD (fB Y Y) Y<|bD (bA Y) Y<|qy 20 44 (lsB ys i k) ?_ ?_
   ·cases ajB:decide (((2*i+1+k:Nat):Int)<((ys.length:Nat):Int)) with
    | true=>
     have ax6:=jC ajB;refine dV Y (bA Y) Y<|dV Y (dS Y) Y<|dV Y (eF (q:=⟨g,1,none⟩) acM Y Y) Y<|dV Y (cu amA Y (K2.x s1) Y) Y<|dV Y (bA Y) Y<|dV Y (dS Y) Y<|dV Y (eF (q:=⟨g,0,none⟩) lI Y Y) Y<|dV Y (cu Vg Y (K2.x s1) Y) Y<|dV Y (bA Y) Y ?_
     obtain⟨x1,bP⟩:=bC (xs:=ys) (i:=2*i+1+k) aj;refine dV Y (eU (i:=2*i+1+k) oZ pV Y Y Y (aJ bP) ((K2.o s0).some_ bP)) Y<|dV Y (fV o7 Y Y ((K2.o s0).eX bP)) Y<|dV Y (bA Y) Y<|dV Y (dS Y) Y<|dV Y (eF (q:=⟨g,0,none⟩) lI Y Y) Y<|dV Y (cu Vg Y (K2.x s1) Y) Y<|dV Y (bA Y) Y ?_
     obtain⟨x2,kK⟩:=bC (xs:=ys) (i:=jk ys i k) aj;refine dV Y (eU (i:=jk ys i k) oZ pV Y Y Y (aJ kK) ((K2.o s0).some_ kK)) Y<|dV Y (fV o7 Y Y ((K2.o s0).eX kK)) Y<|NA Y (v:=.bool (wG x1 x2)) Y Y Y amB (λwq eq=>(Vh (S0:=Any) wq x1 x2).mono (by rintro _ _ ⟨rfl,fG⟩; exact⟨rfl,fG.ext⟩)) rfl<|bD (dY rfl rfl) rfl<|Bd (t:=44) (u:=.bool (wG x1 x2)) (v:=.bool (lsB ys i k)) rfl (aS Value.bool (by exact afT bP kK))<|jJ rfl
    | false=>
     refine dF Y Y Y<|dF Y Y Y<|dF Y Y Y<|dF Y Y Y<|dF Y Y Y<|dF Y Y Y<|dF Y Y Y<|dF Y Y Y<|dF Y Y Y<|dF Y Y Y<|dF Y Y Y<|dF Y Y Y<|dF Y Y Y<|dF Y Y Y<|dF Y Y Y<|dF Y Y Y<|dF Y Y Y<|dF Y Y Y<|dF Y Y Y<|bD (eG Y Y) Y<|Bd (t:=44) (u:=.bool false) (v:=.bool (lsB ys i k)) Y (aS Value.bool (by exact afU (by have:=kg ajB; omega)))<|jJ rfl
   refine qp λw3 e3=>?_;have K3:=K2.grow e3;refine bR Y (λVj=>?_) (λVj=>?_)
   ·refine jr<|mv Y<|iA Y<|jv<|ig (gB ?_)
    refine jr<|ev (dW Y Y)<|mv Y<|jv ?_
    have fG:(((2*i+1+k:Nat):Int):Int)=((jk ys i (k+1):Nat):Int):=by simp only [jk]; first | rw [aO (show R7 ys (2*i+1+k) (jk ys i k)=true from Vj)] | rw [aK (show ¬ R7 ys (2*i+1+k) (jk ys i k)=true by rw [show R7 ys (2*i+1+k) (jk ys i k)=false from Vj]; decide)]
    refine ji (t:=3) Y (aS (Value.int .i64) fG)<|dQ ⟨(k+1),Y,Y,aj,K3⟩ rfl aj
   refine zF ?_;refine jr<|ev (dW Y Y)<|mv Y<|jv ?_
   have jQ:(((jk ys i k:Nat):Int):Int)=((jk ys i (k+1):Nat):Int):=by simp only [jk]; first | rw [aO (show R7 ys (2*i+1+k) (jk ys i k)=true from Vj)] | rw [aK (show ¬ R7 ys (2*i+1+k) (jk ys i k)=true by rw [show R7 ys (2*i+1+k) (jk ys i k)=false from Vj]; decide)]
   refine ji (t:=3) Y (aS (Value.int .i64) jQ)<|dQ ⟨(k+1),Y,Y,aj,K3⟩ rfl aj
  refine wQ ?_;have hk2:k=2:=aj;have hlm:jk ys i 2=jk ys i k:=by rw [hk2]
  have hlt:=BS ys i k;refine bQ Y<|mv Y<|ev (rz Y Y)<|dn<|bR Y (λamE=>?_) (λamE=>?_)
  ·replace amE:=nS amE;obtain⟨x3,hx3⟩:=bC (xs:=ys) (i:=i) aj;obtain⟨x4,hx4⟩:=bC (xs:=ys) (i:=jk ys i k) aj;have hsA:=(K2.o s0).some_ hx3;have hgo:=amC hlm aj hx3 hx4;refine He K2 (λ_ K=>(K.rm s0)) (λl0 rk lJ wJ=>lJ=l0/\Hp b S wJ (aR oK 242 A c ((ys.set i x4).set (jk ys i k) x3)::rk)) (λhns H1=>?_) ?_
   ·have k1:=(H1.rm s0);refine sw 0 g 0 lI Y k1<|Ai 3 s0 Y k1<|kT 4 Y Y k1<|sw 5 g 0 lI Y k1<|Ai 8 s0 Y k1<|kT 9 Y Y k1<|sw 10 g 0 lI Y k1<|Ai 13 s0 Y k1<|kT 14 Y Y k1<|lH 15 Y (λ_ _=>eU (i:=jk ys i k) oZ pV Y Y Y (aJ hx4) hsA) k1<|sw 17 g 0 lI Y k1<|Ai 20 s0 Y k1<|kT 21 Y Y k1<|lH 22 Y (λ_ _=>eU (i:=i) oZ pV Y Y Y (aJ hx3) hsA) k1<|Jn H1 (λl0 rk lJ wJ=>lJ=(66,.agg #[aD x4.aB,aD x4.Have,aD x4.Live])::(73,.agg #[aD x3.aB,aD x3.Have,aD x3.Live])::l0/\Hp b S wJ rk) 4 16777215 ?_ λhS1=>?_
    ·rintro _ w6 ⟨rfl,K6⟩;have k4:=(K6.rm s0);refine lH 24 Y (λ_ _=>eU (i:=i) oZ pV Y Y Y (aJ hx3) hsA) k4<|O1 25 Y<|se (i:=i) (f:=0) (x:=x3) (x':=x4) (ds:=[aD x4.aB,aD x4.Have,aD x4.Live]) K6 s0 Y Y Y hx3 Y pV (oJ Y) Y (by rintro _ _ _ ⟨⟩; rfl) λw7 K7=>?_
     have hl3:(ys.set i x4).length=ys.length:=fQ ..;refine fJ (t:=53) (u:=.slice A ys.length c) (v:=.slice A ((ys.set i x4).length) c) Y (by rw [hl3])<|fJ (t:=58) (u:=.slice A ys.length c) (v:=.slice A ((ys.set i x4).length) c) rfl (by rw [hl3]) ?_
     have k5:=(K7.rm s0);refine aP k5 ?_;obtain⟨x6,hx9⟩:=bC (xs:=(ys.set i x4)) (i:=jk ys i k) aj;refine lH 26 Y (λ_ _=>eU (i:=jk ys i k) oZ pV Y Y Y (aJ hx9) hsA) k5<|O1 27 Y<|se (i:=jk ys i k) (f:=0) (x:=x6) (x':=x3) (ds:=[aD x3.aB,aD x3.Have,aD x3.Live]) K7 s0 Y Y Y hx9 Y pV (oJ Y) Y (by rintro _ _ _ ⟨⟩; rfl) λw8 K8=>?_
     have hl4:((ys.set i x4).set (jk ys i k) x3).length=(ys.set i x4).length:=fQ ..;refine fJ (t:=53) (u:=.slice A ((ys.set i x4).length) c) (v:=.slice A (((ys.set i x4).set (jk ys i k) x3).length) c) Y (by rw [hl4])<|fJ (t:=58) (u:=.slice A ((ys.set i x4).length) c) (v:=.slice A (((ys.set i x4).set (jk ys i k) x3).length) c) rfl (by rw [hl4]) ?_
     have k6:=(K8.rm s0);refine aP k6<|Dn ⟨Y,K8⟩ Y
    refine O2 16 23 Y Y ?_ ?_
    ·refine ev (fV o7 Y Y ((H1.o s0).eX hx4))<|aP k1<|O1 23 Y<|ev (fV o7 Y Y ((H1.o s0).eX hx3))<|Kj hS1 k1 ⟨Y,H1⟩ Y
    ·refine ev (fV o7 Y Y ((H1.o s0).eX hx3))<|aP k1<|O1 16 Y<|ev (fV o7 Y Y ((H1.o s0).eX hx4))<|Kj hS1 k1 ⟨Y,H1⟩ Y
   rintro _ w9 ⟨rfl,K9⟩;refine bQ Y<|bS Y<|WP.goto ?_
   have lV:(.slice A ys.length c:Value)=.slice A (((ys.set i x4).set (jk ys i k) x3).length) c:=by rw [fQ,fQ]
   try rw [lV] at K9
   exact kV.jag ⟨(jk ys i k),((ys.set i x4).set (jk ys i k) x3),Y,Y,by rw [fQ,fQ]; exact hyl,aj,by rw [fQ,fQ,<- hgo]; exact hdn,K9⟩ rfl aj
  replace amE:=nT amE;refine xH (kV.XZ (qA (zD Y ?_)));have hst:xL (ys.length - i+1) ys i=ys:=afV aj;have hfi:ys=Oq l:=by rw [<- hst,hdn]; rfl
  exact⟨Y,by rw [<- hfi]; exact((K2.sel s0).sel s1)⟩
 ·intro hp0;refine rg<|iA Y<|bS Y<|WP.kp hp0 ⟨0,l,Y,Y,by rfl,aj,by rw [Nv],((H0.sel s0).sel s1)⟩ rfl
theorem aqx(l:List eP):(upL l).length=l.length:=ahs _ _ _
theorem ajF(l:List eP):(Oq l).length=l.length:=QM _ _ _
def ZP(l:List eP)(n:eP):List eP:=upL (l++[n])
theorem amF(l:List eP)(n:eP):(ZP l n).length=l.length+1:=by unfold ZP; rw [aqx]; simp
def takeN(l:List eP):eP:=match l[0]? with | some x=>x | none=>⟨0,0,0⟩
def takeB(l:List eP):Bool:=decide (0<l.length)
def Bg(l:List eP):List eP:=match l[l.length - 1]? with | some z=>Oq ((l.set 0 z).take (l.length - 1)) | none=>l
theorem QN(l:List eP):(Bg l).length=l.length - 1:=by
  unfold Bg
  split
  · rw [ajF]; simp
  · rename_i h
    have:=Ub.1 h;omega
theorem Vk{l:List eP}{x:eP}(hx:l[0]? = some x):takeN l=x:=by unfold takeN; rw [hx]
theorem amG{l:List eP}(h:0<l.length):takeB l=true:=L6 h
theorem acN{l:List eP}{z:eP}(hz:l[l.length - 1]? = some z):Bg l=Oq ((l.set 0 z).take (l.length - 1)):=by unfold Bg; rw [hz]
theorem ZQ  : prog.built 333 [(1,.func (.func 327) #[] #[])]=some #[.slice none 0 0,.func (.func 327) #[] #[]]:=ak
theorem ajG(Vl:ah)(RI RJ:Nat):prog.built 335 [(0,.agg #[.slice Vl RI RJ,.func (.func 327) #[] #[]])]=some #[.slice Vl RI RJ,.func (.func 327) #[] #[]]:=ak
theorem wH:dH prog 335 0 0:=ay
theorem Gw(a0:Int)(a1:Int)(a2:Int):∀ w,(Instr.buildSlice 197 1 (List.toArray [(0,.agg #[aD a0,aD a1,aD a2])])).run prog w=.ok (.slice (some ⟨w.heap.size,0,none⟩) 1 1) (w.alloc (.cells (List.toArray [aD a0,aD a1,aD a2]) 242)):=ay
theorem amH:kQ prog 242 3 24:=by
  obtain⟨i,h1,h2,h3,h4⟩:=rT (show(prog.info? 242).map (λi=>(i.zero,i.size,i.bytes))=some (some (.agg #[aD 0,aD 0,aD 0]),3,24) by kernel_rfl);exact⟨i,_,h1,h2,h3,h4,Y⟩
theorem zS:∀ w,(zeroValue 242).run prog w=.ok (.agg #[aD 0,aD 0,aD 0]) w:=ay
theorem aqy  : prog.built 242 []=some #[aD 0,aD 0,aD 0]:=ak
theorem aqz(w:World) :
    bO prog 236 #[] w λv w'=>∃ g,v=fP g/\Hp w S0 w' [dJ g 335 [.slice none 0 0,.func (.func 327) #[] #[]],aR oK 242 none 0 []]:=by
 refine j4 S0 func236 ntmps236 Y λH0=>iY Y<|rg<|ev (iE (vs:=[(1,.func (.func 327) #[] #[])]) (cs:=[.slice none 0 0,.func (.func 327) #[] #[]]) Y (by apply ZQ))<|ev (iE (vs:=[(0,.agg #[.slice none 0 0,.func (.func 327) #[] #[]])]) (cs:=[.slice none 0 0,.func (.func 327) #[] #[]]) rfl (by apply ajG))<|bx rfl rfl H0 λg1 w1 K1=>bS rfl<|iI rfl ?_
 have H1:=K1.nil oK 242;exact⟨_,Y,((H1.sel s0).sel s1)⟩
theorem aqA{l:List eP}(H0:Hp b S w (SK g A l c F))(n:eP)(hn:l.length<=100000) :
    bO prog 237 #[fP g,.agg #[aD n.aB,aD n.Have,aD n.Live]] w λv w'=>v=.tuple #[]/\∃ A' c',Hp b S w' (dJ g 335 [.slice A' (ZP l n).length c',.func (.func 327) #[] #[]]::aR oK 242 A' c' (ZP l n)::F):=by
 refine sF func237 ntmps237 Y<|rg<|bx Y Y H0 λg1 w1 K1=>dn<|He K1 (λ_ K=>(K.cU 1 2)) (λl0 rk lJ wJ=>∃(jE:ah)(jB:Nat),lJ=l0/\Hp b S wJ (dJ g 335 [.slice jE ((l++([n]:List eP)).length) jB,.func (.func 327) #[] #[]]::aR oK 242 jE jB (l++([n]:List eP))::rk)) (λhns H1=>?_) ?_
 ·have k1:=(H1.cU 1 2);refine kT 0 Y Y k1<|sw 1 g 0 wH Y k1<|Ko 4 g 0 lI Y k1<|lH 6 Y (λ_ hK=>dK o7 Y Y (hK.x s0)) k1<|Jn H1 (λl0 rk lJ wJ=>∃(g2:Nat),lJ=(9,.slice A l.length c)::(11,.slice (some ⟨g2,0,none⟩) (([n]:List eP).length) 1)::l0/\Hp b S wJ (aR oK 242 (some ⟨g2,0,none⟩) 1 ([n]:List eP)::rk)) 5 255 ?_ λhS1=>?_
  ·rintro _ w6 ⟨g2,rfl,K6⟩;refine O1 8 Y<|ap (ys:=([n]:List eP)) K6 s3 Y Y (K6.o s0) oZ amH (by first | omega | (simp; omega) | (simp; done)) av rfl λSC cp2 w7 K7=>?_
   have k6:=((K7.rm s3).cU 0 2);refine aP k6<|Qk 9 g 0 wH Y k6<|Ko 11 g 0 lI Y k6<|O1 12 Y<|wD Y K7 s3 Y λw8 K8=>?_
   have k7:=(K8.cU 0 3);refine aP k7<|Dn ⟨SC,cp2,Y,(K8.rm s2)⟩ Y
  refine O2 5 7 Y Y ?_ ?_
  ·refine mK H1 s1 Y<|aP k1<|O1 7 Y<|yU (τ:=oK) (x:=n) Y (by intro _; apply Gw) rfl H1 (λ_ _=>rfl) λg4 w9 K9=>?_
   have k8:=((K9.cU 2 2).rm s0);exact Kj hS1 k8 ⟨g4,Y,K9⟩ Y
  ·refine yU (τ:=oK) (x:=n) Y (by intro _; apply Gw) rfl H1 (λ_ _=>rfl) λg5 Nn K10=>?_;have k9:=((K10.cU 2 2).rm s0);refine aP k9<|O1 5 Y<|mK K10 s2 Y<|Kj hS1 k9 ⟨g5,Y,K10⟩ Y
 rintro _ RG ⟨jE,jB,rfl,tO⟩;refine jr<|mv Y<|ev (dS Y)<|wC g 0 wH Y<|gW Y (auV tO (by first | omega | (simp; done) | (simp; omega)) (by first | omega | (simp; done) | (simp; omega))) ?_
 rintro _ Qp ⟨rfl,rW⟩;refine jv<|qA (zD Y ?_)
 have H2:=(rW.rm s2);exact⟨Y,_,_,H2⟩
theorem acO{l:List eP}(H0:Hp b S w (SK g A l c F))(hn:l.length<=100000) :
    bO prog 238 #[fP g] w λv w'=>v=.tuple #[.agg #[aD ((takeN l).aB),aD ((takeN l).Have),aD ((takeN l).Live)],.bool (takeB l)]/\Hp b S w' (dJ g 335 [.slice A (Bg l).length c,.func (.func 327) #[] #[]]::aR oK 242 A c (Bg l)::F):=by
 refine sF func238 ntmps238 Y<|rg<|al zS Y H0 λg1 w1 K1=>bS Y<|bQ Y<|ev (dS Y)<|wC g 0 wH Y<|jD g 0 lI K1 s1 Y<|ev (eY oZ Y)<|ev (RA Y Y)<|bS Y<|aZ<|bQ Y<|ev (fB Y Y)<|dn<|kX Y (λtC=>?_) (λtC=>?_)
 ·refine rg<|ev (iE (vs:=[]) (cs:=[aD 0,aD 0,aD 0]) Y (by apply aqy))<|sty rfl K1 s0 rfl λw2 K2=>bS rfl<|je (gL (oW rfl ⟨_,_,rfl,⟨_,rfl,jm (cs:=[aD 0,aD 0,aD 0]) o7 rfl (K2.x s0)⟩,⟨_,_,rfl,rfl,rfl⟩⟩ ?_))
  have H1:=(K2.rm s0);have hl0:l=[]:=uI aj;exact⟨by subst hl0; rfl,by subst hl0; exact H1⟩
 refine jh ?_;refine kP (t:=4) (u:=aD (((l.length:Nat):Int) - 1)) Y (aS (Value.int .i64) (show(((l.length:Nat):Int) - 1:Int)=((l.length - 1:Nat):Int) by omega)) ?_;obtain⟨x1,bP⟩:=bC (xs:=l) (i:=0) aj;obtain⟨x2,kK⟩:=bC (xs:=l) (i:=l.length - 1) aj;refine bQ Y<|ev (dS Y)<|wC g 0 wH Y<|jD g 0 lI K1 s1 Y<|ev (eU (i:=0) oZ pV Y Y Y (aJ bP) ((K1.o s2).some_ bP))<|ev (fV o7 Y Y ((K1.o s2).eX bP))<|al zS Y K1 λg2 w3 K3=>sty Y K3 s0 Y λw4 K4=>dn ?_
 have hsA:=(K4.o s3).some_ bP;refine He K4 (λ_ K=>(K.rm s3)) (λl0 rk lJ wJ=>lJ=(10,.slice A ((l.set 0 x2).length) c)::(20,.slice A ((l.set 0 x2).length) c)::l0/\Hp b S wJ (aR oK 242 A c (l.set 0 x2)::rk)) (λhns H2=>?_) ?_
 ·have k1:=(H2.rm s3);refine sw 0 g 0 wH Y k1<|mD 3 4 g 0 lI s2 Y k1<|sw 5 g 0 wH Y k1<|mD 8 9 g 0 lI s2 Y k1<|kT 10 Y Y k1<|lH 11 Y (λ_ _=>eU (i:=l.length - 1) oZ pV Y Y Y (aJ kK) hsA) k1<|O1 12 Y<|ev (fV o7 Y Y ((H2.o s3).eX kK))<|aP k1<|lH 13 Y (λ_ _=>eU (i:=0) oZ pV Y Y Y (aJ bP) hsA) k1<|O1 14 Y<|se (i:=0) (f:=0) (x:=x1) (x':=x2) (ds:=[aD x2.aB,aD x2.Have,aD x2.Live]) H2 s3 Y Y Y bP Y pV (oJ Y) Y (by rintro _ _ _ ⟨⟩; rfl) λw5 K5=>?_
  have hl1:(l.set 0 x2).length=l.length:=fQ ..;refine fJ (t:=10) (u:=.slice A l.length c) (v:=.slice A ((l.set 0 x2).length) c) Y (by rw [hl1])<|fJ (t:=20) (u:=.slice A l.length c) (v:=.slice A ((l.set 0 x2).length) c) rfl (by rw [hl1])<|fJ (t:=27) (u:=.slice A l.length c) (v:=.slice A ((l.set 0 x2).length) c) rfl (by rw [hl1])<|fJ (t:=32) (u:=.slice A l.length c) (v:=.slice A ((l.set 0 x2).length) c) rfl (by rw [hl1]) ?_
  have k2:=(K5.rm s0);refine aP k2<|Dn ⟨Y,K5⟩ Y
 rintro _ w6 ⟨rfl,K6⟩;refine bQ Y<|mv Y<|ev (dS Y)<|wC g 0 wH Y<|jD g 0 lI K6 s3 Y<|mv Y ?_
 have hcp:=(K6.o s0).cap
 try simp only [fQ] at hcp
 refine ev (P9 (hi:=l.length - 1) oZ pV Y Y Y aj) ?_;have hct:(((l.set 0 x2)).take (l.length - 1)).length=l.length - 1:=by simp only [fE,fQ]; omega
 have H3:=K6.Uf (hi:=l.length - 1) s0 (by first | omega | (simp only [fQ]; omega));refine fJ (t:=44) (v:=.slice A (((l.set 0 x2).take (l.length - 1))).length c) Y (by rw [hct])<|ev (dS rfl)<|wC g 0 wH rfl<|wC g 0 lI rfl<|wD rfl H3 s3 rfl λw7 K7=>dn<|bQ rfl<|ev (dS rfl)<|wC g 0 wH rfl<|gW rfl (amD K7 (by first | omega | (simp; done) | (simp; omega))) ?_
 rintro _ w8 ⟨rfl,K8⟩;refine dn<|rg<|ev (dK o7 Y Y (K8.x s2))<|sty Y K8 s3 Y λw9 K9=>bS Y<|je (oW Y ⟨_,_,Y,⟨_,Y,jm (cs:=[aD x1.aB,aD x1.Have,aD x1.Live]) o7 Y (K9.x s0)⟩,⟨_,_,Y,Y,Y⟩⟩ ?_)
 have H4:=((K9.rm s3).rm s0);exact⟨by rw [Vk bP,amG aj] <;> rfl,by rw [acN kK]; exact H4⟩
def Vm(all:List aW)(aG:List Int)(bW:Int)(c:aI):Bool:=decide ((0:Int)<((EI c aG).length:Int))&&decide (((j3 c all aG).length:Int)<bW)
def RL(all:List aW)(aG:List Int)(c:aI):eP:=⟨c.ID,((j3 c all aG).length:Int),((EI c aG).length:Int)⟩
def Dh(all:List aW)(aG:List Int)(bW:Int)(q:List eP)(c:aI):List eP:=if Vm all aG bW c=true then ZP q (RL all aG c) else q
def oO(all:List aW)(aG:List Int)(bW:Int)(M:List aI):List eP:=M.foldl (Dh all aG bW) []
def drain:Nat->List eP->List eP
  | 0,_=>[]
  | f+1,q=>if takeB q=true then takeN q::drain f (Bg q) else[]
def EL(l:List aI)(all:List aW)(aG:List Int)(bW:Int):List eP:=drain (oO all aG bW l).length (oO all aG bW l)
theorem RO{k:Nat}(hx:M[k]? = some x):oO all aG bW (M.take (k+1))=Dh all aG bW (oO all aG bW (M.take k)) x:=by
  unfold oO; rw [fI hx,xD]; rfl
theorem Vn(all:List aW)(aG:List Int)(bW:Int)(M:List aI):(oO all aG bW M).length<=M.length:=by
  have key:∀(M:List aI)(q:List eP),(M.foldl (Dh all aG bW) q).length<=q.length+M.length:=by
    intro M
    induction M with
    | nil=>intro q; simp
    | cons c M ih=>
      intro q;rw [Ae];have h1:=ih (Dh all aG bW q c);have h2:(Dh all aG bW q c).length<=q.length+1:=by unfold Dh; split; rw [amF]; omega; omega
      simp only [oI]; omega
  have:=key M []
  simpa [oO] using this
theorem Vo(q:List eP):drain q.length q=if takeB q=true then takeN q::drain (Bg q).length (Bg q) else[]:=by
  cases q with
  | nil=>rfl
  | cons x q=>
    rw [QN]
    rfl
theorem afW(q:List eP):(Bg q).length+(if takeB q=true then 1 else 0)=q.length:=by
  rw [QN]; unfold takeB
  cases q with
  | nil=>rfl
  | cons x q=>simp
theorem acP{k:Nat}(hx:M[k]? = some x)(h:Vm all aG bW x=true):ZP (oO all aG bW (M.take k)) (RL all aG x)=oO all aG bW (M.take (k+1)):=by
  rw [RO hx]; unfold Dh; rw [aO h]
theorem acQ{k:Nat}(hx:M[k]? = some x)(h:Vm all aG bW x=false):oO all aG bW (M.take k)=oO all aG bW (M.take (k+1)):=by
  rw [RO hx]; unfold Dh; rw [aK (by rw [h]; decide)]
theorem Ii(a0:Int)(a1:Int)(a2:Int):prog.built 242 [(0,aD a0),(1,aD a1),(2,aD a2)]=some #[aD a0,aD a1,aD a2]:=ak
set_option maxHeartbeats 1000000 in
theorem amI(w:World){jl:ah}{jg:Nat}{l:List aI}(iR:Sl bH S0 w jl jg l){amJ:ah}{amK:Nat}(asW:Sl bX S0 w amJ amK all){jP:ah}{jO:Nat}(jX:Sl dL S0 w jP jO aG)(bW:Int)(hl:l.length<=10000)(hh:∀ x∈l,x.aF.length<=100000)(hn:all.length<=100000) :
    bO prog 154 #[.slice jl l.length jg,.slice amJ all.length amK,.slice jP aG.length jO,aD bW] w λv w'=>∃(A0:ah)(c0:Nat),v=.slice A0 ((EL l all aG bW).length) c0/\Hp w S0 w' [aR oK 242 A0 c0 (EL l all aG bW)]:=by
 refine j4 S0 func154 ntmps154 Y λH0=>iY Y<|rg<|gW Y (aqz (S0:=Any) _) ?_
 rintro _ w1 ⟨gq1,rfl,hn1⟩;have K1:=H0.f2 hn1;refine bS Y<|aZ<|bQ Y<|ev (eY jf Y)<|mv Y<|dn<|cZ ?_
 have H1:=K1.nil oK 242;have d9:([]:List eP)=(oO all aG bW (l.take 0)):=by rfl
 rw [d9] at H1;have fG:(.slice none 0 0:Value)=.slice none ((oO all aG bW (l.take 0)).length) 0:=by rfl
 try rw [fG] at H1
 refine rR (λmJ lJ wJ=>∃(k:Nat)(A9:ah)(c9:Nat),lJ=[(1,.slice amJ all.length amK),(2,.slice jP aG.length jO),(3,aD bW),(9,fP gq1),(17,.slice jl l.length jg),(18,aD ((l.length:Nat):Int)),(19,aD ((k:Nat):Int))]/\mJ=l.length - k/\k<=l.length/\Hp w S0 wJ [aR oK 242 A9 c9 (oO all aG bW (l.take k)),dJ gq1 335 [.slice A9 ((oO all aG bW (l.take k)).length) c9,.func (.func 327) #[] #[]]]) ⟨0,none,0,Y,Y,fK _,(H1.rm s2)⟩ Y ?_;rintro _ _ w2 ⟨k,A9,c9,rfl,rfl,hk,K2⟩;refine rg<|ev (fB Y Y)<|dn<|oC Y (λkJ=>?_) (λkJ=>?_)
 ·refine jh ?_;refine aZ<|cZ<|rg ?_
  obtain⟨x1,bP⟩:=bC (xs:=l) (i:=k) aj;refine ev (eU (i:=k) jf qG Y Y Y (aJ bP) ((K2.a iR).some_ bP)) ?_;obtain⟨B1,d1,Ak,hi1⟩:=Aj (iR.row bP);refine ev (fV (cs:=[aD x1.ID,aD x1.aC,fT x1.Sum,.slice B1 x1.aF.length d1]) pU Y Y (Ib (λj u hu=>K2.ext.cell (Ak j u hu))))<|al kZ Y K2 λg1 w3 K3=>sty Y K3 s0 Y λw4 K4=>dn ?_
  have hhx:=hh _ (dA bP);have hql:=Vn all aG bW (l.take k)
  simp only [fE] at hql
  refine He K4 (λ_ K=>K) (λl0 rk lJ wJ=>∃(rH:Nat),lJ=(12,fP rH)::l0/\Hp w S0 wJ (dJ rH 242 [aD x1.ID,aD (((j3 x1 all aG).length:Nat):Int),aD (((EI x1 aG).length:Nat):Int)]::rk)) (λhns H2=>?_) ?_
  ·refine mD 0 1 g1 0 qH s0 Y H2<|lH 2 Y (λ_ hK=>dK pU Y Y (hK.x s0)) H2<|kT 3 Y Y H2<|kT 4 Y Y H2<|lH 7 Y (λ_ hK=>dK pU Y Y (hK.x s0)) H2<|kT 8 Y Y H2<|Jn H2 (λl0 rk lJ wJ=>∃(LQ:ah)(LU g3:Nat)(xA:ah)(xB:Nat),lJ=(12,fP g3)::(29,aD (((j3 x1 all aG).length:Nat):Int))::(32,.slice LQ ((EI x1 aG).length) LU)::l0/\Hp w S0 wJ (aR dL 3 LQ LU (EI x1 aG)::dJ g3 242 [aD 0,aD 0,aD 0]::aR dL 3 xA xB (j3 x1 all aG)::rk)) 3 5119 ?_ λhS1=>?_
   ·rintro _ Yg ⟨LQ,LU,g3,xA,xB,rfl,yX⟩;have k9:=(yX.cU 0 3);refine lH 10 Y (λ_ _=>eY fq Y) k9<|lH 11 Y (λ_ _=>iE (vs:=[(0,aD x1.ID),(1,aD (((j3 x1 all aG).length:Nat):Int)),(2,aD (((EI x1 aG).length:Nat):Int))]) (cs:=[aD x1.ID,aD (((j3 x1 all aG).length:Nat):Int),aD (((EI x1 aG).length:Nat):Int)]) Y (by apply Ii)) k9<|O1 13 rfl<|sty rfl yX s1 rfl λw16 Bv=>?_
    have k10:=(Bv.cU 0 3);refine aP k10<|Dn ⟨g3,Y,(Bv.cU 1 2)⟩ Y
   refine O2 5 12 Y Y ?_ ?_
   ·refine gW Y (U5 _ x1 (H2.a hi1).any (H2.a asW).any (H2.a jX).any hhx aj) ?_;rintro _ w17 ⟨aya,ayb,rfl,h17⟩;have xS:=H2.f1 h17;have k11:=(xS.rm s0);refine aP k11<|lH 6 Y (λ_ _=>eY fq Y) k11<|O2 9 12 Y Y ?_ ?_
    ·refine gW Y (SI _ x1 (xS.a hi1).any (xS.a jX).any hhx) ?_;rintro _ w18 ⟨amL,amM,rfl,h18⟩;have FR:=xS.f1 h18;have k12:=(FR.cU 0 2);refine aP k12<|lH 10 Y (λ_ _=>eY fq Y) k12<|lH 11 Y (λ_ _=>iE (vs:=[(0,aD x1.ID),(1,aD (((j3 x1 all aG).length:Nat):Int)),(2,aD (((EI x1 aG).length:Nat):Int))]) (cs:=[aD x1.ID,aD (((j3 x1 all aG).length:Nat):Int),aD (((EI x1 aG).length:Nat):Int)]) Y (by apply Ii)) k12<|O1 12 rfl<|al zS rfl FR λg5 w19 Bf=>?_
     have k13:=(Bf.cU 0 3);refine aP k13<|O1 13 Y<|sty Y Bf s0 Y λw20 DL=>?_
     have k14:=(DL.cU 0 3);refine aP k14<|Dn ⟨g5,Y,(DL.cU 1 2)⟩ Y
    ·refine al zS Y xS λg6 w21 Gp=>?_;have k15:=(Gp.cU 0 2);refine aP k15<|O1 9 Y<|gW Y (SI _ x1 (Gp.a hi1).any (Gp.a jX).any hhx) ?_
     rintro _ w22 ⟨acR,acS,rfl,h22⟩;have Fa:=Gp.f1 h22;have auW:=(Fa.o s0).bN;have k16:=(Fa.cU 0 3);exact Kj hS1 k16 ⟨acR,acS,g6,aya,ayb,Y,Fa⟩ Y
   ·refine al zS Y H2 λg7 w23 Jk=>?_;have k17:=(Jk.rm s0);refine aP k17<|O1 5 Y<|gW Y (U5 _ x1 (Jk.a hi1).any (Jk.a asW).any (Jk.a jX).any hhx aj) ?_
    rintro _ w24 ⟨amN,amO,rfl,h24⟩;have pG:=Jk.f1 h24;have auX:=(pG.o s0).bN;have k18:=(pG.cU 0 2);refine aP k18<|lH 6 Y (λ_ _=>eY fq Y) k18<|O1 9 Y<|gW Y (SI _ x1 (pG.a hi1).any (pG.a jX).any hhx) ?_
    rintro _ w25 ⟨ayd,aye,rfl,h25⟩;have FT:=pG.f1 h25;have aDf:=(FT.o s0).bN;have k19:=(FT.cU 0 3);exact Kj hS1 k19 ⟨ayd,aye,g7,amN,amO,Y,((FT.sel s1).mV 1 2)⟩ Y
  rintro _ w26 ⟨rH,rfl,Np⟩;refine rg<|jD rH 2 Vf Np s0 Y<|ev (pJ Y Y)<|mv Y<|iG 5 43 ((decide (0<(((EI x1 aG).length:Nat):Int)))&&(decide ((((j3 x1 all aG).length:Nat):Int)<bW))) ?_ ?_
  ·cases aui:decide (0<(((EI x1 aG).length:Nat):Int)) with
   | true=>
    have aFq:=jC aui;refine wP rH 1 Om Np s0 Y<|bG Y (bA Y) Y<|bG Y (fB Y Y) Y<|ev (dY Y Y)<|dI Y
   | false=>
    refine eB<|eB<|eB<|eB<|ev (eG Y Y)<|dI Y
  refine dn<|bR Y (λDf=>?_) (λDf=>?_)
  ·refine jr<|mv Y<|ev (dK o7 Y Y (Np.x s0))<|gW Y (aqA (((Np.mV 0 2).sel s2).sel s3) (⟨x1.ID,(((j3 x1 all aG).length:Nat):Int),(((EI x1 aG).length:Nat):Int)⟩:eP) aj) ?_
   rintro _ w27 ⟨rfl,Aq1,cq1,N9⟩;refine jv<|ig (gB ?_)
   refine jr<|ev (dW Y Y)<|mv Y<|jv ?_
   have jQ:((ZP (oO all aG bW (l.take k)) (⟨x1.ID,(((j3 x1 all aG).length:Nat):Int),(((EI x1 aG).length:Nat):Int)⟩:eP)):List eP)=(oO all aG bW (l.take (k+1))):=by first | exact acP bP Df | exact acQ bP Df
   rw [jQ] at N9;exact dQ ⟨(k+1),Aq1,cq1,Y,Y,aj,(((N9.cU 2 2).sel s0).sel s1)⟩ rfl aj
  refine zF ?_;refine jr<|ev (dW Y Y)<|mv Y<|jv ?_
  have lV:((oO all aG bW (l.take k)):List eP)=(oO all aG bW (l.take (k+1))):=by first | exact acP bP Df | exact acQ bP Df
  rw [lV] at Np;exact dQ ⟨(k+1),A9,c9,Y,Y,aj,(Np.cU 0 2)⟩ rfl aj
 refine wQ ?_;refine iY Y<|aZ ?_
 have hql:=Vn all aG bW (l.take k)
 simp only [fE] at hql
 refine bQ Y<|gW Y (acO ((K2.sel s0).sel s1) aj) ?_
 rintro _ w28 ⟨rfl,Ig⟩;refine mv Y<|xt Y Y<|xt Y Y<|al zS Y Ig λg8 w29 Ld=>sty Y Ld s0 Y λw30 LG=>bS Y<|cZ ?_
 have H3:=LG.nil oK 242;have H4:=H3.nil oK 242;refine Lp (H4.cU 0 5) (λl0 rk mJ lJ wJ=>∃(A9:ah)(c9:Nat)(q:List eP)(n:eP)(f:Bool)(g14:Nat)(out:List eP)(A13:ah)(c13:Nat),lJ=(13,.slice A13 out.length c13)::(14,fP g14)::(15,.bool f)::l0/\mJ=q.length+(if f=true then 1 else 0)/\(out++(if f=true then n::drain q.length q else[])=EL l all aG bW)/\(q.length+(if f=true then 1 else 0)+out.length<=20000)/\Hp w S0 wJ (aR oK 242 A9 c9 q::dJ gq1 335 [.slice A9 q.length c9,.func (.func 327) #[] #[]]::dJ g14 242 [aD n.aB,aD n.Have,aD n.Live]::aR oK 242 A13 c13 out::rk)) ⟨A9,c9,(Bg (oO all aG bW (l.take k))),(takeN (oO all aG bW (l.take k))),(takeB (oO all aG bW (l.take k))),g8,([]:List eP),none,0,Y,Y,by rw [L9,<- Vo,iD aj]; rfl,by rw [afW]; simp only [qx]; omega,(((((H4.rm s1).sel s0).sel s1).sel s2).sel s3)⟩ rfl ?_;rintro _ _ w31 ⟨A9,c9,q,n,f,g14,out,A13,c13,rfl,rfl,hdr,aHp,SG⟩;refine aZ<|bQ Y<|dn<|bR Y (λaqB=>?_) (λaqB=>?_)
 ·refine jh ?_;refine aZ<|cZ ?_
  have htm:=afW q;have hif:(if f=true then 1 else 0:Nat)=1:=aO aqB;refine jr<|mv Y<|ev (dK o7 Y Y (SG.x s2))<|yU (τ:=oK) (x:=n) Y (by intro _; apply Gw) rfl SG (λ_ _=>rfl) λg9 w32 QD=>ap (ys:=([n]:List eP)) QD s4 rfl rfl (QD.o s0) oZ amH aj av rfl λnY nZ w33 Xx=>iA rfl<|jv<|ig (gB ?_)
  refine aZ<|rg<|ev (dK o7 Y Y (Xx.x s4))<|dn<|jr<|al zS Y Xx λg10 w34 K34=>sty Y K34 s0 Y λw35 K35=>jv<|gB<|jr<|mv Y<|gW Y (acO (((K35.mV 0 3).sel s3).sel s4) aj) ?_
  rintro _ w36 ⟨rfl,K36⟩;refine mv Y<|xt Y Y<|xt Y Y<|sty Y K36 s2 Y λw37 K37=>iA Y<|jv<|dQ ⟨A9,c9,(Bg q),(takeN q),(takeB q),g10,(out++([n]:List eP)),nY,nZ,Y,Y,by rw [<- Vo]; simpa [aqB] using hdr,by rw [afW]; simp only [iO,oI,qx]; omega,((((K37.cU 4 2).sel s0).sel s1).sel s2)⟩ rfl aj
 refine wQ ?_;refine bQ Y<|bS Y<|iI Y ?_
 have qU:(out:List eP)=(EL l all aG bW):=by simpa [aqB] using hdr
 have H5:=(qU▸SG:Hp w S0 w31 [aR oK 242 A9 c9 q,dJ gq1 335 [.slice A9 q.length c9,.func (.func 327) #[] #[]],dJ g14 242 [aD n.aB,aD n.Have,aD n.Live],aR oK 242 A13 c13 (EL l all aG bW)]);exact⟨A13,c13,by rw [<- qU] <;> rfl,(H5.cU 0 3)⟩
theorem QO{a b:eP}:wG a b=true↔a.Live<b.Live∨(a.Live=b.Live/\(a.Have<b.Have∨(a.Have=b.Have/\a.aB<b.aB))):=by
  unfold wG LD bn
  by_cases h1:a.Live<b.Live <;> by_cases h2:b.Live<a.Live <;> by_cases h3:a.Have<b.Have <;> by_cases h4:b.Have<a.Have <;> by_cases h5:a.aB<b.aB <;> by_cases h6:b.aB<a.aB <;> simp [h1,h2,h3,h4,h5,h6] <;> omega
theorem Ot{a b:eP}:wG a b=false↔¬ (a.Live<b.Live∨(a.Live=b.Live/\(a.Have<b.Have∨(a.Have=b.Have/\a.aB<b.aB)))):=by
  rw [<- QO]; cases wG a b <;> simp
def Ou(a b:eP):Prop:=wG b a=false
theorem Ou.tr{a b c:eP}(h1:Ou a b)(h2:Ou b c):Ou a c:=by unfold Ou at *; rw [Ot] at *; omega
theorem Ou.of{a b:eP}(h:wG a b=true):Ou a b:=by unfold Ou; rw [QO] at h; rw [Ot]; omega
theorem Ou.rf(a:eP):Ou a a:=by unfold Ou; rw [Ot]; omega
def acT(l:List eP)(j:Nat):Prop:=∀ x y,l[(j - 1) / 2]? = some x->l[j]? = some y->Ou x y
def Bh(l:List eP):Prop:=∀ j,0<j->acT l j
theorem acU{l:List eP}{p j:Nat}{x y:eP}(hi:i<l.length)(hp:p<l.length)(hne:p≠i):((l.set i y).set p x)[j]? = if j=p then some x else if j=i then some y else l[j]?:=by
  rw [Vd,Vd,fQ]
  by_cases h1:p=j
  · subst h1; simp [hp]
  · rw [aK h1,aK (show ¬ j=p from λh=>h1 h.symm)]
    by_cases h2:i=j
    · subst h2; rw [aO rfl,aO rfl,aO hi]
    · rw [aK h2,aK (show ¬ j=i from λh=>h2 h.symm)]
theorem swap_perm{l:List eP}{p:Nat}{x y:eP}(hx:l[i]? = some x)(hy:l[p]? = some y):((l.set i y).set p x).Perm l:=by
  obtain⟨h1,rfl⟩:=mM.1 hx;obtain⟨h2,rfl⟩:=mM.1 hy;exact List.set_set_perm h1 h2
theorem acV:∀(f:Nat)(l:List eP)(i:Nat),(ZM f l i).Perm l
  | 0,_,_=>IJ _
  | f+1,l,i=>by
    unfold ZM
    split
    · rename_i x y hx hy
      split
      · exact(acV f _ _).trans (swap_perm hx hy)
      · exact IJ _
    · exact IJ _
theorem Vp:∀(f:Nat)(l:List eP)(i:Nat),(xL f l i).Perm l
  | 0,_,_=>IJ _
  | f+1,l,i=>by
    unfold xL
    split
    · exact IJ _
    · split
      · rename_i x y hx hy
        exact(Vp f _ _).trans (swap_perm hx hy)
      · exact IJ _
theorem acW:∀(f:Nat)(l:List eP)(i:Nat),i<f->i<l.length->(∀ j,0<j->j≠i->acT l j)->
    (∀ j,(j - 1) / 2=i->0<i->0<j->∀ z y,l[(i - 1) / 2]? = some z->l[j]? = some y->Ou z y)->Bh (ZM f l i)
  | 0,_,_,h,_,_,_=>absurd h (MK _)
  | f+1,l,i,hf,hi,h1,h2=>by
    unfold ZM;have hp:(i - 1) / 2<l.length:=aj;obtain⟨x,hx⟩:=bC (xs:=l) (i:=i) hi;obtain⟨y,hy⟩:=bC (xs:=l) (i:=(i - 1) / 2) hp;rw [hx,hy];show Bh (if(decide (0<i)&&wG x y)=true then _ else _)
    split
    · rename_i hc
      simp only [bK,bL] at hc
      have hne:(i - 1) / 2≠i:=aj;have hg:=λj=>acU (j:=j) (x:=x) (y:=y) hi hp hne;refine acW f _ _ aj (by rw [fQ,fQ]; omega) (λj hj hjp u v hu hv=>?_) (λj hj hp0 hj0 u v hu hv=>?_)
      · rw [hg] at hu hv
        rw [aK hjp] at hv
        by_cases e1:j=i
        · subst e1
          rw [aO rfl] at hu hv
          cases hu; cases hv; exact Ou.of hc.2
        · rw [aK e1] at hv
          by_cases e2:(j - 1) / 2=(i - 1) / 2
          · rw [aO e2] at hu
            cases hu
            exact(Ou.of hc.2).tr (h1 j hj e1 _ _ (e2▸hy) hv)
          · rw [aK e2] at hu
            by_cases e3:(j - 1) / 2=i
            · rw [aO e3] at hu; cases hu
              exact h2 j e3 hc.1 hj _ _ hy hv
            · rw [aK e3] at hu
              exact h1 j hj e1 _ _ hu hv
      · rw [hg] at hu hv
        rw [aK aj,aK aj] at hu;have hyu:=h1 _ hp0 hne _ _ hu hy;rw [aK aj] at hv
        by_cases e1:j=i
        · rw [aO e1] at hv; cases hv; exact hyu
        · rw [aK e1] at hv
          exact hyu.tr (h1 j hj0 e1 _ _ (hj▸hy) hv)
    · rename_i hc
      intro j hj
      by_cases e:j=i
      · subst e
        intro u v hu hv;rw [hy] at hu; rw [hx] at hv; cases hu; cases hv;unfold Ou
        cases hq:wG x y
        · rfl
        · exact absurd (by simp [hq,hj]) hc
      · exact h1 j hj e
theorem Vq(l:List eP)(i:Nat){x:eP}(hx:l[i]? = some x):∀ k,∃ y,l[jk l i k]? = some y/\Ou y x/\(jk l i k≠i->wG y x=true)/\∀ q,q<k->∀ z,l[2*i+1+q]? = some z->Ou y z
  | 0=>⟨x,hx,Ou.rf x,λh=>absurd rfl h,λq h=>absurd h (MK _)⟩
  | k+1=>by
    obtain⟨y,h1,h2,h3,h4⟩:=Vq l i hx k;unfold jk
    split
    · rename_i hc
      have hlt:2*i+1+k<l.length:=by
        rcases Nr (2*i+1+k) l.length with h5 | h5
        · exact h5
        · rw [<- afU aj] at hc; cases hc
      obtain⟨z,hz⟩:=bC (xs:=l) (i:=2*i+1+k) hlt;rw [<- afT hz h1] at hc;refine⟨z,hz,(Ou.of hc).tr h2,λ_=>?_,λq hq u hu=>?_⟩
      · unfold Ou at h2; rw [Ot] at h2; rw [QO] at hc ⊢; omega
      · rcases Nr q k with h5 | h5
        · exact(Ou.of hc).tr (h4 q h5 u hu)
        · obtain rfl:q=k:=aj
          rw [hz] at hu; cases hu; exact Ou.rf _
    · rename_i hc
      refine⟨y,h1,h2,h3,λq hq u hu=>?_⟩
      rcases Nr q k with h5 | h5
      · exact h4 q h5 u hu
      · obtain rfl:q=k:=aj
        rw [<- afT hu h1] at hc;unfold Ou; simpa using hc
theorem Yp(l:List eP)(i:Nat):∀ k,jk l i k=i∨jk l i k<=2*i+k
  | 0=>.inl rfl
  | k+1=>by
    unfold jk; split
    · right; omega
    · have:=Yp l i k; omega
theorem Vr:∀(f:Nat)(l:List eP)(i:Nat),l.length - i<f->i<l.length->(∀ j,0<j->(j - 1) / 2≠i->acT l j)->
    (∀ j,(j - 1) / 2=i->0<i->0<j->∀ z y,l[(i - 1) / 2]? = some z->l[j]? = some y->Ou z y)->Bh (xL f l i)
  | 0,_,_,h,_,_,_=>absurd h (MK _)
  | f+1,l,i,hf,hi,h1,h2=>by
    unfold xL;obtain⟨x,hx⟩:=bC (xs:=l) (i:=i) hi;obtain⟨y,hy,hyx,hy3,hy4⟩:=Vq l i hx 2;have hlt:=BS l i 2;have hle:=Yp l i 2
    generalize jk l i 2=m at *
    split
    · rename_i e
      subst e;rw [hx] at hy; cases hy;intro j hj
      by_cases e:(j - 1) / 2=m
      · intro u v hu hv
        rw [e,hx] at hu; cases hu;exact hy4 (j - (2*m+1)) aj v (by rw [show 2*m+1+(j - (2*m+1))=j by omega]; exact hv)
      · exact h1 j hj e
    · rename_i hne
      rw [hx,hy];show Bh (xL f ((l.set i y).set m x) m);have hm:m<l.length:=aJ hy;have hpm:(m - 1) / 2=i:=aj;have hg:=λj=>acU (j:=j) (x:=x) (y:=y) hi hm hne;refine Vr f _ _ (by rw [fQ,fQ]; omega) (by rw [fQ,fQ]; omega) (λj hj hjp u v hu hv=>?_) (λj hj hp0 hj0 u v hu hv=>?_)
      · rw [hg] at hu hv
        rw [aK hjp] at hu
        by_cases e1:j=m
        · subst e1
          rw [aO rfl] at hv; rw [aO hpm] at hu
          cases hu; cases hv; exact hyx
        · rw [aK e1] at hv
          by_cases e2:j=i
          · subst e2
            rw [aO rfl] at hv; cases hv;rw [aK aj] at hu;exact h2 m hpm hj aj _ _ hu hy
          · rw [aK e2] at hv
            by_cases e3:(j - 1) / 2=i
            · rw [aO e3] at hu; cases hu
              exact hy4 (j - (2*i+1)) aj v (by rw [show 2*i+1+(j - (2*i+1))=j by omega]; exact hv)
            · rw [aK e3] at hu
              exact h1 j hj e3 _ _ hu hv
      · rw [hg] at hu hv
        rw [aK aj,aO hpm] at hu; cases hu;rw [aK aj,aK aj] at hv;exact h1 j hj0 aj _ _ (hj▸hy) hv
theorem Bh.top{l:List eP}(h:Bh l){t:eP}(ht:l[0]? = some t):∀(j:Nat)(y:eP),l[j]? = some y->Ou t y:=λj=>by
  induction j using Nat.strongRecOn with
  | ind j ih=>
    intro y hy
    by_cases e:j=0
    · subst e; rw [ht] at hy; cases hy; exact Ou.rf _
    · have hj:=aJ hy
      obtain⟨x,hx⟩:=bC (xs:=l) (i:=(j - 1) / 2) aj;exact(ih _ aj x hx).tr (h j aj x y hx hy)
theorem amP{l:List eP}(hl:0<l.length)(h:∀ j,0<j->j≠l.length - 1->acT l j):Bh (upL l):=
  acW _ _ _ aj aj h λj hj hp hj0 z y _ hy=>by have:=aJ hy; omega
theorem ajH{l:List eP}(h:Bh l)(n:eP):Bh (ZP l n):=by
  refine amP av λj hj hne x y hx hy=>?_;have hlt:=aJ hy
  simp only [iO,oI,qx] at hlt hne
  rw [Ns aj] at hx hy;exact h j hj x y hx hy
theorem ajI(l:List eP)(n:eP):(ZP l n).Perm (n::l):=(acV _ _ _).trans yc
theorem afX{l:List eP}(h:∀ j,0<j->(j - 1) / 2≠0->acT l j):Bh (Oq l):=by
  rcases Zf l.length with h0 | h0
  · obtain rfl:=uI h0
    intro j _ x y hx hy;have:=aJ hy;unfold Oq at this; rw [QM] at this; simp at this
  · exact Vr _ _ _ aj h0 h λj hj h0=>by omega
theorem afY{l:List eP}(h:Bh l):Bh (Bg l):=by
  unfold Bg
  split
  · rename_i z hz
    refine afX λj hj hne x y hx hy=>?_;have hlt:=aJ hy;rw [Qc (by simp at hlt; omega),CJ aj] at hx hy;exact h j hj x y hx hy
  · exact h
theorem Vs{l:List eP}(hl:0<l.length):(takeN l::Bg l).Perm l:=by
  obtain⟨t,ht⟩:=bC (xs:=l) (i:=0) hl;obtain⟨z,hz⟩:=bC (xs:=l) (i:=l.length - 1) aj;rw [Vk ht,acN hz];have h1:(Oq ((l.set 0 z).take (l.length - 1))).Perm ((l.set 0 z).take (l.length - 1)):=Vp _ _ _;refine(h1.cons t).trans ?_
  cases l with
  | nil=>simp at hl
  | cons a r=>
    simp only [List.getElem?_cons_zero,ZL] at ht; subst ht
    simp only [oI,Nat.add_sub_cancel,List.set_cons_zero] at hz ⊢
    cases hr:r.length with
    | zero=>obtain rfl:=uI hr; exact IJ _
    | succ m=>
      rw [hr] at hz;rw [Y8]
      simp only [List.getElem?_cons_succ] at hz
      have h2:r=r.take m++[z]:=by
        obtain⟨hm,hz'⟩:=mM.1 hz;have h3:r.drop m=[z]:=by rw [yu hm,hz',zf aj]
        have:=sJ m r;rw [h3] at this; exact this.symm
      refine List.Perm.cons _ ?_
      conv=>rhs; rw [h2]
      exact(yc (l₁:=[z]))
theorem acX:∀(f:Nat)(q:List eP),q.length<=f->Bh q->(drain f q).Perm q/\(drain f q).Pairwise Ou
  | 0,q,h,_=>by obtain rfl:=uI (Nat.le_zero.1 h); exact⟨IJ _,List.Pairwise.nil⟩
  | f+1,q,h,hh=>by
    unfold drain
    split
    · rename_i hc
      have hl:0<q.length:=jC hc;have ih:=acX f (Bg q) (by rw [QN]; omega) (afY hh);refine⟨(ih.1.cons _).trans (Vs hl),oU.2 ⟨λy hy=>?_,ih.2⟩⟩;obtain⟨t,ht⟩:=bC (xs:=q) (i:=0) hl;rw [Vk ht];have hm:y∈q:=(Vs hl).mem_iff.1 (Ve _ (ih.1.mem_iff.1 hy));obtain⟨j,hj⟩:=qV hm;exact hh.top ht j y hj
    · rename_i hc
      have hl:¬ 0<q.length:=λh=>hc (L6 h);obtain rfl:=uI (show q.length=0 by omega);exact⟨IJ _,List.Pairwise.nil⟩
theorem ajJ(all:List aW)(aG:List Int)(bW:Int)(M:List aI):(oO all aG bW M).Perm ((M.filter (Vm all aG bW)).map (RL all aG))/\Bh (oO all aG bW M):=by
  have key:∀(M:List aI)(q:List eP),Bh q->(M.foldl (Dh all aG bW) q).Perm (q++(M.filter (Vm all aG bW)).map (RL all aG))/\Bh (M.foldl (Dh all aG bW) q):=by
    intro M
    induction M with
    | nil=>intro q h; exact⟨av,h⟩
    | cons c M ih=>
      intro q h;rw [Ae,I9];unfold Dh
      split
      · rename_i hc
        have h1:=ih _ (ajH h (RL all aG c));refine⟨h1.1.trans ?_,h1.2⟩;rw [mO];exact((ajI _ _).append_right _).trans (EK (l₁:=q)).symm
      · rename_i hc
        exact ih q h
  have:=key M [] (λj hj x y hx=>by simp at hx)
  simpa [oO] using this
theorem Yq(l:List aI)(all:List aW)(aG:List Int)(bW:Int):(EL l all aG bW).Perm ((l.filter (Vm all aG bW)).map (RL all aG))/\(EL l all aG bW).Pairwise Ou:=by
  have h1:=ajJ all aG bW l;have h2:=acX _ _ (kH _) h1.2;exact⟨h2.1.trans h1.1,h2.2⟩
theorem afZ{l:List aI}{n:eP}:n∈EL l all aG bW↔∃ c∈l,Vm all aG bW c=true/\n=RL all aG c:=by
  rw [(Yq l all aG bW).1.mem_iff,jI]
  constructor
  · rintro⟨c,h,rfl⟩; exact⟨c,(zk.1 h).1,(zk.1 h).2,rfl⟩
  · rintro⟨c,h1,h2,rfl⟩; exact⟨c,zk.2 ⟨h1,h2⟩,rfl⟩
theorem af0(l:List aI)(all:List aW)(aG:List Int)(bW:Int):(EL l all aG bW).length<=l.length:=by
  rw [(Yq l all aG bW).1.length_eq,jN]; exact lX _ _
end Go.Proofs.YtlhnnmlenkahlaaGreat
