/- Lemmas. -/
import Derived.Test.YtlhnnmlenkahlaaGreathG5
set_option maxRecDepth 4000
set_option linter.all false
namespace Go.Proofs.YtlhnnmlenkahlaaGreat
open Go.RowKit Go.Proofs.Tryz
def OA:=@Nat.not_lt_zero
def qj:=@underlying197
def ab3:=@List.getElem?_set
def I6:=@List.Perm.refl
def lS:=@List.mem_cons_of_mem
def Gs:=@List.perm_middle
def lH:=@underlying49
def OB:=@List.take_length
def Ls:=@Int.le_refl
def XM:=@decide_eq_false
section
variable {i g c:Nat}{S0 S:Nat->Prop}{b w:World}{F:List lG}{A:ah}{all:List aR}{aH:List Int}{bS:Int}{M:List aF}{x:aF}
structure eG where
  aD:Int
  Have:Int
  Live:Int
  deriving DecidableEq
def eG.enc(x:eG):List Value:=[.int .i64 x.aD,.int .i64 x.Have,.int .i64 x.Live]
theorem eG.mD(x:eG):∀ u∈x.enc,u.oneCell'=true:=by
  intro u hu
  simp only [eG.enc,iR,mP,tq] at hu
  rcases hu with rfl | rfl | rfl <;> rfl
def qg:Ty eG:=Ty.flat 3 eG.enc au (λ_=>rfl) eG.mD
instance:Flat qg:=⟨λh=>h⟩
def Aa(a b:eG):Bool:=decide (P7 [bL a.Live b.Live,bL a.Have b.Have,bL a.aD b.aD]<0)
def upG:Nat->List eG->Nat->List eG
  | 0,l,_=>l
  | f+1,l,i=>match l[i]?,l[(i - 1) / 2]? with
    | some x,some y=>if(decide (0<i)&&Aa x y)=true then upG f ((l.set i y).set ((i - 1) / 2) x) ((i - 1) / 2) else l
    | _,_=>l
def upL(l:List eG):List eG:=upG l.length l (l.length - 1)
theorem aj0:∀(f:Nat)(l:List eG)(i:Nat),(upG f l i).length=l.length
  | 0,_,_=>rfl
  | f+1,l,i=>by
    unfold upG
    split
    · split
      · rw [aj0 f,gW,gW]
      · rfl
    · rfl
theorem ae0:∀(f f':Nat)(l:List eG)(i:Nat),i<f->i<f'->upG f l i=upG f' l i
  | 0,_,_,_,h,_=>absurd h (OA _)
  | _+1,0,_,_,_,h=>absurd h (OA _)
  | f+1,f'+1,l,i,h1,h2=>by
    unfold upG
    split
    · split
      · rename_i hc
        simp only [bK,bM] at hc
        exact ae0 f f' _ _ aj aj
      · rfl
    · rfl
theorem azf{l:List eG}{x y:eG}(hx:l[i]? = some x)(hy:l[(i - 1) / 2]? = some y)(hi:0<i)(h:Aa x y=true):upG (i+1) l i=upG ((i - 1) / 2+1) ((l.set i y).set ((i - 1) / 2) x) ((i - 1) / 2):=by
  conv=>lhs; unfold upG
  grind [ae0]
theorem apO{l:List eG}(h:∀ x y,l[i]? = some x->l[(i - 1) / 2]? = some y->(decide (0<i)&&Aa x y)=false):upG (i+1) l i=l:=by
  grind [upG]
theorem XO:dL prog 242 2 2:=λ_ _=>by rfl
theorem Qo:dL prog 242 1 1:=λ_ _=>by rfl
theorem Qp:dL prog 242 0 0:=λ_ _=>by rfl
theorem ae1(a0:Int)(a1:Int)(a2:Int):∀ w,(Instr.buildSlice 55 3 (List.toArray [(0,aI a0),(1,aI a1),(2,aI a2)])).run prog w=.ok (.slice (some ⟨w.heap.size,0,none⟩) 3 3) (w.alloc (.cells (List.toArray [aI a0,aI a1,aI a2]) 3)):=ay
theorem qH:Size prog 242 3:=λ_=>by rfl
theorem ql:Z9 prog 242 3:=⟨av,qH⟩
theorem mK:dL prog 333 0 0:=λ_ _=>by rfl
theorem XP:mg prog 197:=λ_=>by rfl
theorem ae2:dL prog 333 1 1:=λ_ _=>by rfl
theorem apP:mg prog 331:=λ_=>by rfl
theorem apQ:bJ prog 327:=λ_ _=>by rfl
abbrev ab5(iE je:eG):=([bL iE.Live je.Live,bL iE.Have je.Have,bL iE.aD je.aD]:List Int)
theorem amv(w:World)(a:eG)(b:eG) :
    bO prog 402 #[.agg #[aI a.aD,aI a.Have,aI a.Live],.agg #[aI b.aD,aI b.Have,aI b.Live]] w λv w'=>v=aI (P7 [bL a.Live b.Live,bL a.Have b.Have,bL a.aD b.aD])/\Hp w S0 w' []:=by
 refine lg S0 func402 ntmps402 Y λH0=>rg<|bx Y Y H0 λg1 w1 K1=>bx Y Y K1 λg2 w2 K2=>bX Y<|He K2 (λ_ K=>K) (λl0 rk lJ wJ=>lJ=(4,aI (P7 (ab5 a b)))::l0/\Hp w S0 wJ rk) (λhns H1=>?_) ?_
 ·refine nJ 0 1 g1 2 XO s1 Y H1<|nJ 2 3 g2 2 XO s0 Y H1<|nJ 5 6 g1 1 Qo s1 Y H1<|nJ 7 8 g2 1 Qo s0 Y H1<|nJ 10 11 g1 0 Qp s1 Y H1<|nJ 12 13 g2 0 Qp s0 Y H1<|O1 4 Y<|nD H1 Y (nZ (S0:=Any) _ a.Live b.Live) λw3 K3=>aO K3<|O1 9 Y<|nD K3 Y (nZ (S0:=Any) _ a.Have b.Have) λw4 K4=>aO K4<|O1 14 Y<|nD K4 Y (nZ (S0:=Any) _ a.aD b.aD) λw5 K5=>aO K5<|O1 15 Y<|bsn (τ:=dQ) (xs:=(ab5 a b)) (vs:=[(0,aI (bL a.Live b.Live)),(1,aI (bL a.Have b.Have)),(2,aI (bL a.aD b.aD))]) (css:=[[aI (bL a.Live b.Live)],[aI (bL a.Have b.Have)],[aI (bL a.aD b.aD)]]) Y (by intro _; apply ae1) rfl rfl K5 (λ_ e=>⟨rfl,rfl,rfl,trivial⟩) λg3 w6 K6=>?_
  have k1:=(K6.rm s0);refine aO k1<|O1 16 Y<|nD K6 Y (aeS _ (K6.o s0)) λw7 K7=>?_
  have k2:=(K7.rm s0);refine aO k2<|xL 17 Y Y k2<|Dn ⟨Y,(K7.rm s0)⟩ Y
 rintro _ w8 ⟨rfl,K8⟩;refine iP Y ?_;have fT:(P7 (ab5 a b):Int)=(P7 [bL a.Live b.Live,bL a.Have b.Have,bL a.aD b.aD]):=by rfl
 exact⟨by rw [fT] <;> rfl,K8.z⟩
theorem XQ(w:World)(a:eG)(b:eG) :
    bO prog 327 #[.agg #[aI a.aD,aI a.Have,aI a.Live],.agg #[aI b.aD,aI b.Have,aI b.Live]] w λv w'=>v=.bool (Aa a b)/\Hp w S0 w' []:=by
 refine lg S0 func327 ntmps327 Y λH0=>rg<|bx Y Y H0 λg1 w1 K1=>bx Y Y K1 λg2 w2 K2=>bX Y<|rg<|ev (fK ql Y Y (K2.x s1))<|ev (fK ql Y Y (K2.x s0))<|nD K2 Y (amv (S0:=Any) _ a b) λw3 K3=>ev (fD Y Y)<|bX Y<|iP Y ?_
 exact⟨by skip <;> rfl,K3.z⟩
abbrev Vr(iE:Nat)(je:ah)(wP:List eG)(zZ:Nat)(Fh:List lG):=dW iE 335 [.slice je wP.length zZ,.func (.func 327) #[] #[]]::aQ qg 242 je zZ wP::Fh
theorem azg{l:List eG}(H0:Hp b S w (Vr g A l c F))(hn:l.length<=1000000)(h1:1<=l.length) :
    bO prog 328 #[gI g] w λv w'=>v=.tuple #[]/\Hp b S w' (dW g 335 [.slice A (upL l).length c,.func (.func 327) #[] #[]]::aQ qg 242 A c (upL l)::F):=by
 refine rU func328 ntmps328 Y<|WP.jumps (lb:=0) (λmJ lJ wJ=>∃(i:Nat)(ys:List eG),lJ=[(0,gI g),(2,aI ((i:Nat):Int))]/\mJ=i+1/\(ys.length=l.length)/\(i<l.length)/\(upG (i+1) ys i=upG l.length l (l.length - 1))/\Hp b S wJ (aQ qg 242 A c ys::dW g 335 [.slice A ys.length c,.func (.func 327) #[] #[]]::F)) Y ?_ ?_
 ·rintro _ _ w1 ⟨i,ys,rfl,rfl,hyl,hil,hup,K1⟩;have aLa:=half i;refine bQ Y<|ev (Uw Y Y)<|ev (Ev.quo Y Y au (zP aj aj))<|bX Y<|lF (t:=3) (u:=aI ((((i:Nat):Int) - 1).tdiv 2)) Y (aV (Value.int .i64) (half i)) ?_
  obtain⟨x1,bN⟩:=bn (xs:=ys) (i:=i) aj;obtain⟨x2,lN⟩:=bn (xs:=ys) (i:=(i - 1) / 2) aj;refine qU ak ak<|bB (bq Y) Y<|bB (sQ Y Y) Y<|bB (bq Y) Y<|qY 20 35 ((decide (0<((i:Nat):Int)))&&(Aa x1 x2)) ?_ ?_
  ·cases U7:decide (0<((i:Nat):Int)) with
   | true=>
    have aj1:=iY U7;refine dX Y (bq Y) Y<|dX Y (d9 Y) Y<|dX Y (fQ (q:=⟨g,1,none⟩) ae2 Y Y) Y<|dX Y (eF apP Y (K1.x s1) Y) Y<|dX Y (bq Y) Y<|dX Y (d9 Y) Y<|dX Y (fQ mK Y Y) Y<|dX Y (eF XP Y (K1.x s1) Y) Y<|dX Y (bq Y) Y<|dX Y (eP qj qH Y Y Y (aM bN) ((K1.o s0).some_ bN)) Y<|dX Y (iU ql Y Y ((K1.o s0).fF bN)) Y<|dX Y (bq Y) Y<|dX Y (d9 Y) Y<|dX Y (fQ mK Y Y) Y<|dX Y (eF XP Y (K1.x s1) Y) Y<|dX Y (bq Y) Y<|dX Y (eP qj qH Y Y Y (aM lN) ((K1.o s0).some_ lN)) Y<|dX Y (iU ql Y Y ((K1.o s0).fF lN)) Y<|Px Y (v:=.bool (Aa x1 x2)) Y Y Y apQ (λwq eq=>(XQ (S0:=Any) wq x1 x2).mono (by rintro _ _ ⟨rfl,gu⟩; exact⟨rfl,gu.ext⟩)) rfl<|bB (dM rfl rfl) rfl<|jY rfl
   | false=>
    refine dI Y Y Y<|dI Y Y Y<|dI Y Y Y<|dI Y Y Y<|dI Y Y Y<|dI Y Y Y<|dI Y Y Y<|dI Y Y Y<|dI Y Y Y<|dI Y Y Y<|dI Y Y Y<|dI Y Y Y<|dI Y Y Y<|dI Y Y Y<|dI Y Y Y<|dI Y Y Y<|dI Y Y Y<|dI Y Y Y<|dI Y Y Y<|bB (dS Y Y) Y<|jY Y
  refine qV λw2 e2=>?_;have K2:=K1.grow e2;refine bP Y (λGt=>?_) (λGt=>?_)
  ·have hsA:=(K2.o s0).some_ bN;have hp:=(bK _ _).mp Gt;have hp1:=iY hp.1;have hgo:=azf bN lN aj hp.2;refine He K2 (λ_ K=>(K.rm s0)) (λl0 rk lJ wJ=>lJ=l0/\Hp b S wJ (aQ qg 242 A c ((ys.set i x2).set ((i - 1) / 2) x1)::rk)) (λhns H1=>?_) ?_
   ·have k1:=(H1.rm s0);refine tZ 0 g 0 mK Y k1<|Db 3 s0 Y k1<|lQ 4 Y Y k1<|tZ 5 g 0 mK Y k1<|Db 8 s0 Y k1<|lQ 9 Y Y k1<|tZ 10 g 0 mK Y k1<|Db 13 s0 Y k1<|lQ 14 Y Y k1<|l9 15 Y (λ_ _=>eP (i:=(i - 1) / 2) qj qH Y Y Y (aM lN) hsA) k1<|tZ 17 g 0 mK Y k1<|Db 20 s0 Y k1<|lQ 21 Y Y k1<|l9 22 Y (λ_ _=>eP (i:=i) qj qH Y Y Y (aM bN) hsA) k1<|Jn H1 (λl0 rk lJ wJ=>lJ=(52,.agg #[aI x2.aD,aI x2.Have,aI x2.Live])::(59,.agg #[aI x1.aD,aI x1.Have,aI x1.Live])::l0/\Hp b S wJ rk) 4 16777215 ?_ λhS1=>?_
    ·rintro _ w5 ⟨rfl,K5⟩;have k4:=(K5.rm s0);refine l9 24 Y (λ_ _=>eP (i:=i) qj qH Y Y Y (aM bN) hsA) k4<|O1 25 Y<|se (i:=i) (f:=0) (x:=x1) (x':=x2) (ds:=[aI x2.aD,aI x2.Have,aI x2.Live]) K5 s0 Y Y Y bN Y qH (nX Y) Y (by rintro _ _ _ ⟨⟩; rfl) λw6 K6=>?_
     have hl3:(ys.set i x2).length=ys.length:=gW ..;refine gJ (t:=39) (u:=.slice A ys.length c) (v:=.slice A ((ys.set i x2).length) c) Y (by rw [hl3])<|gJ (t:=44) (u:=.slice A ys.length c) (v:=.slice A ((ys.set i x2).length) c) rfl (by rw [hl3]) ?_
     have k5:=(K6.rm s0);refine aO k5 ?_;obtain⟨x4,hx7⟩:=bn (xs:=(ys.set i x2)) (i:=(i - 1) / 2) aj;refine l9 26 Y (λ_ _=>eP (i:=(i - 1) / 2) qj qH Y Y Y (aM hx7) hsA) k5<|O1 27 Y<|se (i:=(i - 1) / 2) (f:=0) (x:=x4) (x':=x1) (ds:=[aI x1.aD,aI x1.Have,aI x1.Live]) K6 s0 Y Y Y hx7 Y qH (nX Y) Y (by rintro _ _ _ ⟨⟩; rfl) λw7 K7=>?_
     have hl4:((ys.set i x2).set ((i - 1) / 2) x1).length=(ys.set i x2).length:=gW ..;refine gJ (t:=39) (u:=.slice A ((ys.set i x2).length) c) (v:=.slice A (((ys.set i x2).set ((i - 1) / 2) x1).length) c) Y (by rw [hl4])<|gJ (t:=44) (u:=.slice A ((ys.set i x2).length) c) (v:=.slice A (((ys.set i x2).set ((i - 1) / 2) x1).length) c) rfl (by rw [hl4]) ?_
     have k6:=(K7.rm s0);refine aO k6<|Dn ⟨Y,K7⟩ Y
    refine O2 16 23 Y Y ?_ ?_
    ·refine ev (iU ql Y Y ((H1.o s0).fF lN))<|aO k1<|O1 23 Y<|ev (iU ql Y Y ((H1.o s0).fF bN))<|Kj hS1 k1 ⟨Y,H1⟩ Y
    ·refine ev (iU ql Y Y ((H1.o s0).fF bN))<|aO k1<|O1 16 Y<|ev (iU ql Y Y ((H1.o s0).fF lN))<|Kj hS1 k1 ⟨Y,H1⟩ Y
   rintro _ w8 ⟨rfl,K8⟩;refine bQ Y<|bX Y<|WP.goto ?_
   have fT:(.slice A ys.length c:Value)=.slice A (((ys.set i x2).set ((i - 1) / 2) x1).length) c:=by rw [gW,gW]
   try rw [fT] at K8
   exact l8.jag ⟨((i - 1) / 2),((ys.set i x2).set ((i - 1) / 2) x1),Y,Y,by rw [gW,gW]; exact hyl,aj,by rw [<- hgo]; exact hup,K8⟩ rfl aj
  refine zo (l8.aac (qc (xV Y ?_)));have hst:upG (i+1) ys i=ys:=apO (λx y e1 e2=>by rw [bN] at e1; cases e1; rw [lN] at e2; cases e2; rw [show decide (0<i)=decide ((0:Int)<(i:Int)) from decide_eq_decide.2 aj]; exact Gt);have hfi:ys=upL l:=by rw [<- hst,hup]; rfl
  exact⟨Y,by rw [<- hfi]; exact((K2.sel s0).sel s1)⟩
 ·intro hp0;refine bQ Y<|ev (d9 Y)<|j6 g 0 mK H0 s0 Y<|ev (eX qj Y)<|ev (Ev.aue (a:=l.length) (b:=1) Y Y Y aj aj)<|bX Y<|iT Y<|WP.kp hp0 ⟨(l.length - 1),l,Y,Y,by rfl,aj,by rw [Nat.sub_add_cancel h1],((H0.sel s0).sel s1)⟩ rfl
def Ve(l:List eG)(a m:Nat):Bool:=match l[a]?,l[m]? with | some x,some y=>Aa x y | _,_=>false
def jI(l:List eG)(i:Nat):Nat->Nat
  | 0=>i
  | k+1=>if Ve l (2*i+1+k) (jI l i k)=true then 2*i+1+k else jI l i k
abbrev lsB(l:List eG)(i k:Nat):Bool:=Ve l (2*i+1+k) (jI l i k)
theorem ais{l:List eG}{a m:Nat}{x y:eG}(hx:l[a]? = some x)(hy:l[m]? = some y):Aa x y=Ve l a m:=by grind [Ve]
theorem ait{l:List eG}{a m:Nat}(h:¬ a<l.length):false=Ve l a m:=by grind [Ve]
theorem Ec(l:List eG)(i:Nat):∀ k,jI l i k=i∨(2*i+1<=jI l i k/\jI l i k<l.length/\i<l.length)
  | 0=>.inl rfl
  | k+1=>by
    unfold jI
    split
    · rename_i h
      right
      have h1:2*i+1+k<l.length:=by
        rcases F6 (2*i+1+k) l.length with h2 | h2
        · exact h2
        · rw [<- ait aj] at h; cases h
      omega
    · exact Ec l i k
def zx:Nat->List eG->Nat->List eG
  | 0,l,_=>l
  | f+1,l,i=>if jI l i 2=i then l else match l[i]?,l[jI l i 2]? with
    | some x,some y=>zx f ((l.set i y).set (jI l i 2) x) (jI l i 2)
    | _,_=>l
def Qq(l:List eG):List eG:=zx (l.length+1) l 0
theorem Ti:∀(f:Nat)(l:List eG)(i:Nat),(zx f l i).length=l.length
  | 0,_,_=>rfl
  | f+1,l,i=>by
    unfold zx
    split
    · rfl
    · split
      · rw [Ti f,gW,gW]
      · rfl
theorem XR:∀(f f':Nat)(l:List eG)(i:Nat),l.length - i<f->l.length - i<f'->zx f l i=zx f' l i
  | 0,_,_,_,h,_=>absurd h (OA _)
  | _+1,0,_,_,_,h=>absurd h (OA _)
  | f+1,f'+1,l,i,h1,h2=>by
    unfold zx
    split
    · rfl
    · rename_i hne
      have h3:=Ec l i 2
      split
      · exact XR f f' _ _ (by rw [gW,gW]; omega) (by rw [gW,gW]; omega)
      · rfl
theorem apR{l:List eG}{m:Nat}{x y:eG}(hm:jI l i 2=m)(hne:m≠i)(hx:l[i]? = some x)(hy:l[m]? = some y):zx (l.length - i+1) l i=zx (l.length - m+1) ((l.set i y).set m x) m:=by
  subst hm
  conv=>lhs; unfold zx
  rw [aP hne,hx,hy]
  grind [Ec,XR,List.length_set]
theorem aiu{l:List eG}(h:jI l i 2=i):zx (l.length - i+1) l i=l:=by grind [zx]
theorem ab6(a0:Int)(a1:Int):prog.built 374 [(0,aI a0),(1,aI a1)]=some #[aI a0,aI a1]:=by rfl
theorem apS{l:List eG}(H0:Hp b S w (Vr g A l c F))(hn:l.length<=1000000) :
    bO prog 329 #[gI g] w λv w'=>v=.tuple #[]/\Hp b S w' (dW g 335 [.slice A (Qq l).length c,.func (.func 327) #[] #[]]::aQ qg 242 A c (Qq l)::F):=by
 refine rU func329 ntmps329 Y<|WP.jumps (lb:=0) (λmJ lJ wJ=>∃(i:Nat)(ys:List eG),lJ=[(0,gI g),(2,aI ((i:Nat):Int))]/\mJ=l.length - i+1/\(ys.length=l.length)/\(i<=l.length)/\(zx (ys.length - i+1) ys i=zx (l.length+1) l 0)/\Hp b S wJ (aQ qg 242 A c ys::dW g 335 [.slice A ys.length c,.func (.func 327) #[] #[]]::F)) Y ?_ ?_
 ·rintro _ _ w1 ⟨i,ys,rfl,rfl,hyl,hil,hdn,K1⟩;refine bQ Y<|bX Y<|aY<|bQ Y<|ev (Ev.mul Y Y (zP aj aj))<|ev (dP Y Y)<|mv Y<|ev (Ev.mul Y Y (zP aj aj))<|ev (dP Y Y)<|ev (jX (vs:=[(0,aI ((2*i+1:Nat):Int)),(1,aI ((2*i+2:Nat):Int))]) (cs:=[aI ((2*i+1:Nat):Int),aI ((2*i+2:Nat):Int)]) Y (by apply ab6))<|mv rfl<|dn<|cB ?_
  have fT:(((i:Nat):Int):Int)=((jI ys i 0:Nat):Int):=by rfl
  refine lF (t:=3) Y (aV (Value.int .i64) fT)<|Lp K1 (λl0 rk mJ lJ wJ=>∃(k:Nat),lJ=(3,aI ((jI ys i k:Nat):Int))::(14,aI ((k:Nat):Int))::l0/\mJ=2 - k/\k<=2/\Hp b S wJ rk) ⟨0,Y,Y,fE _,K1⟩ Y ?_
  rintro _ _ w2 ⟨k,rfl,rfl,hk,K2⟩;refine rg<|ev (fD Y Y)<|dn<|pG Y (λyX=>?_) (λyX=>?_)
  ·refine jy ?_;refine aY<|cB<|rg<|ev (Ev.aHW (v:=aI ((2*i+1+k:Nat):Int)) (i:=k) underlying374 uf jN aj Y Y (by rcases(by omega:k=0∨k=1) with rfl | rfl <;> rfl))<|bX rfl ?_
   have hlt:=Ec ys i k;refine qU ak ak<|bB (bq Y) Y<|bB (bq Y) Y<|bB (d9 Y) Y<|bB (fQ (q:=⟨g,0,none⟩) mK Y Y) Y<|bB (eF XP Y (K2.x s1) Y) Y<|bB (eX qj Y) Y<|bB (fD Y Y) Y<|bB (bq Y) Y<|qY 20 44 (lsB ys i k) ?_ ?_
   ·cases auT:decide (((2*i+1+k:Nat):Int)<((ys.length:Nat):Int)) with
    | true=>
     have aCM:=iY auT;refine dX Y (bq Y) Y<|dX Y (d9 Y) Y<|dX Y (fQ (q:=⟨g,1,none⟩) ae2 Y Y) Y<|dX Y (eF apP Y (K2.x s1) Y) Y<|dX Y (bq Y) Y<|dX Y (d9 Y) Y<|dX Y (fQ (q:=⟨g,0,none⟩) mK Y Y) Y<|dX Y (eF XP Y (K2.x s1) Y) Y<|dX Y (bq Y) Y ?_
     obtain⟨x1,bN⟩:=bn (xs:=ys) (i:=2*i+1+k) aj;refine dX Y (eP (i:=2*i+1+k) qj qH Y Y Y (aM bN) ((K2.o s0).some_ bN)) Y<|dX Y (iU ql Y Y ((K2.o s0).fF bN)) Y<|dX Y (bq Y) Y<|dX Y (d9 Y) Y<|dX Y (fQ (q:=⟨g,0,none⟩) mK Y Y) Y<|dX Y (eF XP Y (K2.x s1) Y) Y<|dX Y (bq Y) Y ?_
     obtain⟨x2,lN⟩:=bn (xs:=ys) (i:=jI ys i k) aj;refine dX Y (eP (i:=jI ys i k) qj qH Y Y Y (aM lN) ((K2.o s0).some_ lN)) Y<|dX Y (iU ql Y Y ((K2.o s0).fF lN)) Y<|Px Y (v:=.bool (Aa x1 x2)) Y Y Y apQ (λwq eq=>(XQ (S0:=Any) wq x1 x2).mono (by rintro _ _ ⟨rfl,gu⟩; exact⟨rfl,gu.ext⟩)) rfl<|bB (dM rfl rfl) rfl<|Dm (t:=44) (u:=.bool (Aa x1 x2)) (v:=.bool (lsB ys i k)) rfl (aV Value.bool (by exact ais bN lN))<|jY rfl
    | false=>
     refine dI Y Y Y<|dI Y Y Y<|dI Y Y Y<|dI Y Y Y<|dI Y Y Y<|dI Y Y Y<|dI Y Y Y<|dI Y Y Y<|dI Y Y Y<|dI Y Y Y<|dI Y Y Y<|dI Y Y Y<|dI Y Y Y<|dI Y Y Y<|dI Y Y Y<|dI Y Y Y<|dI Y Y Y<|dI Y Y Y<|dI Y Y Y<|bB (dS Y Y) Y<|Dm (t:=44) (u:=.bool false) (v:=.bool (lsB ys i k)) Y (aV Value.bool (by exact ait (by have:=jS auT; omega)))<|jY rfl
   refine qV λw3 e3=>?_;have K3:=K2.grow e3;refine bP Y (λXT=>?_) (λXT=>?_)
   ·refine jC<|mv Y<|jk Y<|jD<|iw (gy ?_)
    refine jC<|ev (dP Y Y)<|mv Y<|jD ?_
    have gu:(((2*i+1+k:Nat):Int):Int)=((jI ys i (k+1):Nat):Int):=by simp only [jI]; first | rw [aS (show Ve ys (2*i+1+k) (jI ys i k)=true from XT)] | rw [aP (show ¬ Ve ys (2*i+1+k) (jI ys i k)=true by rw [show Ve ys (2*i+1+k) (jI ys i k)=false from XT]; decide)]
    refine jq (t:=3) Y (aV (Value.int .i64) gu)<|dG ⟨(k+1),Y,Y,aj,K3⟩ rfl aj
   refine Ci ?_;refine jC<|ev (dP Y Y)<|mv Y<|jD ?_
   have kC:(((jI ys i k:Nat):Int):Int)=((jI ys i (k+1):Nat):Int):=by simp only [jI]; first | rw [aS (show Ve ys (2*i+1+k) (jI ys i k)=true from XT)] | rw [aP (show ¬ Ve ys (2*i+1+k) (jI ys i k)=true by rw [show Ve ys (2*i+1+k) (jI ys i k)=false from XT]; decide)]
   refine jq (t:=3) Y (aV (Value.int .i64) kC)<|dG ⟨(k+1),Y,Y,aj,K3⟩ rfl aj
  refine xq ?_;have hk2:k=2:=aj;have hlm:jI ys i 2=jI ys i k:=by rw [hk2]
  have hlt:=Ec ys i k;refine bQ Y<|mv Y<|ev (rY Y Y)<|dn<|bP Y (λapT=>?_) (λapT=>?_)
  ·replace apT:=oO apT;obtain⟨x3,hx3⟩:=bn (xs:=ys) (i:=i) aj;obtain⟨x4,hx4⟩:=bn (xs:=ys) (i:=jI ys i k) aj;have hsA:=(K2.o s0).some_ hx3;have hgo:=apR hlm aj hx3 hx4;refine He K2 (λ_ K=>(K.rm s0)) (λl0 rk lJ wJ=>lJ=l0/\Hp b S wJ (aQ qg 242 A c ((ys.set i x4).set (jI ys i k) x3)::rk)) (λhns H1=>?_) ?_
   ·have k1:=(H1.rm s0);refine tZ 0 g 0 mK Y k1<|Db 3 s0 Y k1<|lQ 4 Y Y k1<|tZ 5 g 0 mK Y k1<|Db 8 s0 Y k1<|lQ 9 Y Y k1<|tZ 10 g 0 mK Y k1<|Db 13 s0 Y k1<|lQ 14 Y Y k1<|l9 15 Y (λ_ _=>eP (i:=jI ys i k) qj qH Y Y Y (aM hx4) hsA) k1<|tZ 17 g 0 mK Y k1<|Db 20 s0 Y k1<|lQ 21 Y Y k1<|l9 22 Y (λ_ _=>eP (i:=i) qj qH Y Y Y (aM hx3) hsA) k1<|Jn H1 (λl0 rk lJ wJ=>lJ=(66,.agg #[aI x4.aD,aI x4.Have,aI x4.Live])::(73,.agg #[aI x3.aD,aI x3.Have,aI x3.Live])::l0/\Hp b S wJ rk) 4 16777215 ?_ λhS1=>?_
    ·rintro _ w6 ⟨rfl,K6⟩;have k4:=(K6.rm s0);refine l9 24 Y (λ_ _=>eP (i:=i) qj qH Y Y Y (aM hx3) hsA) k4<|O1 25 Y<|se (i:=i) (f:=0) (x:=x3) (x':=x4) (ds:=[aI x4.aD,aI x4.Have,aI x4.Live]) K6 s0 Y Y Y hx3 Y qH (nX Y) Y (by rintro _ _ _ ⟨⟩; rfl) λw7 K7=>?_
     have hl3:(ys.set i x4).length=ys.length:=gW ..;refine gJ (t:=53) (u:=.slice A ys.length c) (v:=.slice A ((ys.set i x4).length) c) Y (by rw [hl3])<|gJ (t:=58) (u:=.slice A ys.length c) (v:=.slice A ((ys.set i x4).length) c) rfl (by rw [hl3]) ?_
     have k5:=(K7.rm s0);refine aO k5 ?_;obtain⟨x6,hx9⟩:=bn (xs:=(ys.set i x4)) (i:=jI ys i k) aj;refine l9 26 Y (λ_ _=>eP (i:=jI ys i k) qj qH Y Y Y (aM hx9) hsA) k5<|O1 27 Y<|se (i:=jI ys i k) (f:=0) (x:=x6) (x':=x3) (ds:=[aI x3.aD,aI x3.Have,aI x3.Live]) K7 s0 Y Y Y hx9 Y qH (nX Y) Y (by rintro _ _ _ ⟨⟩; rfl) λw8 K8=>?_
     have hl4:((ys.set i x4).set (jI ys i k) x3).length=(ys.set i x4).length:=gW ..;refine gJ (t:=53) (u:=.slice A ((ys.set i x4).length) c) (v:=.slice A (((ys.set i x4).set (jI ys i k) x3).length) c) Y (by rw [hl4])<|gJ (t:=58) (u:=.slice A ((ys.set i x4).length) c) (v:=.slice A (((ys.set i x4).set (jI ys i k) x3).length) c) rfl (by rw [hl4]) ?_
     have k6:=(K8.rm s0);refine aO k6<|Dn ⟨Y,K8⟩ Y
    refine O2 16 23 Y Y ?_ ?_
    ·refine ev (iU ql Y Y ((H1.o s0).fF hx4))<|aO k1<|O1 23 Y<|ev (iU ql Y Y ((H1.o s0).fF hx3))<|Kj hS1 k1 ⟨Y,H1⟩ Y
    ·refine ev (iU ql Y Y ((H1.o s0).fF hx3))<|aO k1<|O1 16 Y<|ev (iU ql Y Y ((H1.o s0).fF hx4))<|Kj hS1 k1 ⟨Y,H1⟩ Y
   rintro _ w9 ⟨rfl,K9⟩;refine bQ Y<|bX Y<|WP.goto ?_
   have nC:(.slice A ys.length c:Value)=.slice A (((ys.set i x4).set (jI ys i k) x3).length) c:=by rw [gW,gW]
   try rw [nC] at K9
   exact l8.jag ⟨(jI ys i k),((ys.set i x4).set (jI ys i k) x3),Y,Y,by rw [gW,gW]; exact hyl,aj,by rw [gW,gW,<- hgo]; exact hdn,K9⟩ rfl aj
  replace apT:=oP apT;refine zo (l8.aac (qc (xV Y ?_)));have hst:zx (ys.length - i+1) ys i=ys:=aiu aj;have hfi:ys=Qq l:=by rw [<- hst,hdn]; rfl
  exact⟨Y,by rw [<- hfi]; exact((K2.sel s0).sel s1)⟩
 ·intro hp0;refine rg<|jk Y<|bX Y<|WP.kp hp0 ⟨0,l,Y,Y,by rfl,aj,by rw [Ur],((H0.sel s0).sel s1)⟩ rfl
theorem auV(l:List eG):(upL l).length=l.length:=aj0 _ _ _
theorem amw(l:List eG):(Qq l).length=l.length:=Ti _ _ _
def ab7(l:List eG)(n:eG):List eG:=upL (l++[n])
theorem apU(l:List eG)(n:eG):(ab7 l n).length=l.length+1:=by simp [ab7,auV]
def takeN(l:List eG):eG:=match l[0]? with | some x=>x | none=>⟨0,0,0⟩
def takeB(l:List eG):Bool:=decide (0<l.length)
def Dr(l:List eG):List eG:=match l[l.length - 1]? with | some z=>Qq ((l.set 0 z).take (l.length - 1)) | none=>l
theorem Tj(l:List eG):(Dr l).length=l.length - 1:=by
  grind [Dr,amw,List.getElem?_eq_none_iff]
theorem XU{l:List eG}{x:eG}(hx:l[0]? = some x):takeN l=x:=by grind [takeN]
theorem apV{l:List eG}(h:0<l.length):takeB l=true:=sO h
theorem ae3{l:List eG}{z:eG}(hz:l[l.length - 1]? = some z):Dr l=Qq ((l.set 0 z).take (l.length - 1)):=by grind [Dr]
theorem ab8  : prog.built 333 [(1,.func (.func 327) #[] #[])]=some #[.slice none 0 0,.func (.func 327) #[] #[]]:=by rfl
theorem amx(XV:ah)(UE UF:Nat):prog.built 335 [(0,.agg #[.slice XV UE UF,.func (.func 327) #[] #[]])]=some #[.slice XV UE UF,.func (.func 327) #[] #[]]:=by rfl
theorem x8:dL prog 335 0 0:=λ_ _=>by rfl
theorem I7(a0:Int)(a1:Int)(a2:Int):∀ w,(Instr.buildSlice 197 1 (List.toArray [(0,.agg #[aI a0,aI a1,aI a2])])).run prog w=.ok (.slice (some ⟨w.heap.size,0,none⟩) 1 1) (w.alloc (.cells (List.toArray [aI a0,aI a1,aI a2]) 242)):=ay
theorem apW:lY prog 242 3 24:=by
  obtain⟨i,h1,h2,h3,h4⟩:=uJ (show(prog.info? 242).map (λi=>(i.zero,i.size,i.bytes))=some (some (.agg #[aI 0,aI 0,aI 0]),3,24) by kernel_rfl);exact⟨i,_,h1,h2,h3,h4,Y⟩
theorem CO:∀ w,(zeroValue 242).run prog w=.ok (.agg #[aI 0,aI 0,aI 0]) w:=by simp
theorem auW  : prog.built 242 []=some #[aI 0,aI 0,aI 0]:=by rfl
theorem auX(w:World) :
    bO prog 236 #[] w λv w'=>∃ g,v=gI g/\Hp w S0 w' [dW g 335 [.slice none 0 0,.func (.func 327) #[] #[]],aQ qg 242 none 0 []]:=by
 refine lg S0 func236 ntmps236 Y λH0=>iT Y<|rg<|ev (jX Y (by apply ab8))<|ev (jX rfl (by apply amx))<|bx rfl rfl H0 λg1 w1 K1=>bX rfl<|iP rfl ?_
 have H1:=K1.nil qg 242;exact⟨_,Y,((H1.sel s0).sel s1)⟩
theorem auY{l:List eG}(H0:Hp b S w (Vr g A l c F))(n:eG)(hn:l.length<=100000) :
    bO prog 237 #[gI g,.agg #[aI n.aD,aI n.Have,aI n.Live]] w λv w'=>v=.tuple #[]/\∃ A' c',Hp b S w' (dW g 335 [.slice A' (ab7 l n).length c',.func (.func 327) #[] #[]]::aQ qg 242 A' c' (ab7 l n)::F):=by
 refine rU func237 ntmps237 Y<|rg<|bx Y Y H0 λg1 w1 K1=>dn<|He K1 (λ_ K=>(K.cU 1 2)) (λl0 rk lJ wJ=>∃(jW:ah)(jT:Nat),lJ=l0/\Hp b S wJ (dW g 335 [.slice jW ((l++([n]:List eG)).length) jT,.func (.func 327) #[] #[]]::aQ qg 242 jW jT (l++([n]:List eG))::rk)) (λhns H1=>?_) ?_
 ·have k1:=(H1.cU 1 2);refine lQ 0 Y Y k1<|tZ 1 g 0 x8 Y k1<|MO 4 g 0 mK Y k1<|l9 6 Y (λ_ hK=>fK ql Y Y (hK.x s0)) k1<|Jn H1 (λl0 rk lJ wJ=>∃(g2:Nat),lJ=(9,.slice A l.length c)::(11,.slice (some ⟨g2,0,none⟩) (([n]:List eG).length) 1)::l0/\Hp b S wJ (aQ qg 242 (some ⟨g2,0,none⟩) 1 ([n]:List eG)::rk)) 5 255 ?_ λhS1=>?_
  ·rintro _ w6 ⟨g2,rfl,K6⟩;refine O1 8 Y<|ap K6 s3 Y Y (K6.o s0) qj apW (by first | omega | (simp; omega) | (simp; done)) av rfl λXp cp2 w7 K7=>?_
   have k6:=((K7.rm s3).cU 0 2);refine aO k6<|Sr 9 g 0 x8 Y k6<|MO 11 g 0 mK Y k6<|O1 12 Y<|yD Y K7 s3 Y λw8 K8=>?_
   have k7:=(K8.cU 0 3);refine aO k7<|Dn ⟨Xp,cp2,Y,(K8.rm s2)⟩ Y
  refine O2 5 7 Y Y ?_ ?_
  ·refine nL H1 s1 Y<|aO k1<|O1 7 Y<|Bh (τ:=qg) (x:=n) Y (by intro _; apply I7) rfl H1 (λ_ _=>rfl) λg4 w9 K9=>?_
   have k8:=((K9.cU 2 2).rm s0);exact Kj hS1 k8 ⟨g4,Y,K9⟩ Y
  ·refine Bh (τ:=qg) (x:=n) Y (by intro _; apply I7) rfl H1 (λ_ _=>rfl) λg5 Om K10=>?_;have k9:=((K10.cU 2 2).rm s0);refine aO k9<|O1 5 Y<|nL K10 s2 Y<|Kj hS1 k9 ⟨g5,Y,K10⟩ Y
 rintro _ Va ⟨jW,jT,rfl,vM⟩;refine jC<|mv Y<|ev (d9 Y)<|yV g 0 x8 Y<|gU Y (azg vM (by first | omega | (simp; done) | (simp; omega)) (by first | omega | (simp; done) | (simp; omega))) ?_
 rintro _ Vb ⟨rfl,vH⟩;refine jD<|qc (xV Y ?_)
 have H2:=(vH.rm s2);exact⟨Y,_,_,H2⟩
theorem ae4{l:List eG}(H0:Hp b S w (Vr g A l c F))(hn:l.length<=100000) :
    bO prog 238 #[gI g] w λv w'=>v=.tuple #[.agg #[aI ((takeN l).aD),aI ((takeN l).Have),aI ((takeN l).Live)],.bool (takeB l)]/\Hp b S w' (dW g 335 [.slice A (Dr l).length c,.func (.func 327) #[] #[]]::aQ qg 242 A c (Dr l)::F):=by
 refine rU func238 ntmps238 Y<|rg<|al CO Y H0 λg1 w1 K1=>bX Y<|bQ Y<|ev (d9 Y)<|yV g 0 x8 Y<|j6 g 0 mK K1 s1 Y<|ev (eX qj Y)<|ev (Uw Y Y)<|bX Y<|aY<|bQ Y<|ev (fD Y Y)<|dn<|mZ Y (λrz=>?_) (λrz=>?_)
 ·refine rg<|ev (jX (vs:=[]) (cs:=[aI 0,aI 0,aI 0]) Y (by apply auW))<|sty rfl K1 s0 rfl λw2 K2=>bX rfl<|jf (fO (sW rfl ⟨_,_,rfl,⟨_,rfl,kK (cs:=[aI 0,aI 0,aI 0]) ql rfl (K2.x s0)⟩,⟨_,_,rfl,rfl,rfl⟩⟩ ?_))
  have H1:=(K2.rm s0);have hl0:l=[]:=qF aj;exact⟨by subst hl0; rfl,by subst hl0; exact H1⟩
 refine jy ?_;refine lF (t:=4) (u:=aI (((l.length:Nat):Int) - 1)) Y (aV (Value.int .i64) (show(((l.length:Nat):Int) - 1:Int)=((l.length - 1:Nat):Int) by omega)) ?_;obtain⟨x1,bN⟩:=bn (xs:=l) (i:=0) aj;obtain⟨x2,lN⟩:=bn (xs:=l) (i:=l.length - 1) aj;refine bQ Y<|ev (d9 Y)<|yV g 0 x8 Y<|j6 g 0 mK K1 s1 Y<|ev (eP (i:=0) qj qH Y Y Y (aM bN) ((K1.o s2).some_ bN))<|ev (iU ql Y Y ((K1.o s2).fF bN))<|al CO Y K1 λg2 w3 K3=>sty Y K3 s0 Y λw4 K4=>dn ?_
 have hsA:=(K4.o s3).some_ bN;refine He K4 (λ_ K=>(K.rm s3)) (λl0 rk lJ wJ=>lJ=(10,.slice A ((l.set 0 x2).length) c)::(20,.slice A ((l.set 0 x2).length) c)::l0/\Hp b S wJ (aQ qg 242 A c (l.set 0 x2)::rk)) (λhns H2=>?_) ?_
 ·have k1:=(H2.rm s3);refine tZ 0 g 0 x8 Y k1<|nJ 3 4 g 0 mK s2 Y k1<|tZ 5 g 0 x8 Y k1<|nJ 8 9 g 0 mK s2 Y k1<|lQ 10 Y Y k1<|l9 11 Y (λ_ _=>eP (i:=l.length - 1) qj qH Y Y Y (aM lN) hsA) k1<|O1 12 Y<|ev (iU ql Y Y ((H2.o s3).fF lN))<|aO k1<|l9 13 Y (λ_ _=>eP (i:=0) qj qH Y Y Y (aM bN) hsA) k1<|O1 14 Y<|se (x':=x2) H2 s3 Y Y Y bN Y qH (nX Y) Y (by rintro _ _ _ ⟨⟩; rfl) λw5 K5=>?_
  have hl1:(l.set 0 x2).length=l.length:=gW ..;refine gJ (t:=10) (u:=.slice A l.length c) (v:=.slice A ((l.set 0 x2).length) c) Y (by rw [hl1])<|gJ (t:=20) (u:=.slice A l.length c) (v:=.slice A ((l.set 0 x2).length) c) rfl (by rw [hl1])<|gJ (t:=27) (u:=.slice A l.length c) (v:=.slice A ((l.set 0 x2).length) c) rfl (by rw [hl1])<|gJ (t:=32) (u:=.slice A l.length c) (v:=.slice A ((l.set 0 x2).length) c) rfl (by rw [hl1]) ?_
  have k2:=(K5.rm s0);refine aO k2<|Dn ⟨Y,K5⟩ Y
 rintro _ w6 ⟨rfl,K6⟩;refine bQ Y<|mv Y<|ev (d9 Y)<|yV g 0 x8 Y<|j6 g 0 mK K6 s3 Y<|mv Y ?_
 have hcp:=(K6.o s0).cap
 try simp only [gW] at hcp
 refine ev (R9 (hi:=l.length - 1) qj qH Y Y Y aj) ?_;have hct:(((l.set 0 x2)).take (l.length - 1)).length=l.length - 1:=by simp only [iF,gW]; omega
 have H3:=K6.WS (hi:=l.length - 1) s0 (by first | omega | (simp only [gW]; omega));refine gJ (t:=44) (v:=.slice A (((l.set 0 x2).take (l.length - 1))).length c) Y (by rw [hct])<|ev (d9 rfl)<|yV g 0 x8 rfl<|yV g 0 mK rfl<|yD rfl H3 s3 rfl λw7 K7=>dn<|bQ rfl<|ev (d9 rfl)<|yV g 0 x8 rfl<|gU rfl (apS K7 (by first | omega | (simp; done) | (simp; omega))) ?_
 rintro _ w8 ⟨rfl,K8⟩;refine dn<|rg<|ev (fK ql Y Y (K8.x s2))<|sty Y K8 s3 Y λw9 K9=>bX Y<|jf (sW Y ⟨_,_,Y,⟨_,Y,kK ql Y (K9.x s0)⟩,⟨_,_,Y,Y,Y⟩⟩ ?_)
 have H4:=((K9.rm s3).rm s0);exact⟨by rw [XU bN,apV aj] <;> rfl,by rw [ae3 lN]; exact H4⟩
def N9(all:List aR)(aH:List Int)(bS:Int)(c:aF):Bool:=decide ((0:Int)<((EG c aH).length:Int))&&decide (((jg c all aH).length:Int)<bS)
def Lu(all:List aR)(aH:List Int)(c:aF):eG:=⟨c.ID,((jg c all aH).length:Int),((EG c aH).length:Int)⟩
def I8(all:List aR)(aH:List Int)(bS:Int)(q:List eG)(c:aF):List eG:=if N9 all aH bS c=true then ab7 q (Lu all aH c) else q
def p9(all:List aR)(aH:List Int)(bS:Int)(M:List aF):List eG:=M.foldl (I8 all aH bS) []
def drain:Nat->List eG->List eG
  | 0,_=>[]
  | f+1,q=>if takeB q=true then takeN q::drain f (Dr q) else[]
def Gu(l:List aF)(all:List aR)(aH:List Int)(bS:Int):List eG:=drain (p9 all aH bS l).length (p9 all aH bS l)
theorem UG{k:Nat}(hx:M[k]? = some x):p9 all aH bS (M.take (k+1))=I8 all aH bS (p9 all aH bS (M.take k)) x:=by
  simp_all [p9,fC,zY]
theorem XW(all:List aR)(aH:List Int)(bS:Int)(M:List aF):(p9 all aH bS M).length<=M.length:=by
  have key:∀(M:List aF)(q:List eG),(M.foldl (I8 all aH bS) q).length<=q.length+M.length:=by
    intro M
    induction M with
    | nil=>simp
    | cons c M ih=>
      grind [I8,apU,List.length_cons]
  grind [p9]
theorem XY(q:List eG):drain q.length q=if takeB q=true then takeN q::drain (Dr q).length (Dr q) else[]:=by
  cases q with
  | nil=>rfl
  | cons x q=>
    rw [Tj]
    rfl
theorem aiv(q:List eG):(Dr q).length+(if takeB q=true then 1 else 0)=q.length:=by
  grind [takeB,Tj]
theorem ae5{k:Nat}(hx:M[k]? = some x)(h:N9 all aH bS x=true):ab7 (p9 all aH bS (M.take k)) (Lu all aH x)=p9 all aH bS (M.take (k+1)):=by
  simp_all [I8,UG,aS]
theorem ae6{k:Nat}(hx:M[k]? = some x)(h:N9 all aH bS x=false):p9 all aH bS (M.take k)=p9 all aH bS (M.take (k+1)):=by
  simp_all [I8,UG,aP]
theorem JW(a0:Int)(a1:Int)(a2:Int):prog.built 242 [(0,aI a0),(1,aI a1),(2,aI a2)]=some #[aI a0,aI a1,aI a2]:=by rfl
set_option maxHeartbeats 1000000 in
theorem apX(w:World){jU:ah}{jR:Nat}{l:List aF}(jE:Sl bD S0 w jU jR l){apY:ah}{apZ:Nat}(axe:Sl bW S0 w apY apZ all){ku:ah}{kr:Nat}(kQ:Sl dQ S0 w ku kr aH)(bS:Int)(hl:l.length<=10000)(hh:∀ x∈l,x.aC.length<=100000)(hn:all.length<=100000) :
    bO prog 154 #[.slice jU l.length jR,.slice apY all.length apZ,.slice ku aH.length kr,aI bS] w λv w'=>∃(A0:ah)(c0:Nat),v=.slice A0 ((Gu l all aH bS).length) c0/\Hp w S0 w' [aQ qg 242 A0 c0 (Gu l all aH bS)]:=by
 refine lg S0 func154 ntmps154 Y λH0=>iT Y<|rg<|gU Y (auX (S0:=Any) _) ?_
 rintro _ w1 ⟨gq1,rfl,hn1⟩;have K1:=H0.f2 hn1;refine bX Y<|aY<|bQ Y<|ev (eX iV Y)<|mv Y<|dn<|cB ?_
 have H1:=K1.nil qg 242;have fT:([]:List eG)=(p9 all aH bS (l.take 0)):=by rfl
 rw [fT] at H1;have gu:(.slice none 0 0:Value)=.slice none ((p9 all aH bS (l.take 0)).length) 0:=by rfl
 try rw [gu] at H1
 refine qZ (λmJ lJ wJ=>∃(k:Nat)(A9:ah)(c9:Nat),lJ=[(1,.slice apY all.length apZ),(2,.slice ku aH.length kr),(3,aI bS),(9,gI gq1),(17,.slice jU l.length jR),(18,aI ((l.length:Nat):Int)),(19,aI ((k:Nat):Int))]/\mJ=l.length - k/\k<=l.length/\Hp w S0 wJ [aQ qg 242 A9 c9 (p9 all aH bS (l.take k)),dW gq1 335 [.slice A9 ((p9 all aH bS (l.take k)).length) c9,.func (.func 327) #[] #[]]]) ⟨0,none,0,Y,Y,fE _,(H1.rm s2)⟩ Y ?_;rintro _ _ w2 ⟨k,A9,c9,rfl,rfl,hk,K2⟩;refine rg<|ev (fD Y Y)<|dn<|pG Y (λlW=>?_) (λlW=>?_)
 ·refine jy ?_;refine aY<|cB<|rg ?_
  obtain⟨x1,bN⟩:=bn (xs:=l) (i:=k) aj;refine ev (eP (i:=k) iV qy Y Y Y (aM bN) ((K2.a jE).some_ bN)) ?_;obtain⟨B1,d1,zF,hi1⟩:=zW (jE.row bN);refine ev (iU (cs:=[aI x1.ID,aI x1.aB,gP x1.Sum,.slice B1 x1.aC.length d1]) pQ Y Y (FE (λj u hu=>K2.ext.cell (zF j u hu))))<|al lX Y K2 λg1 w3 K3=>sty Y K3 s0 Y λw4 K4=>dn ?_
  have hhx:=hh _ (bZ bN);have hql:=XW all aH bS (l.take k)
  simp only [iF] at hql
  refine He K4 (λ_ K=>K) (λl0 rk lJ wJ=>∃(su:Nat),lJ=(12,gI su)::l0/\Hp w S0 wJ (dW su 242 [aI x1.ID,aI (((jg x1 all aH).length:Nat):Int),aI (((EG x1 aH).length:Nat):Int)]::rk)) (λhns H2=>?_) ?_
  ·refine nJ 0 1 g1 0 qN s0 Y H2<|l9 2 Y (λ_ hK=>fK pQ Y Y (hK.x s0)) H2<|lQ 3 Y Y H2<|lQ 4 Y Y H2<|l9 7 Y (λ_ hK=>fK pQ Y Y (hK.x s0)) H2<|lQ 8 Y Y H2<|Jn H2 (λl0 rk lJ wJ=>∃(Oa:ah)(Ob g3:Nat)(CG:ah)(CJ:Nat),lJ=(12,gI g3)::(29,aI (((jg x1 all aH).length:Nat):Int))::(32,.slice Oa ((EG x1 aH).length) Ob)::l0/\Hp w S0 wJ (aQ dQ 3 Oa Ob (EG x1 aH)::dW g3 242 [aI 0,aI 0,aI 0]::aQ dQ 3 CG CJ (jg x1 all aH)::rk)) 3 5119 ?_ λhS1=>?_
   ·rintro _ w15 ⟨Oa,Ob,g3,CG,CJ,rfl,BI⟩;have k9:=(BI.cU 0 3);refine l9 10 Y (λ_ _=>eX fA Y) k9<|l9 11 Y (λ_ _=>jX (vs:=[(0,aI x1.ID),(1,aI (((jg x1 all aH).length:Nat):Int)),(2,aI (((EG x1 aH).length:Nat):Int))]) (cs:=[aI x1.ID,aI (((jg x1 all aH).length:Nat):Int),aI (((EG x1 aH).length:Nat):Int)]) Y (by apply JW)) k9<|O1 13 rfl<|sty rfl BI s1 rfl λw16 EB=>?_
    have k10:=(EB.cU 0 3);refine aO k10<|Dn ⟨g3,Y,(EB.cU 1 2)⟩ Y
   refine O2 5 12 Y Y ?_ ?_
   ·refine gU Y (Ql _ x1 (H2.a hi1).any (H2.a axe).any (H2.a kQ).any hhx aj) ?_;rintro _ w17 ⟨aCQ,aCR,rfl,h17⟩;have BJ:=H2.f1 h17;have k11:=(BJ.rm s0);refine aO k11<|l9 6 Y (λ_ _=>eX fA Y) k11<|O2 9 12 Y Y ?_ ?_
    ·refine gU Y (Vq _ x1 (BJ.a hi1).any (BJ.a kQ).any hhx) ?_;rintro _ w18 ⟨aLb,aLc,rfl,h18⟩;have JR:=BJ.f1 h18;have k12:=(JR.cU 0 2);refine aO k12<|l9 10 Y (λ_ _=>eX fA Y) k12<|l9 11 Y (λ_ _=>jX (vs:=[(0,aI x1.ID),(1,aI (((jg x1 all aH).length:Nat):Int)),(2,aI (((EG x1 aH).length:Nat):Int))]) Y (by apply JW)) k12<|O1 12 rfl<|al CO rfl JR λg5 w19 EC=>?_
     have k13:=(EC.cU 0 3);refine aO k13<|O1 13 Y<|sty Y EC s0 Y λw20 Gy=>?_
     have k14:=(Gy.cU 0 3);refine aO k14<|Dn ⟨g5,Y,(Gy.cU 1 2)⟩ Y
    ·refine al CO Y BJ λg6 w21 IV=>?_;have k15:=(IV.cU 0 2);refine aO k15<|O1 9 Y<|gU Y (Vq _ x1 (IV.a hi1).any (IV.a kQ).any hhx) ?_
     rintro _ w22 ⟨ae7,ae8,rfl,h22⟩;have GR:=IV.f1 h22;have azh:=(GR.o s0).bC;have k16:=(GR.cU 0 3);exact Kj hS1 k16 ⟨ae7,ae8,g6,aCQ,aCR,Y,GR⟩ Y
   ·refine al CO Y H2 λg7 w23 JU=>?_;have k17:=(JU.rm s0);refine aO k17<|O1 5 Y<|gU Y (Ql _ x1 (JU.a hi1).any (JU.a axe).any (JU.a kQ).any hhx aj) ?_
    rintro _ w24 ⟨ap0,ap1,rfl,h24⟩;have pK:=JU.f1 h24;have azi:=(pK.o s0).bC;have k18:=(pK.cU 0 2);refine aO k18<|l9 6 Y (λ_ _=>eX fA Y) k18<|O1 9 Y<|gU Y (Vq _ x1 (pK.a hi1).any (pK.a kQ).any hhx) ?_
    rintro _ w25 ⟨aCT,aCU,rfl,h25⟩;have Ea:=pK.f1 h25;have azj:=(Ea.o s0).bC;have k19:=(Ea.cU 0 3);exact Kj hS1 k19 ⟨aCT,aCU,g7,ap0,ap1,Y,((Ea.sel s1).mV 1 2)⟩ Y
  rintro _ w26 ⟨su,rfl,NK⟩;refine rg<|j6 su 2 XO NK s0 Y<|ev (sQ Y Y)<|mv Y<|iO 5 43 ((decide (0<(((EG x1 aH).length:Nat):Int)))&&(decide ((((jg x1 all aH).length:Nat):Int)<bS))) ?_ ?_
  ·cases ayD:decide (0<(((EG x1 aH).length:Nat):Int)) with
   | true=>
    have aLd:=iY ayD;refine wB su 1 Qo NK s0 Y<|bE Y (bq Y) Y<|bE Y (fD Y Y) Y<|ev (dM Y Y)<|dJ Y
   | false=>
    refine dN<|dN<|dN<|dN<|ev (dS Y Y)<|dJ Y
  refine dn<|bP Y (λxH=>?_) (λxH=>?_)
  ·refine jC<|mv Y<|ev (fK ql Y Y (NK.x s0))<|gU Y (auY (((NK.mV 0 2).sel s2).sel s3) (⟨x1.ID,(((jg x1 all aH).length:Nat):Int),(((EG x1 aH).length:Nat):Int)⟩:eG) aj) ?_
   rintro _ w27 ⟨rfl,Aq1,cq1,Ou⟩;refine jD<|iw (gy ?_)
   refine jC<|ev (dP Y Y)<|mv Y<|jD ?_
   have kC:((ab7 (p9 all aH bS (l.take k)) (⟨x1.ID,(((jg x1 all aH).length:Nat):Int),(((EG x1 aH).length:Nat):Int)⟩:eG)):List eG)=(p9 all aH bS (l.take (k+1))):=by first | exact ae5 bN xH | exact ae6 bN xH
   rw [kC] at Ou;exact dG ⟨(k+1),Aq1,cq1,Y,Y,aj,(((Ou.cU 2 2).sel s0).sel s1)⟩ rfl aj
  refine Ci ?_;refine jC<|ev (dP Y Y)<|mv Y<|jD ?_
  have nC:((p9 all aH bS (l.take k)):List eG)=(p9 all aH bS (l.take (k+1))):=by first | exact ae5 bN xH | exact ae6 bN xH
  rw [nC] at NK;exact dG ⟨(k+1),A9,c9,Y,Y,aj,(NK.cU 0 2)⟩ rfl aj
 refine xq ?_;refine iT Y<|aY ?_
 have hql:=XW all aH bS (l.take k)
 simp only [iF] at hql
 refine bQ Y<|gU Y (ae4 ((K2.sel s0).sel s1) aj) ?_
 rintro _ w28 ⟨rfl,GU⟩;refine mv Y<|xt Y Y<|xt Y Y<|al CO Y GU λg8 w29 Ii=>sty Y Ii s0 Y λw30 Gz=>bX Y<|cB ?_
 have H3:=Gz.nil qg 242;have H4:=H3.nil qg 242;refine Lp (H4.cU 0 5) (λl0 rk mJ lJ wJ=>∃(A9:ah)(c9:Nat)(q:List eG)(n:eG)(f:Bool)(g14:Nat)(out:List eG)(A13:ah)(c13:Nat),lJ=(13,.slice A13 out.length c13)::(14,gI g14)::(15,.bool f)::l0/\mJ=q.length+(if f=true then 1 else 0)/\(out++(if f=true then n::drain q.length q else[])=Gu l all aH bS)/\(q.length+(if f=true then 1 else 0)+out.length<=20000)/\Hp w S0 wJ (aQ qg 242 A9 c9 q::dW gq1 335 [.slice A9 q.length c9,.func (.func 327) #[] #[]]::dW g14 242 [aI n.aD,aI n.Have,aI n.Live]::aQ qg 242 A13 c13 out::rk)) ⟨A9,c9,(Dr (p9 all aH bS (l.take k))),(takeN (p9 all aH bS (l.take k))),(takeB (p9 all aH bS (l.take k))),g8,([]:List eG),none,0,Y,Y,by rw [KG,<- XY,gV aj]; rfl,by rw [aiv]; simp only [uE]; omega,(((((H4.rm s1).sel s0).sel s1).sel s2).sel s3)⟩ rfl ?_;rintro _ _ w31 ⟨A9,c9,q,n,f,g14,out,A13,c13,rfl,rfl,hdr,aNk,NZ⟩;refine aY<|bQ Y<|dn<|bP Y (λauZ=>?_) (λauZ=>?_)
 ·refine jy ?_;refine aY<|cB ?_
  have htm:=aiv q;have hif:(if f=true then 1 else 0:Nat)=1:=aS auZ;refine jC<|mv Y<|ev (fK ql Y Y (NZ.x s2))<|Bh Y (by intro _; apply I7) rfl NZ (λ_ _=>rfl) λg9 w32 Ph=>ap (ys:=([n]:List eG)) Ph s4 rfl rfl (Ph.o s0) qj apW aj av rfl λpU pV w33 Vo=>jk rfl<|jD<|iw (gy ?_)
  refine aY<|rg<|ev (fK ql Y Y (Vo.x s4))<|dn<|jC<|al CO Y Vo λg10 w34 K34=>sty Y K34 s0 Y λw35 K35=>jD<|gy<|jC<|mv Y<|gU Y (ae4 (((K35.mV 0 3).sel s3).sel s4) aj) ?_
  rintro _ w36 ⟨rfl,ZF⟩;refine mv Y<|xt Y Y<|xt Y Y<|sty Y ZF s2 Y λw37 Vs=>jk Y<|jD<|dG ⟨A9,c9,(Dr q),(takeN q),(takeB q),g10,(out++([n]:List eG)),pU,pV,Y,Y,by rw [<- XY]; simpa [auZ] using hdr,by rw [aiv]; simp only [jG,oV,uE]; omega,((((Vs.cU 4 2).sel s0).sel s1).sel s2)⟩ rfl aj
 refine xq ?_;refine bQ Y<|bX Y<|iP Y ?_
 have rV:(out:List eG)=(Gu l all aH bS):=by simpa [auZ] using hdr
 have H5:=(rV▸NZ:Hp w S0 w31 [aQ qg 242 A9 c9 q,dW gq1 335 [.slice A9 q.length c9,.func (.func 327) #[] #[]],dW g14 242 [aI n.aD,aI n.Have,aI n.Live],aQ qg 242 A13 c13 (Gu l all aH bS)]);exact⟨A13,c13,by rw [<- rV] <;> rfl,(H5.cU 0 3)⟩
theorem Tn{a b:eG}:Aa a b=true↔a.Live<b.Live∨(a.Live=b.Live/\(a.Have<b.Have∨(a.Have=b.Have/\a.aD<b.aD))):=by
  unfold Aa P7 bL
  by_cases h1:a.Live<b.Live <;> by_cases h2:b.Live<a.Live <;> by_cases h3:a.Have<b.Have <;> by_cases h4:b.Have<a.Have <;> by_cases h5:a.aD<b.aD <;> by_cases h6:b.aD<a.aD <;> simp [h1,h2,h3,h4,h5,h6] <;> omega
theorem Qr{a b:eG}:Aa a b=false↔¬ (a.Live<b.Live∨(a.Live=b.Live/\(a.Have<b.Have∨(a.Have=b.Have/\a.aD<b.aD)))):=by
  rw [<- Tn]; cases Aa a b <;> simp
def Pj(a b:eG):Prop:=Aa b a=false
theorem Pj.tr{a b c:eG}(h1:Pj a b)(h2:Pj b c):Pj a c:=by unfold Pj at *; rw [Qr] at *; omega
theorem Pj.of{a b:eG}(h:Aa a b=true):Pj a b:=by unfold Pj; rw [Tn] at h; rw [Qr]; omega
theorem Pj.rf(a:eG):Pj a a:=by unfold Pj; rw [Qr]; omega
def afa(l:List eG)(j:Nat):Prop:=∀ x y,l[(j - 1) / 2]? = some x->l[j]? = some y->Pj x y
def Dt(l:List eG):Prop:=∀ j,0<j->afa l j
theorem afb{l:List eG}{p j:Nat}{x y:eG}(hi:i<l.length)(hp:p<l.length)(hne:p≠i):((l.set i y).set p x)[j]? = if j=p then some x else if j=i then some y else l[j]?:=by
  rw [ab3,ab3,gW]
  by_cases h1:p=j
  · subst h1; simp [hp]
  · rw [aP h1,aP (show ¬ j=p from λh=>h1 h.symm)]
    by_cases h2:i=j
    · subst h2; rw [aS rfl,aS rfl,aS hi]
    · rw [aP h2,aP (show ¬ j=i from λh=>h2 h.symm)]
theorem swap_perm{l:List eG}{p:Nat}{x y:eG}(hx:l[i]? = some x)(hy:l[p]? = some y):((l.set i y).set p x).Perm l:=by
  obtain⟨h1,rfl⟩:=sN.1 hx;obtain⟨h2,rfl⟩:=sN.1 hy;exact List.set_set_perm h1 h2
theorem afc:∀(f:Nat)(l:List eG)(i:Nat),(upG f l i).Perm l
  | 0,_,_=>I6 _
  | f+1,l,i=>by
    unfold upG
    split
    · rename_i x y hx hy
      split
      · exact(afc f _ _).trans (swap_perm hx hy)
      · exact I6 _
    · exact I6 _
theorem XZ:∀(f:Nat)(l:List eG)(i:Nat),(zx f l i).Perm l
  | 0,_,_=>I6 _
  | f+1,l,i=>by
    unfold zx
    split
    · exact I6 _
    · split
      · rename_i x y hx hy
        exact(XZ f _ _).trans (swap_perm hx hy)
      · exact I6 _
theorem afd:∀(f:Nat)(l:List eG)(i:Nat),i<f->i<l.length->(∀ j,0<j->j≠i->afa l j)->
    (∀ j,(j - 1) / 2=i->0<i->0<j->∀ z y,l[(i - 1) / 2]? = some z->l[j]? = some y->Pj z y)->Dt (upG f l i)
  | 0,_,_,h,_,_,_=>absurd h (OA _)
  | f+1,l,i,hf,hi,h1,h2=>by
    unfold upG;have hp:(i - 1) / 2<l.length:=aj;obtain⟨x,hx⟩:=bn hi;obtain⟨y,hy⟩:=bn (i:=(i - 1) / 2) hp;rw [hx,hy];show Dt (if(decide (0<i)&&Aa x y)=true then _ else _)
    split
    · rename_i hc
      simp only [bK,bM] at hc
      have hne:(i - 1) / 2≠i:=aj;have hg:=λj=>afb (j:=j) (x:=x) (y:=y) hi hp hne;refine afd f _ _ aj (by rw [gW,gW]; omega) (λj hj hjp u v hu hv=>?_) (λj hj hp0 hj0 u v hu hv=>?_)
      · rw [hg] at hu hv
        rw [aP hjp] at hv
        by_cases e1:j=i
        · subst e1
          rw [aS rfl] at hu hv
          cases hu; cases hv; exact Pj.of hc.2
        · rw [aP e1] at hv
          by_cases e2:(j - 1) / 2=(i - 1) / 2
          · rw [aS e2] at hu
            cases hu
            exact(Pj.of hc.2).tr (h1 j hj e1 _ _ (e2▸hy) hv)
          · rw [aP e2] at hu
            by_cases e3:(j - 1) / 2=i
            · rw [aS e3] at hu; cases hu
              exact h2 j e3 hc.1 hj _ _ hy hv
            · rw [aP e3] at hu
              exact h1 j hj e1 _ _ hu hv
      · rw [hg] at hu hv
        rw [aP aj,aP aj] at hu;have hyu:=h1 _ hp0 hne _ _ hu hy;rw [aP aj] at hv
        by_cases e1:j=i
        · rw [aS e1] at hv; cases hv; exact hyu
        · rw [aP e1] at hv
          exact hyu.tr (h1 j hj0 e1 _ _ (hj▸hy) hv)
    · rename_i hc
      intro j hj
      by_cases e:j=i
      · subst e
        intro u v hu hv;rw [hy] at hu; rw [hx] at hv; cases hu; cases hv;unfold Pj
        cases hq:Aa x y
        · rfl
        · exact absurd (by simp [hq,hj]) hc
      · exact h1 j hj e
theorem X0(l:List eG)(i:Nat){x:eG}(hx:l[i]? = some x):∀ k,∃ y,l[jI l i k]? = some y/\Pj y x/\(jI l i k≠i->Aa y x=true)/\∀ q,q<k->∀ z,l[2*i+1+q]? = some z->Pj y z
  | 0=>⟨x,hx,Pj.rf x,λh=>absurd rfl h,λq h=>absurd h (OA _)⟩
  | k+1=>by
    obtain⟨y,h1,h2,h3,h4⟩:=X0 l i hx k;unfold jI
    split
    · rename_i hc
      have hlt:2*i+1+k<l.length:=by
        rcases F6 (2*i+1+k) l.length with h5 | h5
        · exact h5
        · rw [<- ait aj] at hc; cases hc
      obtain⟨z,hz⟩:=bn hlt;rw [<- ais hz h1] at hc;refine⟨z,hz,(Pj.of hc).tr h2,λ_=>?_,λq hq u hu=>?_⟩
      · unfold Pj at h2; rw [Qr] at h2; rw [Tn] at hc ⊢; omega
      · rcases F6 q k with h5 | h5
        · exact(Pj.of hc).tr (h4 q h5 u hu)
        · obtain rfl:q=k:=aj
          rw [hz] at hu; cases hu; exact Pj.rf _
    · rename_i hc
      refine⟨y,h1,h2,h3,λq hq u hu=>?_⟩
      rcases F6 q k with h5 | h5
      · exact h4 q h5 u hu
      · obtain rfl:q=k:=aj
        rw [<- ais hu h1] at hc;unfold Pj; simpa using hc
theorem aaA(l:List eG)(i:Nat):∀ k,jI l i k=i∨jI l i k<=2*i+k
  | 0=>.inl rfl
  | k+1=>by
    unfold jI; split
    · right; omega
    · have:=aaA l i k; omega
theorem X3:∀(f:Nat)(l:List eG)(i:Nat),l.length - i<f->i<l.length->(∀ j,0<j->(j - 1) / 2≠i->afa l j)->
    (∀ j,(j - 1) / 2=i->0<i->0<j->∀ z y,l[(i - 1) / 2]? = some z->l[j]? = some y->Pj z y)->Dt (zx f l i)
  | 0,_,_,h,_,_,_=>absurd h (OA _)
  | f+1,l,i,hf,hi,h1,h2=>by
    unfold zx;obtain⟨x,hx⟩:=bn hi;obtain⟨y,hy,hyx,hy3,hy4⟩:=X0 l i hx 2;have hlt:=Ec l i 2;have hle:=aaA l i 2
    generalize jI l i 2=m at *
    split
    · rename_i e
      subst e;rw [hx] at hy; cases hy;intro j hj
      by_cases e:(j - 1) / 2=m
      · intro u v hu hv
        rw [e,hx] at hu; cases hu;exact hy4 (j - (2*m+1)) aj v (by rw [show 2*m+1+(j - (2*m+1))=j by omega]; exact hv)
      · exact h1 j hj e
    · rename_i hne
      rw [hx,hy];show Dt (zx f ((l.set i y).set m x) m);have hm:m<l.length:=aM hy;have hpm:(m - 1) / 2=i:=aj;have hg:=λj=>afb (j:=j) (x:=x) (y:=y) hi hm hne;refine X3 f _ _ (by rw [gW,gW]; omega) (by rw [gW,gW]; omega) (λj hj hjp u v hu hv=>?_) (λj hj hp0 hj0 u v hu hv=>?_)
      · rw [hg] at hu hv
        rw [aP hjp] at hu
        by_cases e1:j=m
        · subst e1
          rw [aS rfl] at hv; rw [aS hpm] at hu
          cases hu; cases hv; exact hyx
        · rw [aP e1] at hv
          by_cases e2:j=i
          · subst e2
            rw [aS rfl] at hv; cases hv;rw [aP aj] at hu;exact h2 m hpm hj aj _ _ hu hy
          · rw [aP e2] at hv
            by_cases e3:(j - 1) / 2=i
            · rw [aS e3] at hu; cases hu
              exact hy4 (j - (2*i+1)) aj v (by rw [show 2*i+1+(j - (2*i+1))=j by omega]; exact hv)
            · rw [aP e3] at hu
              exact h1 j hj e3 _ _ hu hv
      · rw [hg] at hu hv
        rw [aP aj,aS hpm] at hu; cases hu;rw [aP aj,aP aj] at hv;exact h1 j hj0 aj _ _ (hj▸hy) hv
theorem Dt.top{l:List eG}(h:Dt l){t:eG}(ht:l[0]? = some t):∀(j:Nat)(y:eG),l[j]? = some y->Pj t y:=λj=>by
  induction j using Nat.strongRecOn with
  | ind j ih=>
    intro y hy
    by_cases e:j=0
    · subst e; rw [ht] at hy; cases hy; exact Pj.rf _
    · have hj:=aM hy
      obtain⟨x,hx⟩:=bn (xs:=l) (i:=(j - 1) / 2) aj;exact(ih _ aj x hx).tr (h j aj x y hx hy)
theorem ap2{l:List eG}(hl:0<l.length)(h:∀ j,0<j->j≠l.length - 1->afa l j):Dt (upL l):=
  afd _ _ _ aj aj h λj hj hp hj0 z y _ hy=>by have:=aM hy; omega
theorem amy{l:List eG}(h:Dt l)(n:eG):Dt (ab7 l n):=by
  refine ap2 av λj hj hne x y hx hy=>?_;have hlt:=aM hy
  simp only [jG,oV,uE] at hlt hne
  rw [WK aj] at hx hy;exact h j hj x y hx hy
theorem amA(l:List eG)(n:eG):(ab7 l n).Perm (n::l):=(afc _ _ _).trans zQ
theorem aiw{l:List eG}(h:∀ j,0<j->(j - 1) / 2≠0->afa l j):Dt (Qq l):=by
  rcases Nat.eq_zero_or_pos l.length with h0 | h0
  · obtain rfl:=qF h0
    intro j _ x y hx hy;have:=aM hy;unfold Qq at this; rw [Ti] at this; simp at this
  · exact X3 _ _ _ aj h0 h λj hj h0=>by omega
theorem aix{l:List eG}(h:Dt l):Dt (Dr l):=by
  unfold Dr
  split
  · rename_i z hz
    refine aiw λj hj hne x y hx hy=>?_;have hlt:=aM hy;rw [Xd (by simp at hlt; omega),Io aj] at hx hy;exact h j hj x y hx hy
  · exact h
theorem X4{l:List eG}(hl:0<l.length):(takeN l::Dr l).Perm l:=by
  obtain⟨t,ht⟩:=bn hl;obtain⟨z,hz⟩:=bn (xs:=l) (i:=l.length - 1) aj;rw [XU ht,ae3 hz];have h1:(Qq ((l.set 0 z).take (l.length - 1))).Perm ((l.set 0 z).take (l.length - 1)):=XZ _ _ _;refine(h1.cons t).trans ?_
  cases l with
  | nil=>simp at hl
  | cons a r=>
    simp only [List.getElem?_cons_zero,Option.some.injEq] at ht; subst ht
    simp only [oV,Nat.add_sub_cancel,List.set_cons_zero] at hz ⊢
    cases hr:r.length with
    | zero=>obtain rfl:=qF hr; exact I6 _
    | succ m=>
      rw [hr] at hz;rw [List.take_succ_cons]
      simp only [List.getElem?_cons_succ] at hz
      have h2:r=r.take m++[z]:=by
        obtain⟨hm,hz'⟩:=sN.1 hz;have h3:r.drop m=[z]:=by rw [BA hm,hz',Gf aj]
        have:=FC m r;rw [h3] at this; exact this.symm
      refine List.Perm.cons _ ?_
      conv=>rhs; rw [h2]
      exact(zQ (l₁:=[z]))
theorem afe:∀(f:Nat)(q:List eG),q.length<=f->Dt q->(drain f q).Perm q/\(drain f q).Pairwise Pj
  | 0,q,h,_=>by obtain rfl:=qF (Nat.le_zero.1 h); exact⟨I6 _,List.Pairwise.nil⟩
  | f+1,q,h,hh=>by
    unfold drain
    split
    · rename_i hc
      have hl:0<q.length:=iY hc;have ih:=afe f (Dr q) (by rw [Tj]; omega) (aix hh);refine⟨(ih.1.cons _).trans (X4 hl),nW.2 ⟨λy hy=>?_,ih.2⟩⟩;obtain⟨t,ht⟩:=bn hl;rw [XU ht];have hm:y∈q:=(X4 hl).mem_iff.1 (lS _ (ih.1.mem_iff.1 hy));obtain⟨j,hj⟩:=sZ hm;exact hh.top ht j y hj
    · rename_i hc
      have hl:¬ 0<q.length:=λh=>hc (sO h);obtain rfl:=qF (show q.length=0 by omega);exact⟨I6 _,List.Pairwise.nil⟩
theorem amB(all:List aR)(aH:List Int)(bS:Int)(M:List aF):(p9 all aH bS M).Perm ((M.filter (N9 all aH bS)).map (Lu all aH))/\Dt (p9 all aH bS M):=by
  have key:∀(M:List aF)(q:List eG),Dt q->(M.foldl (I8 all aH bS) q).Perm (q++(M.filter (N9 all aH bS)).map (Lu all aH))/\Dt (M.foldl (I8 all aH bS) q):=by
    intro M
    induction M with
    | nil=>intro q h; exact⟨av,h⟩
    | cons c M ih=>
      intro q h;rw [Gh,KQ];unfold I8
      split
      · rename_i hc
        have h1:=ih _ (amy h (Lu all aH c));refine⟨h1.1.trans ?_,h1.2⟩;rw [mR];exact((amA _ _).append_right _).trans (Gs).symm
      · rename_i hc
        exact ih q h
  have:=key M [] (λj hj x y hx=>by simp at hx)
  simpa [p9] using this
theorem aaB(l:List aF)(all:List aR)(aH:List Int)(bS:Int):(Gu l all aH bS).Perm ((l.filter (N9 all aH bS)).map (Lu all aH))/\(Gu l all aH bS).Pairwise Pj:=by
  have h1:=amB all aH bS l;have h2:=afe _ _ (kJ _) h1.2;exact⟨h2.1.trans h1.1,h2.2⟩
theorem OC{l:List aF}{n:eG}:n∈Gu l all aH bS↔∃ c∈l,N9 all aH bS c=true/\n=Lu all aH c:=by
  rw [(aaB l all aH bS).1.mem_iff,gB]
  constructor
  · rintro⟨c,h,rfl⟩; exact⟨c,(jV.1 h).1,(jV.1 h).2,rfl⟩
  · rintro⟨c,h1,h2,rfl⟩; exact⟨c,jV.2 ⟨h1,h2⟩,rfl⟩
theorem aiy(l:List aF)(all:List aR)(aH:List Int)(bS:Int):(Gu l all aH bS).length<=l.length:=by
  rw [(aaB l all aH bS).1.length_eq,kF]; exact ni _ _
end
section
variable {iW:List aK}{l:List aF}{S0 S:Nat->Prop}{wT Vt AL:ah}{b w:World}{F:List lG}{Vu:Nat}{ls:List bf}{v0 v2 v5 v6 v9 v11 v13 v14 v16:Value}{dD all:Int}
structure ARules where
  kY:Int
  l7:Int
  All:Int
  jw:Int
  iD:Int
  eZ:Int
  deriving DecidableEq
def ARules.enc(x:ARules):List Value:=[.int .i64 x.kY,.int .i64 x.l7,.int .i64 x.All,.int .i64 x.jw,.int .i64 x.iD,.int .i64 x.eZ]
theorem ARules.mD(x:ARules):∀ u∈x.enc,u.oneCell'=true:=by
  intro u hu
  simp only [ARules.enc,iR,mP,tq] at hu
  rcases hu with rfl | rfl | rfl | rfl | rfl | rfl <;> rfl
def ARules.wf(x:ARules):Prop:=qC x.kY/\qC x.l7/\qC x.All/\qC x.jw/\qC x.iD/\qC x.eZ
def tRules:Ty ARules:=Ty.flat 6 ARules.enc au (λ_=>rfl) ARules.mD
instance:Flat tRules:=⟨λh=>h⟩
structure gG where
  cZ:List eY
  bI:List bf
  bA:List aK
  deriving DecidableEq
def qm(n most:Int):Bool:=decide (1<=n)&&decide (n<=most)
def l5(r:ARules):Bool:=((((qm r.kY 1048576&&qm r.iD 1048576)&&qm r.l7 64)&&qm r.All 64)&&qm r.jw 8)&&qm r.eZ 16
def mU(iW:List aK)(aN:Int):List Int:=(iW.filter fun(o:aK)=>decide (o.aD=aN)).map aK.To
def aaC(aJ:Int)(o:aK):Bool:=decide (o.ji<aJ)
def fq(s:gG)(aJ:Int):gG:=⟨s.cZ,s.bI.filter (inB aJ),s.bA.filter fun(x9:aK)=>!(aaC aJ x9)⟩
def oF(iW:List aK)(c:aF):aF:={ c with aC:=c.aC.filter fun(x9:Int)=>!((mU iW c.ID).contains x9) }
abbrev vo(iW:List aK)(l:List aF)(k:Nat):List aF:=(l.take k).map (oF iW)++l.drop k
def zy(l:List aF)(iW:List aK):List aF:=l.map (oF iW)
theorem aaD(iW:List aK)(l:List aF)(k:Nat):(vo iW l k).length=l.length:=by simp [vo]; omega
theorem aaE{k:Nat}{x:aF}(hx:(vo iW l k)[k]? = some x):l[k]? = some x:=by
  have hk:=aM hx;rw [aaD] at hk;rw [Z0 (by simp; omega)] at hx;rw [F5] at hx
  simp only [kF,iF] at hx
  rwa [show k+(k - min k l.length)=k by omega] at hx
abbrev FM(iE:List aK)(je:aF)(wP:Int):=(mU iE je.ID).contains wP
theorem amC{k:Nat}{x:aF}(hx0:(vo iW l k)[k]? = some x):(vo iW l k).set k { x with aC:=x.aC.filter fun(x9:Int)=>!(FM iW x x9) }=vo iW l (k+1):=by
  have hx:=aaE hx0;have hk:=aM hx;have hd:l.drop k=x::l.drop (k+1):=by rw [BA hk,(sN.1 hx).2]
  have hl:((l.take k).map (oF iW)).length=k:=by simp; omega
  show((l.take k).map (oF iW)++l.drop k).set k (oF iW x)=_;unfold vo;rw [fC hx,tu,hd,List.set_append_right _ _ aj,hl,Nat.sub_self]
  simp
theorem amD(iW:List aK)(aN:Int):(mU iW aN).length<=iW.length:=by unfold mU; rw [kF]; exact ni _ _
theorem ap3  : ∀ w,(Instr.buildSlice 49 0 (List.toArray [])).run prog w=.ok (.slice (some ⟨w.heap.size,0,none⟩) 0 0) (w.alloc (.cells (List.toArray []) 112)):=ay
abbrev ab9:Value:=.agg #[aI 0,aI 0,aI 0,gP 0,aI 0,aI 0,aI 0]
theorem EH:lY prog 112 7 56:=by
  obtain⟨i,h1,h2,h3,h4⟩:=uJ (show(prog.info? 112).map (λi=>(i.zero,i.size,i.bytes))=some (some ab9,7,56) by kernel_rfl);exact⟨i,_,h1,h2,h3,h4,Y⟩
theorem ap4:wz prog 112 7 56:=by
  obtain⟨i,h1,h2,h3,h4⟩:=uJ (show(prog.info? 112).map (λi=>(i.zero,i.size,i.bytes))=some (some ab9,7,56) by kernel_rfl);exact⟨i,_,h1,h2,h3,h4,Y,λv hv=>ng.1 (show(Value.cells ab9).toList.all (λv=>v.oneCell')=true from Y) v hv⟩
theorem acd:dL prog 23 0 0:=ay
theorem aff:bJ prog 94:=ay
theorem Qs:dL prog 23 4 4:=ay
theorem ace:dL prog 23 1 1:=ay
theorem aj2:dL prog 23 2 2:=ay
theorem FN:dL prog 23 3 3:=ay
theorem acf:dL prog 23 5 5:=ay
theorem Ab:dL prog 112 5 5:=ay
theorem X5:dL prog 112 6 6:=ay
theorem DL:∀ w,(zeroValue 51).run prog w=.ok (.agg #[.slice none 0 0,.slice none 0 0,.slice none 0 0]) w:=ay
theorem FP:dL prog 51 0 0:=ay
theorem yG:dL prog 51 1 1:=ay
theorem ap5:mg prog 48:=ay
theorem axf:Size prog 48 1:=ay
theorem DN:dL prog 51 2 2:=ay
theorem axg:mg prog 49:=ay
theorem aCW:bJ prog 65:=ay
theorem axh:Size prog 51 3:=ay
theorem JX:Z9 prog 51 3:=⟨λ_=>by kernel_rfl,axh⟩
theorem BS(w:World){vF:Nat}{s:List aK}(nA:Sl bg S0 w wT vF s)(hn:s.length<=1000000) :
    bO prog 64 #[.slice wT s.length vF] w λv w'=>∃(A0:ah)(c0:Nat),v=.slice A0 s.length c0/\Hp w S0 w' [aQ bg 112 A0 c0 s]:=by
 refine lg S0 func64 ntmps64 Y λH0=>iT Y<|aY<|bQ Y<|ev (NW lH Y Y)<|dn<|bP Y (λhc4=>?_) (λhc4=>?_)
 ·refine iT Y<|wO Y ?_
  have H1:=H0.nil bg 112;have fT:(([]:List aK):List aK)=s:=by have h1:=nA.nil (by simpa using hc4); have h2:=nA.cap; exact(qF aj).symm
  have H2:=(fT▸H1:Hp w S0 w (aQ bg 112 none 0 s::[]));exact⟨none,0,by rw [<- fT] <;> rfl,H2⟩
 refine jy ?_;refine rg<|bs0 Y (by intro _; apply ap3) rfl H0 λg1 w1 K1=>mv rfl<|ap K1 s0 rfl rfl (K1.a nA).any lH EH av (by first | omega | (simp; omega) | (simp; done)) rfl λpU pV w2 K2=>bX rfl<|iP rfl ?_
 have gu:((([]:List aK)++s):List aK)=s:=by simp
 rw [gu] at K2;exact⟨pU,pV,by rw [gu] <;> rfl,K2⟩
abbrev aj3(iE:aK):=([.agg #[aI iE.Kind,aI iE.aD,aI iE.aB,gP iE.Sum,aI iE.jM,aI iE.To,aI iE.ji]]:List Value)
theorem FQ(w:World){vF:Nat}{s:List aK}(nA:Sl bg S0 w wT vF s){BF:FuncId}{Fz:List Value}(NH:bJ prog BF)(f:aK->Bool)(NI:∀(w':World)(x:aK),Ext w w'->x∈s->bO prog BF ((aj3 x)++Fz).toArray w' λv w''=>v=.bool (f x)/\Ext w' w'') :
    bO prog 121 #[.slice wT s.length vF,.func (.func BF) #[] Fz.toArray] w λv w'=>v=aI (idxOf f s)/\Hp w S0 w' []:=by
 refine lg S0 func121 ntmps121 Y λH0=>?_;have Sv:=nA.bC;refine iT Y<|aY<|bQ Y<|ev (eX lH Y)<|mv Y<|dn<|cB<|Lp H0 (λl0 rk mJ lJ wJ=>∃(k:Nat),lJ=(8,aI ((k:Nat):Int))::l0/\mJ=s.length - k/\k<=s.length/\(∀ y∈s.take k,f y=false)/\Hp w S0 wJ rk) ⟨0,Y,Y,fE _,av,H0⟩ rfl ?_
 rintro _ _ w1 ⟨k,rfl,rfl,hk,hno,K1⟩;refine rg<|ev (fD Y Y)<|dn<|pG Y (λFg=>?_) (λFg=>?_)
 ·refine jy ?_;refine aY<|cB<|bQ Y<|bX Y<|bQ Y<|mv Y<|mv Y ?_
  obtain⟨x1,bN⟩:=bn (xs:=s) (i:=k) aj;refine ev (eP (i:=k) lH y8 Y Y Y (aM bN) ((K1.a nA).some_ bN))<|ev (iU wF Y Y ((K1.a nA).fF bN))<|zq Y Y Y NH (NI _ x1 K1.ext (bZ bN)) Y ?_
  rintro _ w2 ⟨rfl,e2⟩;have K2:=K1.grow e2;refine dn<|bP Y (λhc16=>?_) (λhc16=>?_)
  ·refine bQ Y<|bX Y<|jf (iX (fO (fO (iX (fO (xV Y ?_))))))
   exact⟨by rw [<- rF hno bN hc16] <;> rfl,K2⟩
  refine Ci ?_;refine jC<|ev (dP Y Y)<|mv Y<|jD<|dG ⟨(k+1),Y,Y,aj,by exact nY hno bN hc16,K2⟩ rfl aj
 refine xq ?_;refine iT Y<|iP Y ?_
 exact⟨by rw [uG (wo hno aj)] <;> rfl,K1⟩
theorem OD{A:ah}{c:Nat}{xs:List aK}(H0:Hp b S w (aQ bg 112 A c xs::F)){fd:FuncId}{kd:List Value}(qd:bJ prog fd)(p:aK->Bool)
    (hd:∀(w':World)(ys:List aK)(x:aK),ys.length=xs.length->Hp b S w' (aQ bg 112 A c ys::F)->bO prog fd ((aj3 x)++kd).toArray w' λv w''=>v=.bool (p x)/\Ext w' w'') (hn:xs.length<=1000000) :
    bO prog 63 #[.slice A xs.length c,.func (.func fd) #[] kd.toArray] w λv w'=>v=.slice A (xs.filter λx=>!p x).length c/\Hp b S w' (aQ bg 112 A c (xs.filter λx=>!p x)::F):=by
 refine rU func63 ntmps63 Y ?_;have Xg:=(H0.o s0).bC;have hcap0:=(H0.o s0).cap;have hlt:=Em (p:=p) xs;have hge:=GD (p:=p) xs;refine iT Y<|bQ Y<|mv Y<|gU Y (FQ (S0:=Any) (Fz:=kd) w ((H0.o s0)) qd p (λw' x ex _=>hd w' xs x Y (H0.grow ex))) ?_
 rintro _ w1 ⟨rfl,e1⟩;have K1:=H0.grow e1.ext;refine bX Y<|aY<|bQ Y<|ev (iM Y Y)<|dn<|mZ Y (λnN=>?_) (λnN=>?_)
 ·refine bQ Y<|bX Y<|wO Y ?_
  have hall:=PX (p:=p) (xs:=xs) aj;exact⟨by rw [hall]; rfl,by rw [hall]; exact K1⟩
 refine jy ?_;refine aY ?_;obtain⟨k0,hk0,hkl⟩:∃ k0:Nat,idxOf p xs=(k0:Int)/\k0<xs.length:=⟨(idxOf p xs).toNat,aj,aj⟩;have ah0:=PY hk0;refine lF (t:=5) Y (aV (Value.int .i64) hk0)<|bQ Y<|ev (dP Y Y)<|bX Y<|cB<|Lp (K1.rm s0) (λl0 rk mJ lJ wJ=>∃(i j:Nat)(ys:List aK),lJ=(0,.slice A ys.length c)::(5,aI ((i:Nat):Int))::(6,aI ((j:Nat):Int))::l0/\mJ=xs.length - j/\(ys.length=xs.length)/\(i<j/\j<=xs.length)/\(ys.take i=(xs.take j).filter λx=>!p x)/\(ys.drop j=xs.drop j)/\Hp b S wJ (aQ bg 112 A c ys::rk)) ⟨k0,(k0+1),xs,Y,Y,by rfl,aj,by exact ah0.1,by rfl,K1⟩ rfl ?_
 rintro _ _ w2 ⟨i,j,ys,rfl,rfl,hys,hij,htk,hdr,K2⟩;refine aY<|bQ Y<|mv Y<|ev (eX lH Y)<|ev (fD Y Y)<|dn<|mZ Y (λhc19=>?_) (λhc19=>?_)
 ·refine jy ?_;refine aY<|cB<|bQ Y<|mv Y ?_
  obtain⟨x1,bN⟩:=bn (xs:=ys) (i:=j) aj;refine ev (eP (i:=j) lH y8 Y Y Y (aM bN) ((K2.o s0).some_ bN))<|ev (iU wF Y Y ((K2.o s0).fF bN))<|al CK Y K2 λg1 w3 K3=>sty Y K3 s0 Y λw4 K4=>dn<|bQ Y<|ev (fK wF Y Y (K4.x s0))<|zq Y Y Y qd (hd _ _ x1 (by first | exact hys | omega) (K4.rm s0)) rfl ?_
  rintro _ w5 ⟨rfl,e5⟩;have K5:=K4.grow e5;refine ev (iG Y)<|dn<|bP Y (λhc29=>?_) (λhc29=>?_)
  ·try simp only [eT,dO,bK,eu,dZ,fI,bM,bV] at hc29
   refine bQ Y<|mv Y<|ev (fK wF Y Y (K5.x s0)) ?_
   obtain⟨x2,lN⟩:=bn (xs:=ys) (i:=i) aj;refine ev (eP (i:=i) lH y8 Y Y Y (aM lN) ((K5.o s1).some_ lN))<|se (i:=i) (f:=0) (x:=x2) (x':=x1) (ds:=[aI x1.Kind,aI x1.aD,aI x1.aB,gP x1.Sum,aI x1.jM,aI x1.To,aI x1.ji]) K5 s1 Y Y Y lN Y y8 (nX Y) Y (by rintro _ _ _ ⟨⟩; rfl) λw6 K6=>?_
   have hl1:(ys.set i x1).length=ys.length:=gW ..;refine gJ (t:=0) (u:=.slice A ys.length c) (v:=.slice A ((ys.set i x1).length) c) Y (by rw [hl1])<|gJ (t:=17) (u:=.slice A ys.length c) (v:=.slice A ((ys.set i x1).length) c) rfl (by rw [hl1])<|gJ (t:=22) (u:=.slice A ys.length c) (v:=.slice A ((ys.set i x1).length) c) rfl (by rw [hl1])<|gJ (t:=30) (u:=.slice A ys.length c) (v:=.slice A ((ys.set i x1).length) c) rfl (by rw [hl1]) ?_
   have hx3:(ys.set i x1)[i]? = some x1:=rT (aM lN);refine dn<|jC<|mv Y<|ev (dP Y Y)<|jk Y<|jD<|iw (gy ?_)
   refine jC<|mv Y<|ev (dP Y Y)<|jk Y<|jD<|dG ⟨(i+1),(j+1),(ys.set i x1),Y,Y,by first | exact hys | (rw [gW]; exact hys),aj,by first | exact(sH hij.1 htk hdr bN (by simp [hc29])).1 | exact(sI htk hdr bN (by simp [hc29])).1,by first | exact(sH hij.1 htk hdr bN (by simp [hc29])).2 | exact(sI htk hdr bN (by simp [hc29])).2,(K6.rm s1)⟩ rfl aj
  try simp only [eT,dO,bK,eu,dZ,fI,bM,bV] at hc29
  refine Ci ?_;refine jC<|mv Y<|ev (dP Y Y)<|jk Y<|jD<|dG ⟨i,(j+1),ys,Y,Y,by first | exact hys | (rw [gW]; exact hys),aj,by first | exact(sH hij.1 htk hdr bN (by simp [hc29])).1 | exact(sI htk hdr bN (by simp [hc29])).1,by first | exact(sH hij.1 htk hdr bN (by simp [hc29])).2 | exact(sI htk hdr bN (by simp [hc29])).2,(K5.rm s0)⟩ rfl aj
 refine xq ?_;have hcap:ys.length<=c:=aj;have hil:(ys.take i).length=i:=by simp only [iF]; omega
 have hfin:ys.take i=xs.filter λx=>!p x:=by rw [htk,gV aj]
 refine lF (t:=5) (u:=aI ((i:Nat):Int)) (v:=aI (((ys.take i).length:Nat):Int)) Y (by rw [hil]) ?_;have H1:=K2.WS (hi:=i) s0 aj;refine bQ Y<|mv Y<|ev (Eo (lo:=(ys.take i).length) lH y8 Y Y Y (by first | omega | (simp only [iF]; omega)) hcap)<|aeu (τ:=bg) (m:=ys.length - (ys.take i).length) H1 s0 rfl lH ap4 (by simp only [iF]; omega) λw7 K7=>dn<|bQ rfl<|mv rfl<|ev (R9 (hi:=(ys.take i).length) lH y8 rfl rfl rfl (by simp only [iF]; omega))<|bX rfl<|iP rfl ?_
 exact⟨by rw [<- hfin]; rfl,by rw [<- hfin]; exact K7⟩
theorem GZ(w:World)(n:Int)(most:Int) :
    bO prog 94 #[aI n,aI most] w λv w'=>v=.bool (qm n most)/\Hp w S0 w' []:=by
 refine lg S0 func94 ntmps94 Y λH0=>iT Y<|bQ Y<|ev (qD Y Y)<|mv Y<|iO 4 11 ((decide (1<=n))&&(decide (n<=most))) ?_ ?_
 ·cases hb7:decide (1<=n) with
  | true=>
   refine bE Y (bq Y) Y<|bE Y (bq Y) Y<|bE Y (u7 Y Y) Y<|ev (dM Y Y)<|dJ Y
  | false=>
   refine dN<|dN<|dN<|ev (dS Y Y)<|dJ Y
 refine bX Y<|iP Y ?_
 exact⟨by skip <;> rfl,H0⟩
theorem acg(w:World)(r:ARules) :
    bO prog 38 #[.agg #[aI r.kY,aI r.l7,aI r.All,aI r.jw,aI r.iD,aI r.eZ]] w λv w'=>v=.bool (l5 r)/\Hp w S0 w' []:=by
 refine lg S0 func38 ntmps38 Y λH0=>rg<|bx Y Y H0 λg1 w1 K1=>bX Y<|rg<|j6 g1 0 acd K1 s0 Y<|nD K1 Y (GZ (S0:=Any) _ r.kY 1048576) λw2 K2=>mv Y<|pF 4 10 ((qm r.kY 1048576)&&(qm r.iD 1048576)) ?_ ?_
 ·cases hb6:qm r.kY 1048576 with
  | true=>
   refine wB g1 4 Qs K2 s0 Y<|oD Y Y Y Y aff (GZ (S0:=Any) _ r.iD 1048576) Y ?_
   rintro _ w3 ⟨rfl,h3⟩;refine ev (dM Y Y)<|jo Y h3.ext
  | false=>
   refine dN<|dN<|dN<|ev (dS Y Y)<|jo Y (pW _)
 intro w4 e4;have K4:=K2.grow e4;refine mv Y<|pF 4 15 (((qm r.kY 1048576)&&(qm r.iD 1048576))&&(qm r.l7 64)) ?_ ?_
 ·cases SH:((qm r.kY 1048576)&&(qm r.iD 1048576)) with
  | true=>
   have KY:=SH
   try simp only [bK,eu,bM,bV] at KY
   refine wB g1 1 ace K4 s0 Y<|oD Y Y Y Y aff (GZ (S0:=Any) _ r.l7 64) Y ?_
   rintro _ w5 ⟨rfl,h5⟩;refine ev (dM Y Y)<|jo Y h5.ext
  | false=>
   refine dN<|dN<|dN<|ev (dS Y Y)<|jo Y (pW _)
 intro w6 e6;have K6:=K4.grow e6;refine mv Y<|pF 4 20 ((((qm r.kY 1048576)&&(qm r.iD 1048576))&&(qm r.l7 64))&&(qm r.All 64)) ?_ ?_
 ·cases Vd:(((qm r.kY 1048576)&&(qm r.iD 1048576))&&(qm r.l7 64)) with
  | true=>
   have PW:=Vd
   try simp only [bK,eu,bM,bV] at PW
   refine wB g1 2 aj2 K6 s0 Y<|oD Y Y Y Y aff (GZ (S0:=Any) _ r.All 64) Y ?_
   rintro _ w7 ⟨rfl,h7⟩;refine ev (dM Y Y)<|jo Y h7.ext
  | false=>
   refine dN<|dN<|dN<|ev (dS Y Y)<|jo Y (pW _)
 intro w8 e8;have K8:=K6.grow e8;refine mv Y<|pF 4 25 (((((qm r.kY 1048576)&&(qm r.iD 1048576))&&(qm r.l7 64))&&(qm r.All 64))&&(qm r.jw 8)) ?_ ?_
 ·cases U9:((((qm r.kY 1048576)&&(qm r.iD 1048576))&&(qm r.l7 64))&&(qm r.All 64)) with
  | true=>
   have aCX:=U9
   try simp only [bK,eu,bM,bV] at aCX
   refine wB g1 3 FN K8 s0 Y<|oD Y Y Y Y aff (GZ (S0:=Any) _ r.jw 8) Y ?_
   rintro _ w9 ⟨rfl,h9⟩;refine ev (dM Y Y)<|jo Y h9.ext
  | false=>
   refine dN<|dN<|dN<|ev (dS Y Y)<|jo Y (pW _)
 intro Om e10;have K10:=K8.grow e10;refine mv Y<|pF 4 30 ((((((qm r.kY 1048576)&&(qm r.iD 1048576))&&(qm r.l7 64))&&(qm r.All 64))&&(qm r.jw 8))&&(qm r.eZ 16)) ?_ ?_
 ·cases aIu:(((((qm r.kY 1048576)&&(qm r.iD 1048576))&&(qm r.l7 64))&&(qm r.All 64))&&(qm r.jw 8)) with
  | true=>
   have aCY:=aIu
   try simp only [bK,eu,bM,bV] at aCY
   refine wB g1 5 acf K10 s0 Y<|oD Y Y Y Y aff (GZ (S0:=Any) _ r.eZ 16) Y ?_
   rintro _ Va ⟨rfl,h11⟩;refine ev (dM Y Y)<|jo Y h11.ext
  | false=>
   refine dN<|dN<|dN<|ev (dS Y Y)<|jo Y (pW _)
 intro Vb e12;have vH:=K10.grow e12;refine bX Y<|iP Y ?_
 have fT:(((((((qm r.kY 1048576)&&(qm r.iD 1048576))&&(qm r.l7 64))&&(qm r.All 64))&&(qm r.jw 8))&&(qm r.eZ 16)):Bool)=(l5 r):=by rfl
 exact⟨by rw [fT] <;> rfl,(vH.rm s0)⟩
theorem afg(w:World)(Qt:Sl bg S0 w Vt Vu iW)(aN:Int)(hn:iW.length<=100000) :
    bO prog 234 #[.slice Vt iW.length Vu,aI aN] w λv w'=>∃(A0:ah)(c0:Nat),v=.slice A0 ((mU iW aN).length) c0/\Hp w S0 w' [aQ dQ 3 A0 c0 (mU iW aN)]:=by
 refine lg S0 func234 ntmps234 Y λH0=>?_;have hq:=λk=>ni (fun(o:aK)=>decide (o.aD=aN)) (iW.take k)
 simp only [iF] at hq
 refine iT Y<|iT Y<|aY<|bQ Y<|ev (eX lH Y)<|mv Y<|dn<|cB ?_
 have H1:=H0.nil dQ 3;have fT:(([]:List Int):List Int)=(((iW.take 0).filter (fun(o:aK)=>decide (o.aD=aN))).map aK.To):=by rfl
 refine lF (t:=5) Y (aV (λz=>Value.slice none (List.length z) 0) fT) ?_;have H2:=H1.nil dQ 3;have H3:=(fT▸H2:Hp w S0 w (aQ dQ 3 none 0 (((iW.take 0).filter (fun(o:aK)=>decide (o.aD=aN))).map aK.To)::[aQ dQ 3 none 0 []]));refine Lp (H3.cU 0 2) (λl0 rk mJ lJ wJ=>∃(k:Nat)(A5:ah)(c5:Nat),lJ=(5,.slice A5 ((((iW.take k).filter (fun(o:aK)=>decide (o.aD=aN))).map aK.To).length) c5)::(10,aI ((k:Nat):Int))::l0/\mJ=iW.length - k/\k<=iW.length/\Hp w S0 wJ (aQ dQ 3 A5 c5 (((iW.take k).filter (fun(o:aK)=>decide (o.aD=aN))).map aK.To)::rk)) ⟨0,none,0,Y,Y,fE _,(H3.rm s1)⟩ Y ?_;rintro _ _ w1 ⟨k,A5,c5,rfl,rfl,hk,K1⟩;refine rg<|ev (fD Y Y)<|dn<|pG Y (λy7=>?_) (λy7=>?_)
 ·refine jy ?_;refine aY<|cB<|rg ?_
  obtain⟨x1,bN⟩:=bn (xs:=iW) (i:=k) aj;refine ev (eP (i:=k) lH y8 Y Y Y (aM bN) ((K1.a Qt).some_ bN))<|ev (iU wF Y Y ((K1.a Qt).fF bN))<|al CK Y K1 λg1 w2 K2=>sty Y K2 s0 Y λw3 K3=>dn<|rg<|j6 g1 1 tL K3 s0 Y<|mv Y<|ev (iM Y Y)<|dn<|mZ Y (λhc17=>?_) (λhc17=>?_)
  ·refine jC<|mv Y<|j6 g1 5 Ab K3 s0 Y<|Bh Y (by intro _; apply pR) rfl K3 (λ_ _=>rfl) λg2 w4 K4=>ap (ys:=([x1.To]:List Int)) K4 s2 rfl rfl (K4.o s0) fA KU (by have:=hq k; simp only [kF]; omega) av rfl λpU pV w5 K5=>jk rfl<|jD<|iw (gy ?_)
   refine jC<|ev (dP Y Y)<|mv Y<|jD ?_
   have gu:(((((iW.take k).filter (fun(o:aK)=>decide (o.aD=aN))).map aK.To)++([x1.To]:List Int)):List Int)=(((iW.take (k+1)).filter (fun(o:aK)=>decide (o.aD=aN))).map aK.To):=by rw [nM bN]; simp [hc17]
   refine jq (t:=5) Y (aV (λz=>Value.slice pU (List.length z) pV) gu) ?_;rw [gu] at K5;exact dG ⟨(k+1),pU,pV,Y,Y,aj,(K5.cU 1 2)⟩ rfl aj
  refine Ci ?_;refine jC<|ev (dP Y Y)<|mv Y<|jD ?_
  have kC:((((iW.take k).filter (fun(o:aK)=>decide (o.aD=aN))).map aK.To):List Int)=(((iW.take (k+1)).filter (fun(o:aK)=>decide (o.aD=aN))).map aK.To):=by rw [nM bN]; simp [hc17]
  refine jq (t:=5) Y (aV (λz=>Value.slice A5 (List.length z) c5) kC) ?_;rw [kC] at K3;exact dG ⟨(k+1),A5,c5,Y,Y,aj,(K3.rm s0)⟩ rfl aj
 refine xq ?_;refine bQ Y<|bX Y<|iP Y ?_
 have nC:((((iW.take k).filter (fun(o:aK)=>decide (o.aD=aN))).map aK.To):List Int)=(mU iW aN):=by rw [gV aj]; rfl
 rw [nC] at K1;exact⟨A5,c5,by rw [nC] <;> rfl,K1⟩
theorem amE(w:World)(o:aK){axi:Nat}(aJ:Int)(aCZ:Bx w axi 3 [aI aJ]) :
    bO prog 65 #[.agg #[aI o.Kind,aI o.aD,aI o.aB,gP o.Sum,aI o.jM,aI o.To,aI o.ji],gI axi] w λv w'=>v=.bool (aaC aJ o)/\Hp w S0 w' []:=by
 refine lg S0 func65 ntmps65 Y λH0=>rg<|bx Y Y H0 λg1 w1 K1=>bX Y<|rg<|j6 g1 6 X5 K1 s0 Y<|ev (eF jN Y (aCZ.ext K1.ext) Y)<|ev (fD Y Y)<|bX Y<|iP Y ?_
 exact⟨by skip <;> rfl,(K1.rm s0)⟩
theorem afh(w:World)(s:gG){ach:ah}{aci:Nat}(au0:Sl iK S0 w ach aci s.cZ){acj:ah}{acn:Nat}(au1:Sl dz S0 w acj acn s.bI){aco:ah}{acp:Nat}(au2:Sl bg S0 w aco acp s.bA)(aJ:Int)(hb:s.cZ.length<=100000)(hl:s.bI.length<=1000)(hd:s.bA.length<=100000) :
    bO prog 17 #[.agg #[.slice ach s.cZ.length aci,.slice acj s.bI.length acn,.slice aco s.bA.length acp],aI aJ] w λv w'=>∃(vT:ah)(vU:Nat)(zH:ah)(zI:Nat)(zJ:ah)(zK:Nat),v=.agg #[.slice vT (((fq s aJ).cZ).length) vU,.slice zH (((fq s aJ).bI).length) zI,.slice zJ (((fq s aJ).bA).length) zK]/\Hp w S0 w' [aQ iK 107 vT vU ((fq s aJ).cZ),aQ dz 117 zH zI ((fq s aJ).bI),aQ bg 112 zJ zK ((fq s aJ).bA)]:=by
 refine lg S0 func17 ntmps17 Y λH0=>rg<|bx Y Y H0 λg1 w1 K1=>bx Y Y K1 λg2 w2 K2=>al DL Y K2 λg3 w3 K3=>dn<|rg<|j6 g1 0 FP K3 s2 Y<|gU Y (DK _ (K3.a au0).any aj) ?_
 rintro _ w4 ⟨uP,uQ,rfl,h4⟩;have K4:=K3.f1 h4;refine yV g1 0 FP Y<|yD Y K4 s3 Y λw5 K5=>dn<|rg<|j6 g1 1 yG K5 s0 Y<|nL K5 s3 Y<|gU Y (aeW _ (K5.a au1).any aJ aj) ?_
 rintro _ w6 ⟨Fq,Fv,aNl,aNm,rfl,h6⟩;have K6:=K5.f2 h6;refine mv Y<|xt Y Y<|xt Y Y<|yV g1 1 yG Y<|yD Y K6 s2 Y λw7 K7=>dn<|rg<|j6 g1 2 DN K7 s0 Y<|gU Y (BS _ (K7.a au2).any aj) ?_
 rintro _ w8 ⟨IQ,IU,rfl,h8⟩;have K8:=K7.f1 h8;refine ev (rE Y)<|gU Y (OD (K8.sel s0) aCW (λx9=>aaC aJ x9) (λw9 ys x9 hl9 K9=>(amE (S0:=Any) w9 x9 aJ (K9.x s6)).mono (by rintro _ w8 ⟨rfl,K8⟩; exact⟨rfl,K8.ext⟩)) aj) ?_
 rintro _ w9 ⟨rfl,K9⟩;refine yV g1 2 DN Y<|yD Y K9 s1 Y λOm K10=>dn<|rg<|ev (fK JX Y Y (K10.x s0))<|sty Y K10 s5 Y λVa vM=>dn<|jf (sW Y ⟨_,_,Y,⟨_,Y,kK JX Y (vM.x s0)⟩,Y⟩ ?_)
 have fT:((⟨s.cZ,s.bI.filter (inB aJ),(s.bA.filter λx9=>!(aaC aJ x9))⟩:gG):gG)=(fq s aJ):=by rfl
 have gu:(s.cZ:List eY)=((fq s aJ).cZ):=by rw [<- fT]
 have kC:(s.bI.filter (inB aJ):List bf)=((fq s aJ).bI):=by rw [<- fT]
 have nC:((s.bA.filter λx9=>!(aaC aJ x9)):List aK)=((fq s aJ).bA):=by rw [<- fT]
 exact⟨uP,uQ,Fq,Fv,IQ,IU,by rw [gu,kC,nC] <;> rfl,by rw [<- gu,<- kC,<- nC]; exact((((((vM.rm s6).rm s4).cU 0 2).sel s0).sel s1).sel s2)⟩
theorem azm:bJ prog 235:=ay
theorem amF(w:World)(id:Int){ap6:Nat}{ap7:ah}{ap8:Nat}{went:List Int}(azn:Bx w ap6 55 [.slice ap7 went.length ap8])(azo:Sl dQ S0 w ap7 ap8 went) :
    bO prog 235 #[aI id,gI ap6] w λv w'=>v=.bool (went.contains id)/\Hp w S0 w' []:=by
 refine lg S0 func235 ntmps235 Y λH0=>iT Y<|rg<|ev (eF Dp Y (azn.ext H0.ext) Y)<|mv Y<|nD H0 Y (kL _ (H0.a azo).any id) λw1 K1=>bX Y<|iP Y ?_
 exact⟨Y,K1⟩
theorem ap9(w:World){jU:ah}{jR:Nat}(jE:Sl bD S0 w jU jR l)(Qt:Sl bg Any w Vt Vu iW)(hn:l.length<=100000)(hd:iW.length<=100000)(hh:∀ x∈l,x.aC.length<=100000) :
    bO prog 153 #[.slice jU l.length jR,.slice Vt iW.length Vu] w λv w'=>∃(A0:ah)(c0:Nat),v=.slice A0 ((zy l iW).length) c0/\Hp w S0 w' [aQ bD 59 A0 c0 (zy l iW)]:=by
 refine lg S0 func153 ntmps153 Y λH0=>?_;have GJ:=jE.bC;have aC0:=Qt.bC;refine iT Y<|bQ Y<|gU Y (vG _ (H0.a jE) aj) ?_
 rintro _ w1 ⟨jZ,j3,rfl,h1⟩;have K1:=H0.c1 h1;refine bX Y<|aY<|bQ Y<|ev (eX iV Y)<|mv Y<|dn<|cB ?_
 have fT:(l:List aF)=(vo iW l 0):=by simp [vo]
 refine lF (t:=5) Y (aV (λz=>Value.slice jZ (List.length z) j3) fT)<|lF (t:=11) Y (aV (λz=>Value.slice jZ (List.length z) j3) fT) ?_
 rw [fT] at K1;refine Lp (K1.rm s0) (λl0 rk mJ lJ wJ=>∃(k:Nat)(A5:ah)(c5:Nat),lJ=(5,.slice A5 ((vo iW l k).length) c5)::(11,.slice A5 ((vo iW l k).length) c5)::(13,aI ((k:Nat):Int))::l0/\mJ=l.length - k/\k<=l.length/\Hp w S0 wJ (aQ bD 59 A5 c5 (vo iW l k)::rk)) ⟨0,jZ,j3,Y,Y,fE _,K1⟩ Y ?_;rintro _ _ w2 ⟨k,A5,c5,rfl,rfl,hk,K2⟩;have hml:=aaD iW l k;refine rg<|ev (fD Y Y)<|dn<|pG Y (λrz=>?_) (λrz=>?_)
 ·refine jy ?_;refine aY<|cB<|bQ Y ?_
  obtain⟨x1,bN⟩:=bn (xs:=(vo iW l k)) (i:=k) aj;refine ev (eP iV qy Y Y Y (aM bN) ((K2.o s0).some_ bN)) ?_;obtain⟨B1,d1,zF,hi1⟩:=zW (K2.oi s0 bN);have H1:=K2.push hi1;refine ev (iU pQ Y Y (FE zF))<|al lX Y H1 λg1 w3 K3=>jk Y<|sty Y K3 s0 Y λw4 K4=>dn<|bQ Y<|j6 g1 0 qN K4 s0 Y<|gU Y (afg _ (Qt.ext K4.ext) x1.ID aj) ?_
  rintro _ w5 ⟨CG,CJ,rfl,h5⟩;have K5:=K4.f1 h5;have aCN:=(K5.o s0).bC;refine al ab0 Y K5 λg2 w6 K6=>yD Y K6 s0 Y λw7 K7=>dn ?_;have hhx:=hh _ (bZ (aaE bN));refine jC<|mv Y<|mv Y<|j6 g1 3 kH K7 s2 Y<|gU Y (uq _ (K7.s s3).any aj) ?_
  rintro _ w8 ⟨IQ,IU,rfl,h8⟩;have K8:=K7.f1 h8;refine ev (rE Y)<|gU Y (oQ (K8.sel s0) azm (λx9=>(mU iW x1.ID).contains x9) (λw9 ys x9 hl9 K9=>(amF w9 x9 (K9.x s1) (K9.o s2)).mono (by rintro _ w8 ⟨rfl,K8⟩; exact⟨rfl,K8.ext⟩)) aj) ?_
  rintro _ w9 ⟨rfl,K9⟩;refine ev (eP iV qy Y Y Y (aM bN) ((K9.o s5).some_ bN))<|ev (fQ kH Y (fV _ _ _)) ?_
  have H2:=K9.fz s0;refine se (x':={ x1 with aC:=(x1.aC.filter λx9=>!(FM iW x1 x9)) }) (ds:=[.slice IQ ((x1.aC.filter λx9=>!(FM iW x1 x9)).length) IU]) H2 s5 Y Y Y bN Y PG (nX Y) Y (λ_ _ hk h=>by obtain⟨_,_,rfl,_⟩:=h; exact⟨_,_,rfl,hk (H2.s s0)⟩) λOm K10=>?_;have hl1:((vo iW l k).set k ({ x1 with aC:=(x1.aC.filter λx9=>!(FM iW x1 x9)) })).length=(vo iW l k).length:=gW ..;refine gJ (t:=5) (u:=.slice A5 ((vo iW l k).length) c5) (v:=.slice A5 (((vo iW l k).set k ({ x1 with aC:=(x1.aC.filter λx9=>!(FM iW x1 x9)) })).length) c5) Y (by rw [hl1])<|gJ (t:=11) (u:=.slice A5 ((vo iW l k).length) c5) (v:=.slice A5 (((vo iW l k).set k ({ x1 with aC:=(x1.aC.filter λx9=>!(FM iW x1 x9)) })).length) c5) rfl (by rw [hl1])<|gJ (t:=22) (u:=.slice A5 ((vo iW l k).length) c5) (v:=.slice A5 (((vo iW l k).set k ({ x1 with aC:=(x1.aC.filter λx9=>!(FM iW x1 x9)) })).length) c5) rfl (by rw [hl1]) ?_
  refine jD<|iw (gy ?_)
  refine jC<|ev (dP Y Y)<|mv Y<|jD ?_
  have gu:(((vo iW l k).set k ({ x1 with aC:=(x1.aC.filter λx9=>!(FM iW x1 x9)) })):List aF)=(vo iW l (k+1)):=by exact amC bN
  refine jq (t:=5) Y (aV (λz=>Value.slice A5 (List.length z) c5) gu)<|jq (t:=11) Y (aV (λz=>Value.slice A5 (List.length z) c5) gu) ?_
  rw [gu] at K10;exact dG ⟨(k+1),A5,c5,Y,Y,aj,(K10.cU 1 5)⟩ rfl aj
 refine xq ?_;refine bQ Y<|bX Y<|iP Y ?_
 have kC:((vo iW l k):List aF)=(zy l iW):=by have hk':k=l.length:=aj; rw [hk']; unfold vo zy; rw [OB,List.drop_length,zM]
 rw [kC] at K2;exact⟨A5,c5,by rw [kC] <;> rfl,K2⟩
structure fB where
  Client:Int
  Seq:Int
  Answer:Int
  deriving DecidableEq
def fB.enc(x:fB):List Value:=[.int .i64 x.Client,.int .i64 x.Seq,.int .i64 x.Answer]
theorem fB.mD(x:fB):∀ u∈x.enc,u.oneCell'=true:=by
  intro u hu
  simp only [fB.enc,iR,mP,tq] at hu
  rcases hu with rfl | rfl | rfl <;> rfl
def dw:Ty fB:=Ty.flat 3 fB.enc au (λ_=>rfl) fB.mD
instance:Flat dw:=⟨λh=>h⟩
structure fH where
  Client:Int
  Seq:Int
  Kind:Int
  A:Int
  B:Int
  C:Int
  deriving DecidableEq
def fH.enc(x:fH):List Value:=[.int .i64 x.Client,.int .i64 x.Seq,.int .i64 x.Kind,.int .i64 x.A,.int .i64 x.B,.int .i64 x.C]
theorem fH.mD(x:fH):∀ u∈x.enc,u.oneCell'=true:=by
  intro u hu
  simp only [fH.enc,iR,mP,tq] at hu
  rcases hu with rfl | rfl | rfl | rfl | rfl | rfl <;> rfl
def Ad:Ty fH:=Ty.flat 6 fH.enc au (λ_=>rfl) fH.mD
instance:Flat Ad:=⟨λh=>h⟩
structure dh where
  aL:List aR
  aA:List aF
  aT:List fB
  deriving DecidableEq
def jJ(ls:List bf)(aN:Int):List Int:=(ls.filter fun(x:bf)=>decide (x.aD=aN)).map bf.To
theorem afi(ls:List bf)(aN:Int):(jJ ls aN).length<=ls.length:=by unfold jJ; rw [kF]; exact ni _ _
def Oc(l:List fP)(x:bf):List fP:=⟨x.To,nU l x.To+1⟩::l
def jh(cs:List aF)(ns:List aR)(ls:List bf):List fP:=ls.foldl Oc (oH cs ns)
theorem afj{cs:List aF}{ns:List aR}{k:Nat}{x:bf}(hx:ls[k]? = some x):jh cs ns (ls.take (k+1))=Oc (jh cs ns (ls.take k)) x:=by
  unfold jh; rw [fC hx,zY]; rfl
theorem acr{P:Int->Prop}{l:List fP}(h0:P 0)(h:∀ x∈l,P x.N)(id:Int):P (nU l id):=by
  unfold nU; split
  · rename_i x hx; exact h x (Xw hx)
  · exact h0
theorem Tq(cs:List aF)(ns:List aR)(ls:List bf):(∀ x∈jh cs ns ls,0<=x.N/\x.N<=cs.length+ls.length)/\(jh cs ns ls).length<=ns.length+ls.length:=by
  have key:∀(ls:List bf)(l:List fP)(m:Nat),(∀ x∈l,0<=x.N/\x.N<=(m:Int))->(∀ x∈ls.foldl Oc l,0<=x.N/\x.N<=(m:Int)+ls.length)/\(ls.foldl Oc l).length=l.length+ls.length:=by
    intro ls
    induction ls with
    | nil=>intro l m h; exact⟨λx hx=>by have:=h x hx; simp; omega,av⟩
    | cons y ls ih=>
      intro l m h;have hp:0<=nU l y.To/\nU l y.To<=(m:Int):=acr (P:=λz=>0<=z/\z<=(m:Int)) ⟨Ls _,aj⟩ h y.To
      have h1:=ih (Oc l y) (m+1) (λx hx=>by
        rcases iR.1 hx with rfl | hx
        · simp only; omega
        · have:=h x hx; omega)
      refine⟨λx hx=>?_,?_⟩
      · have:=h1.1 x hx
        simp only [oV]; omega
      · rw [Gh,h1.2]; simp only [Oc,oV]; omega
  have h0:(∀ x∈oH cs ns,0<=x.N/\x.N<=(cs.length:Int))/\(oH cs ns).length<=ns.length:=by
    unfold oH; split
    · refine⟨λx hx=>?_,av⟩
      obtain⟨n,_,rfl⟩:=gB.1 hx;have:=P6 cs n.ID
      simp only; omega
    · simp
  have h1:=key ls (oH cs ns) cs.length h0.1;exact⟨h1.1,by show(ls.foldl Oc (oH cs ns)).length<=_; rw [h1.2]; omega⟩
theorem azp:wz prog 219 2 16:=by
  obtain⟨i,h1,h2,h3,h4⟩:=uJ (show(prog.info? 219).map (λi=>(i.zero,i.size,i.bytes))=some (some (.agg #[aI 0,aI 0]),2,16) by kernel_rfl);exact⟨i,_,h1,h2,h3,h4,Y,λv hv=>ng.1 (show(Value.cells (.agg #[aI 0,aI 0])).toList.all (λv=>v.oneCell')=true from Y) v hv⟩
theorem rG:dL prog 195 0 0:=ay
theorem EI:dL prog 195 1 3:=ay
theorem j4:dL prog 45 1 1:=ay
theorem lM:dL prog 45 0 0:=ay
theorem au3:aeI 174 268 269 154 219 2 16 Tryz.f174.name:=⟨func174.trans (aV some ak),⟨_,func268,ak,ak,ak,ak⟩,Oo,iJ,abO,ak,ahZ,azp⟩
def Oe:=@SC _ _ _ _ _ _ _ _ nO au3
theorem Tt{g:Nat}{v3 v4 v7 v8 v10 v12 v15:Value}{cL:Nat} (H0:Hp b S w (dW g 195 [v0,.slice AL ls.length cL,v2,v3,v4,v5,v6,v7,v8,v9,v10,v11,v12,v13,v14,v15,v16]::aQ dz 117 AL cL ls::F))(hl:ls.length<=1000)(aN:Int) :
    bO prog 240 #[gI g,aI aN] w λv w'=>∃ A c,v=.slice A (jJ ls aN).length c/\Hp b S w' (aQ dQ 3 A c (jJ ls aN)::dW g 195 [v0,.slice AL ls.length cL,v2,v3,v4,v5,v6,v7,v8,v9,v10,v11,v12,v13,v14,v15,v16]::aQ dz 117 AL cL ls::F):=by
 refine rU func240 ntmps240 Y ?_;have hq:=λk=>ni (fun(x:bf)=>decide (x.aD=aN)) (ls.take k)
 simp only [iF] at hq
 refine iT Y<|iT Y<|aY<|bQ Y<|ev (d9 Y)<|yV g 0 rG Y<|j6 g 1 yG H0 s0 Y<|ev (eX oI Y)<|mv Y<|dn<|cB ?_
 have H1:=H0.nil dQ 3;have fT:(([]:List Int):List Int)=(((ls.take 0).filter (fun(x:bf)=>decide (x.aD=aN))).map bf.To):=by rfl
 refine lF (t:=5) Y (aV (λz=>Value.slice none (List.length z) 0) fT) ?_;have H2:=H1.nil dQ 3;have H3:=(fT▸H2:Hp b S w (aQ dQ 3 none 0 (((ls.take 0).filter (fun(x:bf)=>decide (x.aD=aN))).map bf.To)::(aQ dQ 3 none 0 []::dW g 195 [v0,.slice AL ls.length cL,v2,v3,v4,v5,v6,v7,v8,v9,v10,v11,v12,v13,v14,v15,v16]::aQ dz 117 AL cL ls::F)));refine Lp (H3.cU 0 2) (λl0 rk mJ lJ wJ=>∃(k:Nat)(A5:ah)(c5:Nat),lJ=(5,.slice A5 ((((ls.take k).filter (fun(x:bf)=>decide (x.aD=aN))).map bf.To).length) c5)::(14,aI ((k:Nat):Int))::l0/\mJ=ls.length - k/\k<=ls.length/\Hp b S wJ (aQ dQ 3 A5 c5 (((ls.take k).filter (fun(x:bf)=>decide (x.aD=aN))).map bf.To)::rk)) ⟨0,none,0,Y,Y,fE _,(H3.rm s1)⟩ Y ?_;rintro _ _ w1 ⟨k,A5,c5,rfl,rfl,hk,K1⟩;refine rg<|ev (fD Y Y)<|dn<|pG Y (λyX=>?_) (λyX=>?_)
 ·refine jy ?_;refine aY<|cB<|rg ?_
  obtain⟨x1,bN⟩:=bn (xs:=ls) (i:=k) aj;refine ev (eP (i:=k) oI Gp Y Y Y (aM bN) ((K1.o s2).some_ bN))<|ev (iU IZ Y Y ((K1.o s2).fF bN))<|al Qd Y K1 λg1 w2 K2=>sty Y K2 s0 Y λw3 K3=>dn<|rg<|j6 g1 0 Qc K3 s0 Y<|mv Y<|ev (iM Y Y)<|dn<|mZ Y (λhc21=>?_) (λhc21=>?_)
  ·refine jC<|mv Y<|j6 g1 3 xZ K3 s0 Y<|Bh Y (by intro _; apply pR) rfl K3 (λ_ _=>rfl) λg2 w4 K4=>ap (ys:=([x1.To]:List Int)) K4 s2 rfl rfl (K4.o s0) fA KU (by have:=hq k; simp only [kF]; omega) av rfl λpU pV w5 K5=>jk rfl<|jD<|iw (gy ?_)
   refine jC<|ev (dP Y Y)<|mv Y<|jD ?_
   have gu:(((((ls.take k).filter (fun(x:bf)=>decide (x.aD=aN))).map bf.To)++([x1.To]:List Int)):List Int)=(((ls.take (k+1)).filter (fun(x:bf)=>decide (x.aD=aN))).map bf.To):=by rw [nM bN]; simp [hc21]
   refine jq (t:=5) Y (aV (λz=>Value.slice pU (List.length z) pV) gu) ?_;rw [gu] at K5;exact dG ⟨(k+1),pU,pV,Y,Y,aj,(K5.cU 1 2)⟩ rfl aj
  refine Ci ?_;refine jC<|ev (dP Y Y)<|mv Y<|jD ?_
  have kC:((((ls.take k).filter (fun(x:bf)=>decide (x.aD=aN))).map bf.To):List Int)=(((ls.take (k+1)).filter (fun(x:bf)=>decide (x.aD=aN))).map bf.To):=by rw [nM bN]; simp [hc21]
  refine jq (t:=5) Y (aV (λz=>Value.slice A5 (List.length z) c5) kC) ?_;rw [kC] at K3;exact dG ⟨(k+1),A5,c5,Y,Y,aj,(K3.rm s0)⟩ rfl aj
 refine xq ?_;refine bQ Y<|bX Y<|iP Y ?_
 have hfx:(((ls.take k).filter (fun(x:bf)=>decide (x.aD=aN))).map bf.To)=(jJ ls aN):=by rw [gV aj]; rfl
 rw [hfx] at K1;exact⟨_,_,by rw [hfx] <;> rfl,K1⟩
theorem aaF{g:Nat}{v7 v8 v10 v12 v15:Value}{cL:Nat}{AN:ah}{cN:Nat}{ns:List aR}{AK:ah}{cK:Nat}{ks:List aF} (H0:Hp b S w (dW g 195 [v0,.slice AL ls.length cL,v2,.slice AN ns.length cN,.slice AK ks.length cK,v5,v6,v7,v8,v9,v10,v11,v12,v13,v14,v15,v16]::aQ dz 117 AL cL ls::dH bW AN cN ns::dH bD AK cK ks::F))(hl:ls.length<=1000)(hn:ns.length<=1000)(hc:ks.length<=1000) :
    bO prog 242 #[gI g] w λv w'=>∃ A c,v=.slice A (jh ks ns ls).length c/\Hp b S w' (aQ nO 219 A c (jh ks ns ls)::dW g 195 [v0,.slice AL ls.length cL,v2,.slice AN ns.length cN,.slice AK ks.length cK,v5,v6,v7,v8,v9,v10,v11,v12,v13,v14,v15,v16]::aQ dz 117 AL cL ls::dH bW AN cN ns::dH bD AK cK ks::F):=by
 refine rU func242 ntmps242 Y<|iT Y<|He H0 (λ_ K=>K) (λl0 rk lJ wJ=>∃(jW:ah)(jT:Nat),lJ=(3,.slice jW ((oH ks ns).length) jT)::l0/\Hp b S wJ (aQ nO 219 jW jT (oH ks ns)::rk)) (λhns H1=>?_) ?_
 ·refine tZ 0 g 3 EI Y H1<|nJ 3 4 g 4 j4 s0 Y H1<|tZ 5 g 3 EI Y H1<|nJ 8 9 g 3 lM s0 Y H1<|O1 10 Y<|gU Y (SL _ (H1.s s3).any (H1.s s2).any aj) ?_
  rintro _ w1 ⟨jZ,j3,rfl,h1⟩;have K1:=H1.f1 h1;have JO:=(K1.o s0).bC;have k1:=(K1.rm s0);refine aO k1<|xL 11 Y Y k1<|Dn ⟨jZ,j3,Y,K1⟩ Y
 rintro _ w2 ⟨jW,jT,rfl,K2⟩;refine aY<|bQ Y<|ev (d9 Y)<|yV g 0 rG Y<|j6 g 1 yG K2 s1 Y<|ev (eX oI Y)<|mv Y<|dn<|cB ?_
 have fT:(oH ks ns:List fP)=(jh ks ns (ls.take 0)):=by rfl
 refine lF (t:=3) Y (aV (λz=>Value.slice jW (List.length z) jT) fT) ?_;rw [fT] at K2;refine qZ (λmJ lJ wJ=>∃(k:Nat)(A3:ah)(c3:Nat),lJ=[(3,.slice A3 ((jh ks ns (ls.take k)).length) c3),(21,.slice AL ls.length cL),(22,aI ((ls.length:Nat):Int)),(23,aI ((k:Nat):Int))]/\mJ=ls.length - k/\k<=ls.length/\Hp b S wJ (aQ nO 219 A3 c3 (jh ks ns (ls.take k))::dW g 195 [v0,.slice AL ls.length cL,v2,.slice AN ns.length cN,.slice AK ks.length cK,v5,v6,v7,v8,v9,v10,v11,v12,v13,v14,v15,v16]::aQ dz 117 AL cL ls::dH bW AN cN ns::dH bD AK cK ks::F)) ⟨0,jW,jT,Y,Y,fE _,K2⟩ Y ?_;rintro _ _ w3 ⟨k,A3,c3,rfl,rfl,hk,K3⟩;refine rg<|ev (fD Y Y)<|dn<|pG Y (λhc24=>?_) (λhc24=>?_)
 ·refine jy ?_;refine aY<|cB<|rg ?_
  obtain⟨x1,bN⟩:=bn (xs:=ls) (i:=k) aj;refine ev (eP (i:=k) oI Gp Y Y Y (aM bN) ((K3.o s2).some_ bN))<|ev (iU IZ Y Y ((K3.o s2).fF bN))<|al Qd Y K3 λg1 w4 K4=>sty Y K4 s0 Y λw5 K5=>dn ?_
  have hgb:=Tq ks ns (ls.take k)
  simp only [iF] at hgb
  have hpb:0<=nU (jh ks ns (ls.take k)) x1.To/\nU (jh ks ns (ls.take k)) x1.To<=2000:=acr (P:=λz=>0<=z/\z<=2000) aj (λx hx=>by have:=hgb.1 x hx; omega) _;refine Hf K5 (λ_ K=>(K.rm s1)) (λl0 rk lJ wJ=>∃(pO:ah)(cj2:Nat),lJ=(3,.slice pO (((jh ks ns (ls.take k)).take 0++[(⟨x1.To,nU (jh ks ns (ls.take k)) x1.To+1⟩:fP)]++(jh ks ns (ls.take k)).drop 0).length) cj2)::l0/\Hp b S wJ (aQ nO 219 pO cj2 ((jh ks ns (ls.take k)).take 0++[(⟨x1.To,nU (jh ks ns (ls.take k)) x1.To+1⟩:fP)]++(jh ks ns (ls.take k)).drop 0)::rk)) (λhns H2=>?_) ?_
  ·have k2:=(H2.rm s1);refine lQ 0 Y Y k2<|nJ 1 2 g1 3 xZ s0 Y k2<|lQ 3 Y Y k2<|nJ 4 5 g1 3 xZ s0 Y k2<|O1 6 Y<|nD H2 Y (vk _ (H2.o s1) x1.To) λw6 K6=>?_
   have k3:=(K6.rm s1);refine aO k3<|l9 7 Y (λ_ _=>dP Y Y) k3<|l9 8 Y (λ_ _=>jX (vs:=[(0,aI x1.To),(1,aI (nU (jh ks ns (ls.take k)) x1.To+1))]) (cs:=[aI x1.To,aI (nU (jh ks ns (ls.take k)) x1.To+1)]) Y (by apply II)) k3<|O1 9 rfl<|Bh (τ:=nO) (x:=(⟨x1.To,nU (jh ks ns (ls.take k)) x1.To+1⟩:fP)) rfl (by intro _; apply Lc) rfl K6 (λ_ _=>rfl) λg2 w7 K7=>?_
   have k4:=((K7.rm s2).rm s0);refine aO k4<|O1 10 Y<|gU Y (Oe (i:=0) K7 s2 s0 aj aj) ?_
   rintro _ w8 ⟨pU,pV,rfl,K8⟩;have k5:=(K8.rm s0);refine aO k5<|xL 11 Y Y k5<|Dn ⟨pU,pV,Y,K8⟩ Y
  rintro _ w9 ⟨pO,cj2,rfl,K9⟩;refine iw (gy ?_);refine jC<|ev (dP Y Y)<|mv Y<|jD ?_
  have gu:(((jh ks ns (ls.take k)).take 0++[(⟨x1.To,nU (jh ks ns (ls.take k)) x1.To+1⟩:fP)]++(jh ks ns (ls.take k)).drop 0):List fP)=(jh ks ns (ls.take (k+1))):=by rw [afj bN]; rfl
  refine jq (t:=3) Y (aV (λz=>Value.slice pO (List.length z) cj2) gu) ?_;rw [gu] at K9;exact dG ⟨(k+1),pO,cj2,Y,Y,aj,(K9.rm s1)⟩ rfl aj
 refine xq ?_;refine bQ Y<|bX Y<|iP Y ?_
 have hfx:(jh ks ns (ls.take k))=(jh ks ns ls):=by rw [gV aj]
 rw [hfx] at K3;exact⟨_,_,by rw [hfx] <;> rfl,K3⟩
abbrev Ae(c:aF)(fr nV u:Int):bf:=⟨c.ID,c.aB,fr,nV,u⟩
abbrev DR(c:aF)(fr nV u:Int):aK:=⟨0,c.ID,c.aB,c.Sum,fr,nV,u⟩
def Du(ls:List bf)(dD all:Int)(c:aF)(fr nV u:Int):Bool:=decide (p8 ls (Ae c fr nV u) dD all=0)
def yc(ls:List bf)(dD all:Int)(c:aF)(fr nV u:Int):List bf:=if Du ls dD all c fr nV u=true then ls++[Ae c fr nV u] else ls
def xw(ls:List bf)(os:List aK)(dD all:Int)(c:aF)(fr nV u:Int):List aK:=if Du ls dD all c fr nV u=true then os++[DR c fr nV u] else os
theorem au4{c:aF}{fr nV u:Int}(h:¬ p8 ls (Ae c fr nV u) dD all=0):Du ls dD all c fr nV u=false/\yc ls dD all c fr nV u=ls/\∀ os,xw ls os dD all c fr nV u=os:=by
  have hb:Du ls dD all c fr nV u=false:=XM h;refine⟨hb,aP (by rw [hb]; decide),λos=>aP (by rw [hb]; decide)⟩
theorem aqa{c:aF}{fr nV u:Int}(h:p8 ls (Ae c fr nV u) dD all=0):Du ls dD all c fr nV u=true/\yc ls dD all c fr nV u=vO ls (Ae c fr nV u) dD all/\∀ os,xw ls os dD all c fr nV u=os++[DR c fr nV u]:=by
  have hb:Du ls dD all c fr nV u=true:=sO h;refine⟨hb,?_,λos=>aS hb⟩;unfold yc vO; rw [aS hb,aS h]
theorem afk:dL prog 195 3 12:=ay
theorem CP:dL prog 195 2 6:=ay
theorem Kr(a0:Int)(a1:Int)(a2:Int)(a3:Int)(a4:Int):prog.built 117 [(0,aI a0),(1,aI a1),(2,aI a2),(3,aI a3),(4,aI a4)]=some #[aI a0,aI a1,aI a2,aI a3,aI a4]:=ak
theorem G5:dL prog 195 6 15:=ay
theorem nP(a0:Int)(a1:Int)(a2:Int)(a3:Int)(a4:Int)(a5:Int)(a6:Int):prog.built 112 [(0,aI a0),(1,aI a1),(2,aI a2),(3,gP a3),(4,aI a4),(5,aI a5),(6,aI a6)]=some #[aI a0,aI a1,aI a2,gP a3,aI a4,aI a5,aI a6]:=ak
theorem fM(a0:Int)(a1:Int)(a2:Int)(a3:Int)(a4:Int)(a5:Int)(a6:Int):∀ w,(Instr.buildSlice 49 1 (List.toArray [(0,.agg #[aI a0,aI a1,aI a2,gP a3,aI a4,aI a5,aI a6])])).run prog w=.ok (.slice (some ⟨w.heap.size,0,none⟩) 1 1) (w.alloc (.cells (List.toArray [aI a0,aI a1,aI a2,gP a3,aI a4,aI a5,aI a6]) 112)):=ay
abbrev Vv(iE:aF)(je wP zZ Fh:Int):=([(⟨0,iE.ID,iE.aB,iE.Sum,je,wP,zZ+Fh⟩:aK)]:List aK)
abbrev Qu(iE:aF)(je wP zZ Fh:Int):=(⟨iE.ID,iE.aB,je,wP,zZ+Fh⟩:bf)
set_option maxHeartbeats 1000000 in
theorem X6{g:Nat}{v3 v4:Value}{AO Bc:ah}{cL cO dc:Nat}{os:List aK}{eO aJ:Int}(H0:Hp b S w (dW g 195 [v0,.slice AL ls.length cL,v2,v3,v4,v5,v6,aI dD,aI all,v9,aI eO,v11,aI aJ,v13,v14,.slice AO os.length cO,v16]::aQ dz 117 AL cL ls::aQ bg 112 AO cO os::F))(c:aF)(fr nV:Int)(hn:ls.length<=100)(ho:os.length<=100000)(hu:-1099511627776<=aJ/\aJ<=4398046511104/\-1099511627776<=eO/\eO<=1099511627776) :
    bO prog 244 #[gI g,.agg #[aI c.ID,aI c.aB,gP c.Sum,.slice Bc c.aC.length dc],aI fr,aI nV] w λv w'=>v=.bool (Du ls dD all c fr nV (aJ+eO))/\∃ AL' cL' AO' cO',Hp b S w' (dW g 195 [v0,.slice AL' ((yc ls dD all c fr nV (aJ+eO)).length) cL',v2,v3,v4,v5,v6,aI dD,aI all,v9,aI eO,v11,aI aJ,v13,v14,.slice AO' ((xw ls os dD all c fr nV (aJ+eO)).length) cO',v16]::aQ dz 117 AL' cL' (yc ls dD all c fr nV (aJ+eO))::aQ bg 112 AO' cO' (xw ls os dD all c fr nV (aJ+eO))::F):=by
 refine rU func244 ntmps244 Y<|rg<|bx Y Y H0 λg1 w1 K1=>bX Y<|qU ak ak<|bB (bq Y) Y<|bB (d9 Y) Y<|bB (fQ afk Y Y) Y<|bB (eF jN Y (K1.x s1) Y) Y<|bB (bq Y) Y<|bB (d9 Y) Y<|bB (fQ CP Y Y) Y<|bB (fQ Qs Y Y) Y<|bB (eF jN Y (K1.x s1) Y) Y<|bB (dP Y Y) Y<|bB (pz Y) Y<|qV λw2 e2=>?_
 have K2:=K1.grow e2;refine He K2 (λ_ K=>K) (λl0 rk lJ wJ=>∃(jW:ah)(jT:Nat),lJ=(10,.slice jW ((vO ls (Qu c fr nV aJ eO) dD all).length) jT)::(11,aI (p8 ls (Qu c fr nV aJ eO) dD all))::l0/\Hp b S wJ (aQ dz 117 jW jT (vO ls (Qu c fr nV aJ eO) dD all)::rk)) (λhns H1=>?_) ?_
 ·refine tZ 0 g 0 rG Y H1<|nJ 3 4 g 1 yG s1 Y H1<|nJ 5 6 g1 0 qN s0 Y H1<|nJ 7 8 g1 1 sJ s0 Y H1<|lQ 9 Y Y H1<|lQ 10 Y Y H1<|lQ 11 Y Y H1<|l9 12 Y (λ_ _=>jX Y (by apply Kr)) H1<|tZ 13 g 6 CP rfl H1<|nJ 16 17 g 7 ace s1 rfl H1<|tZ 18 g 6 CP rfl H1<|nJ 21 22 g 8 aj2 s1 rfl H1<|O1 23 rfl<|gU rfl (aij _ (H1.o s2) (Qu c fr nV aJ eO) dD all aj) ?_
  rintro _ w3 ⟨qQ,qR,rfl,h3⟩;have K3:=H1.f1 h3;have k1:=(K3.rm s0);refine aO k1<|lQ 24 Y Y k1<|xU 25 Y Y Y k1<|xU 26 Y Y Y k1<|xL 27 Y Y k1<|xL 28 Y Y k1<|Dn ⟨qQ,qR,Y,K3⟩ Y
 rintro _ w4 ⟨jW,jT,rfl,K4⟩;refine aY<|bQ Y<|ev (rY Y Y)<|dn<|bP Y (λaiz=>?_) (λaiz=>?_)
 ·replace aiz:=oO aiz;refine iT Y<|wO Y ?_
  have H2:=(K4.cU 0 2);have hcn:=au4 aiz;exact⟨by rw [hcn.1]; rfl,_,_,_,_,by rw [hcn.2.1,hcn.2.2 os]; exact H2⟩
 replace aiz:=oP aiz;refine jy ?_;refine bQ Y<|mv Y<|ev (d9 Y)<|yV g 0 rG Y<|yV g 1 yG Y<|yD Y K4 s2 Y λw5 K5=>dn<|He K5 (λ_ K=>((K.rm s4).rm s0)) (λl0 rk lJ wJ=>∃(pO:ah)(cj2:Nat),lJ=l0/\Hp b S wJ (dW g 195 [v0,.slice jW ((vO ls (Qu c fr nV aJ eO) dD all).length) jT,v2,v3,v4,v5,v6,aI dD,aI all,v9,aI eO,v11,aI aJ,v13,v14,.slice pO ((os++(Vv c fr nV aJ eO)).length) cj2,v16]::aQ bg 112 pO cj2 (os++(Vv c fr nV aJ eO))::rk)) (λhns H3=>?_) ?_
 ·have k2:=((H3.rm s4).rm s0);refine lQ 0 Y Y k2<|tZ 1 g 15 G5 Y k2<|nJ 5 6 g1 0 qN s1 Y k2<|nJ 7 8 g1 1 sJ s1 Y k2<|nJ 9 10 g1 2 Iz s1 Y k2<|lQ 11 Y Y k2<|lQ 12 Y Y k2<|lQ 13 Y Y k2<|l9 14 Y (λ_ _=>jX Y (by apply nP)) k2<|Jn H3 (λl0 rk lJ wJ=>∃(g2:Nat),lJ=(60,.slice AO os.length cO)::(71,.slice (some ⟨g2,0,none⟩) ((Vv c fr nV aJ eO).length) 1)::l0/\Hp b S wJ (aQ bg 112 (some ⟨g2,0,none⟩) 1 (Vv c fr nV aJ eO)::rk)) 4 65535 ?_ λhS1=>?_
  ·rintro _ Om ⟨g2,rfl,K10⟩;refine O1 16 Y<|ap K10 s5 Y Y (K10.o s0) lH EH (by first | omega | (simp; omega) | (simp; done)) av rfl λXp cp2 Va vM=>?_
   have k7:=(vM.cU 0 3);refine aO k7<|Sr 17 g 15 G5 Y k7<|O1 19 Y<|yD Y vM s2 Y λVb vH=>?_
   have k8:=(vH.cU 0 3);refine aO k8<|Dn ⟨Xp,cp2,Y,(vH.rm s2)⟩ Y
  refine O2 4 15 Y Y ?_ ?_
  ·refine nL H3 s0 Y<|aO k2<|O1 15 Y<|Bh (τ:=bg) (x:=(⟨0,c.ID,c.aB,c.Sum,fr,nV,aJ+eO⟩:aK)) Y (by intro _; apply fM) rfl H3 (λ_ _=>rfl) λg4 w13 Bf=>?_
   have k9:=((Bf.rm s5).cU 0 2);exact Kj hS1 k9 ⟨g4,Y,Bf⟩ Y
  ·refine Bh (τ:=bg) (x:=(⟨0,c.ID,c.aB,c.Sum,fr,nV,aJ+eO⟩:aK)) Y (by intro _; apply fM) rfl H3 (λ_ _=>rfl) λg5 w14 xM=>?_;have k10:=((xM.rm s5).cU 0 2);refine aO k10<|O1 4 Y<|nL xM s1 Y<|Kj hS1 k10 ⟨g5,Y,xM⟩ Y
 rintro _ w15 ⟨pO,cj2,rfl,BI⟩;refine iT Y<|iP Y ?_
 have H4:=(BI.cU 3 2);have hcy:=aqa (c:=c) (fr:=fr) (nV:=nV) (u:=aJ+eO) aiz;exact⟨by rw [hcy.1]; rfl,_,_,_,_,by rw [hcy.2.1,hcy.2.2 os]; exact((H4.sel s1).mV 1 2)⟩
end
end Go.Proofs.YtlhnnmlenkahlaaGreat
