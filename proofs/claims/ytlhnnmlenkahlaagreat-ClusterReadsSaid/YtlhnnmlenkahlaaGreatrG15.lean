/- Lemmas. -/
import Derived.Test.YtlhnnmlenkahlaaGreatrG14
set_option maxRecDepth 4000
set_option linter.all false
namespace Go.Proofs.YtlhnnmlenkahlaaGreat
open Go.RowKit Go.Proofs.Tryz
def Bz:=@underlying43
def Jk:=@underlying285
variable {l:List aY}{α:Type}{bg:Int}{S0:Nat->Prop}{jl vY vR vk uh:ah}{jk uY vJ uU tq:Nat}{AA:FuncId}{AX:List Value}{g:α->Int}{s:List α}
def Jl(s:aY):Bool:=((decide (1<=s.Client)&&decide (s.Client<=1048576))&&decide (1<=s.Seq))&&decide (s.Seq<=1099511627776)
def Ht:Int->List aY->Bool
  | _,[]=>true
  | z,n::l=>!(!Jl n||decide (n.Client<=z))&&Ht n.Client l
def CK(l:List aY):Bool:=Ht 0 l&&decide (l.length<=16)
theorem Ye{z:Int}{k:Nat}{x:aY}(hx:l[k]? = some x):Ht z (l.drop k)=(!(!Jl x||decide (x.Client<=z))&&Ht x.Client (l.drop (k+1))):=by
  rw [zO (aJ hx),(nP.1 hx).2]; rfl
theorem Rf:∀(l:List aY)(z:Int),Ht z l=true->∀ n∈l,z<n.Client/\Jl n=true
  | [],_,_,n,hn=>by simp at hn
  | m::l,z,h,n,hn=>by
    simp only [Ht,bN,eG,dX,fP,bV] at h
    rcases iX.1 hn with rfl | hn
    · exact⟨aj,h.1.1⟩
    · have:=Rf l _ h.2 n hn; exact⟨aj,this.2⟩
theorem af6:∀(l:List aY)(z:Int),Ht z l=true->Up aY.Client l
  | [],_,_=>List.Pairwise.nil
  | m::l,z,h=>by
    simp only [Ht,bN,eG,dX,fP,bV] at h
    exact pG.2 ⟨λx hx=>(Rf l _ h.2 x hx).1,af6 l _ h.2⟩
def bsG{α:Type}(g:α->Int)(s:List α):Nat->Nat->Nat->Nat
  | 0,i,_=>i
  | f+1,i,j=>if i<j then(match s[(i+j) / 2]? with | some x=>if g x<0 then bsG g s f ((i+j) / 2+1) j else bsG g s f i ((i+j) / 2) | none=>i) else i
def xZ{α:Type}(g:α->Int)(s:List α):Nat:=bsG g s (s.length+1) 0 s.length
def x8{α:Type}(g:α->Int)(s:List α):Bool:=match s[xZ g s]? with | some x=>decide (g x=0) | none=>false
theorem Rh(g:α->Int)(s:List α):∀(f f' i j:Nat),j - i<f->j - i<f'->bsG g s f i j=bsG g s f' i j
  | 0,_,_,_,h,_=>by omega
  | _+1,0,_,_,_,h=>by omega
  | f+1,f'+1,i,j,h,h'=>by
    unfold bsG
    split
    · split
      · split
        · exact Rh g s f f' _ _ aj aj
        · exact Rh g s f f' _ _ aj aj
      · rfl
    · rfl
theorem ac3{i j:Nat}{x:α}(hij:i<j)(hx:s[(i+j) / 2]? = some x)(h:g x<0):bsG g s (j - i+1) i j=bsG g s (j - ((i+j) / 2+1)+1) ((i+j) / 2+1) j:=by
  rw [bsG,aO hij,hx]
  simp only [aO h]
  exact Rh g s _ _ _ _ aj aj
theorem ac4{i j:Nat}{x:α}(hij:i<j)(hx:s[(i+j) / 2]? = some x)(h:¬ g x<0):bsG g s (j - i+1) i j=bsG g s ((i+j) / 2 - i+1) i ((i+j) / 2):=by
  rw [bsG,aO hij,hx]
  simp only [aK h]
  exact Rh g s _ _ _ _ aj aj
theorem NH{i j:Nat}(hij:¬ i<j):bsG g s (j - i+1) i j=i:=by rw [bsG,aK hij]
theorem ac5(hm:abR g s):∀(f i j:Nat),j - i<f->i<=j->j<=s.length->(∀(a:Nat)(y:α),a<i->s[a]? = some y->g y<0)->(∀(a:Nat)(y:α),j<=a->s[a]? = some y->¬ g y<0)->bsG g s f i j=low g s
  | 0,_,_,h,_,_,_,_=>by omega
  | f+1,i,j,hf,hij,hj,h1,h2=>by
    unfold bsG
    split
    · rename_i hlt
      obtain⟨x,hx⟩:=bC (xs:=s) (i:=(i+j) / 2) aj;rw [hx]; simp only
      split
      · rename_i hg
        exact ac5 hm f _ _ aj aj hj (λa y ha hy=>hm a _ y x aj hy hx hg) h2
      · rename_i hg
        exact ac5 hm f _ _ aj aj aj h1 (λa y ha hy hlt'=>hg (hm _ a x y ha hx hy hlt'))
    · rename_i hlt
      exact(xk aj h1 (λa y ha=>h2 a y aj)).symm
theorem VH(hm:abR g s):xZ g s=low g s:=ac5 hm _ _ _ aj (fJ _) (kV _) (λa y ha=>by omega) (λa y ha hy=>by have:=aJ hy; omega)
theorem TU(hm:abR g s):x8 g s=hits g s:=by unfold x8 hits; rw [VH hm]; cases s[low g s]? <;> rfl
theorem ai7:∀(f i j:Nat),i<=j->bsG g s f i j<=j
  | 0,i,j,h=>h
  | f+1,i,j,h=>by
    unfold bsG
    split
    · split
      · split
        · exact ai7 f _ _ aj
        · exact lV (ai7 f _ _ aj) aj
      · exact h
    · exact h
theorem aqK(g:α->Int)(s:List α):xZ g s<=s.length:=ai7 _ _ _ (fJ _)
theorem zX(h:x8 g s=true):∃ x,s[xZ g s]? = some x/\g x=0:=by
  unfold x8 at h
  split at h
  · rename_i x hx; exact⟨x,hx,gW h⟩
  · cases h
def Ku(l:List aY)(bg:Int):aY:=match l[xZ (fun(y:aY)=>bB y.Client bg) l]? with | some s=>if x8 (fun(y:aY)=>bB y.Client bg) l then s else⟨0,0,0⟩ | none=>⟨0,0,0⟩
theorem TV{x:aY}(h:x8 (fun(y:aY)=>bB y.Client bg) l=true)(hx:l[xZ (fun(y:aY)=>bB y.Client bg) l]? = some x):Ku l bg=x:=by
  unfold Ku; rw [hx]; simp only [h,if_true]
theorem af7(h:x8 (fun(y:aY)=>bB y.Client bg) l=false):Ku l bg=⟨0,0,0⟩:=by
  unfold Ku; rw [h]; split <;> rfl
def iR(l:List aY)(bg seq:Int):Int × Bool × Int:=if(!CK l||!Jl ⟨bg,seq,0⟩)=true then(0,false,1) else if seq<(Ku l bg).Seq then(0,false,9) else if seq=(Ku l bg).Seq then((Ku l bg).Answer,true,0) else if(Ku l bg).Seq+1<seq then(0,false,10) else(0,false,0)
def qj(l:List aY)(bg seq answer:Int):List aY × Int:=if(iR l bg seq).2.2≠0 then([],(iR l bg seq).2.2) else if(iR l bg seq).2.1=true then([],6) else if x8 (fun(y:aY)=>bB y.Client bg) l=false/\16<=l.length then([],7) else
  ((if x8 (fun(y:aY)=>bB y.Client bg) l=true then l else l.take (xZ (fun(y:aY)=>bB y.Client bg) l)++[⟨0,0,0⟩]++l.drop (xZ (fun(y:aY)=>bB y.Client bg) l)).set (xZ (fun(y:aY)=>bB y.Client bg) l) ⟨bg,seq,answer⟩,0)
theorem aa5(h:CK l=true):0<=(Ku l bg).Seq/\(Ku l bg).Seq<=1099511627776:=by
  cases hb:x8 (fun(y:aY)=>bB y.Client bg) l with
  | false=>rw [af7 hb]; simp
  | true=>
    obtain⟨x,hx,_⟩:=zX hb;rw [TV hb hx]
    simp only [CK,bN] at h
    have:=(Rf l 0 h.1 x (bT hx)).2
    simp only [Jl,bN,bO] at this
    omega
theorem L9:eu prog 102 0 0:=ay
theorem BZ:eu prog 102 1 1:=ay
theorem Gx:Size prog 102 3:=ay
theorem Yf:Agg prog 102 3:=⟨λ_=>by kernel_rfl,Gx⟩
abbrev VI:Value:=.agg #[aF 0,aF 0,aF 0]
theorem af8:∀ w,(zeroValue 102).run prog w=.ok VI w:=ay
theorem azC:bF prog 259:=ay
theorem aqL  : ∀ w,(Instr.buildSlice 43 0 (List.toArray [])).run prog w=.ok (.slice (some ⟨w.heap.size,0,none⟩) 0 0) (w.alloc (.cells (List.toArray []) 102)):=ay
theorem aqM:lW prog 102 3 24:=by
  obtain⟨i,h1,h2,h3,h4⟩:=tX (show(prog.info? 102).map (λi=>(i.zero,i.size,i.bytes))=some (some VI,3,24) by kernel_rfl);exact⟨i,_,h1,h2,h3,h4,Y⟩
theorem azD:bF prog 365:=ay
theorem azE:bF prog 255:=ay
theorem ac6(a0:Int)(a1:Int):prog.built 102 [(0,aF a0),(1,aF a1)]=some #[aF a0,aF a1,aF 0]:=ak
theorem af9:eu prog 102 2 2:=ay
theorem azF:u6 prog 102 3 24:=by
  obtain⟨i,h1,h2,h3,h4⟩:=tX (show(prog.info? 102).map (λi=>(i.zero,i.size,i.bytes))=some (some VI,3,24) by kernel_rfl);exact⟨i,_,h1,h2,h3,h4,Y,λv hv=>lI.1 (show(Value.cells VI).toList.all (λv=>v.oneCell')=true from Y) v hv⟩
theorem avi  : prog.built 102 []=some #[aF 0,aF 0,aF 0]:=ak
theorem aga(a0:Int)(a1:Int)(a2:Int):∀ w,(Instr.buildSlice 43 1 (List.toArray [(0,.agg #[aF a0,aF a1,aF a2])])).run prog w=.ok (.slice (some ⟨w.heap.size,0,none⟩) 1 1) (w.alloc (.cells (List.toArray [aF a0,aF a1,aF a2]) 102)):=ay
theorem Kv(a0:Int)(a1:Int)(a2:Int):prog.built 102 [(0,aF a0),(1,aF a1),(2,aF a2)]=some #[aF a0,aF a1,aF a2]:=ak
theorem akA(w:World)(s:aY) :
    bS prog 259 #[.agg #[aF s.Client,aF s.Seq,aF s.Answer]] w λv w'=>v=.bool (Jl s)/\Hp w S0 w' []:=by
 refine kP S0 func259 ntmps259 Y λH0=>rg<|bx Y Y H0 λg1 w1 K1=>bU Y<|rg<|jT g1 0 L9 K1 s0 Y<|ev (qK Y Y)<|mv Y<|iP 4 10 ((decide (1<=s.Client))&&(decide (s.Client<=1048576))) ?_ ?_
 ·cases hb6:decide (1<=s.Client) with
  | true=>
   refine wL g1 0 L9 K1 s0 Y<|bn Y (vS Y Y) Y<|ev (dH Y Y)<|dM Y
  | false=>
   refine dN<|dN<|dN<|ev (dL Y Y)<|dM Y
 refine mv Y<|iP 4 15 (((decide (1<=s.Client))&&(decide (s.Client<=1048576)))&&(decide (1<=s.Seq))) ?_ ?_
 ·cases Tv:((decide (1<=s.Client))&&(decide (s.Client<=1048576))) with
  | true=>
   have Lm:=Tv
   try simp only [bN,eH,bO,bV] at Lm
   refine wL g1 1 BZ K1 s0 Y<|bn Y (qK Y Y) Y<|ev (dH Y Y)<|dM Y
  | false=>
   refine dN<|dN<|dN<|ev (dL Y Y)<|dM Y
 refine mv Y<|iP 4 20 ((((decide (1<=s.Client))&&(decide (s.Client<=1048576)))&&(decide (1<=s.Seq)))&&(decide (s.Seq<=1099511627776))) ?_ ?_
 ·cases Vd:(((decide (1<=s.Client))&&(decide (s.Client<=1048576)))&&(decide (1<=s.Seq))) with
  | true=>
   have Qw:=Vd
   try simp only [bN,eH,bO,bV] at Qw
   refine wL g1 1 BZ K1 s0 Y<|bn Y (vS Y Y) Y<|ev (dH Y Y)<|dM Y
  | false=>
   refine dN<|dN<|dN<|ev (dL Y Y)<|dM Y
 refine bU Y<|jc Y ?_
 have eO:(((((decide (1<=s.Client))&&(decide (s.Client<=1048576)))&&(decide (1<=s.Seq)))&&(decide (s.Seq<=1099511627776))):Bool)=(Jl s):=by rfl
 exact⟨by rw [eO] <;> rfl,(K1.rm s0)⟩
theorem akB(w:World)(jo:Sl bX S0 w jl jk l) :
    bS prog 255 #[.slice jl l.length jk] w λv w'=>v=.bool (CK l)/\Hp w S0 w' []:=by
 refine kP S0 func255 ntmps255 Y λH0=>?_;have EY:=jo.bH;refine iZ Y<|iZ Y<|aW<|bQ Y<|ev (eU Bz Y)<|mv Y<|dn<|cB<|Lp H0 (λl0 rk mJ lJ wJ=>∃(k:Nat)(z:Int),lJ=(3,aF z)::(8,aF ((k:Nat):Int))::l0/\mJ=l.length - k/\k<=l.length/\(Ht 0 l=Ht z (l.drop k))/\Hp w S0 wJ rk) ⟨0,0,Y,Y,fJ _,av,H0⟩ rfl ?_
 rintro _ _ w1 ⟨k,z,rfl,rfl,hk,hz,K1⟩;refine rg<|ev (fC Y Y)<|dn<|pQ Y (λER=>?_) (λER=>?_)
 ·refine jm ?_;refine aW<|cB<|rg ?_
  obtain⟨x1,bP⟩:=bC (xs:=l) (i:=k) aj;refine ev (cu (i:=k) Bz Gx Y Y Y (aJ bP) ((K1.a jo).some_ bP))<|ev (gI Yf Y Y ((K1.a jo).fE bP))<|al af8 Y K1 λg1 w2 K2=>sty Y K2 s0 Y λw3 K3=>dn<|aW<|rg<|ev (dU Yf Y Y (K3.x s0))<|mU K3 Y (akA (S0:=Any) _ x1) λw4 K4=>ev (iB Y)<|mv Y<|iP 5 20 ((!(Jl x1))||(decide (x1.Client<=z))) ?_ ?_
  ·cases Tc:(!(Jl x1)) with
   | true=>
    refine dN<|dN<|dN<|dN<|ev (dH Y Y)<|dM Y
   | false=>
    refine wL g1 0 L9 K4 s0 Y<|bn Y (bf Y) Y<|bn Y (vS Y Y) Y<|ev (dL Y Y)<|dM Y
  refine dn<|bK Y (λlN=>?_) (λlN=>?_)
  ·refine iZ Y<|jf (fT (jg (fT (fT (jg (fT (zA Y ?_)))))))
   have eO:(false:Bool)=(CK l):=by symm; unfold CK; rw [hz,Ye bP,lN]; rfl
   exact⟨by rw [<- eO] <;> rfl,(K4.rm s0)⟩
  refine jm ?_;refine jy<|jT g1 0 L9 K4 s0 Y<|iI Y<|jA<|iE (gG ?_)
  refine jy<|ev (dO Y Y)<|mv Y<|jA<|dI ⟨(k+1),x1.Client,Y,Y,aj,by rw [hz,Ye bP,lN]; rfl,(K4.rm s0)⟩ rfl aj
 refine wE ?_;refine bQ Y<|ev (eU Bz Y)<|ev (vS Y Y)<|bU Y<|jc Y ?_
 have fQ:(decide (((l.length:Nat):Int)<=16):Bool)=(CK l):=by symm; unfold CK; rw [hz,Bj aj]; simp [Ht]; omega
 exact⟨by rw [fQ] <;> rfl,K1⟩
abbrev VJ:=(([]:List aY):List aY)
theorem zY(w:World){s:List aY}(mP:Sl bX S0 w vY uY s)(hn:s.length<=1000000) :
    bS prog 58 #[.slice vY s.length uY] w λv w'=>∃(A0:ah)(c0:Nat),v=.slice A0 s.length c0/\Hp w S0 w' [aS bX 102 A0 c0 s]:=by
 refine kP S0 func58 ntmps58 Y λH0=>iZ Y<|aW<|bQ Y<|ev (Ov Bz Y Y)<|dn<|bK Y (λhc4=>?_) (λhc4=>?_)
 ·refine iZ Y<|uX Y ?_
  have H1:=H0.nil bX 102;have eO:VJ=s:=by have h1:=mP.nil (by simpa using hc4); have h2:=mP.cap; exact(uE aj).symm
  have H2:=(eO▸H1:Hp w S0 w (aS bX 102 none 0 s::[]));exact⟨none,0,by rw [<- eO] <;> rfl,H2⟩
 refine jm ?_;refine rg<|bs0 (τ:=bX) (vs:=[]) Y (by intro _; apply aqL) rfl H0 λg1 w1 K1=>mv rfl<|ap (ys:=s) K1 s0 rfl rfl (K1.a mP).any Bz aqM av (by first | omega | (simp; omega) | (simp; done)) rfl λoL oM w2 K2=>bU rfl<|jc rfl ?_
 have fQ:((([]:List aY)++s):List aY)=s:=by simp
 rw [fQ] at K2;exact⟨oL,oM,by rw [fQ] <;> rfl,K2⟩
theorem Vh(w:World){s:List aY}(mP:Sl bX S0 w vY uY s)(target:Int)(KI:bF prog AA)(f:aY->Int->Int)(KJ:∀(w':World)(x:aY)(t:Int),Ext w w'->True->bS prog AA (([.agg #[aF x.Client,aF x.Seq,aF x.Answer],aF t]:List Value)++AX).toArray w' λv w''=>v=aF (f x t)/\Ext w' w'')(hn:s.length<=1000000) :
    bS prog 364 #[.slice vY s.length uY,aF target,.func (.func AA) #[] AX.toArray] w λv w'=>v=.tuple #[aF ((xZ (fun(y:aY)=>f y target) s:Nat):Int),.bool (x8 (fun(y:aY)=>f y target) s)]/\Hp w S0 w' []:=by
 refine kP S0 func364 ntmps364 Y λH0=>?_;have Qm:=mP.bH;refine rg<|iI Y<|bU Y<|bQ Y<|ev (eU Bz Y)<|bU Y<|bQ Y<|iI Y<|bU Y<|aW<|cB<|Lp H0 (λl0 rk mJ lJ wJ=>∃(i j:Nat),lJ=(9,aF ((i:Nat):Int))::(10,aF ((j:Nat):Int))::l0/\mJ=j - i/\(i<=j/\j<=s.length)/\(xZ (fun(y:aY)=>f y target) s=bsG (fun(y:aY)=>f y target) s (j - i+1) i j)/\Hp w S0 wJ rk) ⟨0,s.length,Y,Y,by exact⟨fJ _,kV _⟩,by rfl,H0⟩ rfl ?_
 rintro _ _ w1 ⟨i,j,rfl,rfl,hij,hbs,K1⟩;refine aW<|bQ Y<|mv Y<|ev (fC Y Y)<|dn<|mQ Y (λhc17=>?_) (λhc17=>?_)
 ·refine jm ?_;refine cB<|bQ Y<|mv Y<|ev (dO Y Y)<|ev (Bl (m:=i+j) qW.1 qW.2.1 qW.2.2 Y (wH aj))<|ev (Ev.ama (m:=i+j) Y Y)<|ev (Bl (m:=((i+j) / 2)) qX.1 qX.2.1 qX.2.2 Y (uL aj))<|bU Y<|bQ Y<|mv Y<|mv Y ?_
  obtain⟨x1,bP⟩:=bC (xs:=s) (i:=((i+j) / 2)) aj;refine ev (cu (i:=((i+j) / 2)) Bz Gx Y Y Y (aJ bP) ((K1.a mP).some_ bP))<|ev (gI Yf Y Y ((K1.a mP).fE bP))<|mv Y<|xK Y Y Y KI (KJ _ x1 target K1.ext trivial) Y ?_
  rintro _ w2 ⟨rfl,e2⟩;have K2:=K1.grow e2;refine ev (fC Y Y)<|dn<|mQ Y (λhc31=>?_) (λhc31=>?_)
  ·refine jy<|mv Y<|ev (dO Y Y)<|iI Y<|jA<|iE<|dI ⟨(((i+j) / 2)+1),j,Y,Y,aj,by first | exact hbs.trans (ac3 aj bP hc31) | exact hbs.trans (ac4 aj bP hc31),K2⟩ rfl aj
  refine jy<|mv Y<|iI Y<|jA<|iE<|dI ⟨i,((i+j) / 2),Y,Y,aj,by first | exact hbs.trans (ac3 aj bP hc31) | exact hbs.trans (ac4 aj bP hc31),K2⟩ rfl aj
 refine wE ?_;refine bQ Y<|mv Y<|mv Y<|ev (fC Y Y)<|mv Y<|oG 9 48 (x8 (fun(y:aY)=>f y target) s) ?_ ?_
 ·cases OX:decide (((i:Nat):Int)<((s.length:Nat):Int)) with
  | true=>
   have aj1:=gW OX;refine bn Y (bf Y) Y<|bn Y (bf Y) Y<|bn Y (bf Y) Y ?_
   obtain⟨x2,kZ⟩:=bC (xs:=s) (i:=i) aj;refine bn Y (cu (i:=i) Bz Gx Y Y Y (aJ kZ) ((K1.a mP).some_ kZ)) Y<|bn Y (gI Yf Y Y ((K1.a mP).fE kZ)) Y<|bn Y (bf Y) Y<|oh Y Y Y Y KI (KJ _ x2 target K1.ext trivial) Y ?_
   rintro _ w3 ⟨rfl,e3⟩;refine bn Y (iA Y Y) Y<|ev (dH Y Y)<|fU (t:=48) (u:=.bool (decide (f x2 target=0))) (v:=.bool (x8 (fun(y:aY)=>f y target) s)) Y (aR Value.bool (by have hl:=hbs.trans (NH aj); unfold x8; rw [hl,kZ]))<|jh rfl e3
  | false=>
   refine dN<|dN<|dN<|dN<|dN<|dN<|dN<|dN<|ev (dL Y Y)<|fU (t:=48) (u:=.bool false) (v:=.bool (x8 (fun(y:aY)=>f y target) s)) Y (aR Value.bool (by have hl:=hbs.trans (NH aj); unfold x8; rw [hl,yP (by have:=iJ OX; omega)])) ?_
   exact jh Y (pI _)
 intro w4 e4;have K4:=K1.grow e4;refine iI Y<|bU Y<|jc Y ?_
 have eO:(i:Nat)=(xZ (fun(y:aY)=>f y target) s):=by exact(hbs.trans (NH aj)).symm
 exact⟨by rw [<- eO] <;> rfl,K4⟩
theorem ang(w:World)(s:aY)(c:Int) :
    bS prog 365 #[.agg #[aF s.Client,aF s.Seq,aF s.Answer],aF c] w λv w'=>v=aF (bB s.Client c)/\Hp w S0 w' []:=by
 refine kP S0 func365 ntmps365 Y λH0=>rg<|bx Y Y H0 λg1 w1 K1=>bU Y<|rg<|jT g1 0 L9 K1 s0 Y<|mv Y<|mU K1 Y (nK (S0:=Any) _ s.Client c) λw2 K2=>bU Y<|jc Y ?_
 exact⟨Y,(K2.rm s0)⟩
theorem agb(w:World)(jo:Sl bX S0 w jl jk l)(bg:Int)(hn:l.length<=1000000) :
    bS prog 260 #[.slice jl l.length jk,aF bg] w λv w'=>v=.tuple #[aF ((xZ (fun(y:aY)=>bB y.Client bg) l:Nat):Int),.bool (x8 (fun(y:aY)=>bB y.Client bg) l)]/\Hp w S0 w' []:=by
 refine kP S0 func260 ntmps260 Y λH0=>rg<|iI Y<|bU Y<|bQ Y<|mv Y<|mU H0 Y (Vh _ (H0.a jo).any bg (AX:=[]) azD (fun(x:aY) (t:Int)=>bB x.Client t) (λw' x t e hm=>(ang (S0:=Any) w' x t).mono (by rintro _ _ ⟨rfl,fQ⟩; exact⟨rfl,fQ.ext⟩)) aj) λw1 K1=>xt rfl rfl<|xt rfl rfl<|iI rfl<|bU rfl<|jc rfl ?_
 exact⟨Y,K1⟩
theorem agc(w:World)(jo:Sl bX S0 w jl jk l)(bg:Int)(seq:Int)(hn:l.length<=1000000) :
    bS prog 169 #[.slice jl l.length jk,aF bg,aF seq] w λv w'=>v=.tuple #[aF ((iR l bg seq).1),.bool ((iR l bg seq).2.1),aF ((iR l bg seq).2.2)]/\Hp w S0 w' []:=by
 refine kP S0 func169 ntmps169 Y λH0=>rg<|iI Y<|iI Y<|bU Y<|aW<|bQ Y<|mU H0 Y (akB _ (H0.a jo).any) λw1 K1=>ev (iB Y)<|mv Y<|oG 6 21 ((!(CK l))||(!(Jl (⟨bg,seq,0⟩:aY)))) ?_ ?_
 ·cases Tc:(!(CK l)) with
  | true=>
   refine dN<|dN<|dN<|dN<|dN<|ev (dH Y Y)<|jh Y (pI _)
  | false=>
   refine bn Y (bf Y) Y<|bn Y (bf Y) Y<|bn Y (iY (vs:=[(0,aF bg),(1,aF seq)]) (cs:=[aF bg,aF seq,aF 0]) Y (by apply ac6)) rfl<|oh rfl rfl rfl rfl azC (akA (S0:=Any) _ (⟨bg,seq,0⟩:aY)) rfl ?_
   rintro _ w2 ⟨rfl,h2⟩;have K2:=K1.c0 h2;refine bn Y (iB Y) Y<|ev (dL Y Y)<|jh Y h2.ext
 intro w3 e3;have K3:=K1.grow e3;refine dn<|bK Y (λhc21=>?_) (λhc21=>?_)
 ·have hno:=hc21;refine rg<|iI Y<|iI Y<|bU Y<|uX Y ?_
  have eO:(0:Int)=((iR l bg seq).1):=by unfold iR; rw [aO hno]
  have fQ:(false:Bool)=((iR l bg seq).2.1):=by unfold iR; rw [aO hno]
  have jW:(1:Int)=((iR l bg seq).2.2):=by unfold iR; rw [aO hno]
  exact⟨by rw [<- eO,<- fQ,<- jW] <;> rfl,K3⟩
 have hok:¬ (!CK l||!Jl ⟨bg,seq,0⟩)=true:=by rw [hc21]; decide
 have hsm:CK l=true:=by simpa using (dX.1 hc21).1
 refine jm ?_;refine rg<|al af8 Y K3 λg1 w4 K4=>dn<|aW<|bQ Y<|mv Y<|mU K4 Y (agb _ (K4.a jo).any bg aj) λw5 K5=>mv Y<|xt Y Y<|xt Y Y<|iI Y<|bU Y<|bQ Y<|dn<|bK Y (λhc28=>?_) (λhc28=>?_)
 ·obtain⟨xb,hxb,hkb⟩:=zX hc28;have Xd:=aJ hxb;refine jy<|mv Y<|mv Y ?_
  obtain⟨x1,bP⟩:=bC (xs:=l) (i:=xZ (fun(y:aY)=>bB y.Client bg) l) aj;refine ev (cu (i:=xZ (fun(y:aY)=>bB y.Client bg) l) Bz Gx Y Y Y (aJ bP) ((K5.a jo).some_ bP))<|ev (gI Yf Y Y ((K5.a jo).fE bP))<|sty Y K5 s0 Y λw6 K6=>jA<|gG<|aW<|cB ?_
  have hfs:=TV hc28 bP;have hsq:=aa5 (bg:=bg) hsm;rw [hfs] at hsq;refine bQ Y<|jT g1 1 BZ K6 s0 Y<|ev (fC Y Y)<|bU Y<|bK Y (λYg=>?_) (λYg=>?_)
  ·replace Yg:=gW Yg;refine rg<|iI Y<|iI Y<|bU Y<|Ox Y ?_
   have mH:(0:Int)=((iR l bg seq).1):=by unfold iR; rw [aK hok,hfs,aO aj]
   have rR:(false:Bool)=((iR l bg seq).2.1):=by unfold iR; rw [aK hok,hfs,aO aj]
   have wM:(9:Int)=((iR l bg seq).2.2):=by unfold iR; rw [aK hok,hfs,aO aj]
   exact⟨by rw [<- mH,<- rR,<- wM] <;> rfl,(K6.rm s0)⟩
  replace Yg:=iJ Yg;refine bQ Y<|jT g1 1 BZ K6 s0 Y<|ev (iA Y Y)<|bU Y<|bK Y (λhc38=>?_) (λhc38=>?_)
  ·replace hc38:=gW hc38;refine rg<|jT g1 2 af9 K6 s0 Y<|iI Y<|iI Y<|bU Y<|Ox Y ?_
   have zk:(x1.Answer:Int)=((iR l bg seq).1):=by unfold iR; rw [aK hok,hfs,aK aj,aO aj]
   have hq8:(true:Bool)=((iR l bg seq).2.1):=by unfold iR; rw [aK hok,hfs,aK aj,aO aj]
   have AJ:(0:Int)=((iR l bg seq).2.2):=by unfold iR; rw [aK hok,hfs,aK aj,aO aj]
   exact⟨by rw [zk,<- hq8,<- AJ] <;> rfl,(K6.rm s0)⟩
  replace hc38:=iJ hc38;refine bQ Y<|jT g1 1 BZ K6 s0 Y<|ev (dO Y Y)<|ev (pV Y Y)<|bU Y<|bK Y (λCm=>?_) (λCm=>?_)
  ·replace Cm:=gW Cm;refine rg<|iI Y<|iI Y<|bU Y<|Ox Y ?_
   have r9:(0:Int)=((iR l bg seq).1):=by unfold iR; rw [aK hok,hfs,aK aj,aK aj,aO aj]
   have hq11:(false:Bool)=((iR l bg seq).2.1):=by unfold iR; rw [aK hok,hfs,aK aj,aK aj,aO aj]
   have hq12:(10:Int)=((iR l bg seq).2.2):=by unfold iR; rw [aK hok,hfs,aK aj,aK aj,aO aj]
   exact⟨by rw [<- r9,<- hq11,<- hq12] <;> rfl,(K6.rm s0)⟩
  replace Cm:=iJ Cm;refine xQ ?_;refine rg<|iI Y<|iI Y<|bU Y<|jc Y ?_
  have TG:(0:Int)=((iR l bg seq).1):=by unfold iR; rw [aK hok,hfs,aK aj,aK aj,aK aj]
  have TH:(false:Bool)=((iR l bg seq).2.1):=by unfold iR; rw [aK hok,hfs,aK aj,aK aj,aK aj]
  have Z5:(0:Int)=((iR l bg seq).2.2):=by unfold iR; rw [aK hok,hfs,aK aj,aK aj,aK aj]
  exact⟨by rw [<- TG,<- TH,<- Z5] <;> rfl,(K6.rm s0)⟩
 refine jm ?_;refine aW<|cB ?_
 have hfs:=af7 hc28;have hsq:=aa5 (bg:=bg) hsm;rw [hfs] at hsq;refine bQ Y<|jT g1 1 BZ K5 s0 Y<|ev (fC Y Y)<|bU Y<|bK Y (λYg=>?_) (λYg=>?_)
 ·replace Yg:=gW Yg;refine rg<|iI Y<|iI Y<|bU Y<|Ox Y ?_
  have Xv:(0:Int)=((iR l bg seq).1):=by unfold iR; rw [aK hok,hfs,aO aj]
  have Xw:(false:Bool)=((iR l bg seq).2.1):=by unfold iR; rw [aK hok,hfs,aO aj]
  have Xx:(9:Int)=((iR l bg seq).2.2):=by unfold iR; rw [aK hok,hfs,aO aj]
  exact⟨by rw [<- Xv,<- Xw,<- Xx] <;> rfl,(K5.rm s0)⟩
 replace Yg:=iJ Yg;refine bQ Y<|jT g1 1 BZ K5 s0 Y<|ev (iA Y Y)<|bU Y<|bK Y (λhc38=>?_) (λhc38=>?_)
 ·replace hc38:=gW hc38;refine rg<|jT g1 2 af9 K5 s0 Y<|iI Y<|iI Y<|bU Y<|Ox Y ?_
  have TI:(0:Int)=((iR l bg seq).1):=by unfold iR; rw [aK hok,hfs,aK aj,aO aj]
  have amO:(true:Bool)=((iR l bg seq).2.1):=by unfold iR; rw [aK hok,hfs,aK aj,aO aj]
  have aiC:(0:Int)=((iR l bg seq).2.2):=by unfold iR; rw [aK hok,hfs,aK aj,aO aj]
  exact⟨by rw [<- TI,<- amO,<- aiC] <;> rfl,(K5.rm s0)⟩
 replace hc38:=iJ hc38;refine bQ Y<|jT g1 1 BZ K5 s0 Y<|ev (dO Y Y)<|ev (pV Y Y)<|bU Y<|bK Y (λCm=>?_) (λCm=>?_)
 ·replace Cm:=gW Cm;refine rg<|iI Y<|iI Y<|bU Y<|Ox Y ?_
  have aiD:(0:Int)=((iR l bg seq).1):=by unfold iR; rw [aK hok,hfs,aK aj,aK aj,aO aj]
  have aiE:(false:Bool)=((iR l bg seq).2.1):=by unfold iR; rw [aK hok,hfs,aK aj,aK aj,aO aj]
  have aiF:(10:Int)=((iR l bg seq).2.2):=by unfold iR; rw [aK hok,hfs,aK aj,aK aj,aO aj]
  exact⟨by rw [<- aiD,<- aiE,<- aiF] <;> rfl,(K5.rm s0)⟩
 replace Cm:=iJ Cm;refine xQ ?_;refine rg<|iI Y<|iI Y<|bU Y<|jc Y ?_
 have amP:(0:Int)=((iR l bg seq).1):=by unfold iR; rw [aK hok,hfs,aK aj,aK aj,aK aj]
 have aiG:(false:Bool)=((iR l bg seq).2.1):=by unfold iR; rw [aK hok,hfs,aK aj,aK aj,aK aj]
 have aiH:(0:Int)=((iR l bg seq).2.2):=by unfold iR; rw [aK hok,hfs,aK aj,aK aj,aK aj]
 exact⟨by rw [<- amP,<- aiG,<- aiH] <;> rfl,(K5.rm s0)⟩
theorem avj:ab7 261 366 367 43 102 3 24 Tryz.f261.name:=⟨func261.trans (aR some ak),⟨_,func366,ak,ak,ak,ak⟩,Bz,iQ,Gx,ak,aqM,azF⟩
def aag:=@OY _ _ _ _ _ _ _ _ bX avj
theorem akC(w:World)(jo:Sl bX S0 w jl jk l)(bg:Int)(seq:Int)(answer:Int)(hn:l.length<=100000) :
    bS prog 170 #[.slice jl l.length jk,aF bg,aF seq,aF answer] w λv w'=>∃(A0:ah)(c0:Nat),v=.tuple #[.slice A0 (((qj l bg seq answer).1).length) c0,aF ((qj l bg seq answer).2)]/\Hp w S0 w' [aS bX 102 A0 c0 ((qj l bg seq answer).1)]:=by
 refine kP S0 func170 ntmps170 Y λH0=>?_;have EY:=jo.bH;have hle:=aqK (fun(y:aY)=>bB y.Client bg) l;refine rg<|iI Y<|bU Y<|bQ Y<|mv Y<|mv Y<|mU H0 Y (agc _ (H0.a jo).any bg seq aj) λw1 K1=>mv Y<|xt Y Y<|xt Y Y<|xt Y Y<|iI Y<|iI Y<|bU Y<|bQ Y<|mv Y<|mU K1 Y (agb _ (K1.a jo).any bg aj) λw2 K2=>mv Y<|xt Y Y<|xt Y Y<|iI Y<|bU Y<|aW<|cB<|bQ Y<|ev (nQ Y Y)<|bU Y ?_
 refine bK Y (λJm=>?_) (λJm=>?_)
 ·replace Jm:=oQ Jm;refine bQ Y<|iI Y<|bU Y<|Ox Y ?_
  have H1:=K2.nil bX 102;have eO:VJ=((qj l bg seq answer).1):=by unfold qj; rw [aO Jm]
  have H2:=(eO▸H1:Hp w S0 w2 (aS bX 102 none 0 ((qj l bg seq answer).1)::[]));have fQ:((iR l bg seq).2.2:Int)=((qj l bg seq answer).2):=by unfold qj; rw [aO Jm]
  exact⟨none,0,by rw [fQ,<- eO] <;> rfl,H2⟩
 replace Jm:=oU Jm;refine bQ Y<|bU Y<|bK Y (λhc34=>?_) (λhc34=>?_)
 ·refine rg<|iI Y<|bU Y<|Ox Y ?_
  have H3:=K2.nil bX 102;have jW:VJ=((qj l bg seq answer).1):=by unfold qj; rw [aK aj,aO hc34]
  have H4:=(jW▸H3:Hp w S0 w2 (aS bX 102 none 0 ((qj l bg seq answer).1)::[]));have mH:(6:Int)=((qj l bg seq answer).2):=by unfold qj; rw [aK aj,aO hc34]
  exact⟨none,0,by rw [<- jW,<- mH] <;> rfl,H4⟩
 refine bQ Y<|ev (iB Y)<|mv Y<|iP 4 43 ((!(x8 (fun(y:aY)=>bB y.Client bg) l))&&(decide (16<=((l.length:Nat):Int)))) ?_ ?_
 ·cases OX:(!(x8 (fun(y:aY)=>bB y.Client bg) l)) with
  | true=>
   refine bn Y (bf Y) Y<|bn Y (eU Bz Y) Y<|bn Y (qK Y Y) Y<|ev (dH Y Y)<|dM Y
  | false=>
   refine dN<|dN<|dN<|ev (dL Y Y)<|dM Y
 refine bU Y<|bK Y (λO8=>?_) (λO8=>?_)
 ·try simp only [fq,dX,bN,eH,eG,fP,bO,bV] at O8
  refine rg<|iI Y<|bU Y<|Ox Y ?_
  have H5:=K2.nil bX 102;have rR:VJ=((qj l bg seq answer).1):=by unfold qj; rw [aK aj,aK (by rw [hc34]; decide),aO (by obtain⟨p,q⟩:=O8; exact⟨p,aj⟩)]
  have H6:=(rR▸H5:Hp w S0 w2 (aS bX 102 none 0 ((qj l bg seq answer).1)::[]));have wM:(7:Int)=((qj l bg seq answer).2):=by unfold qj; rw [aK aj,aK (by rw [hc34]; decide),aO (by obtain⟨p,q⟩:=O8; exact⟨p,aj⟩)]
  exact⟨none,0,by rw [<- rR,<- wM] <;> rfl,H6⟩
 try simp only [fq,dX,bN,eH,eG,fP,bO,bV] at O8
 refine xQ ?_;have hfull:¬ (x8 (fun(y:aY)=>bB y.Client bg) l=false/\16<=l.length):=by rintro⟨h1,h2⟩; simp_all; omega
 refine bQ Y<|gX Y (zY _ (K2.a jo).any aj) ?_
 rintro _ w3 ⟨nR,nS,rfl,h3⟩;have K3:=K2.f1 h3;refine bU Y<|aW<|bQ Y<|ev (iB Y)<|dn<|bK Y (λhc47=>?_) (λhc47=>?_)
 ·try simp only [fq,dX,bN,eH,eG,fP,bO,bV] at hc47
  refine jy<|mv Y<|mv Y<|ev (iY (vs:=[]) (cs:=[aF 0,aF 0,aF 0]) Y (by apply avi))<|Az (τ:=bX) (x:=(⟨0,0,0⟩:aY)) rfl (by intro _; apply aga) rfl K3 (λ_ _=>rfl) λg1 w4 K4=>gX rfl (aag (i:=xZ (fun(y:aY)=>bB y.Client bg) l) K4 s1 s0 aj aj) ?_
  rintro _ w5 ⟨oL,oM,rfl,K5⟩;refine iI Y<|jA<|gG<|bQ Y<|mv Y<|mv Y<|mv Y<|mv Y<|ev (iY (vs:=[(0,aF bg),(1,aF seq),(2,aF answer)]) (cs:=[aF bg,aF seq,aF answer]) Y (by apply Kv)) ?_
  obtain⟨x1,bP⟩:=bC (xs:=(l.take (xZ (fun(y:aY)=>bB y.Client bg) l)++[(⟨0,0,0⟩:aY)]++l.drop (xZ (fun(y:aY)=>bB y.Client bg) l))) (i:=xZ (fun(y:aY)=>bB y.Client bg) l) (by simp only [jd,fO,kW,pF,rH]; omega);refine ev (cu (i:=xZ (fun(y:aY)=>bB y.Client bg) l) Bz Gx Y Y Y (aJ bP) ((K5.o s0).some_ bP))<|se (i:=xZ (fun(y:aY)=>bB y.Client bg) l) (f:=0) (x:=x1) (x':=(⟨bg,seq,answer⟩:aY)) (ds:=[aF bg,aF seq,aF answer]) K5 s0 Y Y Y bP Y Gx (pU Y) Y (by rintro _ _ _ ⟨⟩; rfl) λw6 K6=>?_
  have hl1:((l.take (xZ (fun(y:aY)=>bB y.Client bg) l)++[(⟨0,0,0⟩:aY)]++l.drop (xZ (fun(y:aY)=>bB y.Client bg) l)).set (xZ (fun(y:aY)=>bB y.Client bg) l) (⟨bg,seq,answer⟩:aY)).length=(l.take (xZ (fun(y:aY)=>bB y.Client bg) l)++[(⟨0,0,0⟩:aY)]++l.drop (xZ (fun(y:aY)=>bB y.Client bg) l)).length:=gJ ..;refine fU (t:=15) (u:=.slice oL ((l.take (xZ (fun(y:aY)=>bB y.Client bg) l)++[(⟨0,0,0⟩:aY)]++l.drop (xZ (fun(y:aY)=>bB y.Client bg) l)).length) oM) (v:=.slice oL (((l.take (xZ (fun(y:aY)=>bB y.Client bg) l)++[(⟨0,0,0⟩:aY)]++l.drop (xZ (fun(y:aY)=>bB y.Client bg) l)).set (xZ (fun(y:aY)=>bB y.Client bg) l) (⟨bg,seq,answer⟩:aY)).length) oM) Y (by rw [hl1])<|fU (t:=52) (u:=.slice oL ((l.take (xZ (fun(y:aY)=>bB y.Client bg) l)++[(⟨0,0,0⟩:aY)]++l.drop (xZ (fun(y:aY)=>bB y.Client bg) l)).length) oM) (v:=.slice oL (((l.take (xZ (fun(y:aY)=>bB y.Client bg) l)++[(⟨0,0,0⟩:aY)]++l.drop (xZ (fun(y:aY)=>bB y.Client bg) l)).set (xZ (fun(y:aY)=>bB y.Client bg) l) (⟨bg,seq,answer⟩:aY)).length) oM) rfl (by rw [hl1])<|fU (t:=53) (u:=.slice oL ((l.take (xZ (fun(y:aY)=>bB y.Client bg) l)++[(⟨0,0,0⟩:aY)]++l.drop (xZ (fun(y:aY)=>bB y.Client bg) l)).length) oM) (v:=.slice oL (((l.take (xZ (fun(y:aY)=>bB y.Client bg) l)++[(⟨0,0,0⟩:aY)]++l.drop (xZ (fun(y:aY)=>bB y.Client bg) l)).set (xZ (fun(y:aY)=>bB y.Client bg) l) (⟨bg,seq,answer⟩:aY)).length) oM) rfl (by rw [hl1]) ?_
  have kZ:((l.take (xZ (fun(y:aY)=>bB y.Client bg) l)++[(⟨0,0,0⟩:aY)]++l.drop (xZ (fun(y:aY)=>bB y.Client bg) l)).set (xZ (fun(y:aY)=>bB y.Client bg) l) (⟨bg,seq,answer⟩:aY))[xZ (fun(y:aY)=>bB y.Client bg) l]? = some (⟨bg,seq,answer⟩:aY):=qb (aJ bP);refine dn<|OQ [(15,.slice oL (((l.take (xZ (fun(y:aY)=>bB y.Client bg) l)++[(⟨0,0,0⟩:aY)]++l.drop (xZ (fun(y:aY)=>bB y.Client bg) l)).set (xZ (fun(y:aY)=>bB y.Client bg) l) (⟨bg,seq,answer⟩:aY)).length) oM)] Y<|bQ Y<|iI Y<|bU Y<|jc Y ?_
  have zk:(((l.take (xZ (fun(y:aY)=>bB y.Client bg) l)++[(⟨0,0,0⟩:aY)]++l.drop (xZ (fun(y:aY)=>bB y.Client bg) l)).set (xZ (fun(y:aY)=>bB y.Client bg) l) (⟨bg,seq,answer⟩:aY)):List aY)=((qj l bg seq answer).1):=by unfold qj; rw [aK aj,aK (by rw [hc34]; decide),aK hfull,aK (by rw [hc47]; decide)]
  rw [zk] at K6;have hq8:(0:Int)=((qj l bg seq answer).2):=by unfold qj; rw [aK aj,aK (by rw [hc34]; decide),aK hfull]
  exact⟨oL,oM,by rw [zk,<- hq8] <;> rfl,K6⟩
 try simp only [fq,dX,bN,eH,eG,fP,bO,bV] at hc47
 obtain⟨xb,hxb,hkb⟩:=zX hc47;have Xd:=aJ hxb;refine jm ?_;refine bQ Y<|mv Y<|mv Y<|mv Y<|mv Y<|ev (iY (vs:=[(0,aF bg),(1,aF seq),(2,aF answer)]) (cs:=[aF bg,aF seq,aF answer]) Y (by apply Kv)) ?_
 obtain⟨x2,hx3⟩:=bC (xs:=l) (i:=xZ (fun(y:aY)=>bB y.Client bg) l) aj;refine ev (cu (i:=xZ (fun(y:aY)=>bB y.Client bg) l) Bz Gx Y Y Y (aJ hx3) ((K3.o s0).some_ hx3))<|se (i:=xZ (fun(y:aY)=>bB y.Client bg) l) (f:=0) (x:=x2) (x':=(⟨bg,seq,answer⟩:aY)) (ds:=[aF bg,aF seq,aF answer]) K3 s0 Y Y Y hx3 Y Gx (pU Y) Y (by rintro _ _ _ ⟨⟩; rfl) λw7 K7=>?_
 have hl2:(l.set (xZ (fun(y:aY)=>bB y.Client bg) l) (⟨bg,seq,answer⟩:aY)).length=l.length:=gJ ..;refine fU (t:=45) (u:=.slice nR l.length nS) (v:=.slice nR ((l.set (xZ (fun(y:aY)=>bB y.Client bg) l) (⟨bg,seq,answer⟩:aY)).length) nS) Y (by rw [hl2])<|fU (t:=15) (u:=.slice nR l.length nS) (v:=.slice nR ((l.set (xZ (fun(y:aY)=>bB y.Client bg) l) (⟨bg,seq,answer⟩:aY)).length) nS) rfl (by rw [hl2])<|fU (t:=53) (u:=.slice nR l.length nS) (v:=.slice nR ((l.set (xZ (fun(y:aY)=>bB y.Client bg) l) (⟨bg,seq,answer⟩:aY)).length) nS) rfl (by rw [hl2]) ?_
 refine dn<|OQ [(15,.slice nR ((l.set (xZ (fun(y:aY)=>bB y.Client bg) l) (⟨bg,seq,answer⟩:aY)).length) nS)] Y<|bQ Y<|iI Y<|bU Y<|jc Y ?_
 have AJ:((l.set (xZ (fun(y:aY)=>bB y.Client bg) l) (⟨bg,seq,answer⟩:aY)):List aY)=((qj l bg seq answer).1):=by unfold qj; rw [aK aj,aK (by rw [hc34]; decide),aK hfull,aO hc47]
 rw [AJ] at K7;have r9:(0:Int)=((qj l bg seq answer).2):=by unfold qj; rw [aK aj,aK (by rw [hc34]; decide),aK hfull]
 exact⟨nR,nS,by rw [AJ,<- r9] <;> rfl,K7⟩
def kI(l:List aV)(id:Int):Bool:=jU l id&&!decide ((gU l id).gP=2)
def mD(m:dF):Bool:=((uy m.aT&&kR m.aA)&&CK m.aP)&&!m.aA.any (fun(c:aH)=>c.aD.any (fun(id:Int)=>!kI m.aT id))
theorem VK(f:α->Bool)(s:List α):decide (0<=idxOf f s)=s.any f:=by
  rw [ab0]
  simp only [bO,Ed]
  rcases vT f s with ⟨h1,h2⟩ | ⟨k,x,h1,h2,h3,h4⟩
  · rw [h1]
    constructor
    · intro h; omega
    · rintro⟨x,hx,hf⟩; rw [h2 x hx] at hf; cases hf
  · rw [h1]
    constructor
    · intro _; exact⟨x,bT h2,h3⟩
    · intro _; omega
theorem azG:bF prog 252:=ay
theorem azH:bF prog 251:=ay
theorem Dv:eu prog 45 2 2:=ay
theorem azI:bF prog 253:=ay
theorem azJ:bF prog 256:=ay
theorem aa6(w:World){l:List aV}(jo:Sl cZ S0 w jl jk l)(id:Int)(hn:l.length<=100000) :
    bS prog 252 #[.slice jl l.length jk,aF id] w λv w'=>v=.bool (kI l id)/\Hp w S0 w' []:=by
 refine kP S0 func252 ntmps252 Y λH0=>iZ Y<|bQ Y<|mv Y<|mU H0 Y (Eo _ (H0.a jo).any id aj) λw1 K1=>mv Y<|xt Y Y<|xt Y Y<|al tJ Y K1 λg1 w2 K2=>sty Y K2 s0 Y λw3 K3=>bU Y<|bQ Y<|mv Y<|iP 4 18 ((jU l id)&&(!decide ((gU l id).gP=2))) ?_ ?_
 ·cases aHe:jU l id with
  | true=>
   refine wL g1 3 zS K3 s0 Y<|bn Y (nQ Y Y) Y<|ev (dH Y Y)<|dM Y
  | false=>
   refine dN<|dN<|dN<|ev (dL Y Y)<|dM Y
 refine bU Y<|jc Y ?_
 have eO:(((jU l id)&&(!decide ((gU l id).gP=2))):Bool)=(kI l id):=by rfl
 exact⟨by rw [eO] <;> rfl,(K3.rm s0)⟩
theorem Po(w:World){s:List Int}(mP:Sl dQ S0 w vY uY s)(KI:bF prog AA)(f:Int->Bool)(KJ:∀(w':World)(x:Int),Ext w w'->x∈s->bS prog AA (([aF x]:List Value)++AX).toArray w' λv w''=>v=.bool (f x)/\Ext w' w'') :
    bS prog 254 #[.slice vY s.length uY,.func (.func AA) #[] AX.toArray] w λv w'=>v=.bool (s.any f)/\Hp w S0 w' []:=by
 refine kP S0 func254 ntmps254 Y λH0=>iZ Y<|bQ Y<|mv Y<|mU H0 Y (J7 _ (H0.a mP).any KI f (λw' x e hm=>KJ w' x (H0.ext.trans e) hm)) λw1 K1=>ev (qK Y Y)<|bU Y<|jc Y ?_
 have eO:(decide (0<=idxOf f s):Bool)=(s.any f):=by exact VK f s
 exact⟨by rw [eO] <;> rfl,K1⟩
theorem aqN(w:World)(id:Int){g_m:Nat}(m:dF)(h_m:Bx w g_m 45 [.slice vR m.aT.length vJ,.slice vk m.aA.length uU,.slice uh m.aP.length tq])(Jj:Sl cZ S0 w vR vJ m.aT)(KE:Sl bJ S0 w vk uU m.aA)(Rb:Sl bX S0 w uh tq m.aP)(hn:m.aT.length<=100000) :
    bS prog 251 #[aF id,gD g_m] w λv w'=>v=.bool (!kI m.aT id)/\Hp w S0 w' []:=by
 refine kP S0 func251 ntmps251 Y λH0=>iZ Y<|rg<|yA g_m 0 pY Y<|ev (dx aff Y (h_m.ext H0.ext) Y)<|mv Y<|mU H0 Y (aa6 _ (H0.a Jj).any id aj) λw1 K1=>ev (iB Y)<|bU Y<|jc Y ?_
 have eO:((!(kI m.aT id)):Bool)=(!kI m.aT id):=by first | with_reducible rfl | (simp; done) | omega
 exact⟨by rw [eO] <;> rfl,K1⟩
theorem aqO(w:World)(c:aH){BO:ah}{Bq:Nat}(GZ:Sl dQ S0 w BO Bq c.aD){g_m:Nat}(m:dF)(h_m:Bx w g_m 45 [.slice vR m.aT.length vJ,.slice vk m.aA.length uU,.slice uh m.aP.length tq])(Jj:Sl cZ S0 w vR vJ m.aT)(KE:Sl bJ S0 w vk uU m.aA)(Rb:Sl bX S0 w uh tq m.aP){aqP:Nat}(azK:Bx w aqP 80 [.func (.func 251) #[] #[gD g_m]])(hn:m.aT.length<=100000) :
    bS prog 253 #[.agg #[aF c.ID,aF c.aB,gK c.Sum,.slice BO c.aD.length Bq],gD aqP] w λv w'=>v=.bool (c.aD.any (fun(id:Int)=>!kI m.aT id))/\Hp w S0 w' []:=by
 refine kP S0 func253 ntmps253 Y λH0=>rg<|bx Y Y H0 λg1 w1 K1=>bU Y<|rg<|jT g1 3 j5 K1 s0 Y<|ev (dx aaS Y (azK.ext K1.ext) Y)<|mU K1 Y (Po _ (K1.a GZ).any (AX:=[gD g_m]) azH (fun(x:Int)=>!kI m.aT x) (λw' x e hm=>(aqN w' x m ((h_m.ext K1.ext).ext e) ((K1.a Jj).any.ext e) ((K1.a KE).any.ext e) ((K1.a Rb).any.ext e) aj).mono (by rintro _ _ ⟨rfl,fQ⟩; exact⟨rfl,fQ.ext⟩))) λw2 K2=>bU rfl<|jc rfl ?_
 have eO:(c.aD.any (fun(x:Int)=>!kI m.aT x):Bool)=(c.aD.any (fun(id:Int)=>!kI m.aT id)):=by first | with_reducible rfl | (simp; done) | omega
 exact⟨by rw [eO] <;> rfl,(K2.rm s0)⟩
theorem Ri(w:World){s:List aH}(mP:Sl bJ S0 w vY uY s)(KI:bF prog AA)(f:aH->Bool)(KJ:∀(w':World)(x:aH){ae2:ah}{ae3:Nat}(ae4:Sl dQ Any w' ae2 ae3 x.aD),Ext w w'->x∈s->bS prog AA (([.agg #[aF x.ID,aF x.aB,gK x.Sum,.slice ae2 x.aD.length ae3]]:List Value)++AX).toArray w' λv w''=>v=.bool (f x)/\Ext w' w'') :
    bS prog 344 #[.slice vY s.length uY,.func (.func AA) #[] AX.toArray] w λv w'=>v=aF (idxOf f s)/\Hp w S0 w' []:=by
 refine kP S0 func344 ntmps344 Y λH0=>?_;have Qm:=mP.bH;refine iZ Y<|aW<|bQ Y<|ev (eU iN Y)<|mv Y<|dn<|cB<|Lp H0 (λl0 rk mJ lJ wJ=>∃(k:Nat),lJ=(8,aF ((k:Nat):Int))::l0/\mJ=s.length - k/\k<=s.length/\(∀ y∈s.take k,f y=false)/\Hp w S0 wJ rk) ⟨0,Y,Y,fJ _,av,H0⟩ rfl ?_
 rintro _ _ w1 ⟨k,rfl,rfl,hk,hno,K1⟩;refine rg<|ev (fC Y Y)<|dn<|pQ Y (λER=>?_) (λER=>?_)
 ·refine jm ?_;refine aW<|cB<|bQ Y<|bU Y<|bQ Y<|mv Y<|mv Y ?_
  obtain⟨x1,bP⟩:=bC (xs:=s) (i:=k) aj;refine ev (cu (i:=k) iN o9 Y Y Y (aJ bP) ((K1.a mP).some_ bP)) ?_;obtain⟨B1,d1,zP,hi1⟩:=uP (mP.row bP);refine ev (gI (cs:=[aF x1.ID,aF x1.aB,gK x1.Sum,.slice B1 x1.aD.length d1]) qw Y Y (GV (λj u hu=>K1.ext.cell (zP j u hu))))<|xK Y Y Y KI (KJ _ x1 (K1.a hi1).any K1.ext (bT bP)) Y ?_
  rintro _ w2 ⟨rfl,e2⟩;have K2:=K1.grow e2;refine dn<|bK Y (λhc16=>?_) (λhc16=>?_)
  ·refine bQ Y<|bU Y<|jf (jg (fT (fT (jg (fT (zA Y ?_))))))
   have eO:(((k:Nat):Int):Int)=(idxOf f s):=by exact(rX hno bP hc16).symm
   exact⟨by rw [eO] <;> rfl,K2⟩
  refine xQ ?_;refine jy<|ev (dO Y Y)<|mv Y<|jA<|dI ⟨(k+1),Y,Y,aj,by exact pJ (q:=λy=>f y=false) hno bP hc16,K2⟩ rfl aj
 refine wE ?_;refine iZ Y<|jc Y ?_
 have fQ:((-1):Int)=(idxOf f s):=by exact(uK (vU hno aj)).symm
 exact⟨by rw [<- fQ] <;> rfl,K1⟩
theorem Mc(w:World){s:List aH}(mP:Sl bJ S0 w vY uY s)(KI:bF prog AA)(f:aH->Bool)(KJ:∀(w':World)(x:aH){ae2:ah}{ae3:Nat}(ae4:Sl dQ Any w' ae2 ae3 x.aD),Ext w w'->x∈s->bS prog AA (([.agg #[aF x.ID,aF x.aB,gK x.Sum,.slice ae2 x.aD.length ae3]]:List Value)++AX).toArray w' λv w''=>v=.bool (f x)/\Ext w' w'') :
    bS prog 256 #[.slice vY s.length uY,.func (.func AA) #[] AX.toArray] w λv w'=>v=.bool (s.any f)/\Hp w S0 w' []:=by
 refine kP S0 func256 ntmps256 Y λH0=>iZ Y<|bQ Y<|mv Y<|mU H0 Y (Ri _ (H0.a mP).any KI f (λw' x=>λae4 e hm=>KJ w' x ae4 (H0.ext.trans e) hm)) λw1 K1=>ev (qK Y Y)<|bU Y<|jc Y ?_
 have eO:(decide (0<=idxOf f s):Bool)=(s.any f):=by exact VK f s
 exact⟨by rw [eO] <;> rfl,K1⟩
theorem avk(w:World)(m:dF)(Jj:Sl cZ S0 w vR vJ m.aT)(KE:Sl bJ S0 w vk uU m.aA)(Rb:Sl bX S0 w uh tq m.aP)(hn:m.aT.length<=100000)(hc:m.aA.length<=100000) :
    bS prog 167 #[.agg #[.slice vR m.aT.length vJ,.slice vk m.aA.length uU,.slice uh m.aP.length tq]] w λv w'=>v=.bool (mD m)/\Hp w S0 w' []:=by
 refine kP S0 func167 ntmps167 Y λH0=>rg<|bx Y Y H0 λg1 w1 K1=>bU Y<|rg<|ev (rW Y)<|al akp Y K1 λg2 w2 K2=>xP Y K2 s0 Y λw3 K3=>dn<|rg<|ev (rW Y)<|bU Y<|rg<|jT g1 0 pY K3 s1 Y<|mU K3 Y (Vv _ (K3.a Jj).any) λw4 K4=>mv Y<|oG 4 14 ((uy m.aT)&&(kR m.aA)) ?_ ?_
 ·cases aB4:uy m.aT with
  | true=>
   refine wL g1 1 jE K4 s1 Y<|oh Y Y Y Y apb (Nq _ (K4.a KE).any aj) Y ?_
   rintro _ w5 ⟨rfl,h5⟩;refine ev (dH Y Y)<|jh Y h5.ext
  | false=>
   refine dN<|dN<|dN<|ev (dL Y Y)<|jh Y (pI _)
 intro w6 e6;have K6:=K4.grow e6;refine mv Y<|oG 4 19 (((uy m.aT)&&(kR m.aA))&&(CK m.aP)) ?_ ?_
 ·cases Tc:((uy m.aT)&&(kR m.aA)) with
  | true=>
   have aks:=Tc
   try simp only [bN,eH,bO,bV] at aks
   refine wL g1 2 Dv K6 s1 Y<|oh Y Y Y Y azE (akB _ (K6.a Rb).any) Y ?_
   rintro _ w7 ⟨rfl,h7⟩;refine ev (dH Y Y)<|jh Y h7.ext
  | false=>
   refine dN<|dN<|dN<|ev (dL Y Y)<|jh Y (pI _)
 intro w8 e8;have K8:=K6.grow e8;refine mv Y<|oG 6 26 ((((uy m.aT)&&(kR m.aA))&&(CK m.aP))&&(!(m.aA.any (fun(x:aH)=>x.aD.any (fun(id:Int)=>!kI m.aT id))))) ?_ ?_
 ·cases ab6:(((uy m.aT)&&(kR m.aA))&&(CK m.aP)) with
  | true=>
   have ae0:=ab6
   try simp only [bN,eH,bO,bV] at ae0
   refine wL g1 1 jE K8 s1 Y<|bn Y (bf Y) Y<|oh Y Y Y Y azJ (Mc _ (K8.a KE).any (AX:=[gD g2]) azI (fun(x:aH)=>x.aD.any (fun(id:Int)=>!kI m.aT id)) (λw' x=>λae4 e hm=>(aqO w' x ae4 m ((K8.x s1).ext e) ((K8.a Jj).any.ext e) ((K8.a KE).any.ext e) ((K8.a Rb).any.ext e) ((K8.x s0).ext e) aj).mono (by rintro _ _ ⟨rfl,fQ⟩; exact⟨rfl,fQ.ext⟩))) rfl ?_
   rintro _ w9 ⟨rfl,h9⟩;refine bn Y (iB Y) Y<|ev (dH Y Y)<|jh Y h9.ext
  | false=>
   refine dN<|dN<|dN<|dN<|dN<|ev (dL Y Y)<|jh Y (pI _)
 intro Oz e10;have K10:=K8.grow e10;refine bU Y<|jc Y ?_
 have eO:(((((uy m.aT)&&(kR m.aA))&&(CK m.aP))&&(!(m.aA.any (fun(x:aH)=>x.aD.any (fun(id:Int)=>!kI m.aT id))))):Bool)=(mD m):=by rfl
 exact⟨by rw [eO] <;> rfl,K10.z⟩
theorem agd(w:World)  :
    bS prog 257 #[] w λv w'=>∃(g0:Nat),v=.map (some g0)/\Hp w S0 w' [pR g0 (.map (Array.push (Array.push (Array.push (Array.push (Array.push (Array.push (Array.push (Array.push (#[]:Array MapEntry) ⟨aF 0,.func (.func 345) #[] #[],0⟩) ⟨aF 1,.func (.func 346) #[] #[],1⟩) ⟨aF 2,.func (.func 349) #[] #[],2⟩) ⟨aF 3,.func (.func 352) #[] #[],3⟩) ⟨aF 4,.func (.func 355) #[] #[],4⟩) ⟨aF 5,.func (.func 357) #[] #[],5⟩) ⟨aF 6,.func (.func 360) #[] #[],6⟩) ⟨aF 7,.func (.func 362) #[] #[],7⟩) 8)]:=by
 refine kP S0 func257 ntmps257 Y λH0=>iZ Y<|rg<|mkm H0 Y λg1 w1 K1=>ins K1 s0 Y Y Y Jk iQ Y λw2 K2=>ins K2 s0 Y Y Y Jk iQ Y λw3 K3=>ins K3 s0 Y Y Y Jk iQ Y λw4 K4=>ins K4 s0 Y Y Y Jk iQ Y λw5 K5=>ins K5 s0 Y Y Y Jk iQ Y λw6 K6=>ins K6 s0 Y Y Y Jk iQ Y λw7 K7=>ins K7 s0 Y Y Y Jk iQ Y λw8 K8=>ins K8 s0 Y Y Y Jk iQ Y λw9 K9=>mv Y<|bU Y<|jc Y ?_
 exact⟨g1,Y,K9⟩
end Go.Proofs.YtlhnnmlenkahlaaGreat
