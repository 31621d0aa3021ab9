/- Lemmas. -/
import Derived.Test.YtlhnnmlenkahlaaGreatvG14
set_option maxRecDepth 4000
set_option linter.all false
namespace Go.Proofs.YtlhnnmlenkahlaaGreat
open Go.RowKit Go.Proofs.Tryz
def zB:=@underlying43
def GH:=@underlying285
variable {l:List aU}{α:Type}{bg:Int}{S0:Nat->Prop}{jl u7 uS tZ r9:ah}{jg tN uG tJ rC:Nat}{yS:FuncId}{yV:List Value}{g:α->Int}{s:List α}
def GI(s:aU):Bool:=((decide (1<=s.Client)&&decide (s.Client<=1048576))&&decide (1<=s.Seq))&&decide (s.Seq<=1099511627776)
def FB:Int->List aU->Bool
  | _,[]=>true
  | z,n::l=>!(!GI n||decide (n.Client<=z))&&FB n.Client l
def Az(l:List aU):Bool:=FB 0 l&&decide (l.length<=16)
theorem VD{z:Int}{k:Nat}{x:aU}(hx:l[k]? = some x):FB z (l.drop k)=(!(!GI x||decide (x.Client<=z))&&FB x.Client (l.drop (k+1))):=by
  rw [yu (aJ hx),(mM.1 hx).2]; rfl
theorem OL:∀(l:List aU)(z:Int),FB z l=true->∀ n∈l,z<n.Client/\GI n=true
  | [],_,_,n,hn=>by simp at hn
  | m::l,z,h,n,hn=>by
    simp only [FB,bK,eu,dN,fC,bU] at h
    rcases iN.1 hn with rfl | hn
    · exact⟨aj,h.1.1⟩
    · have:=OL l _ h.2 n hn; exact⟨aj,this.2⟩
theorem adp:∀(l:List aU)(z:Int),FB z l=true->Up aU.Client l
  | [],_,_=>List.Pairwise.nil
  | m::l,z,h=>by
    simp only [FB,bK,eu,dN,fC,bU] at h
    exact oU.2 ⟨λx hx=>(OL l _ h.2 x hx).1,adp l _ h.2⟩
def Yy{α:Type}(g:α->Int)(s:List α):Nat->Nat->Nat->Nat
  | 0,i,_=>i
  | f+1,i,j=>if i<j then(match s[(i+j) / 2]? with | some x=>if g x<0 then Yy g s f ((i+j) / 2+1) j else Yy g s f i ((i+j) / 2) | none=>i) else i
def wI{α:Type}(g:α->Int)(s:List α):Nat:=Yy g s (s.length+1) 0 s.length
def wL{α:Type}(g:α->Int)(s:List α):Bool:=match s[wI g s]? with | some x=>decide (g x=0) | none=>false
theorem OM(g:α->Int)(s:List α):∀(f f' i j:Nat),j - i<f->j - i<f'->Yy g s f i j=Yy g s f' i j
  | 0,_,_,_,h,_=>by omega
  | _+1,0,_,_,_,h=>by omega
  | f+1,f'+1,i,j,h,h'=>by
    unfold Yy
    split
    · split
      · split
        · exact OM g s f f' _ _ aj aj
        · exact OM g s f f' _ _ aj aj
      · rfl
    · rfl
theorem aap{i j:Nat}{x:α}(hij:i<j)(hx:s[(i+j) / 2]? = some x)(h:g x<0):Yy g s (j - i+1) i j=Yy g s (j - ((i+j) / 2+1)+1) ((i+j) / 2+1) j:=by
  rw [Yy,aO hij,hx]
  simp only [aO h]
  exact OM g s _ _ _ _ aj aj
theorem aaq{i j:Nat}{x:α}(hij:i<j)(hx:s[(i+j) / 2]? = some x)(h:¬ g x<0):Yy g s (j - i+1) i j=Yy g s ((i+j) / 2 - i+1) i ((i+j) / 2):=by
  rw [Yy,aO hij,hx]
  simp only [aK h]
  exact OM g s _ _ _ _ aj aj
theorem KC{i j:Nat}(hij:¬ i<j):Yy g s (j - i+1) i j=i:=by rw [Yy,aK hij]
theorem aar(hm:Zc g s):∀(f i j:Nat),j - i<f->i<=j->j<=s.length->(∀(a:Nat)(y:α),a<i->s[a]? = some y->g y<0)->(∀(a:Nat)(y:α),j<=a->s[a]? = some y->¬ g y<0)->Yy g s f i j=low g s
  | 0,_,_,h,_,_,_,_=>by omega
  | f+1,i,j,hf,hij,hj,h1,h2=>by
    unfold Yy
    split
    · rename_i hlt
      obtain⟨x,hx⟩:=bC (xs:=s) (i:=(i+j) / 2) aj;rw [hx]; simp only
      split
      · rename_i hg
        exact aar hm f _ _ aj aj hj (λa y ha hy=>hm a _ y x aj hy hx hg) h2
      · rename_i hg
        exact aar hm f _ _ aj aj aj h1 (λa y ha hy hlt'=>hg (hm _ a x y ha hx hy hlt'))
    · rename_i hlt
      exact(vR aj h1 (λa y ha=>h2 a y aj)).symm
theorem Td(hm:Zc g s):wI g s=low g s:=aar hm _ _ _ aj (fK _) (kH _) (λa y ha=>by omega) (λa y ha hy=>by have:=aJ hy; omega)
theorem QV(hm:Zc g s):wL g s=hits g s:=by unfold wL hits; rw [Td hm]; cases s[low g s]? <;> rfl
theorem agf:∀(f i j:Nat),i<=j->Yy g s f i j<=j
  | 0,i,j,h=>h
  | f+1,i,j,h=>by
    unfold Yy
    split
    · split
      · split
        · exact agf f _ _ aj
        · exact lG (agf f _ _ aj) aj
      · exact h
    · exact h
theorem am8(g:α->Int)(s:List α):wI g s<=s.length:=agf _ _ _ (fK _)
theorem yC(h:wL g s=true):∃ x,s[wI g s]? = some x/\g x=0:=by
  unfold wL at h
  split at h
  · rename_i x hx; exact⟨x,hx,jC h⟩
  · cases h
def Io(l:List aU)(bg:Int):aU:=match l[wI (fun(y:aU)=>bn y.Client bg) l]? with | some s=>if wL (fun(y:aU)=>bn y.Client bg) l then s else⟨0,0,0⟩ | none=>⟨0,0,0⟩
theorem QW{x:aU}(h:wL (fun(y:aU)=>bn y.Client bg) l=true)(hx:l[wI (fun(y:aU)=>bn y.Client bg) l]? = some x):Io l bg=x:=by
  unfold Io; rw [hx]; simp only [h,if_true]
theorem adq(h:wL (fun(y:aU)=>bn y.Client bg) l=false):Io l bg=⟨0,0,0⟩:=by
  unfold Io; rw [h]; split <;> rfl
def iy(l:List aU)(bg seq:Int):Int × Bool × Int:=if(!Az l||!GI ⟨bg,seq,0⟩)=true then(0,false,1) else if seq<(Io l bg).Seq then(0,false,9) else if seq=(Io l bg).Seq then((Io l bg).Answer,true,0) else if(Io l bg).Seq+1<seq then(0,false,10) else(0,false,0)
def oP(l:List aU)(bg seq answer:Int):List aU × Int:=if(iy l bg seq).2.2≠0 then([],(iy l bg seq).2.2) else if(iy l bg seq).2.1=true then([],6) else if wL (fun(y:aU)=>bn y.Client bg) l=false/\16<=l.length then([],7) else
  ((if wL (fun(y:aU)=>bn y.Client bg) l=true then l else l.take (wI (fun(y:aU)=>bn y.Client bg) l)++[⟨0,0,0⟩]++l.drop (wI (fun(y:aU)=>bn y.Client bg) l)).set (wI (fun(y:aU)=>bn y.Client bg) l) ⟨bg,seq,answer⟩,0)
theorem Yz(h:Az l=true):0<=(Io l bg).Seq/\(Io l bg).Seq<=1099511627776:=by
  cases hb:wL (fun(y:aU)=>bn y.Client bg) l with
  | false=>rw [adq hb]; simp
  | true=>
    obtain⟨x,hx,_⟩:=yC hb;rw [QW hb hx]
    simp only [Az,bK] at h
    have:=(OL l 0 h.1 x (dA hx)).2
    simp only [GI,bK,bL] at this
    omega
theorem JC:dH prog 102 0 0:=ay
theorem zW:dH prog 102 1 1:=ay
theorem EM:Size prog 102 3:=ay
theorem VE:XY prog 102 3:=⟨λ_=>by kernel_rfl,EM⟩
abbrev Tf:Value:=.agg #[aD 0,aD 0,aD 0]
theorem ads:∀ w,(zeroValue 102).run prog w=.ok Tf w:=ay
theorem avf:bI prog 259:=ay
theorem am9  : ∀ w,(Instr.buildSlice 43 0 (List.toArray [])).run prog w=.ok (.slice (some ⟨w.heap.size,0,none⟩) 0 0) (w.alloc (.cells (List.toArray []) 102)):=ay
theorem ana:kQ prog 102 3 24:=by
  obtain⟨i,h1,h2,h3,h4⟩:=rT (show(prog.info? 102).map (λi=>(i.zero,i.size,i.bytes))=some (some Tf,3,24) by kernel_rfl);exact⟨i,_,h1,h2,h3,h4,Y⟩
theorem avg:bI prog 365:=ay
theorem avh:bI prog 255:=ay
theorem aas(a0:Int)(a1:Int):prog.built 102 [(0,aD a0),(1,aD a1)]=some #[aD a0,aD a1,aD 0]:=ak
theorem adt:dH prog 102 2 2:=ay
theorem avi:tT prog 102 3 24:=by
  obtain⟨i,h1,h2,h3,h4⟩:=rT (show(prog.info? 102).map (λi=>(i.zero,i.size,i.bytes))=some (some Tf,3,24) by kernel_rfl);exact⟨i,_,h1,h2,h3,h4,Y,λv hv=>mZ.1 (show(Value.cells Tf).toList.all (λv=>v.oneCell')=true from Y) v hv⟩
theorem aqR  : prog.built 102 []=some #[aD 0,aD 0,aD 0]:=ak
theorem adu(a0:Int)(a1:Int)(a2:Int):∀ w,(Instr.buildSlice 43 1 (List.toArray [(0,.agg #[aD a0,aD a1,aD a2])])).run prog w=.ok (.slice (some ⟨w.heap.size,0,none⟩) 1 1) (w.alloc (.cells (List.toArray [aD a0,aD a1,aD a2]) 102)):=ay
theorem Ip(a0:Int)(a1:Int)(a2:Int):prog.built 102 [(0,aD a0),(1,aD a1),(2,aD a2)]=some #[aD a0,aD a1,aD a2]:=ak
theorem ahC(w:World)(s:aU) :
    bO prog 259 #[.agg #[aD s.Client,aD s.Seq,aD s.Answer]] w λv w'=>v=.bool (GI s)/\Hp w S0 w' []:=by
 refine j4 S0 func259 ntmps259 Y λH0=>rg<|bx Y Y H0 λg1 w1 K1=>bS Y<|rg<|jD g1 0 JC K1 s0 Y<|ev (pK Y Y)<|mv Y<|iG 4 10 ((decide (1<=s.Client))&&(decide (s.Client<=1048576))) ?_ ?_
 ·cases hb6:decide (1<=s.Client) with
  | true=>
   refine wP g1 0 JC K1 s0 Y<|bG Y (uK Y Y) Y<|ev (dY Y Y)<|dI Y
  | false=>
   refine eB<|eB<|eB<|ev (eG Y Y)<|dI Y
 refine mv Y<|iG 4 15 (((decide (1<=s.Client))&&(decide (s.Client<=1048576)))&&(decide (1<=s.Seq))) ?_ ?_
 ·cases Qu:((decide (1<=s.Client))&&(decide (s.Client<=1048576))) with
  | true=>
   have Jg:=Qu
   try simp only [bK,dZ,bL,bU] at Jg
   refine wP g1 1 zW K1 s0 Y<|bG Y (pK Y Y) Y<|ev (dY Y Y)<|dI Y
  | false=>
   refine eB<|eB<|eB<|ev (eG Y Y)<|dI Y
 refine mv Y<|iG 4 20 ((((decide (1<=s.Client))&&(decide (s.Client<=1048576)))&&(decide (1<=s.Seq)))&&(decide (s.Seq<=1099511627776))) ?_ ?_
 ·cases UN:(((decide (1<=s.Client))&&(decide (s.Client<=1048576)))&&(decide (1<=s.Seq))) with
  | true=>
   have NW:=UN
   try simp only [bK,dZ,bL,bU] at NW
   refine wP g1 1 zW K1 s0 Y<|bG Y (uK Y Y) Y<|ev (dY Y Y)<|dI Y
  | false=>
   refine eB<|eB<|eB<|ev (eG Y Y)<|dI Y
 refine bS Y<|iI Y ?_
 have d9:(((((decide (1<=s.Client))&&(decide (s.Client<=1048576)))&&(decide (1<=s.Seq)))&&(decide (s.Seq<=1099511627776))):Bool)=(GI s):=by rfl
 exact⟨by rw [d9] <;> rfl,(K1.rm s0)⟩
theorem ahD(w:World)(iR:Sl bZ S0 w jl jg l) :
    bO prog 255 #[.slice jl l.length jg] w λv w'=>v=.bool (Az l)/\Hp w S0 w' []:=by
 refine j4 S0 func255 ntmps255 Y λH0=>?_;have EG:=iR.bN;refine iY Y<|iY Y<|aZ<|bQ Y<|ev (eY zB Y)<|mv Y<|dn<|cZ<|Lp H0 (λl0 rk mJ lJ wJ=>∃(k:Nat)(z:Int),lJ=(3,aD z)::(8,aD ((k:Nat):Int))::l0/\mJ=l.length - k/\k<=l.length/\(FB 0 l=FB z (l.drop k))/\Hp w S0 wJ rk) ⟨0,0,Y,Y,fK _,av,H0⟩ rfl ?_
 rintro _ _ w1 ⟨k,z,rfl,rfl,hk,hz,K1⟩;refine rg<|ev (fB Y Y)<|dn<|oC Y (λFQ=>?_) (λFQ=>?_)
 ·refine jh ?_;refine aZ<|cZ<|rg ?_
  obtain⟨x1,bP⟩:=bC (xs:=l) (i:=k) aj;refine ev (eU (i:=k) zB EM Y Y Y (aJ bP) ((K1.a iR).some_ bP))<|ev (fV VE Y Y ((K1.a iR).eX bP))<|al ads Y K1 λg1 w2 K2=>sty Y K2 s0 Y λw3 K3=>dn<|aZ<|rg<|ev (dK VE Y Y (K3.x s0))<|lF K3 Y (ahC (S0:=Any) _ x1) λw4 K4=>ev (gZ Y)<|mv Y<|iG 5 20 ((!(GI x1))||(decide (x1.Client<=z))) ?_ ?_
  ·cases Qm:(!(GI x1)) with
   | true=>
    refine eB<|eB<|eB<|eB<|ev (dY Y Y)<|dI Y
   | false=>
    refine wP g1 0 JC K4 s0 Y<|bG Y (bA Y) Y<|bG Y (uK Y Y) Y<|ev (eG Y Y)<|dI Y
  refine dn<|bR Y (λkJ=>?_) (λkJ=>?_)
  ·refine iY Y<|je (gL (jH (gL (gL (jH (gL (zD Y ?_)))))))
   have d9:(false:Bool)=(Az l):=by symm; unfold Az; rw [hz,VD bP,kJ]; rfl
   exact⟨by rw [<- d9] <;> rfl,(K4.rm s0)⟩
  refine jh ?_;refine jr<|jD g1 0 JC K4 s0 Y<|iA Y<|jv<|ig (gB ?_)
  refine jr<|ev (dW Y Y)<|mv Y<|jv<|dQ ⟨(k+1),x1.Client,Y,Y,aj,by rw [hz,VD bP,kJ]; rfl,(K4.rm s0)⟩ rfl aj
 refine wQ ?_;refine bQ Y<|ev (eY zB Y)<|ev (uK Y Y)<|bS Y<|iI Y ?_
 have fG:(decide (((l.length:Nat):Int)<=16):Bool)=(Az l):=by symm; unfold Az; rw [hz,zf aj]; simp [FB]; omega
 exact⟨by rw [fG] <;> rfl,K1⟩
abbrev Ti:=(([]:List aU):List aU)
theorem yD(w:World){s:List aU}(lK:Sl bZ S0 w u7 tN s)(hn:s.length<=1000000) :
    bO prog 58 #[.slice u7 s.length tN] w λv w'=>∃(A0:ah)(c0:Nat),v=.slice A0 s.length c0/\Hp w S0 w' [aR bZ 102 A0 c0 s]:=by
 refine j4 S0 func58 ntmps58 Y λH0=>iY Y<|aZ<|bQ Y<|ev (Lx zB Y Y)<|dn<|bR Y (λhc4=>?_) (λhc4=>?_)
 ·refine iY Y<|vG Y ?_
  have H1:=H0.nil bZ 102;have d9:Ti=s:=by have h1:=lK.nil (by simpa using hc4); have h2:=lK.cap; exact(uI aj).symm
  have H2:=(d9▸H1:Hp w S0 w (aR bZ 102 none 0 s::[]));exact⟨none,0,by rw [<- d9] <;> rfl,H2⟩
 refine jh ?_;refine rg<|bs0 (τ:=bZ) (vs:=[]) Y (by intro _; apply am9) rfl H0 λg1 w1 K1=>mv rfl<|ap (ys:=s) K1 s0 rfl rfl (K1.a lK).any zB ana av (by first | omega | (simp; omega) | (simp; done)) rfl λnY nZ w2 K2=>bS rfl<|iI rfl ?_
 have fG:((([]:List aU)++s):List aU)=s:=by simp
 rw [fG] at K2;exact⟨nY,nZ,by rw [fG] <;> rfl,K2⟩
theorem Sd(w:World){s:List aU}(lK:Sl bZ S0 w u7 tN s)(target:Int)(IG:bI prog yS)(f:aU->Int->Int)(II:∀(w':World)(x:aU)(t:Int),Ext w w'->True->bO prog yS (([.agg #[aD x.Client,aD x.Seq,aD x.Answer],aD t]:List Value)++yV).toArray w' λv w''=>v=aD (f x t)/\Ext w' w'')(hn:s.length<=1000000) :
    bO prog 364 #[.slice u7 s.length tN,aD target,.func (.func yS) #[] yV.toArray] w λv w'=>v=.tuple #[aD ((wI (fun(y:aU)=>f y target) s:Nat):Int),.bool (wL (fun(y:aU)=>f y target) s)]/\Hp w S0 w' []:=by
 refine j4 S0 func364 ntmps364 Y λH0=>?_;have NI:=lK.bN;refine rg<|iA Y<|bS Y<|bQ Y<|ev (eY zB Y)<|bS Y<|bQ Y<|iA Y<|bS Y<|aZ<|cZ<|Lp H0 (λl0 rk mJ lJ wJ=>∃(i j:Nat),lJ=(9,aD ((i:Nat):Int))::(10,aD ((j:Nat):Int))::l0/\mJ=j - i/\(i<=j/\j<=s.length)/\(wI (fun(y:aU)=>f y target) s=Yy (fun(y:aU)=>f y target) s (j - i+1) i j)/\Hp w S0 wJ rk) ⟨0,s.length,Y,Y,by exact⟨fK _,kH _⟩,by rfl,H0⟩ rfl ?_
 rintro _ _ w1 ⟨i,j,rfl,rfl,hij,hbs,K1⟩;refine aZ<|bQ Y<|mv Y<|ev (fB Y Y)<|dn<|kX Y (λhc17=>?_) (λhc17=>?_)
 ·refine jh ?_;refine cZ<|bQ Y<|mv Y<|ev (dW Y Y)<|ev (zi (m:=i+j) p9.1 p9.2.1 p9.2.2 Y (vE aj))<|ev (Ev.aiM (m:=i+j) Y Y)<|ev (zi (m:=((i+j) / 2)) qb.1 qb.2.1 qb.2.2 Y (sS aj))<|bS Y<|bQ Y<|mv Y<|mv Y ?_
  obtain⟨x1,bP⟩:=bC (xs:=s) (i:=((i+j) / 2)) aj;refine ev (eU (i:=((i+j) / 2)) zB EM Y Y Y (aJ bP) ((K1.a lK).some_ bP))<|ev (fV VE Y Y ((K1.a lK).eX bP))<|mv Y<|wo Y Y Y IG (II _ x1 target K1.ext trivial) Y ?_
  rintro _ w2 ⟨rfl,e2⟩;have K2:=K1.grow e2;refine ev (fB Y Y)<|dn<|kX Y (λhc31=>?_) (λhc31=>?_)
  ·refine jr<|mv Y<|ev (dW Y Y)<|iA Y<|jv<|ig<|dQ ⟨(((i+j) / 2)+1),j,Y,Y,aj,by first | exact hbs.trans (aap aj bP hc31) | exact hbs.trans (aaq aj bP hc31),K2⟩ rfl aj
  refine jr<|mv Y<|iA Y<|jv<|ig<|dQ ⟨i,((i+j) / 2),Y,Y,aj,by first | exact hbs.trans (aap aj bP hc31) | exact hbs.trans (aaq aj bP hc31),K2⟩ rfl aj
 refine wQ ?_;refine bQ Y<|mv Y<|mv Y<|ev (fB Y Y)<|mv Y<|nA 9 48 (wL (fun(y:aU)=>f y target) s) ?_ ?_
 ·cases Me:decide (((i:Nat):Int)<((s.length:Nat):Int)) with
  | true=>
   have ag3:=jC Me;refine bG Y (bA Y) Y<|bG Y (bA Y) Y<|bG Y (bA Y) Y ?_
   obtain⟨x2,kK⟩:=bC (xs:=s) (i:=i) aj;refine bG Y (eU (i:=i) zB EM Y Y Y (aJ kK) ((K1.a lK).some_ kK)) Y<|bG Y (fV VE Y Y ((K1.a lK).eX kK)) Y<|bG Y (bA Y) Y<|nu Y Y Y Y IG (II _ x2 target K1.ext trivial) Y ?_
   rintro _ w3 ⟨rfl,e3⟩;refine bG Y (iP Y Y) Y<|ev (dY Y Y)<|fJ (t:=48) (u:=.bool (decide (f x2 target=0))) (v:=.bool (wL (fun(y:aU)=>f y target) s)) Y (aS Value.bool (by have hl:=hbs.trans (KC aj); unfold wL; rw [hl,kK]))<|iH rfl e3
  | false=>
   refine eB<|eB<|eB<|eB<|eB<|eB<|eB<|eB<|ev (eG Y Y)<|fJ (t:=48) (u:=.bool false) (v:=.bool (wL (fun(y:aU)=>f y target) s)) Y (aS Value.bool (by have hl:=hbs.trans (KC aj); unfold wL; rw [hl,xu (by have:=kg Me; omega)])) ?_
   exact iH Y (om _)
 intro w4 e4;have K4:=K1.grow e4;refine iA Y<|bS Y<|iI Y ?_
 have d9:(i:Nat)=(wI (fun(y:aU)=>f y target) s):=by exact(hbs.trans (KC aj)).symm
 exact⟨by rw [<- d9] <;> rfl,K4⟩
theorem ajT(w:World)(s:aU)(c:Int) :
    bO prog 365 #[.agg #[aD s.Client,aD s.Seq,aD s.Answer],aD c] w λv w'=>v=aD (bn s.Client c)/\Hp w S0 w' []:=by
 refine j4 S0 func365 ntmps365 Y λH0=>rg<|bx Y Y H0 λg1 w1 K1=>bS Y<|rg<|jD g1 0 JC K1 s0 Y<|mv Y<|lF K1 Y (mF (S0:=Any) _ s.Client c) λw2 K2=>bS Y<|iI Y ?_
 exact⟨Y,(K2.rm s0)⟩
theorem adv(w:World)(iR:Sl bZ S0 w jl jg l)(bg:Int)(hn:l.length<=1000000) :
    bO prog 260 #[.slice jl l.length jg,aD bg] w λv w'=>v=.tuple #[aD ((wI (fun(y:aU)=>bn y.Client bg) l:Nat):Int),.bool (wL (fun(y:aU)=>bn y.Client bg) l)]/\Hp w S0 w' []:=by
 refine j4 S0 func260 ntmps260 Y λH0=>rg<|iA Y<|bS Y<|bQ Y<|mv Y<|lF H0 Y (Sd _ (H0.a iR).any bg (yV:=[]) avg (fun(x:aU) (t:Int)=>bn x.Client t) (λw' x t e hm=>(ajT (S0:=Any) w' x t).mono (by rintro _ _ ⟨rfl,fG⟩; exact⟨rfl,fG.ext⟩)) aj) λw1 K1=>xt rfl rfl<|xt rfl rfl<|iA rfl<|bS rfl<|iI rfl ?_
 exact⟨Y,K1⟩
theorem adw(w:World)(iR:Sl bZ S0 w jl jg l)(bg:Int)(seq:Int)(hn:l.length<=1000000) :
    bO prog 169 #[.slice jl l.length jg,aD bg,aD seq] w λv w'=>v=.tuple #[aD ((iy l bg seq).1),.bool ((iy l bg seq).2.1),aD ((iy l bg seq).2.2)]/\Hp w S0 w' []:=by
 refine j4 S0 func169 ntmps169 Y λH0=>rg<|iA Y<|iA Y<|bS Y<|aZ<|bQ Y<|lF H0 Y (ahD _ (H0.a iR).any) λw1 K1=>ev (gZ Y)<|mv Y<|nA 6 21 ((!(Az l))||(!(GI (⟨bg,seq,0⟩:aU)))) ?_ ?_
 ·cases Qm:(!(Az l)) with
  | true=>
   refine eB<|eB<|eB<|eB<|eB<|ev (dY Y Y)<|iH Y (om _)
  | false=>
   refine bG Y (bA Y) Y<|bG Y (bA Y) Y<|bG Y (iE (vs:=[(0,aD bg),(1,aD seq)]) (cs:=[aD bg,aD seq,aD 0]) Y (by apply aas)) rfl<|nu rfl rfl rfl rfl avf (ahC (S0:=Any) _ (⟨bg,seq,0⟩:aU)) rfl ?_
   rintro _ w2 ⟨rfl,h2⟩;have K2:=K1.c0 h2;refine bG Y (gZ Y) Y<|ev (eG Y Y)<|iH Y h2.ext
 intro w3 e3;have K3:=K1.grow e3;refine dn<|bR Y (λhc21=>?_) (λhc21=>?_)
 ·have hno:=hc21;refine rg<|iA Y<|iA Y<|bS Y<|vG Y ?_
  have d9:(0:Int)=((iy l bg seq).1):=by unfold iy; rw [aO hno]
  have fG:(false:Bool)=((iy l bg seq).2.1):=by unfold iy; rw [aO hno]
  have jQ:(1:Int)=((iy l bg seq).2.2):=by unfold iy; rw [aO hno]
  exact⟨by rw [<- d9,<- fG,<- jQ] <;> rfl,K3⟩
 have hok:¬ (!Az l||!GI ⟨bg,seq,0⟩)=true:=by rw [hc21]; decide
 have hsm:Az l=true:=by simpa using (dN.1 hc21).1
 refine jh ?_;refine rg<|al ads Y K3 λg1 w4 K4=>dn<|aZ<|bQ Y<|mv Y<|lF K4 Y (adv _ (K4.a iR).any bg aj) λw5 K5=>mv Y<|xt Y Y<|xt Y Y<|iA Y<|bS Y<|bQ Y<|dn<|bR Y (λhc28=>?_) (λhc28=>?_)
 ·obtain⟨xb,hxb,hkb⟩:=yC hc28;have UE:=aJ hxb;refine jr<|mv Y<|mv Y ?_
  obtain⟨x1,bP⟩:=bC (xs:=l) (i:=wI (fun(y:aU)=>bn y.Client bg) l) aj;refine ev (eU (i:=wI (fun(y:aU)=>bn y.Client bg) l) zB EM Y Y Y (aJ bP) ((K5.a iR).some_ bP))<|ev (fV VE Y Y ((K5.a iR).eX bP))<|sty Y K5 s0 Y λw6 K6=>jv<|gB<|aZ<|cZ ?_
  have hfs:=QW hc28 bP;have hsq:=Yz (bg:=bg) hsm;rw [hfs] at hsq;refine bQ Y<|jD g1 1 zW K6 s0 Y<|ev (fB Y Y)<|bS Y<|bR Y (λVF=>?_) (λVF=>?_)
  ·replace VF:=jC VF;refine rg<|iA Y<|iA Y<|bS Y<|LA Y ?_
   have lV:(0:Int)=((iy l bg seq).1):=by unfold iy; rw [aK hok,hfs,aO aj]
   have qU:(false:Bool)=((iy l bg seq).2.1):=by unfold iy; rw [aK hok,hfs,aO aj]
   have vY:(9:Int)=((iy l bg seq).2.2):=by unfold iy; rw [aK hok,hfs,aO aj]
   exact⟨by rw [<- lV,<- qU,<- vY] <;> rfl,(K6.rm s0)⟩
  replace VF:=kg VF;refine bQ Y<|jD g1 1 zW K6 s0 Y<|ev (iP Y Y)<|bS Y<|bR Y (λhc38=>?_) (λhc38=>?_)
  ·replace hc38:=jC hc38;refine rg<|jD g1 2 adt K6 s0 Y<|iA Y<|iA Y<|bS Y<|LA Y ?_
   have xZ:(x1.Answer:Int)=((iy l bg seq).1):=by unfold iy; rw [aK hok,hfs,aK aj,aO aj]
   have hq8:(true:Bool)=((iy l bg seq).2.1):=by unfold iy; rw [aK hok,hfs,aK aj,aO aj]
   have yT:(0:Int)=((iy l bg seq).2.2):=by unfold iy; rw [aK hok,hfs,aK aj,aO aj]
   exact⟨by rw [xZ,<- hq8,<- yT] <;> rfl,(K6.rm s0)⟩
  replace hc38:=kg hc38;refine bQ Y<|jD g1 1 zW K6 s0 Y<|ev (dW Y Y)<|ev (pJ Y Y)<|bS Y<|bR Y (λAr=>?_) (λAr=>?_)
  ·replace Ar:=jC Ar;refine rg<|iA Y<|iA Y<|bS Y<|LA Y ?_
   have qI:(0:Int)=((iy l bg seq).1):=by unfold iy; rw [aK hok,hfs,aK aj,aK aj,aO aj]
   have hq11:(false:Bool)=((iy l bg seq).2.1):=by unfold iy; rw [aK hok,hfs,aK aj,aK aj,aO aj]
   have hq12:(10:Int)=((iy l bg seq).2.2):=by unfold iy; rw [aK hok,hfs,aK aj,aK aj,aO aj]
   exact⟨by rw [<- qI,<- hq11,<- hq12] <;> rfl,(K6.rm s0)⟩
  replace Ar:=kg Ar;refine zF ?_;refine rg<|iA Y<|iA Y<|bS Y<|iI Y ?_
  have QB:(0:Int)=((iy l bg seq).1):=by unfold iy; rw [aK hok,hfs,aK aj,aK aj,aK aj]
  have QC:(false:Bool)=((iy l bg seq).2.1):=by unfold iy; rw [aK hok,hfs,aK aj,aK aj,aK aj]
  have Xw:(0:Int)=((iy l bg seq).2.2):=by unfold iy; rw [aK hok,hfs,aK aj,aK aj,aK aj]
  exact⟨by rw [<- QB,<- QC,<- Xw] <;> rfl,(K6.rm s0)⟩
 refine jh ?_;refine aZ<|cZ ?_
 have hfs:=adq hc28;have hsq:=Yz (bg:=bg) hsm;rw [hfs] at hsq;refine bQ Y<|jD g1 1 zW K5 s0 Y<|ev (fB Y Y)<|bS Y<|bR Y (λVF=>?_) (λVF=>?_)
 ·replace VF:=jC VF;refine rg<|iA Y<|iA Y<|bS Y<|LA Y ?_
  have UZ:(0:Int)=((iy l bg seq).1):=by unfold iy; rw [aK hok,hfs,aO aj]
  have U0:(false:Bool)=((iy l bg seq).2.1):=by unfold iy; rw [aK hok,hfs,aO aj]
  have U1:(9:Int)=((iy l bg seq).2.2):=by unfold iy; rw [aK hok,hfs,aO aj]
  exact⟨by rw [<- UZ,<- U0,<- U1] <;> rfl,(K5.rm s0)⟩
 replace VF:=kg VF;refine bQ Y<|jD g1 1 zW K5 s0 Y<|ev (iP Y Y)<|bS Y<|bR Y (λhc38=>?_) (λhc38=>?_)
 ·replace hc38:=jC hc38;refine rg<|jD g1 2 adt K5 s0 Y<|iA Y<|iA Y<|bS Y<|LA Y ?_
  have QE:(0:Int)=((iy l bg seq).1):=by unfold iy; rw [aK hok,hfs,aK aj,aO aj]
  have ajn:(true:Bool)=((iy l bg seq).2.1):=by unfold iy; rw [aK hok,hfs,aK aj,aO aj]
  have afF:(0:Int)=((iy l bg seq).2.2):=by unfold iy; rw [aK hok,hfs,aK aj,aO aj]
  exact⟨by rw [<- QE,<- ajn,<- afF] <;> rfl,(K5.rm s0)⟩
 replace hc38:=kg hc38;refine bQ Y<|jD g1 1 zW K5 s0 Y<|ev (dW Y Y)<|ev (pJ Y Y)<|bS Y<|bR Y (λAr=>?_) (λAr=>?_)
 ·replace Ar:=jC Ar;refine rg<|iA Y<|iA Y<|bS Y<|LA Y ?_
  have afG:(0:Int)=((iy l bg seq).1):=by unfold iy; rw [aK hok,hfs,aK aj,aK aj,aO aj]
  have afH:(false:Bool)=((iy l bg seq).2.1):=by unfold iy; rw [aK hok,hfs,aK aj,aK aj,aO aj]
  have afI:(10:Int)=((iy l bg seq).2.2):=by unfold iy; rw [aK hok,hfs,aK aj,aK aj,aO aj]
  exact⟨by rw [<- afG,<- afH,<- afI] <;> rfl,(K5.rm s0)⟩
 replace Ar:=kg Ar;refine zF ?_;refine rg<|iA Y<|iA Y<|bS Y<|iI Y ?_
 have ajo:(0:Int)=((iy l bg seq).1):=by unfold iy; rw [aK hok,hfs,aK aj,aK aj,aK aj]
 have afJ:(false:Bool)=((iy l bg seq).2.1):=by unfold iy; rw [aK hok,hfs,aK aj,aK aj,aK aj]
 have afK:(0:Int)=((iy l bg seq).2.2):=by unfold iy; rw [aK hok,hfs,aK aj,aK aj,aK aj]
 exact⟨by rw [<- ajo,<- afJ,<- afK] <;> rfl,(K5.rm s0)⟩
theorem aqS:Zo 261 366 367 43 102 3 24 Tryz.f261.name:=⟨func261.trans (aS some ak),⟨_,func366,ak,ak,ak,ak⟩,zB,iw,EM,ak,ana,avi⟩
def XD:=@MB _ _ _ _ _ _ _ _ bZ aqS
theorem ahE(w:World)(iR:Sl bZ S0 w jl jg l)(bg:Int)(seq:Int)(answer:Int)(hn:l.length<=100000) :
    bO prog 170 #[.slice jl l.length jg,aD bg,aD seq,aD answer] w λv w'=>∃(A0:ah)(c0:Nat),v=.tuple #[.slice A0 (((oP l bg seq answer).1).length) c0,aD ((oP l bg seq answer).2)]/\Hp w S0 w' [aR bZ 102 A0 c0 ((oP l bg seq answer).1)]:=by
 refine j4 S0 func170 ntmps170 Y λH0=>?_;have EG:=iR.bN;have hle:=am8 (fun(y:aU)=>bn y.Client bg) l;refine rg<|iA Y<|bS Y<|bQ Y<|mv Y<|mv Y<|lF H0 Y (adw _ (H0.a iR).any bg seq aj) λw1 K1=>mv Y<|xt Y Y<|xt Y Y<|xt Y Y<|iA Y<|iA Y<|bS Y<|bQ Y<|mv Y<|lF K1 Y (adv _ (K1.a iR).any bg aj) λw2 K2=>mv Y<|xt Y Y<|xt Y Y<|iA Y<|bS Y<|aZ<|cZ<|bQ Y<|ev (rz Y Y)<|bS Y ?_
 refine bR Y (λQX=>?_) (λQX=>?_)
 ·replace QX:=nS QX;refine bQ Y<|iA Y<|bS Y<|LA Y ?_
  have H1:=K2.nil bZ 102;have d9:Ti=((oP l bg seq answer).1):=by unfold oP; rw [aO QX]
  have H2:=(d9▸H1:Hp w S0 w2 (aR bZ 102 none 0 ((oP l bg seq answer).1)::[]));have fG:((iy l bg seq).2.2:Int)=((oP l bg seq answer).2):=by unfold oP; rw [aO QX]
  exact⟨none,0,by rw [fG,<- d9] <;> rfl,H2⟩
 replace QX:=nT QX;refine bQ Y<|bS Y<|bR Y (λhc34=>?_) (λhc34=>?_)
 ·refine rg<|iA Y<|bS Y<|LA Y ?_
  have H3:=K2.nil bZ 102;have jQ:Ti=((oP l bg seq answer).1):=by unfold oP; rw [aK aj,aO hc34]
  have H4:=(jQ▸H3:Hp w S0 w2 (aR bZ 102 none 0 ((oP l bg seq answer).1)::[]));have lV:(6:Int)=((oP l bg seq answer).2):=by unfold oP; rw [aK aj,aO hc34]
  exact⟨none,0,by rw [<- jQ,<- lV] <;> rfl,H4⟩
 refine bQ Y<|ev (gZ Y)<|mv Y<|iG 4 43 ((!(wL (fun(y:aU)=>bn y.Client bg) l))&&(decide (16<=((l.length:Nat):Int)))) ?_ ?_
 ·cases Me:(!(wL (fun(y:aU)=>bn y.Client bg) l)) with
  | true=>
   refine bG Y (bA Y) Y<|bG Y (eY zB Y) Y<|bG Y (pK Y Y) Y<|ev (dY Y Y)<|dI Y
  | false=>
   refine eB<|eB<|eB<|ev (eG Y Y)<|dI Y
 refine bS Y<|bR Y (λJr=>?_) (λJr=>?_)
 ·try simp only [eO,dN,bK,dZ,eu,fC,bL,bU] at Jr
  refine rg<|iA Y<|bS Y<|LA Y ?_
  have H5:=K2.nil bZ 102;have qU:Ti=((oP l bg seq answer).1):=by unfold oP; rw [aK aj,aK (by rw [hc34]; decide),aO (by obtain⟨p,q⟩:=Jr; exact⟨p,aj⟩)]
  have H6:=(qU▸H5:Hp w S0 w2 (aR bZ 102 none 0 ((oP l bg seq answer).1)::[]));have vY:(7:Int)=((oP l bg seq answer).2):=by unfold oP; rw [aK aj,aK (by rw [hc34]; decide),aO (by obtain⟨p,q⟩:=Jr; exact⟨p,aj⟩)]
  exact⟨none,0,by rw [<- qU,<- vY] <;> rfl,H6⟩
 try simp only [eO,dN,bK,dZ,eu,fC,bL,bU] at Jr
 refine zF ?_;have hfull:¬ (wL (fun(y:aU)=>bn y.Client bg) l=false/\16<=l.length):=by rintro⟨h1,h2⟩; simp_all; omega
 refine bQ Y<|gW Y (yD _ (K2.a iR).any aj) ?_
 rintro _ w3 ⟨mR,mU,rfl,h3⟩;have K3:=K2.f1 h3;refine bS Y<|aZ<|bQ Y<|ev (gZ Y)<|dn<|bR Y (λhc47=>?_) (λhc47=>?_)
 ·try simp only [eO,dN,bK,dZ,eu,fC,bL,bU] at hc47
  refine jr<|mv Y<|mv Y<|ev (iE (vs:=[]) (cs:=[aD 0,aD 0,aD 0]) Y (by apply aqR))<|yU (τ:=bZ) (x:=(⟨0,0,0⟩:aU)) rfl (by intro _; apply adu) rfl K3 (λ_ _=>rfl) λg1 w4 K4=>gW rfl (XD (i:=wI (fun(y:aU)=>bn y.Client bg) l) K4 s1 s0 aj aj) ?_
  rintro _ w5 ⟨nY,nZ,rfl,K5⟩;refine iA Y<|jv<|gB<|bQ Y<|mv Y<|mv Y<|mv Y<|mv Y<|ev (iE (vs:=[(0,aD bg),(1,aD seq),(2,aD answer)]) (cs:=[aD bg,aD seq,aD answer]) Y (by apply Ip)) ?_
  obtain⟨x1,bP⟩:=bC (xs:=(l.take (wI (fun(y:aU)=>bn y.Client bg) l)++[(⟨0,0,0⟩:aU)]++l.drop (wI (fun(y:aU)=>bn y.Client bg) l))) (i:=wI (fun(y:aU)=>bn y.Client bg) l) (by simp only [iO,fE,kN,oI,qx]; omega);refine ev (eU (i:=wI (fun(y:aU)=>bn y.Client bg) l) zB EM Y Y Y (aJ bP) ((K5.o s0).some_ bP))<|se (i:=wI (fun(y:aU)=>bn y.Client bg) l) (f:=0) (x:=x1) (x':=(⟨bg,seq,answer⟩:aU)) (ds:=[aD bg,aD seq,aD answer]) K5 s0 Y Y Y bP Y EM (oJ Y) Y (by rintro _ _ _ ⟨⟩; rfl) λw6 K6=>?_
  have hl1:((l.take (wI (fun(y:aU)=>bn y.Client bg) l)++[(⟨0,0,0⟩:aU)]++l.drop (wI (fun(y:aU)=>bn y.Client bg) l)).set (wI (fun(y:aU)=>bn y.Client bg) l) (⟨bg,seq,answer⟩:aU)).length=(l.take (wI (fun(y:aU)=>bn y.Client bg) l)++[(⟨0,0,0⟩:aU)]++l.drop (wI (fun(y:aU)=>bn y.Client bg) l)).length:=fQ ..;refine fJ (t:=15) (u:=.slice nY ((l.take (wI (fun(y:aU)=>bn y.Client bg) l)++[(⟨0,0,0⟩:aU)]++l.drop (wI (fun(y:aU)=>bn y.Client bg) l)).length) nZ) (v:=.slice nY (((l.take (wI (fun(y:aU)=>bn y.Client bg) l)++[(⟨0,0,0⟩:aU)]++l.drop (wI (fun(y:aU)=>bn y.Client bg) l)).set (wI (fun(y:aU)=>bn y.Client bg) l) (⟨bg,seq,answer⟩:aU)).length) nZ) Y (by rw [hl1])<|fJ (t:=52) (u:=.slice nY ((l.take (wI (fun(y:aU)=>bn y.Client bg) l)++[(⟨0,0,0⟩:aU)]++l.drop (wI (fun(y:aU)=>bn y.Client bg) l)).length) nZ) (v:=.slice nY (((l.take (wI (fun(y:aU)=>bn y.Client bg) l)++[(⟨0,0,0⟩:aU)]++l.drop (wI (fun(y:aU)=>bn y.Client bg) l)).set (wI (fun(y:aU)=>bn y.Client bg) l) (⟨bg,seq,answer⟩:aU)).length) nZ) rfl (by rw [hl1])<|fJ (t:=53) (u:=.slice nY ((l.take (wI (fun(y:aU)=>bn y.Client bg) l)++[(⟨0,0,0⟩:aU)]++l.drop (wI (fun(y:aU)=>bn y.Client bg) l)).length) nZ) (v:=.slice nY (((l.take (wI (fun(y:aU)=>bn y.Client bg) l)++[(⟨0,0,0⟩:aU)]++l.drop (wI (fun(y:aU)=>bn y.Client bg) l)).set (wI (fun(y:aU)=>bn y.Client bg) l) (⟨bg,seq,answer⟩:aU)).length) nZ) rfl (by rw [hl1]) ?_
  have kK:((l.take (wI (fun(y:aU)=>bn y.Client bg) l)++[(⟨0,0,0⟩:aU)]++l.drop (wI (fun(y:aU)=>bn y.Client bg) l)).set (wI (fun(y:aU)=>bn y.Client bg) l) (⟨bg,seq,answer⟩:aU))[wI (fun(y:aU)=>bn y.Client bg) l]? = some (⟨bg,seq,answer⟩:aU):=pQ (aJ bP);refine dn<|WP.keep' [(15,.slice nY (((l.take (wI (fun(y:aU)=>bn y.Client bg) l)++[(⟨0,0,0⟩:aU)]++l.drop (wI (fun(y:aU)=>bn y.Client bg) l)).set (wI (fun(y:aU)=>bn y.Client bg) l) (⟨bg,seq,answer⟩:aU)).length) nZ)] Y<|bQ Y<|iA Y<|bS Y<|iI Y ?_
  have xZ:(((l.take (wI (fun(y:aU)=>bn y.Client bg) l)++[(⟨0,0,0⟩:aU)]++l.drop (wI (fun(y:aU)=>bn y.Client bg) l)).set (wI (fun(y:aU)=>bn y.Client bg) l) (⟨bg,seq,answer⟩:aU)):List aU)=((oP l bg seq answer).1):=by unfold oP; rw [aK aj,aK (by rw [hc34]; decide),aK hfull,aK (by rw [hc47]; decide)]
  rw [xZ] at K6;have hq8:(0:Int)=((oP l bg seq answer).2):=by unfold oP; rw [aK aj,aK (by rw [hc34]; decide),aK hfull]
  exact⟨nY,nZ,by rw [xZ,<- hq8] <;> rfl,K6⟩
 try simp only [eO,dN,bK,dZ,eu,fC,bL,bU] at hc47
 obtain⟨xb,hxb,hkb⟩:=yC hc47;have UE:=aJ hxb;refine jh ?_;refine bQ Y<|mv Y<|mv Y<|mv Y<|mv Y<|ev (iE (vs:=[(0,aD bg),(1,aD seq),(2,aD answer)]) (cs:=[aD bg,aD seq,aD answer]) Y (by apply Ip)) ?_
 obtain⟨x2,hx3⟩:=bC (xs:=l) (i:=wI (fun(y:aU)=>bn y.Client bg) l) aj;refine ev (eU (i:=wI (fun(y:aU)=>bn y.Client bg) l) zB EM Y Y Y (aJ hx3) ((K3.o s0).some_ hx3))<|se (i:=wI (fun(y:aU)=>bn y.Client bg) l) (f:=0) (x:=x2) (x':=(⟨bg,seq,answer⟩:aU)) (ds:=[aD bg,aD seq,aD answer]) K3 s0 Y Y Y hx3 Y EM (oJ Y) Y (by rintro _ _ _ ⟨⟩; rfl) λw7 K7=>?_
 have hl2:(l.set (wI (fun(y:aU)=>bn y.Client bg) l) (⟨bg,seq,answer⟩:aU)).length=l.length:=fQ ..;refine fJ (t:=45) (u:=.slice mR l.length mU) (v:=.slice mR ((l.set (wI (fun(y:aU)=>bn y.Client bg) l) (⟨bg,seq,answer⟩:aU)).length) mU) Y (by rw [hl2])<|fJ (t:=15) (u:=.slice mR l.length mU) (v:=.slice mR ((l.set (wI (fun(y:aU)=>bn y.Client bg) l) (⟨bg,seq,answer⟩:aU)).length) mU) rfl (by rw [hl2])<|fJ (t:=53) (u:=.slice mR l.length mU) (v:=.slice mR ((l.set (wI (fun(y:aU)=>bn y.Client bg) l) (⟨bg,seq,answer⟩:aU)).length) mU) rfl (by rw [hl2]) ?_
 refine dn<|WP.keep' [(15,.slice mR ((l.set (wI (fun(y:aU)=>bn y.Client bg) l) (⟨bg,seq,answer⟩:aU)).length) mU)] Y<|bQ Y<|iA Y<|bS Y<|iI Y ?_
 have yT:((l.set (wI (fun(y:aU)=>bn y.Client bg) l) (⟨bg,seq,answer⟩:aU)):List aU)=((oP l bg seq answer).1):=by unfold oP; rw [aK aj,aK (by rw [hc34]; decide),aK hfull,aO hc47]
 rw [yT] at K7;have qI:(0:Int)=((oP l bg seq answer).2):=by unfold oP; rw [aK aj,aK (by rw [hc34]; decide),aK hfull]
 exact⟨mR,mU,by rw [yT,<- qI] <;> rfl,K7⟩
def lq(l:List aW)(id:Int):Bool:=jU l id&&!decide ((gP l id).gG=2)
def qz(m:dU):Bool:=((uR m.aY&&lY m.aA)&&Az m.aQ)&&!m.aA.any (fun(c:aI)=>c.aF.any (fun(id:Int)=>!lq m.aY id))
theorem Tj(f:α->Bool)(s:List α):decide (0<=idxOf f s)=s.any f:=by
  rw [Bool.eq_iff_iff]
  simp only [bL,IZ]
  rcases uV f s with ⟨h1,h2⟩ | ⟨k,x,h1,h2,h3,h4⟩
  · rw [h1]
    constructor
    · intro h; omega
    · rintro⟨x,hx,hf⟩; rw [h2 x hx] at hf; cases hf
  · rw [h1]
    constructor
    · intro _; exact⟨x,dA h2,h3⟩
    · intro _; omega
theorem avj:bI prog 252:=ay
theorem avk:bI prog 251:=ay
theorem BD:dH prog 45 2 2:=ay
theorem avl:bI prog 253:=ay
theorem avm:bI prog 256:=ay
theorem YA(w:World){l:List aW}(iR:Sl bX S0 w jl jg l)(id:Int)(hn:l.length<=100000) :
    bO prog 252 #[.slice jl l.length jg,aD id] w λv w'=>v=.bool (lq l id)/\Hp w S0 w' []:=by
 refine j4 S0 func252 ntmps252 Y λH0=>iY Y<|bQ Y<|mv Y<|lF H0 Y (C8 _ (H0.a iR).any id aj) λw1 K1=>mv Y<|xt Y Y<|xt Y Y<|al rG Y K1 λg1 w2 K2=>sty Y K2 s0 Y λw3 K3=>bS Y<|bQ Y<|mv Y<|iG 4 18 ((jU l id)&&(!decide ((gP l id).gG=2))) ?_ ?_
 ·cases aDa:jU l id with
  | true=>
   refine wP g1 3 yx K3 s0 Y<|bG Y (rz Y Y) Y<|ev (dY Y Y)<|dI Y
  | false=>
   refine eB<|eB<|eB<|ev (eG Y Y)<|dI Y
 refine bS Y<|iI Y ?_
 have d9:(((jU l id)&&(!decide ((gP l id).gG=2))):Bool)=(lq l id):=by rfl
 exact⟨by rw [d9] <;> rfl,(K3.rm s0)⟩
theorem MQ(w:World){s:List Int}(lK:Sl dL S0 w u7 tN s)(IG:bI prog yS)(f:Int->Bool)(II:∀(w':World)(x:Int),Ext w w'->x∈s->bO prog yS (([aD x]:List Value)++yV).toArray w' λv w''=>v=.bool (f x)/\Ext w' w'') :
    bO prog 254 #[.slice u7 s.length tN,.func (.func yS) #[] yV.toArray] w λv w'=>v=.bool (s.any f)/\Hp w S0 w' []:=by
 refine j4 S0 func254 ntmps254 Y λH0=>iY Y<|bQ Y<|mv Y<|lF H0 Y (Ie _ (H0.a lK).any IG f (λw' x e hm=>II w' x (H0.ext.trans e) hm)) λw1 K1=>ev (pK Y Y)<|bS Y<|iI Y ?_
 have d9:(decide (0<=idxOf f s):Bool)=(s.any f):=by exact Tj f s
 exact⟨by rw [d9] <;> rfl,K1⟩
theorem anb(w:World)(id:Int){g_m:Nat}(m:dU)(h_m:Bx w g_m 45 [.slice uS m.aY.length uG,.slice tZ m.aA.length tJ,.slice r9 m.aQ.length rC])(GD:Sl bX S0 w uS uG m.aY)(IB:Sl bH S0 w tZ tJ m.aA)(OJ:Sl bZ S0 w r9 rC m.aQ)(hn:m.aY.length<=100000) :
    bO prog 251 #[aD id,fP g_m] w λv w'=>v=.bool (!lq m.aY id)/\Hp w S0 w' []:=by
 refine j4 S0 func251 ntmps251 Y λH0=>iY Y<|rg<|wC g_m 0 nD Y<|ev (cu acs Y (h_m.ext H0.ext) Y)<|mv Y<|lF H0 Y (YA _ (H0.a GD).any id aj) λw1 K1=>ev (gZ Y)<|bS Y<|iI Y ?_
 have d9:((!(lq m.aY id)):Bool)=(!lq m.aY id):=by first | with_reducible rfl | (simp; done) | omega
 exact⟨by rw [d9] <;> rfl,K1⟩
theorem anc(w:World)(c:aI){CW:ah}{Br:Nat}(F7:Sl dL S0 w CW Br c.aF){g_m:Nat}(m:dU)(h_m:Bx w g_m 45 [.slice uS m.aY.length uG,.slice tZ m.aA.length tJ,.slice r9 m.aQ.length rC])(GD:Sl bX S0 w uS uG m.aY)(IB:Sl bH S0 w tZ tJ m.aA)(OJ:Sl bZ S0 w r9 rC m.aQ){ane:Nat}(avn:Bx w ane 80 [.func (.func 251) #[] #[fP g_m]])(hn:m.aY.length<=100000) :
    bO prog 253 #[.agg #[aD c.ID,aD c.aC,fT c.Sum,.slice CW c.aF.length Br],fP ane] w λv w'=>v=.bool (c.aF.any (fun(id:Int)=>!lq m.aY id))/\Hp w S0 w' []:=by
 refine j4 S0 func253 ntmps253 Y λH0=>rg<|bx Y Y H0 λg1 w1 K1=>bS Y<|rg<|jD g1 3 kD K1 s0 Y<|ev (cu Ym Y (avn.ext K1.ext) Y)<|lF K1 Y (MQ _ (K1.a F7).any (yV:=[fP g_m]) avk (fun(x:Int)=>!lq m.aY x) (λw' x e hm=>(anb w' x m ((h_m.ext K1.ext).ext e) ((K1.a GD).any.ext e) ((K1.a IB).any.ext e) ((K1.a OJ).any.ext e) aj).mono (by rintro _ _ ⟨rfl,fG⟩; exact⟨rfl,fG.ext⟩))) λw2 K2=>bS rfl<|iI rfl ?_
 have d9:(c.aF.any (fun(x:Int)=>!lq m.aY x):Bool)=(c.aF.any (fun(id:Int)=>!lq m.aY id)):=by first | with_reducible rfl | (simp; done) | omega
 exact⟨by rw [d9] <;> rfl,(K2.rm s0)⟩
theorem OO(w:World){s:List aI}(lK:Sl bH S0 w u7 tN s)(IG:bI prog yS)(f:aI->Bool)(II:∀(w':World)(x:aI){ab7:ah}{ab8:Nat}(ab9:Sl dL Any w' ab7 ab8 x.aF),Ext w w'->x∈s->bO prog yS (([.agg #[aD x.ID,aD x.aC,fT x.Sum,.slice ab7 x.aF.length ab8]]:List Value)++yV).toArray w' λv w''=>v=.bool (f x)/\Ext w' w'') :
    bO prog 344 #[.slice u7 s.length tN,.func (.func yS) #[] yV.toArray] w λv w'=>v=aD (idxOf f s)/\Hp w S0 w' []:=by
 refine j4 S0 func344 ntmps344 Y λH0=>?_;have NI:=lK.bN;refine iY Y<|aZ<|bQ Y<|ev (eY jf Y)<|mv Y<|dn<|cZ<|Lp H0 (λl0 rk mJ lJ wJ=>∃(k:Nat),lJ=(8,aD ((k:Nat):Int))::l0/\mJ=s.length - k/\k<=s.length/\(∀ y∈s.take k,f y=false)/\Hp w S0 wJ rk) ⟨0,Y,Y,fK _,av,H0⟩ rfl ?_
 rintro _ _ w1 ⟨k,rfl,rfl,hk,hno,K1⟩;refine rg<|ev (fB Y Y)<|dn<|oC Y (λFQ=>?_) (λFQ=>?_)
 ·refine jh ?_;refine aZ<|cZ<|bQ Y<|bS Y<|bQ Y<|mv Y<|mv Y ?_
  obtain⟨x1,bP⟩:=bC (xs:=s) (i:=k) aj;refine ev (eU (i:=k) jf qG Y Y Y (aJ bP) ((K1.a lK).some_ bP)) ?_;obtain⟨B1,d1,Ak,hi1⟩:=Aj (lK.row bP);refine ev (fV (cs:=[aD x1.ID,aD x1.aC,fT x1.Sum,.slice B1 x1.aF.length d1]) pU Y Y (Ib (λj u hu=>K1.ext.cell (Ak j u hu))))<|wo Y Y Y IG (II _ x1 (K1.a hi1).any K1.ext (dA bP)) Y ?_
  rintro _ w2 ⟨rfl,e2⟩;have K2:=K1.grow e2;refine dn<|bR Y (λhc16=>?_) (λhc16=>?_)
  ·refine bQ Y<|bS Y<|je (jH (gL (gL (jH (gL (zD Y ?_))))))
   have d9:(((k:Nat):Int):Int)=(idxOf f s):=by exact(qD hno bP hc16).symm
   exact⟨by rw [d9] <;> rfl,K2⟩
  refine zF ?_;refine jr<|ev (dW Y Y)<|mv Y<|jv<|dQ ⟨(k+1),Y,Y,aj,by exact tQ (q:=λy=>f y=false) hno bP hc16,K2⟩ rfl aj
 refine wQ ?_;refine iY Y<|iI Y ?_
 have fG:((-1):Int)=(idxOf f s):=by exact(sQ (uW hno aj)).symm
 exact⟨by rw [<- fG] <;> rfl,K1⟩
theorem JD(w:World){s:List aI}(lK:Sl bH S0 w u7 tN s)(IG:bI prog yS)(f:aI->Bool)(II:∀(w':World)(x:aI){ab7:ah}{ab8:Nat}(ab9:Sl dL Any w' ab7 ab8 x.aF),Ext w w'->x∈s->bO prog yS (([.agg #[aD x.ID,aD x.aC,fT x.Sum,.slice ab7 x.aF.length ab8]]:List Value)++yV).toArray w' λv w''=>v=.bool (f x)/\Ext w' w'') :
    bO prog 256 #[.slice u7 s.length tN,.func (.func yS) #[] yV.toArray] w λv w'=>v=.bool (s.any f)/\Hp w S0 w' []:=by
 refine j4 S0 func256 ntmps256 Y λH0=>iY Y<|bQ Y<|mv Y<|lF H0 Y (OO _ (H0.a lK).any IG f (λw' x=>λab9 e hm=>II w' x ab9 (H0.ext.trans e) hm)) λw1 K1=>ev (pK Y Y)<|bS Y<|iI Y ?_
 have d9:(decide (0<=idxOf f s):Bool)=(s.any f):=by exact Tj f s
 exact⟨by rw [d9] <;> rfl,K1⟩
theorem aqT(w:World)(m:dU)(GD:Sl bX S0 w uS uG m.aY)(IB:Sl bH S0 w tZ tJ m.aA)(OJ:Sl bZ S0 w r9 rC m.aQ)(hn:m.aY.length<=100000)(hc:m.aA.length<=100000) :
    bO prog 167 #[.agg #[.slice uS m.aY.length uG,.slice tZ m.aA.length tJ,.slice r9 m.aQ.length rC]] w λv w'=>v=.bool (qz m)/\Hp w S0 w' []:=by
 refine j4 S0 func167 ntmps167 Y λH0=>rg<|bx Y Y H0 λg1 w1 K1=>bS Y<|rg<|ev (qC Y)<|al ahq Y K1 λg2 w2 K2=>wD Y K2 s0 Y λw3 K3=>dn<|rg<|ev (qC Y)<|bS Y<|rg<|jD g1 0 nD K3 s1 Y<|lF K3 Y (SE _ (K3.a GD).any) λw4 K4=>mv Y<|nA 4 14 ((uR m.aY)&&(lY m.aA)) ?_ ?_
 ·cases axJ:uR m.aY with
  | true=>
   refine wP g1 1 kE K4 s1 Y<|nu Y Y Y Y alD (Kr _ (K4.a IB).any aj) Y ?_
   rintro _ w5 ⟨rfl,h5⟩;refine ev (dY Y Y)<|iH Y h5.ext
  | false=>
   refine eB<|eB<|eB<|ev (eG Y Y)<|iH Y (om _)
 intro w6 e6;have K6:=K4.grow e6;refine mv Y<|nA 4 19 (((uR m.aY)&&(lY m.aA))&&(Az m.aQ)) ?_ ?_
 ·cases Qm:((uR m.aY)&&(lY m.aA)) with
  | true=>
   have aht:=Qm
   try simp only [bK,dZ,bL,bU] at aht
   refine wP g1 2 BD K6 s1 Y<|nu Y Y Y Y avh (ahD _ (K6.a OJ).any) Y ?_
   rintro _ w7 ⟨rfl,h7⟩;refine ev (dY Y Y)<|iH Y h7.ext
  | false=>
   refine eB<|eB<|eB<|ev (eG Y Y)<|iH Y (om _)
 intro w8 e8;have K8:=K6.grow e8;refine mv Y<|nA 6 26 ((((uR m.aY)&&(lY m.aA))&&(Az m.aQ))&&(!(m.aA.any (fun(x:aI)=>x.aF.any (fun(id:Int)=>!lq m.aY id))))) ?_ ?_
 ·cases ab4:(((uR m.aY)&&(lY m.aA))&&(Az m.aQ)) with
  | true=>
   have ab5:=ab4
   try simp only [bK,dZ,bL,bU] at ab5
   refine wP g1 1 kE K8 s1 Y<|bG Y (bA Y) Y<|nu Y Y Y Y avm (JD _ (K8.a IB).any (yV:=[fP g2]) avl (fun(x:aI)=>x.aF.any (fun(id:Int)=>!lq m.aY id)) (λw' x=>λab9 e hm=>(anc w' x ab9 m ((K8.x s1).ext e) ((K8.a GD).any.ext e) ((K8.a IB).any.ext e) ((K8.a OJ).any.ext e) ((K8.x s0).ext e) aj).mono (by rintro _ _ ⟨rfl,fG⟩; exact⟨rfl,fG.ext⟩))) rfl ?_
   rintro _ w9 ⟨rfl,h9⟩;refine bG Y (gZ Y) Y<|ev (dY Y Y)<|iH Y h9.ext
  | false=>
   refine eB<|eB<|eB<|eB<|eB<|ev (eG Y Y)<|iH Y (om _)
 intro Nn e10;have K10:=K8.grow e10;refine bS Y<|iI Y ?_
 have d9:(((((uR m.aY)&&(lY m.aA))&&(Az m.aQ))&&(!(m.aA.any (fun(x:aI)=>x.aF.any (fun(id:Int)=>!lq m.aY id))))):Bool)=(qz m):=by rfl
 exact⟨by rw [d9] <;> rfl,K10.z⟩
theorem adx(w:World)  :
    bO prog 257 #[] w λv w'=>∃(g0:Nat),v=.map (some g0)/\Hp w S0 w' [oH g0 (.map (Array.push (Array.push (Array.push (Array.push (Array.push (Array.push (Array.push (Array.push (#[]:Array MapEntry) ⟨aD 0,.func (.func 345) #[] #[],0⟩) ⟨aD 1,.func (.func 346) #[] #[],1⟩) ⟨aD 2,.func (.func 349) #[] #[],2⟩) ⟨aD 3,.func (.func 352) #[] #[],3⟩) ⟨aD 4,.func (.func 355) #[] #[],4⟩) ⟨aD 5,.func (.func 357) #[] #[],5⟩) ⟨aD 6,.func (.func 360) #[] #[],6⟩) ⟨aD 7,.func (.func 362) #[] #[],7⟩) 8)]:=by
 refine j4 S0 func257 ntmps257 Y λH0=>iY Y<|rg<|mkm H0 Y λg1 w1 K1=>ins K1 s0 Y Y Y GH iw Y λw2 K2=>ins K2 s0 Y Y Y GH iw Y λw3 K3=>ins K3 s0 Y Y Y GH iw Y λw4 K4=>ins K4 s0 Y Y Y GH iw Y λw5 K5=>ins K5 s0 Y Y Y GH iw Y λw6 K6=>ins K6 s0 Y Y Y GH iw Y λw7 K7=>ins K7 s0 Y Y Y GH iw Y λw8 K8=>ins K8 s0 Y Y Y GH iw Y λw9 K9=>mv Y<|bS Y<|iI Y ?_
 exact⟨g1,Y,K9⟩
end Go.Proofs.YtlhnnmlenkahlaaGreat
