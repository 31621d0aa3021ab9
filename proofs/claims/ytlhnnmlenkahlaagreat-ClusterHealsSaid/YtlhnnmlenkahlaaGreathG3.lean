/- Lemmas. -/
import Derived.Shelf.Bodies2
import Derived.Test.YtlhnnmlenkahlaaGreathG2
set_option maxRecDepth 4000
set_option linter.all false
namespace Go.Proofs.YtlhnnmlenkahlaaGreat
open Go.RowKit Go.Proofs.Tryz
def uJ:=@info_parts
def abz:=@Bool.eq_iff_iff
def iV:=@underlying42
def BA:=@List.drop_eq_getElem_cons
def dO:=@Bool.or_eq_false_iff
def eT:=@Bool.or_eq_true
def Iy:=@List.all_eq_false
def tu:=@List.map_append
def KT:=@List.map_set
def eu:=@Bool.and_eq_false_imp
def fI:=@Bool.not_eq_false'
def wC:=@List.forall_mem_cons
def xF:=@false_implies
def xG:=@implies_true
def uK:=@and_true
def ni:=@List.length_filter_le
def abA:=@Nat.lt_trichotomy
def ayr:=@List.mem_or_eq_of_mem_set
def Xd:=@List.getElem?_take_of_lt
section
variable {S S0:Nat->Prop}{w:World}{wT A jU:ah}{vF jR:Nat}{s:List Int}{most:Int}
structure aF where
  ID:Int
  aB:Int
  Sum:Int
  aC:List Int
  deriving DecidableEq
def aF.enc(x:aF)(B0:ah)(d0:Nat):List Value:=[.int .i64 x.ID,.int .i64 x.aB,.int .u32 x.Sum,.slice B0 x.aC.length d0]
theorem aF.mD(x:aF)(B0:ah)(d0:Nat):∀ u∈x.enc B0 d0,u.oneCell'=true:=by
  intro u hu
  simp only [aF.enc,iR,mP,tq] at hu
  rcases hu with rfl | rfl | rfl | rfl <;> rfl
def bD:Ty aF where
  k:=4
  pos:=au
  R:=λS w x cs=>∃(B0:ah)(d0:Nat),cs=x.enc B0 d0/\Sl dQ S w B0 d0 x.aC
  len:=by rintro S w x cs ⟨B0,d0,rfl,h0⟩; rfl
  one:=by rintro S w x cs ⟨B0,d0,rfl,h0⟩; exact aF.mD x B0 d0
  keep:=by rintro S w w' x cs m ⟨B0,d0,rfl,h0⟩; exact⟨B0,d0,rfl,h0.keep m⟩
  sub:=by rintro S S' w x cs n ⟨B0,d0,rfl,h0⟩; exact⟨B0,d0,rfl,h0.sub n⟩
  bd:=by rintro S w x cs ⟨B0,d0,rfl,h0⟩; exact⟨B0,d0,rfl,h0.bd⟩
theorem aF.op{a:Addr}{i:Nat}{x:aF}(h:∃ cs,bD.R S w x cs/\∀ j u,cs[j]? = some u->w.cell? (a.add (i*4+j))=some u) :
    ∃(B0:ah)(d0:Nat),(∀ j u,(x.enc B0 d0)[j]? = some u->w.cell? (a.add (i*4+j))=some u)/\Sl dQ S w B0 d0 x.aC:=by
  obtain⟨cs,⟨B0,d0,rfl,h0⟩,h9⟩:=h;exact⟨B0,d0,h9,h0⟩
def zW:=@aF.op
structure bF where
  c:aF
  B:Option Addr
  d:Nat
def bF.enc(k:bF):List Value:=[.int .i64 k.c.ID,.int .i64 k.c.aB,.int .u32 k.c.Sum,.slice k.B k.c.aC.length k.d]
theorem bF.mD(k:bF):∀ u∈k.enc,u.oneCell'=true:=by
  intro u hu
  simp only [bF.enc,iR,mP,tq] at hu
  rcases hu with rfl | rfl | rfl | rfl <;> rfl
def tK:Ty bF:=Ty.flat 4 bF.enc au (λ_=>rfl) bF.mD
instance:Flat tK:=⟨λh=>h⟩
def ru(k:bF):Option Addr × Nat × List Int:=(k.B,k.d,k.c.aC)
section
variable {b w:World}{S:Nat->Prop}{rs rest xR:List lG}{A:ah}{c e:Nat}
theorem Hp.toK{l:List aF}(H:Hp b S w rs)(s:pq rs (aQ bD e A c l) rest):∃ ks:List bF,ks.map bF.c=l/\Hp b S w (aQ tK e A c ks::U6 dQ (ks.map ru)::rest):=by
  have hex:∀ i,i<l.length->∃ k:bF,∃ x,l[i]? = some x/\k.c=x/\Sl dQ (Rd b S rs w) w k.B k.d k.c.aC/\∀ cs,(bD.R (Rd b S rs w) w x cs/\∀ j u,cs[j]? = some u->w.cell? ((Ih A).add (i*4+j))=some u)->cs=k.enc:=by
    intro i hi;obtain⟨x,hx⟩:=bn hi;obtain⟨cs,⟨B,d,hcs,hs⟩,hc⟩:=H.oi s hx;refine⟨⟨x,B,d⟩,x,hx,Y,hs,?_⟩;rintro cs2 ⟨⟨B2,d2,hcs2,_⟩,hc2⟩;have h3:=hc 3 (.slice B x.aC.length d) (by rw [hcs]; rfl);have h4:=hc2 3 (.slice B2 x.aC.length d2) (by rw [hcs2]; rfl);have h5:w.cell? ((Ih A).add (i*4+3))=some (.slice B x.aC.length d):=h3;rw [h4] at h5
    injection h5 with h5
    injection h5 with hB _ hd
    subst hB hd;rw [hcs2]; rfl
  obtain⟨ks,hl,hk⟩:=KS l.length hex;refine⟨ks,?_,?_⟩
  · apply Gg
    intro i;rw [rQ]
    cases hi:ks[i]? with
    | none=>have:=List.getElem?_eq_none_iff.1 hi; rw [Oj aj]; rfl
    | some k=>obtain⟨x,h1,h2,_⟩:=hk i k hi; rw [h1,<- h2]; rfl
  · have hin:Hp b S w (U6 dQ (ks.map ru)::rs):=H.new (pW w) (λ_ h=>h.elim) (by
      intro r hr;obtain⟨k,hkm,rfl⟩:=gB.1 hr;obtain⟨i,hi⟩:=sZ hkm;obtain⟨x,_,_,h3,_⟩:=hk i k hi
      exact h3)
    have h1:Hp b S w (aQ bD e A c l::U6 dQ (ks.map ru)::rest):=(hin.sel (.t s));obtain⟨css,c1,c2,c3⟩:=H.ow s;refine(h1.put (r':=aQ tK e A c ks) ⟨Y,Y,Y,kJ _,λ_ _ _=>Y,kJ _⟩ (λg hg=>.inl hg) ?_);refine Own.low (S:=Rd b S rs w) ⟨css,by rw [c1,hl],λi y hy=>?_,by rw [<- hl] at c3; exact c3⟩ (fE _) (λg hg=>?_)
    · obtain⟨x,hx,_,_,h4⟩:=hk i y hy
      obtain⟨cs,h5,h6⟩:=c2 i x hx;refine⟨cs,h5,?_⟩;refine h4 cs ⟨h6,λj u hu=>?_⟩;have hkk:=Vh c1 c2
      rcases c3.2 with ⟨hv,hn⟩ | ⟨g,cap,cur,hv,hg,hh,hnc,hcm,hcs,ht⟩
      · have:=aM hx; omega
      · injection hv with hA hn' hc'
        subst hA hc';exact c3.cells (g:=g) Y _ _ (Po css hkk i cs h5 j u hu)
    · rcases hg with h | ⟨g1,g2,g3⟩
      · exact .inl h
      · refine .inr ⟨g1,g2,λr hr=>?_⟩
        rcases iR.1 hr with rfl | hr
        · exact g3 _ (s.perm.mem_iff.2 av)
        · rcases iR.1 hr with rfl | hr
          · exact λh=>h
          · exact g3 r (s.perm.mem_iff.2 (by simp [hr]))
theorem Hp.ofK{ks:List bF}(H:Hp b S w rs)(s:pq rs (aQ tK e A c ks) rest)(s':pq rest (U6 dQ (ks.map ru)) xR):Hp b S w (aQ bD e A c (ks.map bF.c)::xR):=by
  have hmem:U6 dQ (ks.map ru)∈rs:=s.perm.mem_iff.2 (by simp [s'.perm.mem_iff]);have hin:∀ r∈ks.map ru,Sl dQ (Rd b S rs w) w r.1 r.2.1 r.2.2:=H.ok (U6 dQ (ks.map ru)) hmem;refine(H.ayn (ρ:=bD) s Y av ?_).rm (.t s');intro i x y cs hx hy hR;rw [rQ,hx] at hy
  cases hy
  have hR':cs=x.enc:=hR;refine⟨x.B,x.d,hR',hin (ru x) (gB.2 ⟨x,bZ hx,Y⟩)⟩
theorem Hp.rdK{ks:List bF}(H:Hp b S w rs)(s:pq rs (aQ tK e A c ks) rest)(s':pq rest (fU dQ 3 (ks.map ru)) xR):Sl bD Any w A c (ks.map bF.c):=by
  have h1:=((H.sel s).perm (s'.perm.cons _):Hp b S w (aQ tK e A c ks::fU dQ 3 (ks.map ru)::xR));exact((h1.WW s1).ofK s1 s0).o s0
end
theorem uL:(prog.underlying 3).isSome=true/\prog.underlying 97=some (.int (prog.intKind 97))/\prog.intKind 97=.u64:=⟨ak,ak,ak⟩
theorem uM:(prog.underlying 97).isSome=true/\prog.underlying 3=some (.int (prog.intKind 3))/\prog.intKind 3=.i64:=⟨ak,ak,ak⟩
theorem ays:bJ prog 443:=ay
theorem aoK  : ∀ w,(Instr.buildSlice 55 0 (List.toArray [])).run prog w=.ok (.slice (some ⟨w.heap.size,0,none⟩) 0 0) (w.alloc (.cells (List.toArray []) 3)):=ay
theorem KU:lY prog 3 1 8:=by
  obtain⟨i,h1,h2,h3,h4⟩:=uJ (show(prog.info? 3).map (λi=>(i.zero,i.size,i.bytes))=some (some (aI 0),1,8) by kernel_rfl);exact⟨i,_,h1,h2,h3,h4,Y⟩
theorem ayt:wz prog 3 1 8:=by
  obtain⟨i,h1,h2,h3,h4⟩:=uJ (show(prog.info? 3).map (λi=>(i.zero,i.size,i.bytes))=some (some (aI 0),1,8) by kernel_rfl);exact⟨i,_,h1,h2,h3,h4,Y,λv hv=>ng.1 (show(Value.cells (aI 0)).toList.all (λv=>v.oneCell')=true from Y) v hv⟩
theorem qy:Size prog 59 4:=ay
theorem aoL:lY prog 59 4 48:=by
  obtain⟨i,h1,h2,h3,h4⟩:=uJ (show(prog.info? 59).map (λi=>(i.zero,i.size,i.bytes))=some (some (.agg #[aI 0,aI 0,gP 0,.slice none 0 0]),4,48) by kernel_rfl);exact⟨i,_,h1,h2,h3,h4,Y⟩
theorem aw4:wz prog 59 4 48:=by
  obtain⟨i,h1,h2,h3,h4⟩:=uJ (show(prog.info? 59).map (λi=>(i.zero,i.size,i.bytes))=some (some (.agg #[aI 0,aI 0,gP 0,.slice none 0 0]),4,48) by kernel_rfl);exact⟨i,_,h1,h2,h3,h4,Y,λv hv=>ng.1 (show(Value.cells (.agg #[aI 0,aI 0,gP 0,.slice none 0 0])).toList.all (λv=>v.oneCell')=true from Y) v hv⟩
theorem pQ:Z9 prog 59 4:=⟨λ_=>by kernel_rfl,qy⟩
theorem lX:∀ w,(zeroValue 59).run prog w=.ok (.agg #[aI 0,aI 0,gP 0,.slice none 0 0]) w:=ay
theorem sJ:dL prog 59 1 1:=ay
theorem kH:dL prog 59 3 3:=ay
theorem Dp:mg prog 55:=ay
theorem aoM:bJ prog 233:=ay
theorem qN:dL prog 59 0 0:=ay
theorem pR(a0:Int):∀ w,(Instr.buildSlice 55 1 (List.toArray [(0,aI a0)])).run prog w=.ok (.slice (some ⟨w.heap.size,0,none⟩) 1 1) (w.alloc (.cells (List.toArray [aI a0]) 3)):=ay
theorem aoN  : ∀ w,(Instr.buildSlice 42 0 (List.toArray [])).run prog w=.ok (.slice (some ⟨w.heap.size,0,none⟩) 0 0) (w.alloc (.cells (List.toArray []) 59)):=ay
theorem aoO:bJ prog 152:=ay
theorem PG:Size prog 55 1:=ay
theorem ayu:bJ prog 194:=ay
theorem aoP  : prog.built 59 []=some #[aI 0,aI 0,gP 0,.slice none 0 0]:=ak
theorem Xe(a0:Int)(a1:Int)(a2:Int):prog.built 59 [(0,aI a0),(1,aI a1),(2,gP a2)]=some #[aI a0,aI a1,gP a2,.slice none 0 0]:=ak
theorem abB(a0:Int)(a1:Int)(a2:Int)(a3:ah)(a3n a3c:Nat):∀ w,(Instr.buildSlice 42 1 (List.toArray [(0,.agg #[aI a0,aI a1,gP a2,.slice a3 a3n a3c])])).run prog w=.ok (.slice (some ⟨w.heap.size,0,none⟩) 1 1) (w.alloc (.cells (List.toArray [aI a0,aI a1,gP a2,.slice a3 a3n a3c]) 59)):=ay
theorem Xf:bJ prog 111:=ay
theorem aur(w:World)(x:Int)(y:Int) :
    bO prog 380 #[aI x,.int .i64 y] w λv w'=>v=.bool (decide (x<y))/\Hp w S0 w' []:=by
 refine lg S0 func380 ntmps380 Y λH0=>iT Y<|bQ Y<|nD H0 Y (Xc (S0:=Any) _ x) λw1 K1=>mv Y<|dN<|dN<|dN<|ev (dS Y Y)<|mv Y<|bE Y (bq Y) Y<|bE Y (bq Y) Y<|bE Y (fD Y Y) Y<|ev (dS Y Y)<|bX Y<|iP Y ?_
 exact⟨Y,K1⟩
theorem aeB(w:World)(nA:Sl dQ S0 w wT vF s)(val:Int) :
    bO prog 191 #[.slice wT s.length vF,aI val] w λv w'=>v=aI (idxOf (fun(x:Int)=>decide (x=val)) s)/\Hp w S0 w' []:=by
 refine lg S0 func191 ntmps191 Y λH0=>?_;have Sv:=nA.bC;refine iT Y<|aY<|bQ Y<|ev (eX fA Y)<|mv Y<|dn<|cB<|Lp H0 (λl0 rk mJ lJ wJ=>∃(k:Nat),lJ=(8,aI ((k:Nat):Int))::l0/\mJ=s.length - k/\k<=s.length/\(∀ y∈s.take k,(fun(x:Int)=>decide (x=val)) y=false)/\Hp w S0 wJ rk) ⟨0,Y,Y,fE _,av,H0⟩ rfl ?_
 rintro _ _ w1 ⟨k,rfl,rfl,hk,hno,K1⟩;refine rg<|ev (fD Y Y)<|dn<|pG Y (λFg=>?_) (λFg=>?_)
 ·refine jy ?_;refine aY<|cB<|bQ Y<|bX Y<|bQ Y<|mv Y<|mv Y ?_
  obtain⟨x1,bN⟩:=bn (xs:=s) (i:=k) aj;refine ev (eP (i:=k) fA uf Y Y Y (aM bN) ((K1.a nA).some_ bN))<|ev (kP jN Y ((K1.a nA).fJ (j:=0) bN Y))<|ev (iM Y Y)<|dn<|mZ Y (λhc16=>?_) (λhc16=>?_)
  ·refine bQ Y<|bX Y<|jf (iX (fO (fO (iX (fO (xV Y ?_))))))
   have fT:(((k:Nat):Int):Int)=(idxOf (fun(x:Int)=>decide (x=val)) s):=by exact(rF hno bN (by simp; omega)).symm
   exact⟨by rw [fT] <;> rfl,K1⟩
  refine Ci ?_;refine jC<|ev (dP Y Y)<|mv Y<|jD<|dG ⟨(k+1),Y,Y,aj,by exact nY (q:=λy=>decide (y=val)=false) hno bN (by simp; omega),K1⟩ rfl aj
 refine xq ?_;refine iT Y<|iP Y ?_
 have gu:((-1):Int)=(idxOf (fun(x:Int)=>decide (x=val)) s):=by exact(uG (wo hno aj)).symm
 exact⟨by rw [<- gu] <;> rfl,K1⟩
theorem abC(s:List Int)(v:Int):decide (0<=idxOf (fun(x:Int)=>decide (x=v)) s)=s.contains v:=by
  rw [abz]
  simp only [bM,nR]
  rcases wm (fun(x:Int)=>decide (x=v)) s with ⟨h1,h2⟩ | ⟨k,x,h1,h2,h3,h4⟩
  · rw [h1]; simp; intro h; have:=h2 v h; simp at this
  · rw [h1]; simp at h3; subst h3; simp; exact bZ h2
theorem kL(w:World)(nA:Sl dQ S0 w wT vF s)(val:Int) :
    bO prog 111 #[.slice wT s.length vF,aI val] w λv w'=>v=.bool (s.contains val)/\Hp w S0 w' []:=by
 refine lg S0 func111 ntmps111 Y λH0=>iT Y<|bQ Y<|mv Y<|nD H0 Y (aeB _ (H0.a nA).any val) λw1 K1=>ev (qD Y Y)<|bX Y<|iP Y ?_
 exact⟨by rw [abC s val] <;> rfl,K1⟩
theorem alT(w:World)(x:Int) :
    bO prog 443 #[aI x] w λv w'=>v=.bool false/\Hp w S0 w' []:=by
 refine lg S0 func443 ntmps443 Y λH0=>iT Y<|bQ Y<|mv Y<|ev (rY Y Y)<|bX Y<|iP Y ?_
 have fT:((!decide (x=x)):Bool)=false:=by simp
 exact⟨by rw [fT] <;> rfl,H0⟩
theorem NY(w:World)(nA:Sl dQ S0 w wT vF s)(target:Int)(hm:abr (fun(y:Int)=>bL y target) s)(hn:s.length<=1000000) :
    bO prog 420 #[.slice wT s.length vF,aI target] w λv w'=>v=.tuple #[aI ((low (fun(y:Int)=>bL y target) s:Nat):Int),.bool (hits (fun(y:Int)=>bL y target) s)]/\Hp w S0 w' []:=by
 refine lg S0 func420 ntmps420 Y λH0=>?_;have Sv:=nA.bC;refine rg<|jk Y<|bX Y<|bQ Y<|ev (eX fA Y)<|bX Y<|bQ Y<|jk Y<|bX Y<|aY<|cB<|Lp H0 (λl0 rk mJ lJ wJ=>∃(i j:Nat),lJ=(7,aI ((i:Nat):Int))::(8,aI ((j:Nat):Int))::l0/\mJ=j - i/\(i<=j/\j<=s.length)/\(∀(a:Nat)(y:Int),a<i->s[a]? = some y->bL y target<0)/\(∀(a:Nat)(y:Int),j<=a->s[a]? = some y->¬ bL y target<0)/\Hp w S0 wJ rk) ⟨0,s.length,Y,Y,by exact⟨fE _,kJ _⟩,by intro a y ha; omega,by intro a y ha hy; have:=aM hy; omega,H0⟩ rfl ?_
 rintro _ _ w1 ⟨i,j,rfl,rfl,hij,hlo,hhi,K1⟩;refine aY<|bQ Y<|mv Y<|ev (fD Y Y)<|dn<|mZ Y (λyX=>?_) (λyX=>?_)
 ·refine jy ?_;refine cB<|bQ Y<|mv Y<|ev (dP Y Y)<|ev (Ep (m:=i+j) uL.1 uL.2.1 uL.2.2 Y (zT aj))<|ev (Ev.aox (m:=i+j) Y Y)<|ev (Ep (m:=((i+j) / 2)) uM.1 uM.2.1 uM.2.2 Y (wQ aj))<|bX Y<|bQ Y<|mv Y ?_
  obtain⟨x1,bN⟩:=bn (xs:=s) (i:=((i+j) / 2)) aj;refine ev (eP (i:=((i+j) / 2)) fA uf Y Y Y (aM bN) ((K1.a nA).some_ bN))<|ev (kP jN Y ((K1.a nA).fJ (j:=0) bN Y))<|mv Y<|nD K1 Y (aur (S0:=Any) _ x1 target) λw2 K2=>dn<|mZ Y (λhc27=>?_) (λhc27=>?_)
  ·refine jC<|mv Y<|ev (dP Y Y)<|jk Y<|jD<|iw<|dG ⟨(((i+j) / 2)+1),j,Y,Y,aj,by first | exact hlo | exact λa y ha hy=>hm a _ y x1 aj hy bN (qE.2 hc27),by first | exact hhi | exact λa y ha hy hlt=>hc27 (qE.1 (hm _ a x1 y aj bN hy hlt)),K2⟩ rfl aj
  refine jC<|mv Y<|jk Y<|jD<|iw<|dG ⟨i,((i+j) / 2),Y,Y,aj,by first | exact hlo | exact λa y ha hy=>hm a _ y x1 aj hy bN (qE.2 hc27),by first | exact hhi | exact λa y ha hy hlt=>hc27 (qE.1 (hm _ a x1 y aj bN hy hlt)),K2⟩ rfl aj
 refine xq ?_;refine bQ Y<|mv Y<|mv Y<|ev (fD Y Y)<|mv Y<|pF 18 53 (hits (fun(y:Int)=>bL y target) s) ?_ ?_
 ·cases Sz:decide (((i:Nat):Int)<((s.length:Nat):Int)) with
  | true=>
   have aK1:=iY Sz;refine bE Y (bq Y) Y<|bE Y (bq Y) Y ?_
   obtain⟨x2,lN⟩:=bn (xs:=s) (i:=i) aj;refine bE Y (eP (i:=i) fA uf Y Y Y (aM lN) ((K1.a nA).some_ lN)) Y<|bE Y (kP jN Y ((K1.a nA).fJ (j:=0) lN Y)) Y<|bE Y (bq Y) Y<|bE Y (iM Y Y) Y<|bE Y (bq Y) Y<|pF 10 52 ((decide (x2=target))||false) ?_ ?_
   ·cases aNc:decide (x2=target) with
    | true=>
     refine dN<|dN<|dN<|dN<|dN<|dN<|dN<|dN<|dN<|bE Y (dM Y Y) Y<|jo Y (pW _)
    | false=>
     refine bE Y (bq Y) Y<|bE Y (bq Y) Y<|bE Y (eP (i:=i) fA uf Y Y Y (aM lN) ((K1.a nA).some_ lN)) Y<|bE Y (kP jN Y ((K1.a nA).fJ (j:=0) lN Y)) Y<|oD Y Y Y Y ays (alT (S0:=Any) _ x2) Y ?_
     rintro _ w3 ⟨rfl,h3⟩;refine bE Y (bq Y) Y<|dN<|dN<|bE Y (dS Y Y) Y<|bE Y (dS Y Y) Y<|jo Y h3.ext
   intro w4 e4;refine ev (dM Y Y)<|gJ (t:=53) Y (aV Value.bool (by have hl:=xB (i:=i) aj hlo (λa y ha=>hhi a y aj); unfold hits; rw [hl,lN]; rw [abz]; simp [zu]))<|jo rfl e4
  | false=>
   refine dN<|dN<|dN<|dN<|dN<|dN<|dN<|dN<|dN<|dN<|dN<|dN<|dN<|dN<|dN<|dN<|dN<|ev (dS Y Y)<|gJ (t:=53) (u:=.bool false) (v:=.bool (hits (fun(y:Int)=>bL y target) s)) Y (aV Value.bool (by have hl:=xB (g:=fun(y:Int)=>bL y target) (s:=s) (i:=i) aj hlo (λa y ha=>hhi a y aj); unfold hits; rw [hl,Oj (by have:=jS Sz; omega)])) ?_
   exact jo Y (pW _)
 intro w5 e5;have K5:=K1.grow e5;refine jk Y<|bX Y<|iP Y ?_
 have fT:(i:Nat)=(low (fun(y:Int)=>bL y target) s):=by exact(xB (g:=fun(y:Int)=>bL y target) aj hlo (λa y ha=>hhi a y aj)).symm
 exact⟨by rw [<- fT] <;> rfl,K5⟩
abbrev abD:=(([]:List Int):List Int)
theorem uq(w:World)(nA:Sl dQ S0 w wT vF s)(hn:s.length<=1000000) :
    bO prog 60 #[.slice wT s.length vF] w λv w'=>∃(A0:ah)(c0:Nat),v=.slice A0 s.length c0/\Hp w S0 w' [aQ dQ 3 A0 c0 s]:=by
 refine lg S0 func60 ntmps60 Y λH0=>iT Y<|aY<|bQ Y<|ev (NW fA Y Y)<|dn<|bP Y (λhc4=>?_) (λhc4=>?_)
 ·refine iT Y<|wO Y ?_
  have H1:=H0.nil dQ 3;have fT:abD=s:=by have h1:=nA.nil (by simpa using hc4); have h2:=nA.cap; exact(qF aj).symm
  have H2:=(fT▸H1:Hp w S0 w (aQ dQ 3 none 0 s::[]));exact⟨none,0,by rw [<- fT] <;> rfl,H2⟩
 refine jy ?_;refine rg<|bs0 Y (by intro _; apply aoK) rfl H0 λg1 w1 K1=>mv rfl<|ap K1 s0 rfl rfl (K1.a nA).any fA KU av (by first | omega | (simp; omega) | (simp; done)) rfl λpU pV w2 K2=>bX rfl<|iP rfl ?_
 have gu:((([]:List Int)++s):List Int)=s:=by simp
 rw [gu] at K2;exact⟨pU,pV,by rw [gu] <;> rfl,K2⟩
theorem abE{b:World}{F:List lG}{c:Nat}{xs:List Int}(H0:Hp b S w (aQ dQ 3 A c xs::F)){i j:Nat}(hij:i<j)(hj:j<=xs.length) :
    bO prog 423 #[.slice A xs.length c,aI (i:Int),aI (j:Int)] w λv w'=>v=.slice A (xs.take i++xs.drop j).length c/\Hp b S w' (aQ dQ 3 A c (xs.take i++xs.drop j)::F):=by
 refine rU func423 ntmps423 Y ?_;have Xg:=(H0.o s0).bC;have hcap:=(H0.o s0).cap;refine iT Y<|bQ Y<|mv Y<|mv Y<|mv Y<|ev (eX fA Y)<|ev (Ev.auh fA uf Y Y Y Y Y Y Y aj hj (H0.o s0).cap)<|dn<|aY<|bQ Y<|mv Y<|ev (iM Y Y)<|dn<|mZ Y (λhc16=>?_) (λhc16=>?_)
 ·omega
 refine jy ?_;refine bQ Y<|ev (eX fA Y)<|bX Y<|He H0 (λ_ K=>(K.rm s0)) (λl0 rk lJ wJ=>lJ=(0,.slice A ((xs.take i++xs.drop j).length) c)::l0/\Hp b S wJ (aQ dQ 3 A c (xs.take i++xs.drop j)::rk)) (λhns H1=>?_) ?_
 ·have k1:=(H1.rm s0);refine lQ 0 Y Y k1<|lQ 1 Y Y k1<|lQ 3 Y Y k1<|lQ 4 Y Y k1<|Jn H1 (λl0 rk lJ wJ=>lJ=(22,.slice A ((xs.take i).length) c)::(25,.slice (sS A c j 1) ((xs.drop j).length) (c - j))::l0/\Hp b S wJ rk) 2 63 ?_ λhS1=>?_
  ·rintro _ w2 ⟨rfl,K2⟩;refine O1 6 Y<|abv K2 s0 Y Y fA KU hij hj λw3 K3=>?_
   have k3:=(K3.rm s0);refine aO k3<|xL 7 Y Y k3<|Dn ⟨Y,K3⟩ Y
  refine O2 2 5 Y Y ?_ ?_
  ·refine ev (F7 fA uf Y Y Y aj (H1.o s0).cap)<|aO k1<|O1 5 Y<|ev (F8 fA uf Y Y Y aj (H1.o s0).cap)<|Kj hS1 k1 ⟨Y,H1⟩ Y
  ·refine ev (F8 fA uf Y Y Y aj (H1.o s0).cap)<|aO k1<|O1 2 Y<|ev (F7 fA uf Y Y Y aj (H1.o s0).cap)<|Kj hS1 k1 ⟨Y,H1⟩ Y
 rintro _ w4 ⟨rfl,K4⟩;refine bQ Y<|mv Y<|ev (eX fA Y)<|mv Y ?_
 have hln:(xs.take i++xs.drop j).length+(j - i)=xs.length:=by simp only [jG,iF,rR]; omega
 refine ev (Ev.aui fA uf Y Y Y Y Y aj hcap)<|aeu K4 s0 Y fA ayt aj λw5 K5=>dn<|bQ Y<|bX Y<|iP Y ?_
 exact⟨Y,K5⟩
theorem Xh{b:World}{F:List lG}{c:Nat}{xs:List aF}(H0:Hp b S w (aQ bD 59 A c xs::F)){i j:Nat}(hij:i<j)(hj:j<=xs.length) :
    bO prog 424 #[.slice A xs.length c,aI (i:Int),aI (j:Int)] w λv w'=>v=.slice A (xs.take i++xs.drop j).length c/\Hp b S w' (aQ bD 59 A c (xs.take i++xs.drop j)::F):=by
 refine rU func424 ntmps424 Y ?_;have Xg:=(H0.o s0).bC;have hcap:=(H0.o s0).cap;refine iT Y<|bQ Y<|mv Y<|mv Y<|mv Y<|ev (eX iV Y)<|ev (Ev.auh iV qy Y Y Y Y Y Y Y aj hj (H0.o s0).cap)<|dn<|aY<|bQ Y<|mv Y<|ev (iM Y Y)<|dn<|mZ Y (λhc16=>?_) (λhc16=>?_)
 ·omega
 refine jy ?_;refine bQ Y<|ev (eX iV Y)<|bX Y<|He H0 (λ_ K=>(K.rm s0)) (λl0 rk lJ wJ=>lJ=(0,.slice A ((xs.take i++xs.drop j).length) c)::l0/\Hp b S wJ (aQ bD 59 A c (xs.take i++xs.drop j)::rk)) (λhns H1=>?_) ?_
 ·have k1:=(H1.rm s0);refine lQ 0 Y Y k1<|lQ 1 Y Y k1<|lQ 3 Y Y k1<|lQ 4 Y Y k1<|Jn H1 (λl0 rk lJ wJ=>lJ=(22,.slice A ((xs.take i).length) c)::(25,.slice (sS A c j 4) ((xs.drop j).length) (c - j))::l0/\Hp b S wJ rk) 2 63 ?_ λhS1=>?_
  ·rintro _ w2 ⟨rfl,K2⟩;refine O1 6 Y<|abv K2 s0 Y Y iV aoL hij hj λw3 K3=>?_
   have k3:=(K3.rm s0);refine aO k3<|xL 7 Y Y k3<|Dn ⟨Y,K3⟩ Y
  refine O2 2 5 Y Y ?_ ?_
  ·refine ev (F7 iV qy Y Y Y aj (H1.o s0).cap)<|aO k1<|O1 5 Y<|ev (F8 iV qy Y Y Y aj (H1.o s0).cap)<|Kj hS1 k1 ⟨Y,H1⟩ Y
  ·refine ev (F8 iV qy Y Y Y aj (H1.o s0).cap)<|aO k1<|O1 2 Y<|ev (F7 iV qy Y Y Y aj (H1.o s0).cap)<|Kj hS1 k1 ⟨Y,H1⟩ Y
 rintro _ w4 ⟨rfl,K4⟩;refine bQ Y<|mv Y<|ev (eX iV Y)<|mv Y ?_
 have hln:(xs.take i++xs.drop j).length+(j - i)=xs.length:=by simp only [jG,iF,rR]; omega
 refine ev (Ev.aui iV qy Y Y Y Y Y aj hcap)<|aeu K4 s0 Y iV aw4 aj λw5 K5=>dn<|bQ Y<|bX Y<|iP Y ?_
 exact⟨Y,K5⟩
def nS(most:Int):Int->List Int->Bool
  | _,[]=>true
  | Dy,n::l=>!(decide (n<Dy)||decide (most<n))&&nS most (n+1) l
def oL(c:aF):Bool:=!(decide (c.aB<1)||decide (1073741824<c.aB)||!nS 16 1 c.aC)
def kI(l:List aF):Bool:=l.all oL&&decide (l.length<=32)&&nS 1048576 1 (l.map aF.ID)
def eD(l:List aF):List aF:=if kI l then l else[]
theorem D8(l:List aF):(eD l).length<=l.length:=by unfold eD; split <;> simp
theorem Uz{z:Int}{l:List Int}{k:Nat}{x:Int}(hx:l[k]? = some x):nS most z (l.drop k)=(!(decide (x<z)||decide (most<x))&&nS most (x+1) (l.drop (k+1))):=by
  rw [BA (aM hx),(sN.1 hx).2]; rfl
theorem BD:∀(l:List Int)(z:Int),nS most z l=true->∀ x∈l,z<=x/\x<=most
  | [],_,_,x,hx=>by simp at hx
  | y::l,z,h,x,hx=>by
    simp only [nS,bK,dZ,dO,bV] at h
    rcases iR.1 hx with rfl | hx
    · omega
    · have:=BD l _ h.2 x hx; omega
theorem D9:∀(l:List Int)(z:Int),nS most z l=true->l.Pairwise (λx y=>x<y)
  | [],_,_=>List.Pairwise.nil
  | y::l,z,h=>by
    simp only [nS,bK,dZ,dO,bV] at h
    exact nW.2 ⟨λx hx=>by have:=BD l _ h.2 x hx; omega,D9 l _ h.2⟩
theorem kM{l:List aF}:kI l=true↔(∀ c∈l,oL c=true)/\l.length<=32/\nS 1048576 1 (l.map aF.ID)=true:=by
  unfold kI; simp only [bK,ng,bM,and_assoc]
theorem Cj(l:List aF):Up aF.ID (eD l):=by
  unfold eD; split
  · rename_i h
    have:=D9 _ _ (kM.1 h).2.2;rw [Ir] at this;exact this
  · exact List.Pairwise.nil
theorem zw(l:List aF):kI (eD l)=true:=by
  unfold eD; split
  · assumption
  · rfl
theorem wD{l:List aF}(h:kI l=true):eD l=l:=by unfold eD; rw [aS h]
theorem alU{l:List aF}(h:kI l=false):eD l=[]:=by unfold eD; rw [h]; rfl
theorem aeC(w:World){l:List Int}(jE:Sl dQ S0 w jU jR l)(Dy:Int)(most:Int)(hm:most<=9223372036854775806)(hl0:0<=Dy) :
    bO prog 233 #[.slice jU l.length jR,aI Dy,aI most] w λv w'=>v=.bool (nS most Dy l)/\Hp w S0 w' []:=by
 refine lg S0 func233 ntmps233 Y λH0=>?_;have GJ:=jE.bC;refine iT Y<|aY<|bQ Y<|ev (eX fA Y)<|mv Y<|dn<|cB<|Lp H0 (λl0 rk mJ lJ wJ=>∃(k:Nat)(z:Int),lJ=(1,aI z)::(11,aI ((k:Nat):Int))::l0/\mJ=l.length - k/\k<=l.length/\(nS most Dy l=nS most z (l.drop k))/\(0<=z)/\Hp w S0 wJ rk) ⟨0,Dy,Y,Y,fE _,av,by exact hl0,H0⟩ rfl ?_
 rintro _ _ w1 ⟨k,z,rfl,rfl,hk,hz,hz0,K1⟩;refine rg<|ev (fD Y Y)<|dn<|pG Y (λnN=>?_) (λnN=>?_)
 ·refine jy ?_;refine aY<|cB<|rg ?_
  obtain⟨x1,bN⟩:=bn (xs:=l) (i:=k) aj;refine ev (eP fA uf Y Y Y (aM bN) ((K1.a jE).some_ bN))<|ev (kP jN Y ((K1.a jE).fJ (j:=0) bN Y))<|bX Y<|aY<|bQ Y<|mv Y<|ev (fD Y Y)<|mv Y<|iO 4 22 ((decide (x1<z))||(decide (most<x1))) ?_ ?_
  ·cases ayv:decide (x1<z) with
   | true=>
    refine dN<|dN<|dN<|ev (dM Y Y)<|dJ Y
   | false=>
    have aw5:=jS ayv;refine bE Y (bq Y) Y<|bE Y (bq Y) Y<|bE Y (sQ Y Y) Y<|ev (dS Y Y)<|dJ Y
  refine dn<|bP Y (λhc22=>?_) (λhc22=>?_)
  ·try simp only [eT,dO,bM,bV] at hc22
   refine iT Y<|jf (fO (iX (fO (fO (iX (fO (xV Y ?_)))))))
   have fT:(false:Bool)=(nS most Dy l):=by rw [hz,Uz bN]; simp; intro h1 h2; omega
   exact⟨by rw [<- fT] <;> rfl,K1⟩
  try simp only [eT,dO,bM,bV] at hc22
  refine jy ?_;refine jC<|mv Y<|ev (dP Y Y)<|jk Y<|jD<|iw (gy ?_)
  refine jC<|ev (dP Y Y)<|mv Y<|jD<|dG ⟨(k+1),x1+1,Y,Y,aj,by rw [hz,Uz bN]; simp [hc22],aj,K1⟩ rfl aj
 refine xq ?_;refine iT Y<|iP Y ?_
 have gu:(true:Bool)=(nS most Dy l):=by rw [hz,Gf aj]; rfl
 exact⟨by rw [<- gu] <;> rfl,K1⟩
abbrev abF(iE:List aF):=((iE.length:Nat):Int)<=32
theorem MP(w:World){l:List aF}(jE:Sl bD S0 w jU jR l)(hn:l.length<=100000) :
    bO prog 152 #[.slice jU l.length jR] w λv w'=>v=.bool (kI l)/\Hp w S0 w' []:=by
 refine lg S0 func152 ntmps152 Y λH0=>iT Y<|iT Y<|aY<|bQ Y<|ev (eX iV Y)<|mv Y<|dn<|cB ?_
 have H1:=H0.nil dQ 3;have fT:abD=((l.take 0).map aF.ID):=by rfl
 refine lF (t:=3) Y (aV (λz=>Value.slice none (List.length z) 0) fT) ?_;have H2:=H1.nil dQ 3;have H3:=(fT▸H2:Hp w S0 w (aQ dQ 3 none 0 ((l.take 0).map aF.ID)::[aQ dQ 3 none 0 []]));refine Lp (H3.cU 0 2) (λl0 rk mJ lJ wJ=>∃(k:Nat)(A3:ah)(c3:Nat),lJ=(3,.slice A3 (((l.take k).map aF.ID).length) c3)::(8,aI ((k:Nat):Int))::l0/\mJ=l.length - k/\k<=l.length/\(∀ y∈l.take k,oL y=true)/\Hp w S0 wJ (aQ dQ 3 A3 c3 ((l.take k).map aF.ID)::rk)) ⟨0,none,0,Y,Y,fE _,av,(H3.rm s1)⟩ rfl ?_;rintro _ _ w1 ⟨k,A3,c3,rfl,rfl,hk,hall,K1⟩;refine rg<|ev (fD Y Y)<|dn<|pG Y (λFg=>?_) (λFg=>?_)
 ·refine jy ?_;refine aY<|cB<|rg ?_
  obtain⟨x1,bN⟩:=bn (xs:=l) (i:=k) aj;refine ev (eP (i:=k) iV qy Y Y Y (aM bN) ((K1.a jE).some_ bN)) ?_;obtain⟨B1,d1,zF,hi1⟩:=zW (jE.row bN);refine ev (iU pQ Y Y (FE (λj u hu=>K1.ext.cell (zF j u hu))))<|al lX Y K1 λg1 w2 K2=>sty Y K2 s0 Y λw3 K3=>dn<|aY<|rg<|j6 g1 1 sJ K3 s0 Y<|ev (fD Y Y)<|mv Y<|iO 4 19 ((decide (x1.aB<1))||(decide (1073741824<x1.aB))) ?_ ?_
  ·cases U7:decide (x1.aB<1) with
   | true=>
    refine dN<|dN<|dN<|ev (dM Y Y)<|dJ Y
   | false=>
    refine wB g1 1 sJ K3 s0 Y<|bE Y (sQ Y Y) Y<|ev (dS Y Y)<|dJ Y
  refine mv Y<|pF 5 25 (((decide (x1.aB<1))||(decide (1073741824<x1.aB)))||(!(nS 16 1 x1.aC))) ?_ ?_
  ·cases abG:((decide (x1.aB<1))||(decide (1073741824<x1.aB))) with
   | true=>
    refine dN<|dN<|dN<|dN<|ev (dM Y Y)<|jo Y (pW _)
   | false=>
    have aeD:=abG
    try simp only [eT,dO,bM,bV] at aeD
    refine wB g1 3 kH K3 s0 Y<|oD Y Y Y Y aoM (aeC _ (K3.a hi1).any 1 16 aj aj) Y ?_
    rintro _ w4 ⟨rfl,h4⟩;refine bE Y (iG Y) Y<|ev (dS Y Y)<|jo Y h4.ext
  intro w5 e5;have K5:=K3.grow e5;refine dn<|bP Y (λhc25=>?_) (λhc25=>?_)
  ·refine iT Y<|jf (fO (iX (fO (fO (iX (fO (xV Y ?_)))))))
   have gu:(false:Bool)=(kI l):=by symm; unfold kI; rw [show l.all oL=false from by rw [Iy]; exact⟨x1,bZ bN,by unfold oL; rw [hc25]; simp⟩]; rfl
   exact⟨by rw [<- gu] <;> rfl,K5.z⟩
  refine jy ?_;refine jC<|mv Y<|j6 g1 0 qN K5 s0 Y<|Bh Y (by intro _; apply pR) rfl K5 (λ_ _=>rfl) λg2 w6 K6=>ap K6 s2 rfl rfl (K6.o s0) fA KU (by first | omega | (simp; omega) | (simp; done)) av rfl λpU pV w7 K7=>jk rfl<|jD<|iw (gy ?_)
  refine jC<|ev (dP Y Y)<|mv Y<|jD ?_
  have kC:((((l.take k).map aF.ID)++([x1.ID]:List Int)):List Int)=((l.take (k+1)).map aF.ID):=by rw [fC bN,tu]; rfl
  refine jq (t:=3) Y (aV (λz=>Value.slice pU (List.length z) pV) kC) ?_;rw [kC] at K7;exact dG ⟨(k+1),pU,pV,Y,Y,aj,by exact nY hall bN (by unfold oL; rw [hc25]; rfl),(K7.cU 1 2)⟩ rfl aj
 refine xq ?_;refine bQ Y<|ev (eX iV Y)<|ev (u7 Y Y)<|mv Y<|pF 3 38 ((decide (abF l))&&(nS 1048576 1 ((l.take k).map aF.ID))) ?_ ?_
 ·cases Sz:decide (abF l) with
  | true=>
   refine bE Y (bq Y) Y<|oD Y Y Y Y aoM (aeC _ (K1.o s0) 1 1048576 aj aj) Y ?_
   rintro _ w8 ⟨rfl,h8⟩;refine ev (dM Y Y)<|jo Y h8.ext
  | false=>
   refine dN<|dN<|ev (dS Y Y)<|jo Y (pW _)
 intro w9 e9;have K9:=K1.grow e9;refine bX Y<|iP Y ?_
 have nC:(((decide (abF l))&&(nS 1048576 1 ((l.take k).map aF.ID))):Bool)=(kI l):=by rw [gV aj] at hall ⊢; unfold kI; rw [show l.all oL=true from by rw [ng]; exact hall,show decide (abF l)=decide (l.length<=32) from by rw [decide_eq_decide]; omega,Bool.true_and]
 exact⟨by rw [nC] <;> rfl,(K9.rm s0)⟩
abbrev Xi:=(([]:List aF):List aF)
theorem vG(w:World){s:List aF}(nA:Sl bD S0 w wT vF s)(hn:s.length<=1000000) :
    bO prog 59 #[.slice wT s.length vF] w λv w'=>∃(A0:ah)(c0:Nat),v=.slice A0 s.length c0/\Hp w S0 w' [aQ bD 59 A0 c0 s]:=by
 refine lg S0 func59 ntmps59 Y λH0=>iT Y<|aY<|bQ Y<|ev (NW iV Y Y)<|dn<|bP Y (λhc4=>?_) (λhc4=>?_)
 ·refine iT Y<|wO Y ?_
  have H1:=H0.nil bD 59;have fT:Xi=s:=by have h1:=nA.nil (by simpa using hc4); have h2:=nA.cap; exact(qF aj).symm
  have H2:=(fT▸H1:Hp w S0 w (aQ bD 59 none 0 s::[]));exact⟨none,0,by rw [<- fT] <;> rfl,H2⟩
 refine jy ?_;refine rg<|bs0 Y (by intro _; apply aoN) rfl H0 λg1 w1 K1=>mv rfl<|apd K1 s0 rfl rfl (K1.a nA) iV aoL av (by first | omega | (simp; omega) | (simp; done)) rfl λpU pV w2 K2=>bX rfl<|iP rfl ?_
 have gu:((([]:List aF)++s):List aF)=s:=by simp
 rw [gu] at K2;exact⟨pU,pV,by rw [gu] <;> rfl,K2⟩
theorem SA{ks:List bF}{i:Nat}{k k':bF}(hx:ks[i]? = some k):(((ks.set i k').take (i+1)).map ru)=((ks.take i).map ru)++[ru k']:=by
  have h1:(ks.set i k')[i]? = some k':=rT (aM hx);rw [fC h1,tu,List.take_set_of_le (kJ _)]; rfl
theorem Xj{ks:List bF}{i:Nat}{k k':bF}(hx:ks[i]? = some k)(hc:k'.c=k.c):(ks.set i k').map bF.c=ks.map bF.c:=by
  apply Gg;intro j;rw [rQ,rQ]
  by_cases h:i=j
  · subst h; rw [rT (aM hx),hx]; simp [hc]
  · rw [Io h]
theorem alV{ks:List bF}{i:Nat}{k':bF}:(ks.set i k').map bF.c=(ks.map bF.c).set i k'.c:=by rw [KT]
theorem Et{ks:List bF}{i:Nat}{k':bF}:(ks.set i k').map ru=(ks.map ru).set i (ru k'):=by rw [KT]
theorem Xk(w:World){l:List aF}(jE:Sl bD S0 w jU jR l)(hn:l.length<=100000)(hh:∀ x∈l,x.aC.length<=100000) :
    bO prog 116 #[.slice jU l.length jR] w λv w'=>∃(A:ah)(c:Nat)(ks:List bF),v=.slice A ks.length c/\ks.map bF.c=eD l/\Hp w S0 w' [aQ tK 59 A c ks,fU dQ 3 (ks.map ru)]:=by
 refine rU func116 ntmps116 Y ?_;have GJ:=jE.bC;have H0:=Hp.init w S0;refine iT Y<|aY<|bQ Y<|nD H0 Y (MP _ (H0.a jE).any aj) λw1 K1=>ev (iG Y)<|dn<|bP Y (λhc8=>?_) (λhc8=>?_)
 ·try simp only [eT,dO,bK,eu,dZ,fI,bM,bV] at hc8
  refine iT Y<|wO Y ?_
  have H1:=K1.nil tK 59;have H2:=H1.aev dQ 3;exact⟨none,0,[],Y,by rw [alU hc8]; rfl,(H2.sel s1)⟩
 try simp only [eT,dO,bK,eu,dZ,fI,bM,bV] at hc8
 refine jy ?_;refine bQ Y<|gU Y (vG _ (K1.a jE) aj) ?_
 rintro _ w2 ⟨pI,pJ,rfl,h2⟩;have K2:=K1.c1 h2;refine bX Y<|aY ?_
 obtain⟨PI,aeE,HK1⟩:=Hp.toK K2 s0;have HK2:=HK1.aev dQ 3;have ahP:PI.length=l.length:=by rw [<- aeE,kF]
 refine lF (t:=3) Y (aV (λz=>Value.slice pI z pJ) ahP.symm)<|bQ Y<|ev (eX iV Y)<|mv Y<|dn<|cB ?_
 have fT:[]=((PI.take 0).map ru):=by rfl
 rw [fT] at HK2;refine Lp (HK2.cU 0 2) (λl0 rk mJ lJ wJ=>∃(k:Nat)(ks:List bF),lJ=(3,.slice pI ks.length pJ)::(11,.slice pI ks.length pJ)::(13,aI ((k:Nat):Int))::l0/\mJ=PI.length - k/\k<=PI.length/\(ks.length=PI.length)/\(ks.map bF.c=l)/\(∀ j,k<=j->ks[j]? = PI[j]?)/\Hp w S0 wJ (aQ tK 59 pI pJ ks::fU dQ 3 ((ks.take k).map ru)::rk)) ⟨0,PI,Y,Y,fE _,by rfl,by exact aeE,by intro j _; rfl,((HK2.sel s0).sel s1)⟩ rfl ?_;rintro _ _ w3 ⟨k,ks,rfl,rfl,hk,hkn,hka,hkb,K3⟩;refine rg<|ev (fD Y Y)<|dn<|pG Y (λrz=>?_) (λrz=>?_)
 ·refine jy ?_;refine aY<|cB<|bQ Y ?_
  obtain⟨x1,bN⟩:=bn (xs:=ks) (i:=k) aj;refine ev (eP (i:=k) iV qy Y Y Y (aM bN) ((K3.o s0).some_ bN))<|ev (iU pQ Y Y ((K3.o s0).fF bN))<|al lX Y K3 λg1 w4 K4=>jk Y<|sty Y K4 s0 Y λw5 K5=>dn ?_
  have hin:=K5.aym s3 (gB.2 ⟨x1,bZ (by rw [<- hkb k (kJ _)]; exact bN),rfl⟩:(x1.B,x1.d,x1.c.aC)∈_);have hHl:x1.c.aC.length<=100000:=hh x1.c (by rw [<- hka]; exact gB.2 ⟨x1,bZ bN,rfl⟩);have H3:=K5.push hin;refine jC<|mv Y<|mv Y<|j6 g1 3 kH H3 s1 Y<|gU Y (uq _ (H3.s s0).any aj) ?_
  rintro _ w6 ⟨Fq,Fv,rfl,h6⟩;have K6:=H3.f1 h6;refine ev (eP iV qy Y Y Y (aM bN) ((K6.o s3).some_ bN))<|ev (fQ kH Y (fV _ _ _))<|se (x':=({ x1 with B:=Fq,d:=Fv }:bF)) (ds:=[.slice Fq x1.c.aC.length Fv]) K6 s3 Y Y Y bN Y PG (nX Y) Y (by rintro _ _ _ ⟨⟩; rfl) λw7 K7=>?_
  have hl1:(ks.set k ({ x1 with B:=Fq,d:=Fv }:bF)).length=ks.length:=gW ..;refine gJ (t:=3) (u:=.slice pI ks.length pJ) (v:=.slice pI ((ks.set k ({ x1 with B:=Fq,d:=Fv }:bF)).length) pJ) Y (by rw [hl1])<|gJ (t:=11) (u:=.slice pI ks.length pJ) (v:=.slice pI ((ks.set k ({ x1 with B:=Fq,d:=Fv }:bF)).length) pJ) rfl (by rw [hl1])<|gJ (t:=18) (v:=.slice pI ((ks.set k ({ x1 with B:=Fq,d:=Fv }:bF)).length) pJ) rfl (by rw [hl1]) ?_
  refine jD<|iw (gy ?_)
  have H4:=K7.PE s1 s3;refine jC<|ev (dP Y Y)<|mv Y<|jD ?_
  have gu:((ks.take k).map ru)++[(Fq,Fv,x1.c.aC)]=(((ks.set k ({ x1 with B:=Fq,d:=Fv }:bF)).take (k+1)).map ru):=by rw [SA bN]; rfl
  rw [gu] at H4;exact dG ⟨(k+1),(ks.set k ({ x1 with B:=Fq,d:=Fv }:bF)),Y,Y,aj,by rw [gW]; exact hkn,by refine(Xj bN ?_).trans hka; rfl,by intro j hj; rw [Io aj]; exact hkb j aj,(((H4.cU 2 2).sel s0).sel s1)⟩ rfl aj
 refine xq ?_;refine bQ Y<|bX Y<|iP Y ?_
 have hfin:ks.take k=ks:=gV aj;rw [hfin] at K3;exact⟨pI,pJ,ks,Y,by rw [hka,wD hc8],(K3.rm s2)⟩
theorem Vl(w:World){l:List aF}(jE:Sl bD S0 w jU jR l)(hn:l.length<=100000)(hh:∀ x∈l,x.aC.length<=100000) :
    bO prog 116 #[.slice jU l.length jR] w λv w'=>∃(A0:ah)(c0:Nat),v=.slice A0 (eD l).length c0/\Hp w S0 w' [aQ bD 59 A0 c0 (eD l)]:=by
  refine(Xk w jE hn hh).mono ?_;rintro _ w' ⟨A,c,ks,rfl,hk,K⟩;have K1:=(K.WW s1).ofK s1 s0;rw [hk] at K1;exact⟨A,c,by rw [<- hk,kF],K1⟩
theorem U8(w:World){s:List aF}(nA:Sl bD S0 w wT vF s)(target:Int){BF:FuncId}{Fz:List Value}(NH:bJ prog BF)(f:aF->Int->Int)(NI:∀(w':World)(x:aF){aeF:ah}{aeG:Nat}(aeH:Sl dQ Any w' aeF aeG x.aC)(t:Int),Ext w w'->True->bO prog BF (([.agg #[aI x.ID,aI x.aB,gP x.Sum,.slice aeF x.aC.length aeG],aI t]:List Value)++Fz).toArray w' λv w''=>v=aI (f x t)/\Ext w' w'')(hm:abr (fun(y:aF)=>f y target) s)(hn:s.length<=1000000) :
    bO prog 193 #[.slice wT s.length vF,aI target,.func (.func BF) #[] Fz.toArray] w λv w'=>v=.tuple #[aI ((low (fun(y:aF)=>f y target) s:Nat):Int),.bool (hits (fun(y:aF)=>f y target) s)]/\Hp w S0 w' []:=by
 refine lg S0 func193 ntmps193 Y λH0=>?_;have Sv:=nA.bC;refine rg<|jk Y<|bX Y<|bQ Y<|ev (eX iV Y)<|bX Y<|bQ Y<|jk Y<|bX Y<|aY<|cB<|Lp H0 (λl0 rk mJ lJ wJ=>∃(i j:Nat),lJ=(9,aI ((i:Nat):Int))::(10,aI ((j:Nat):Int))::l0/\mJ=j - i/\(i<=j/\j<=s.length)/\(∀(a:Nat)(y:aF),a<i->s[a]? = some y->f y target<0)/\(∀(a:Nat)(y:aF),j<=a->s[a]? = some y->¬ f y target<0)/\Hp w S0 wJ rk) ⟨0,s.length,Y,Y,by exact⟨fE _,kJ _⟩,by intro a y ha; omega,by intro a y ha hy; have:=aM hy; omega,H0⟩ rfl ?_
 rintro _ _ w1 ⟨i,j,rfl,rfl,hij,hlo,hhi,K1⟩;refine aY<|bQ Y<|mv Y<|ev (fD Y Y)<|dn<|mZ Y (λhc17=>?_) (λhc17=>?_)
 ·refine jy ?_;refine cB<|bQ Y<|mv Y<|ev (dP Y Y)<|ev (Ep (m:=i+j) uL.1 uL.2.1 uL.2.2 Y (zT aj))<|ev (Ev.aox (m:=i+j) Y Y)<|ev (Ep (m:=((i+j) / 2)) uM.1 uM.2.1 uM.2.2 Y (wQ aj))<|bX Y<|bQ Y<|mv Y<|mv Y ?_
  obtain⟨x1,bN⟩:=bn (xs:=s) (i:=((i+j) / 2)) aj;refine ev (eP (i:=((i+j) / 2)) iV qy Y Y Y (aM bN) ((K1.a nA).some_ bN)) ?_;obtain⟨B1,d1,zF,hi1⟩:=zW (nA.row bN);refine ev (iU (cs:=[aI x1.ID,aI x1.aB,gP x1.Sum,.slice B1 x1.aC.length d1]) pQ Y Y (FE (λj u hu=>K1.ext.cell (zF j u hu))))<|mv Y<|zq Y Y Y NH (NI _ x1 (K1.a hi1).any target K1.ext trivial) Y ?_
  rintro _ w2 ⟨rfl,e2⟩;have K2:=K1.grow e2;refine ev (fD Y Y)<|dn<|mZ Y (λhc31=>?_) (λhc31=>?_)
  ·refine jC<|mv Y<|ev (dP Y Y)<|jk Y<|jD<|iw<|dG ⟨(((i+j) / 2)+1),j,Y,Y,aj,by first | exact hlo | exact λa y ha hy=>hm a _ y x1 aj hy bN hc31,by first | exact hhi | exact λa y ha hy hlt=>hc31 (hm _ a x1 y aj bN hy hlt),K2⟩ rfl aj
  refine jC<|mv Y<|jk Y<|jD<|iw<|dG ⟨i,((i+j) / 2),Y,Y,aj,by first | exact hlo | exact λa y ha hy=>hm a _ y x1 aj hy bN hc31,by first | exact hhi | exact λa y ha hy hlt=>hc31 (hm _ a x1 y aj bN hy hlt),K2⟩ rfl aj
 refine xq ?_;refine bQ Y<|mv Y<|mv Y<|ev (fD Y Y)<|mv Y<|pF 9 48 (hits (λy=>f y target) s) ?_ ?_
 ·cases Xl:decide (((i:Nat):Int)<((s.length:Nat):Int)) with
  | true=>
   have aoQ:=iY Xl;refine bE Y (bq Y) Y<|bE Y (bq Y) Y<|bE Y (bq Y) Y ?_
   obtain⟨x2,lN⟩:=bn (xs:=s) (i:=i) aj;refine bE Y (eP (i:=i) iV qy Y Y Y (aM lN) ((K1.a nA).some_ lN)) Y ?_;obtain⟨B2,d2,aoR,hi2⟩:=zW (nA.row lN);refine bE Y (iU (cs:=[aI x2.ID,aI x2.aB,gP x2.Sum,.slice B2 x2.aC.length d2]) pQ Y Y (FE (λj u hu=>K1.ext.cell (aoR j u hu)))) Y<|bE Y (bq Y) Y<|oD Y Y Y Y NH (NI _ x2 (K1.a hi2).any target K1.ext trivial) Y ?_
   rintro _ w3 ⟨rfl,e3⟩;refine bE Y (iM Y Y) Y<|ev (dM Y Y)<|gJ (t:=48) Y (aV Value.bool (by have hl:=xB (i:=i) aj hlo (λa y ha=>hhi a y aj); unfold hits; rw [hl,lN]))<|jo rfl e3
  | false=>
   refine dN<|dN<|dN<|dN<|dN<|dN<|dN<|dN<|ev (dS Y Y)<|gJ (t:=48) (u:=.bool false) (v:=.bool (hits (λy=>f y target) s)) Y (aV Value.bool (by have hl:=xB (g:=λy=>f y target) (s:=s) (i:=i) aj hlo (λa y ha=>hhi a y aj); unfold hits; rw [hl,Oj (by have:=jS Xl; omega)])) ?_
   exact jo Y (pW _)
 intro w4 e4;have K4:=K1.grow e4;refine jk Y<|bX Y<|iP Y ?_
 have fT:(i:Nat)=(low (fun(y:aF)=>f y target) s):=by exact(xB (g:=λy=>f y target) aj hlo (λa y ha=>hhi a y aj)).symm
 have gu:(hits (λy=>f y target) s:Bool)=(hits (fun(y:aF)=>f y target) s):=by rfl
 exact⟨by rw [gu,<- fT] <;> rfl,K4⟩
theorem ahQ(w:World)(c:aF){Cm:ah}{BG:Nat}(GK:Sl dQ S0 w Cm BG c.aC)(id:Int) :
    bO prog 194 #[.agg #[aI c.ID,aI c.aB,gP c.Sum,.slice Cm c.aC.length BG],aI id] w λv w'=>v=aI (bL c.ID id)/\Hp w S0 w' []:=by
 refine lg S0 func194 ntmps194 Y λH0=>rg<|bx Y Y H0 λg1 w1 K1=>bX Y<|rg<|j6 g1 0 qN K1 s0 Y<|mv Y<|nD K1 Y (nZ (S0:=Any) _ c.ID id) λw2 K2=>bX Y<|iP Y ?_
 exact⟨Y,(K2.rm s0)⟩
theorem GL(w:World){l:List aF}(jE:Sl bD S0 w jU jR l)(id:Int)(hu:Up aF.ID l)(hn:l.length<=1000000) :
    bO prog 117 #[.slice jU l.length jR,aI id] w λv w'=>v=.tuple #[aI ((low (fun(y:aF)=>bL y.ID id) l:Nat):Int),.bool (hits (fun(y:aF)=>bL y.ID id) l)]/\Hp w S0 w' []:=by
 refine lg S0 func117 ntmps117 Y λH0=>rg<|jk Y<|bX Y<|bQ Y<|mv Y<|nD H0 Y (U8 _ (H0.a jE).any id ayu (fun(x:aF) (t:Int)=>bL x.ID t) (λw' x=>λaeH t e hm=>(ahQ w' x aeH t).mono (by rintro _ _ ⟨rfl,gu⟩; exact⟨rfl,gu.ext⟩)) (hu.mono id) aj) λw1 K1=>xt rfl rfl<|xt rfl rfl<|jk rfl<|bX rfl<|iP rfl ?_
 exact⟨Y,K1⟩
def aU(l:List aF)(id:Int):aF:=match (eD l)[low (fun(y:aF)=>bL y.ID id) (eD l)]? with | some c=>if c.ID=id then c else⟨0,0,0,[]⟩ | none=>⟨0,0,0,[]⟩
def gZ(l:List aF)(id:Int):Bool:=hits (fun(y:aF)=>bL y.ID id) (eD l)
theorem Xm{l:List aF}{id:Int}(h:hits (fun(y:aF)=>bL y.ID id) (eD l)=false):aU l id=⟨0,0,0,[]⟩:=by
  unfold aU; split
  · rename_i c hc
    rw [aP];intro e;have:=(sU (Cj l) id).2 ⟨c,bZ hc,e⟩;rw [h] at this; cases this
  · rfl
theorem SB{l:List aF}{id:Int}{c:aF}(h:hits (fun(y:aF)=>bL y.ID id) (eD l)=true)(hc:(eD l)[low (fun(y:aF)=>bL y.ID id) (eD l)]? = some c):aU l id=c:=by
  unfold aU; rw [hc];obtain⟨x,hx,hk⟩:=qh h;rw [hc] at hx; cases hx;exact aS hk
def dU(l:List aF)(id sum:Int):List aF × Int:=if id<1∨1048576<id then([],1) else if hits (fun(y:aF)=>bL y.ID id) (eD l)=true then([],6) else if 32<=(eD l).length then([],7) else((eD l).take (low (fun(y:aF)=>bL y.ID id) (eD l))++[⟨id,1,sum,[]⟩]++(eD l).drop (low (fun(y:aF)=>bL y.ID id) (eD l)),0)
def iZ(l:List aF)(id:Int):List aF × Int:=if hits (fun(y:aF)=>bL y.ID id) (eD l)=true then((eD l).take (low (fun(y:aF)=>bL y.ID id) (eD l))++(eD l).drop (low (fun(y:aF)=>bL y.ID id) (eD l)+1),0) else([],5)
def Zk(l:List aF)(bH:Int):List Int:=((eD l).filter (fun(c:aF)=>c.aC.contains bH)).map aF.ID
theorem find_ok(w:World){l:List aF}(jE:Sl bD S0 w jU jR l)(id:Int)(hn:l.length<=100000)(hh:∀ x∈l,x.aC.length<=100000) :
    bO prog 53 #[.slice jU l.length jR,aI id] w λv w'=>∃(vT:ah)(vU:Nat),v=.tuple #[.agg #[aI ((aU l id).ID),aI ((aU l id).aB),gP ((aU l id).Sum),.slice vT (((aU l id).aC).length) vU],.bool (gZ l id)]/\Hp w S0 w' [dH dQ vT vU ((aU l id).aC)]:=by
 refine lg S0 func53 ntmps53 Y λH0=>?_;have GJ:=jE.bC;have hf:=D8 l;have hlow:=F9 (fun(y:aF)=>bL y.ID id) (eD l);refine rg<|al lX Y H0 λg1 w1 K1=>bX Y<|bQ Y<|gU Y (Vl _ (K1.a jE) aj hh) ?_
 rintro _ w2 ⟨pI,pJ,rfl,h2⟩;have K2:=K1.c1 h2;have UA:=(K2.o s0).bC;refine bX Y<|bQ Y<|mv Y<|nD K2 Y (GL _ (K2.o s0) id (Cj l) aj) λw3 K3=>mv Y<|xt Y Y<|xt Y Y<|jk Y<|bX Y<|aY<|bQ Y<|ev (iG Y)<|dn<|bP Y (λhc17=>?_) (λhc17=>?_)
 ·try simp only [eT,dO,bK,eu,dZ,fI,bM,bV] at hc17
  refine rg<|ev (jX Y (by apply aoP))<|sty rfl K3 s1 rfl λw4 K4=>bX rfl<|jf (fO (sW rfl ⟨_,_,rfl,⟨_,rfl,kK pQ rfl (K4.x s0)⟩,⟨_,_,rfl,rfl,rfl⟩⟩ ?_))
  have fT:((⟨0,0,0,[]⟩:aF):aF)=(aU l id):=by exact(Xm hc17).symm
  have gu:(0:Int)=(aU l id).ID:=by rw [<- fT]
  have kC:(0:Int)=(aU l id).aB:=by rw [<- fT]
  have nC:(0:Int)=(aU l id).Sum:=by rw [<- fT]
  have H1:=K4.push (RV dQ _ _);have rV:abD=((aU l id).aC):=by rw [<- fT]
  have xW:(false:Bool)=(gZ l id):=by unfold gZ; rw [hc17]
  exact⟨none,0,by first | (rw [<- gu,<- kC,<- nC,<- xW,<- rV] <;> rfl) | (rw [<- rV,<- gu,<- kC,<- nC,<- xW] <;> rfl),by rw [<- rV]; exact(H1.cU 1 2)⟩
 try simp only [eT,dO,bK,eu,dZ,fI,bM,bV] at hc17
 have hc17:hits (fun(y:aF)=>bL y.ID id) (eD l)=true:=hc17;obtain⟨xb,hxb,hkb⟩:=qh hc17;have abH:=aM hxb;refine jy ?_;refine bQ Y<|mv Y ?_
 obtain⟨x1,bN⟩:=bn aj;refine ev (eP iV qy Y Y Y (aM bN) ((K3.o s0).some_ bN)) ?_;obtain⟨B1,d1,zF,hi1⟩:=zW (K3.oi s0 bN);have H2:=K3.push hi1;refine ev (iU pQ Y Y (FE zF))<|sty Y H2 s2 Y λw5 K5=>bX Y<|jf (sW Y ⟨_,_,Y,⟨_,Y,kK (cs:=[aI x1.ID,aI x1.aB,gP x1.Sum,.slice B1 x1.aC.length d1]) pQ Y (K5.x s0)⟩,⟨_,_,Y,Y,Y⟩⟩ ?_)
 have zX:(x1:aF)=(aU l id):=by exact(SB hc17 bN).symm
 have hq8:(x1.ID:Int)=(aU l id).ID:=by rw [<- zX]
 have zG:(x1.aB:Int)=(aU l id).aB:=by rw [<- zX]
 have vg:(x1.Sum:Int)=(aU l id).Sum:=by rw [<- zX]
 have hq11:(x1.aC:List Int)=((aU l id).aC):=by rw [<- zX]
 have hq12:(true:Bool)=(gZ l id):=by unfold gZ; rw [hc17]
 exact⟨B1,d1,by first | (rw [hq8,zG,vg,hq11,<- hq12] <;> rfl) | (rw [hq11,hq8,zG,vg,<- hq12] <;> rfl),by rw [<- hq11]; exact((K5.rm s2).rm s0)⟩
def rI(f ov rr tS e:Nat):Go.Shelf.Ren:=⟨λ| 22=>f | 29=>ov | 30=>rr | n=>n,λ| 24=>tS | 9=>e | n=>n,λn=>n⟩
structure aeI (f ov rr tS e k bt:Nat) (nm:String):Prop where
  hf:prog.funcs[f]? = some { Go.Proofs.Body2.n22 (rI f ov rr tS e) with name:=nm }
  o:∃ fn,prog.funcs[ov]? = some fn/\(fn.name == "runtime.NumGoroutine")=false/\fn.body.isNone=true/\Extern.findNext fn=none/\Extern.find fn=some (Extern.SlicesOverlaps.overlaps #[tS,tS] #[4])
  u:prog.underlying tS=some (.slice e)
  i:prog.underlying 3=some (.int .i64)
  z:Size prog e k
  hb:Nat.ble bt 1000=true
  ei:lY prog e k bt
  ez:wz prog e k bt
theorem aus{f ov rr tS e k bt:Nat}{kp:0<k}{nm:String}(X:aeI f ov rr tS e k bt nm){b:World}(eb:Ext b w){c:Nat}{us:List (Cells k)}{gv:Nat}{u:Cells k}{i:Nat}(nA:Own (zD k kp) e b.heap.size No w A c us)(h_v:Bx w gv e u.1)(hgv:blk A≠some gv)(hi:i<=us.length)(hn:us.length<=900000) :
    bO prog f #[.slice A us.length c,aI (i:Int),.slice (some ⟨gv,0,none⟩) 1 1] w λv w'=>∃ A' c',v=.slice A' (us.take i++[u]++us.drop i).length c'/\Own (zD k kp) e b.heap.size No w' A' c' (us.take i++[u]++us.drop i)/\ND w w' (blk A)/\(blk A'=blk A∨∃ g,blk A'=some g/\w.heap.size<=g):=by
  refine WP.enter X.hf Y (Go.Proofs.Body2.n22_ntmps (rI f ov rr tS e)) Y ?_;have hcap:=(nA.sl (S':=Any) (λ_ _=>trivial) (λ_ _=>trivial)).cap;refine Dk<|jQ (pz Y) Y<|Dl<|Dk<|jQ (bq Y) Y<|jQ (bq Y) Y<|jQ (Eo (lo:=i) X.u X.z Y Y Y aj aj) Y<|Dl<|Dk<|jQ (bq Y) Y<|jQ (eX X.u Y) Y<|jQ (pz Y) Y<|Dl<|aY<|Dk<|jQ (bq Y) Y<|jQ (iM Y Y) Y<|Dl<|bP Y (λhc16=>?_) (λhc16=>?_)
  · replace hc16:=iY hc16
    omega
  replace hc16:=jS hc16;refine jy ?_;refine Dk<|jQ (bq Y) Y<|jQ (eX X.u Y) Y<|jQ (pz Y) Y<|Dl<|aY<|Dk<|jQ (bq Y) Y<|jQ (bq Y) Y<|jQ (iM Y Y) Y<|Dl<|bP Y (λhc22=>?_) (λhc22=>?_)
  · replace hc22:=iY hc22
    refine Dk<|jQ (bq Y) Y<|jQ (bq Y) Y ?_
    have hv1:Sl (zD k kp) Any w (some ⟨gv,0,none⟩) 1 [u]:=h_v.ahE (S:=Any) (S2:=No) rfl trivial (λ_ h=>h.elim);refine WL.app (xs:=us) (ys:=[u]) Y Y nA hv1 X.u X.ei (λ_ _ _ h=>h) (λ_ _ h=>h) aj av X.hb eb.size Y λA1 c1 w1 o1 g1 at1=>jQ (pz Y) Y<|Dl<|jf (fO (Uu (v:=.slice A1 ((us++[u]).length) c1) Y Y Y ?_))
    have h_i:i=us.length:=aj;exact⟨A1,c1,by rw [ajy us u h_i],by rw [ajy us u h_i]; exact o1,g1,at1.imp id (λh=>⟨_,h,kJ _⟩)⟩
  replace hc22:=jS hc22;refine jy ?_;refine aY<|Dk<|jQ (bq Y) Y<|jQ (bq Y) Y<|jQ (dP Y Y) Y<|jQ (bq Y) Y<|jQ (Ev.cap X.u Y) Y<|jQ (sQ Y Y) Y<|Dl<|bP Y (λhc31=>?_) (λhc31=>?_)
  · replace hc31:=iY hc31
    refine Dk<|jQ (bq Y) Y<|jQ (bq Y) Y<|jQ (F7 (hi:=i) (xs:=us) X.u X.z Y Y Y aj (nA.fr (a:=b) (kJ _)).cap) Y<|jQ (bq Y) Y<|jQ (bq Y) Y<|jQ (dP Y Y) Y<|jQ (bq Y) Y<|jQ (Uw Y Y) Y<|gJ (t:=39) (u:=aI (((us.length+1:Nat):Int) - ((i:Nat):Int))) (v:=aI ((us.length+1 - i:Nat):Int)) Y (aV (Value.int .i64) aj)<|WL.ahI (m:=us.length+1 - i) (us:=us.take i) (kp:=kp) Y Y X.u X.i X.ez ((nA.sl (S':=Any) (λ_ _=>trivial) (λ_ _=>trivial)).ajv (hi:=i) aj) (by simp only [iF]; omega) aj (by simp only [iF]; omega) aj X.hb rfl λg1 c1 w1 z1 o1 e1=>?_
    have hl1:(us.take i++List.replicate (us.length+1 - i) z1).length=us.length+1:=by simp only [jG,iF,RZ]; omega
    have hcp1:=(o1.sl (S':=Any) (λ_ _=>trivial) (λ_ _=>trivial)).cap;have hz1:w.heap.size<=g1:=(o1.abm _ rfl).1;refine gJ (t:=40) (u:=.slice (some ⟨g1,0,none⟩) ((us.take i).length+(us.length+1 - i)) c1) (v:=.slice (some ⟨g1,0,none⟩) (us.take i++List.replicate (us.length+1 - i) z1).length c1) Y (by simp only [jG,RZ])<|jQ (pz rfl) rfl<|Dl<|Dk<|jQ (bq rfl) rfl<|jQ (bq rfl) rfl<|jQ (Eo (lo:=i) X.u X.z rfl rfl rfl aj aj) rfl<|jQ (bq rfl) rfl ?_
    have hv1:Sl (zD k kp) Any w1 (some ⟨gv,0,none⟩) 1 [u]:=(h_v.ext e1).ahE (S:=Any) (S2:=No) rfl trivial (λ_ h=>h.elim);refine WL.ajx (lo:=i) (us:=(us.take i++List.replicate (us.length+1 - i) z1)) (vs:=[u]) (kp:=kp) Y Y X.u X.z o1 hv1 aj Y λw2 v2 o2 g2 z2=>?_;have hl2:(over (us.take i++List.replicate (us.length+1 - i) z1) i [u]).length=us.length+1:=by rw [KJ aj,hl1]
    have aCf:=(nA.ext e1).grown g2 (λg hA hB=>by have h1:=(nA.abm g hA).2; have h2:g1=g:=(by simpa [blk] using hB); omega) (λ_ _ h=>h);refine gJ (t:=9) (u:=.slice (some ⟨g1,0,none⟩) (us.take i++List.replicate (us.length+1 - i) z1).length c1) (v:=.slice (some ⟨g1,0,none⟩) (over (us.take i++List.replicate (us.length+1 - i) z1) i [u]).length c1) Y (by rw [hl1,hl2])<|Dl<|WP.held (λ_=>True) (λlJ w'=>lJ=[(9,.slice (some ⟨g1,0,none⟩) ((over (us.take i++List.replicate (us.length+1 - i) z1) i [u]).length) c1)]/\Own (zD k kp) e w.heap.size No w' (some ⟨g1,0,none⟩) c1 (over (over (us.take i++List.replicate (us.length+1 - i) z1) i [u]) (i+1) (us.drop i))/\ND w2 w' (some g1)) ak ?_ ?_
    · refine xC (fuel:=8) 0 Y ak ak ak (λ_=>(bq Y)) Y<|xC (fuel:=7) 1 Y ak ak ak (λ_=>(bq Y)) Y<|xC (fuel:=6) 2 Y ak ak ak (λ_=>(bq Y)) Y<|xC 3 Y ak ak ak (λ_=>(dP Y Y)) Y<|xC 4 Y ak ak ak (λ_=>(Eo X.u X.z Y Y Y aj aj)) Y<|xC 5 Y ak ak ak (λ_=>(bq Y)) Y<|xC 6 Y ak ak ak (λ_=>(bq Y)) Y<|xC 7 Y ak ak ak (λ_=>(F8 X.u X.z Y Y Y aj (aCf.fr (a:=b) (kJ _)).cap)) Y<|yT (fuel:=0) (rs:=[8]) ak au ?_
      simp only [wC,mP,xF,xG,uK]
      refine⟨_,Y,?_⟩;refine WL.ajx (lo:=i+1) (us:=(over (us.take i++List.replicate (us.length+1 - i) z1) i [u])) (vs:=us.drop i) (kp:=kp) Y Y X.u X.z (o2.ext (pW w2).drew) (((aCf.sl (S':=Any) (λ_ _=>trivial) (λ_ _=>trivial)).cutFrom (lo:=i) aj).ext (pW w2).drew) aj Y λw3 v3 o3 g3 z3=>aO trivial<|WH.done [(9,.slice (some ⟨g1,0,none⟩) ((over (us.take i++List.replicate (us.length+1 - i) z1) i [u]).length) c1)] ak ⟨Y,trivial⟩ ⟨Y,o3,⟨g3.os,g3.tape,g3.output,g3.size,g3.block,lI (abk _) g3.drawn⟩⟩
    rintro _ w3 ⟨rfl,o3,g3⟩;have hov:over (over (us.take i++List.replicate (us.length+1 - i) z1) i [u]) (i+1) (us.drop i)=us.take i++[u]++us.drop i:=aow us u z1 hi;rw [hov] at o3;refine Dk<|jQ (bq Y) Y<|jQ (pz Y) Y<|Dl<|jf (fO (Uu (v:=.slice (some ⟨g1,0,none⟩) ((over (us.take i++List.replicate (us.length+1 - i) z1) i [u]).length) c1) Y Y Y ?_))
    have hl3:(us.take i++[u]++us.drop i).length=us.length+1:=by simp only [jG,iF,rR,oV,uE]; omega
    exact⟨_,_,by rw [hl2,<- hl3],o3.low (by exact eb.size) (λ_ h=>h),Ext.alG e1 g2 g3 hz1,.inr ⟨g1,rfl,hz1⟩⟩
  replace hc31:=jS hc31;refine jy ?_;refine Dk<|jQ (bq Y) Y<|jQ (bq Y) Y<|jQ (bq Y) Y<|jQ (dP Y Y) Y<|jQ (R9 (hi:=us.length+1) X.u X.z Y Y Y aj) Y<|jQ (pz Y) Y<|Dl<|aY<|Dk<|jQ (bq Y) Y<|jQ (bq Y) Y<|jQ (bq Y) Y<|jQ (bq Y) Y<|jQ (dP Y Y) Y<|jQ (Eo (lo:=i+1) X.u X.z Y Y Y aj aj) Y ?_
  obtain⟨gA,cA,rfl,aNd,hAb,hAn,hAm,hAl,hAt⟩:=nA.open_ aj;have aCg:gv≠gA:=λh=>hgv (by rw [h]; rfl);have hcut:sS (some ⟨gA,0,none⟩) c (i+1) k=some ⟨gA,(i+1)*k,none⟩:=D7 aj;refine WL.extern (v:=.bool false) Y Y Y ?_ Y ?_
  · show(callFunc ov #[.slice (some ⟨gv,0,none⟩) 1 1,.slice (sS (some ⟨gA,0,none⟩) c (i+1) k) (us.length+1 - (i+1)) (c - (i+1))]).run prog w=_
    rw [hcut];obtain⟨fn,o1,o2,o3,o4,o5⟩:=X.o;exact U5 (tR:=4) o1 o2 o3 o4 o5 X.u X.z h_v hAb aCg (by rw [hAl]; exact Nat.mul_pos aj kp)
  refine jQ (iG Y) Y<|Dl<|bP Y (λ_h=>?_) nofun
  refine WP.held (λ_=>True) (λlJ w'=>lJ=[(0,.slice (some ⟨gA,0,none⟩) (us.length+1) c),(1,aI ((i:Nat):Int)),(2,.slice (some ⟨gv,0,none⟩) 1 1),(7,aI ((1:Nat):Int))]/\Gap e b.heap.size w' (some ⟨gA,0,none⟩) c us i 1/\ND w w' (some gA)/\w'.heap.size=w.heap.size) ak ?_ ?_
  · refine xC (fuel:=8) 0 Y ak ak ak (λ_=>(bq Y)) Y<|xC (fuel:=7) 1 Y ak ak ak (λ_=>(bq Y)) Y<|xC (fuel:=6) 2 Y ak ak ak (λ_=>(bq Y)) Y<|xC 3 Y ak ak ak (λ_=>(dP Y Y)) Y<|xC 4 Y ak ak ak (λ_=>(Eo X.u X.z Y Y Y aj aj)) Y<|xC 5 Y ak ak ak (λ_=>(bq Y)) Y<|xC 6 Y ak ak ak (λ_=>(bq Y)) Y<|xC 7 Y ak ak ak (λ_=>(Eo X.u X.z Y Y Y aj aj)) Y<|yT (rs:=[8]) ak au ?_
    simp only [wC,mP,xF,xG,uK]
    refine⟨_,Y,?_⟩;refine WL.alD (i:=i) (m:=1) (us:=us) (kp:=kp) Y Y X.u X.z (nA.ext (pW w).drew) aj aj Y λw1 v1 o1 g1 z1=>aO trivial<|WH.done [(0,.slice (some ⟨gA,0,none⟩) (us.length+1) c),(1,aI ((i:Nat):Int)),(2,.slice (some ⟨gv,0,none⟩) 1 1),(7,aI ((1:Nat):Int))] ak ⟨Y,Y,Y,Y,trivial⟩ ⟨Y,o1,⟨g1.os,g1.tape,g1.output,g1.size,g1.block,lI (abk _) g1.drawn⟩,z1⟩
  rintro _ w1 ⟨rfl,o1,g1,z1⟩;refine Dk<|jQ (bq Y) Y<|jQ (bq Y) Y<|jQ (Eo (lo:=i) X.u X.z Y Y Y aj aj) Y<|jQ (bq Y) Y ?_
  have aH1:=h_v.mod (ax8 g1 (λk hk=>by cases hk; rfl)) aCg;have hv1:Sl (zD k kp) Any w1 (some ⟨gv,0,none⟩) 1 [u]:=aH1.ahE (S:=Any) (S2:=No) rfl trivial (λ_ h=>h.elim);refine WL.auc (i:=i) (m:=1) (us:=us) (vs:=[u]) (kp:=kp) (S:=No) Y Y X.u X.z o1 hv1 Y aj aj Y λw2 v2 o2 g2 z2=>?_;have hl2:(us.take i++[u]++us.drop i).length=us.length+1:=by simp only [jG,iF,rR,oV,uE]; omega
  refine gJ (t:=0) (u:=.slice (some ⟨gA,0,none⟩) (us.length+1) c) (v:=.slice (some ⟨gA,0,none⟩) (us.take i++[u]++us.drop i).length c) Y (by rw [hl2])<|Dl<|Dk<|jQ (bq rfl) rfl<|jQ (pz rfl) rfl<|Dl<|jf (fO (Uu (v:=.slice (some ⟨gA,0,none⟩) ((us.take i++[u]++us.drop i).length) c) rfl rfl rfl ?_))
  exact⟨_,_,Y,o2,abu g1 g2,.inl Y⟩
theorem SC{f ov rr tS e bt:Nat}{nm:String}{α:Type}{τ:Ty α}(X:aeI f ov rr tS e τ.k bt nm){b w:World}{S:Nat->Prop}{rs rest xR:List lG}{A:ah}{c:Nat}{l:List α}{gv:Nat}{x:α}{i:Nat}(H:Hp b S w rs)(s:pq rs (aQ τ e A c l) rest)(sv:pq rest (aQ τ e (some ⟨gv,0,none⟩) 1 [x]) xR)(hi:i<=l.length)(hn:l.length<=900000) :
    bO prog f #[.slice A l.length c,aI (i:Int),.slice (some ⟨gv,0,none⟩) 1 1] w λv w'=>∃ A' c',v=.slice A' (l.take i++[x]++l.drop i).length c'/\Hp b S w' (aQ τ e A' c' (l.take i++[x]++l.drop i)::xR):=by
  obtain⟨us,hU,hr⟩:∃ us:List (Cells τ.k),Own (zD τ.k τ.pos) e b.heap.size No w A c us/\Rel τ (Rd b S rs w) w l us:=H.raw s;have hl:us.length=l.length:=hr.1;have H1:=H.sel s;obtain⟨cs,hb,hx⟩:=Own.ayk (H1.ow (.t sv));have hx':τ.R (Rd b S rs w) w x cs:=Ty.sub _ (Rd.perm s.perm.symm) hx;have h0:=aus X (u:=⟨cs,Ty.len _ hx,Ty.one _ hx⟩) H.ext hU hb (H.ayl s sv rfl) (by rw [hl]; exact hi) (by rw [hl]; exact hn);rw [hl] at h0;refine h0.mono ?_;rintro v w' ⟨A',c',rfl,hO,hg,hat⟩;have h1:=((hr.take i).append (Rel.one (w:=w) (x:=x) (u:=⟨cs,Ty.len _ hx,Ty.one _ hx⟩) hx')).append (hr.drop i);have h2:(us.take i++[(⟨cs,Ty.len _ hx,Ty.one _ hx⟩:Cells τ.k)]++us.drop i).length=(l.take i++[x]++l.drop i).length:=h1.1;refine⟨A',c',by rw [h2],(Hp.back H s hO h1 hg ?_).rm (.t sv)⟩;intro g hg'
  rcases hat with h | ⟨g',h,hle⟩
  · exact .inl (h▸hg')
  · rw [h] at hg'; cases hg'; exact .inr hle
theorem aoS:aeI 416 441 442 42 59 4 48 Tryz.f416.name:=⟨func416.trans (aV some ak),⟨_,func441,ak,ak,ak,ak⟩,iV,iJ,qy,ak,aoL,aw4⟩
def Xn:=@SC _ _ _ _ _ _ _ _ bD aoS
theorem alW(w:World){l:List aF}(jE:Sl bD S0 w jU jR l)(id:Int)(sum:Int)(hn:l.length<=100000)(hh:∀ x∈l,x.aC.length<=100000) :
    bO prog 354 #[.slice jU l.length jR,aI id,gP sum] w λv w'=>∃(A0:ah)(c0:Nat),v=.tuple #[.slice A0 (((dU l id sum).1).length) c0,aI ((dU l id sum).2)]/\Hp w S0 w' [aQ bD 59 A0 c0 ((dU l id sum).1)]:=by
 refine lg S0 func354 ntmps354 Y λH0=>?_;have GJ:=jE.bC;have hf:=D8 l;have hlow:=F9 (fun(y:aF)=>bL y.ID id) (eD l);refine rg<|jk Y<|bX Y<|bQ Y<|gU Y (Vl _ (H0.a jE) aj hh) ?_
 rintro _ w1 ⟨jZ,j3,rfl,h1⟩;have K1:=H0.c1 h1;have JO:=(K1.o s0).bC;refine bX Y<|bQ Y<|mv Y<|nD K1 Y (GL _ (K1.o s0) id (Cj l) aj) λw2 K2=>mv Y<|xt Y Y<|xt Y Y<|jk Y<|bX Y<|aY<|cB<|bQ Y<|ev (fD Y Y)<|mv Y<|iO 3 24 ((decide (id<1))||(decide (1048576<id))) ?_ ?_
 ·cases U9:decide (id<1) with
  | true=>
   refine dN<|dN<|ev (dM Y Y)<|dJ Y
  | false=>
   refine bE Y (bq Y) Y<|bE Y (sQ Y Y) Y<|ev (dS Y Y)<|dJ Y
 refine bX Y<|bP Y (λhc18=>?_) (λhc18=>?_)
 ·try simp only [eT,dO,bM,bV] at hc18
  refine rg<|jk Y<|bX Y<|Xb Y ?_
  have H1:=K2.nil bD 59;have fT:Xi=((dU l id sum).1):=by unfold dU; rw [aS hc18]
  have H2:=(fT▸H1:Hp w S0 w2 (aQ bD 59 none 0 ((dU l id sum).1)::[aQ bD 59 jZ j3 (eD l)]));have gu:(1:Int)=((dU l id sum).2):=by unfold dU; rw [aS hc18]
  exact⟨none,0,by rw [<- fT,<- gu] <;> rfl,(H2.rm s1)⟩
 try simp only [eT,dO,bM,bV] at hc18
 refine bQ Y<|bX Y<|bP Y (λhc25=>?_) (λhc25=>?_)
 ·refine rg<|jk Y<|bX Y<|Xb Y ?_
  have H3:=K2.nil bD 59;have kC:Xi=((dU l id sum).1):=by unfold dU; rw [aP aj,aS hc25]
  have H4:=(kC▸H3:Hp w S0 w2 (aQ bD 59 none 0 ((dU l id sum).1)::[aQ bD 59 jZ j3 (eD l)]));have nC:(6:Int)=((dU l id sum).2):=by unfold dU; rw [aP aj,aS hc25]
  exact⟨none,0,by rw [<- kC,<- nC] <;> rfl,(H4.rm s1)⟩
 refine bQ Y<|ev (eX iV Y)<|ev (qD Y Y)<|bX Y<|mZ Y (λhc27=>?_) (λhc27=>?_)
 ·refine rg<|jk Y<|bX Y<|Xb Y ?_
  have H5:=K2.nil bD 59;have rV:Xi=((dU l id sum).1):=by unfold dU; rw [aP aj,aP (by rw [hc25]; decide),aS aj]
  have H6:=(rV▸H5:Hp w S0 w2 (aQ bD 59 none 0 ((dU l id sum).1)::[aQ bD 59 jZ j3 (eD l)]));have xW:(7:Int)=((dU l id sum).2):=by unfold dU; rw [aP aj,aP (by rw [hc25]; decide),aS aj]
  exact⟨none,0,by rw [<- rV,<- xW] <;> rfl,(H6.rm s1)⟩
 refine Ci ?_;refine bQ Y<|mv Y<|mv Y<|mv Y<|ev (jX Y (by apply Xe))<|Bh (τ:=bD) (x:=(⟨id,1,sum,[]⟩:aF)) rfl (by intro _; apply abB) rfl K2 (λ_ e=>⟨_,_,rfl,(RV dQ _ _).ext e⟩) λg1 w3 K3=>gU rfl (Xn (i:=low (fun(y:aF)=>bL y.ID id) (eD l)) K3 s1 s0 aj aj) ?_
 rintro _ w4 ⟨pU,pV,rfl,K4⟩;refine jk Y<|bX Y<|iP Y ?_
 have zX:(((eD l).take (low (fun(y:aF)=>bL y.ID id) (eD l))++[(⟨id,1,sum,[]⟩:aF)]++(eD l).drop (low (fun(y:aF)=>bL y.ID id) (eD l))):List aF)=((dU l id sum).1):=by unfold dU; rw [aP aj,aP (by rw [hc25]; decide),aP aj]
 rw [zX] at K4;exact⟨pU,pV,by unfold dU; rw [zX,aP aj,aP (by rw [hc25]; decide),aP aj] <;> rfl,K4⟩
theorem alX(w:World){l:List aF}(jE:Sl bD S0 w jU jR l)(id:Int)(hn:l.length<=100000)(hh:∀ x∈l,x.aC.length<=100000) :
    bO prog 363 #[.slice jU l.length jR,aI id] w λv w'=>∃(A0:ah)(c0:Nat),v=.tuple #[.slice A0 (((iZ l id).1).length) c0,aI ((iZ l id).2)]/\Hp w S0 w' [aQ bD 59 A0 c0 ((iZ l id).1)]:=by
 refine lg S0 func363 ntmps363 Y λH0=>?_;have GJ:=jE.bC;have hf:=D8 l;have hlow:=F9 (fun(y:aF)=>bL y.ID id) (eD l);refine rg<|jk Y<|bX Y<|bQ Y<|gU Y (Vl _ (H0.a jE) aj hh) ?_
 rintro _ w1 ⟨jZ,j3,rfl,h1⟩;have K1:=H0.c1 h1;have JO:=(K1.o s0).bC;refine bX Y<|bQ Y<|mv Y<|nD K1 Y (GL _ (K1.o s0) id (Cj l) aj) λw2 K2=>mv Y<|xt Y Y<|xt Y Y<|jk Y<|bX Y<|aY<|bQ Y<|ev (iG Y)<|dn<|bP Y (λhc17=>?_) (λhc17=>?_)
 ·try simp only [eT,dO,bK,eu,dZ,fI,bM,bV] at hc17
  refine rg<|jk Y<|bX Y<|wO Y ?_
  have H1:=K2.nil bD 59;have fT:Xi=((iZ l id).1):=by unfold iZ; rw [aP (by rw [hc17]; decide)]
  have H2:=(fT▸H1:Hp w S0 w2 (aQ bD 59 none 0 ((iZ l id).1)::[aQ bD 59 jZ j3 (eD l)]));have gu:(5:Int)=((iZ l id).2):=by unfold iZ; rw [aP (by rw [hc17]; decide)]
  exact⟨none,0,by rw [<- fT,<- gu] <;> rfl,(H2.rm s1)⟩
 try simp only [eT,dO,bK,eu,dZ,fI,bM,bV] at hc17
 have hc17:hits (fun(y:aF)=>bL y.ID id) (eD l)=true:=hc17;obtain⟨xb,hxb,hkb⟩:=qh hc17;have abH:=aM hxb;refine jy ?_;refine bQ Y<|mv Y<|mv Y<|ev (dP Y Y)<|gU Y (Xh (j:=low (fun(y:aF)=>bL y.ID id) (eD l)+1) (K2.sel s0) aj aj) ?_
 rintro _ w3 ⟨rfl,K3⟩;refine jk Y<|bX Y<|iP Y ?_
 have kC:(((eD l).take (low (fun(y:aF)=>bL y.ID id) (eD l))++(eD l).drop (low (fun(y:aF)=>bL y.ID id) (eD l)+1)):List aF)=((iZ l id).1):=by unfold iZ; rw [aS hc17]
 rw [kC] at K3;have nC:(0:Int)=((iZ l id).2):=by unfold iZ; rw [aS hc17]
 exact⟨jZ,j3,by rw [kC,<- nC] <;> rfl,K3⟩
theorem aCh(w:World){l:List aF}(jE:Sl bD S0 w jU jR l)(bH:Int)(hn:l.length<=100000)(hh:∀ x∈l,x.aC.length<=100000) :
    bO prog 350 #[.slice jU l.length jR,aI bH] w λv w'=>∃(A0:ah)(c0:Nat),v=.slice A0 ((Zk l bH).length) c0/\Hp w S0 w' [aQ dQ 3 A0 c0 (Zk l bH)]:=by
 refine lg S0 func350 ntmps350 Y λH0=>?_;have hf:=D8 l;have hq:=λk=>ni (fun(c:aF)=>c.aC.contains bH) ((eD l).take k)
 simp only [iF] at hq
 refine iT Y<|iT Y<|aY<|bQ Y<|gU Y (Vl _ (H0.a jE) aj hh) ?_
 rintro _ w1 ⟨jZ,j3,rfl,h1⟩;have K1:=H0.c1 h1;have JO:=(K1.o s0).bC;refine ev (eX iV Y)<|mv Y<|dn<|cB ?_
 have H1:=K1.nil dQ 3;have fT:abD=((((eD l).take 0).filter (fun(c:aF)=>c.aC.contains bH)).map aF.ID):=by rfl
 refine lF (t:=5) Y (aV (λz=>Value.slice none (List.length z) 0) fT) ?_;have H2:=H1.nil dQ 3;have H3:=(fT▸H2:Hp w S0 w1 (aQ dQ 3 none 0 ((((eD l).take 0).filter (fun(c:aF)=>c.aC.contains bH)).map aF.ID)::[aQ dQ 3 none 0 [],aQ bD 59 jZ j3 (eD l)]));refine Lp (H3.cU 0 2) (λl0 rk mJ lJ wJ=>∃(k:Nat)(A5:ah)(c5:Nat),lJ=(5,.slice A5 (((((eD l).take k).filter (fun(c:aF)=>c.aC.contains bH)).map aF.ID).length) c5)::(11,aI ((k:Nat):Int))::l0/\mJ=(eD l).length - k/\k<=(eD l).length/\Hp w S0 wJ (aQ dQ 3 A5 c5 ((((eD l).take k).filter (fun(c:aF)=>c.aC.contains bH)).map aF.ID)::rk)) ⟨0,none,0,Y,Y,fE _,(H3.rm s1)⟩ Y ?_;rintro _ _ w2 ⟨k,A5,c5,rfl,rfl,hk,K2⟩;refine rg<|ev (fD Y Y)<|dn<|pG Y (λnN=>?_) (λnN=>?_)
 ·refine jy ?_;refine aY<|cB<|rg ?_
  obtain⟨x1,bN⟩:=bn (xs:=eD l) (i:=k) aj;refine ev (eP (i:=k) iV qy Y Y Y (aM bN) ((K2.o s1).some_ bN)) ?_;obtain⟨B1,d1,zF,hi1⟩:=zW (K2.oi s1 bN);have H4:=K2.push hi1;refine ev (iU pQ Y Y (FE zF))<|al lX Y H4 λg1 w3 K3=>sty Y K3 s0 Y λw4 K4=>dn<|rg<|j6 g1 3 kH K4 s0 Y<|mv Y<|nD K4 Y (kL _ (K4.s s1).any bH) λw5 K5=>dn<|bP Y (λhc18=>?_) (λhc18=>?_)
  ·refine jC<|mv Y<|j6 g1 0 qN K5 s0 Y<|Bh Y (by intro _; apply pR) rfl K5 (λ_ _=>rfl) λg2 w6 K6=>ap K6 s3 rfl rfl (K6.o s0) fA KU (by have:=hq k; simp only [kF]; omega) av rfl λpU pV w7 K7=>jk rfl<|jD<|iw (gy ?_)
   refine jC<|ev (dP Y Y)<|mv Y<|jD ?_
   have gu:((((((eD l).take k).filter (fun(c:aF)=>c.aC.contains bH)).map aF.ID)++([x1.ID]:List Int)):List Int)=((((eD l).take (k+1)).filter (fun(c:aF)=>c.aC.contains bH)).map aF.ID):=by rw [nM bN,hc18]; simp
   refine jq (t:=5) Y (aV (λz=>Value.slice pU (List.length z) pV) gu) ?_;rw [gu] at K7;exact dG ⟨(k+1),pU,pV,Y,Y,aj,(K7.cU 1 3)⟩ rfl aj
  refine Ci ?_;refine jC<|ev (dP Y Y)<|mv Y<|jD ?_
  have kC:(((((eD l).take k).filter (fun(c:aF)=>c.aC.contains bH)).map aF.ID):List Int)=((((eD l).take (k+1)).filter (fun(c:aF)=>c.aC.contains bH)).map aF.ID):=by rw [nM bN,hc18]; simp
  refine jq (t:=5) Y (aV (λz=>Value.slice A5 (List.length z) c5) kC) ?_;rw [kC] at K5;exact dG ⟨(k+1),A5,c5,Y,Y,aj,(K5.cU 0 2)⟩ rfl aj
 refine xq ?_;refine bQ Y<|bX Y<|iP Y ?_
 have nC:(((((eD l).take k).filter (fun(c:aF)=>c.aC.contains bH)).map aF.ID):List Int)=(Zk l bH):=by rw [gV aj]; rfl
 rw [nC] at K2;exact⟨A5,c5,by rw [nC] <;> rfl,(K2.rm s1)⟩
end
section
variable {l:List aF}{id most sum bH bU j:Int}{f:aF->aF × Int}{c:aF}{α:Type}{i jR:Nat}{S S0:Nat->Prop}{F:List lG}{A jU:ah}{ks:List bF}{k:bF}{h:List Int}
theorem Xo:mg prog 57:=λ_=>by rfl
theorem Iz:dL prog 59 2 2:=λ_ _=>by rfl
theorem ajC:Size prog 57 1:=λ_=>by rfl
theorem aoT:bJ prog 420:=λ_ _=>by rfl
theorem ayw:bJ prog 418:=λ_ _=>by rfl
theorem ayx:bJ prog 419:=λ_ _=>by rfl
theorem ayy:bJ prog 422:=λ_ _=>by rfl
theorem ayz:aeI 421 444 445 55 3 1 8 Tryz.f421.name:=⟨by rfl,⟨_,func444,by rfl,by rfl,ak,ak⟩,fA,iJ,uf,by rfl,KU,ayt⟩
def abI:=@SC _ _ _ _ _ _ _ _ dQ ayz
def eU(sum:Int)(c:aF):aF × Int:=if 1073741824<=c.aB then(c,7) else({ c with aB:=c.aB+1,Sum:=sum,aC:=[] },0)
def pY(bH bU:Int)(c:aF):aF × Int:=if bU≠c.aB then(c,9) else if hits (fun(y:Int)=>bL y bH) c.aC=true then(c,6) else({ c with aC:=c.aC.take (low (fun(y:Int)=>bL y bH) c.aC)++[bH]++c.aC.drop (low (fun(y:Int)=>bL y bH) c.aC) },0)
def jB(bH:Int)(c:aF):aF × Int:=if hits (fun(y:Int)=>bL y bH) c.aC=true then({ c with aC:=c.aC.take (low (fun(y:Int)=>bL y bH) c.aC)++c.aC.drop (low (fun(y:Int)=>bL y bH) c.aC+1) },0) else(c,5)
theorem PK(ks:List bF):(ks.map bF.c).length=ks.length:=kF _
def iC(l:List aF)(id:Int)(f:aF->aF × Int):List aF × Int:=
  if hits (fun(y:aF)=>bL y.ID id) (eD l)=true then
    match (eD l)[low (fun(y:aF)=>bL y.ID id) (eD l)]? with
    | some c=>if(f c).2=0 then((eD l).set (low (fun(y:aF)=>bL y.ID id) (eD l)) (f c).1,0) else([],(f c).2)
    | none=>([],5)
  else([],5)
theorem Vm(h:hits (fun(y:aF)=>bL y.ID id) (eD l)=true)(hc:(eD l)[low (fun(y:aF)=>bL y.ID id) (eD l)]? = some c) :
    iC l id f=if(f c).2=0 then((eD l).set (low (fun(y:aF)=>bL y.ID id) (eD l)) (f c).1,0) else([],(f c).2):=by
  grind [iC]
theorem ajD(h:hits (fun(y:aF)=>bL y.ID id) (eD l)=false):iC l id f=([],5):=by
  grind [iC]
theorem IC:∀(l:List Int)(z:Int),nS most z l=true->l=[]∨(l.length:Int)<=most+1 - z
  | [],_,_=>.inl rfl
  | y::l,z,h=>by
    simp only [nS,bK,dZ,dO,bV] at h
    right
    rcases IC l _ h.2 with rfl | h1
    · simp; omega
    · simp only [oV]; omega
theorem rC(h:oL c=true):1<=c.aB/\c.aB<=1073741824/\nS 16 1 c.aC=true:=by
  grind [oL]
theorem PL(h:oL c=true):c.aC.length<=16:=by
  rcases IC _ _ (rC h).2.2 with h1 | h1
  all_goals grind
theorem MQ(h:oL c=true):Up (fun(x:Int)=>x) c.aC:=D9 _ _ (rC h).2.2
theorem GN{l:List α}{x:α}(h:l[i]? = some x):l.set i x=l:=by
  apply Gg; grind
def aCi(w:World)(f:FuncId)(kf:List Value)(dof:aF->aF × Int):Prop:=
  ∀(S:Nat->Prop)(w':World)(F:List lG)(A:ah)(c:Nat)(ks:List bF)(i:Nat)(k:bF),Hp w S w' (aQ tK 59 A c ks::fU dQ 3 (ks.map ru)::F)->ks[i]? = some k->oL k.c=true->
    bO prog f (([.pointer (some ((Ih A).add (i*4)))]:List Value)++kf).toArray w' λv w''=>∃ k':bF,k'.c=(dof k.c).1/\v=.int .i64 (dof k.c).2/\Hp w S w'' (aQ tK 59 A c (ks.set i k')::fU dQ 3 ((ks.set i k').map ru)::F)
theorem aak(l:List aF):∀ x∈eD l,oL x=true:=(kM.1 (zw l)).1
theorem alY{b w:World}{c:Nat}{aw6:Nat}(aCj:Bx b aw6 57 [.int .u32 sum])(H0:Hp b S w (aQ tK 59 A c ks::fU dQ 3 (ks.map ru)::F))(hx:ks[i]? = some k)(ho:oL k.c=true) :
    bO prog 418 #[.pointer (some ((Ih A).add (i*4))),.pointer (some ⟨aw6,0,none⟩)] w λv w'=>∃ k':bF,k'.c=(eU sum k.c).1/\v=.int .i64 (eU sum k.c).2/\Hp b S w' (aQ tK 59 A c (ks.set i k')::fU dQ 3 ((ks.set i k').map ru)::F):=by
 refine rU func418 ntmps418 Y ?_;have hr:(ks.map ru)[i]? = some (k.B,k.d,k.c.aC):=by rw [rQ,hx]; rfl
 have H1:=(H0.Ce s1 hr).sel s0;have hlen:=PL ho;have hup:=(MQ ho);have aCk:=rC ho;refine iT Y<|aY<|bQ Y<|ev (d9 Y)<|ev (fQ sJ Y (fV _ _ _))<|ev (kP jN Y ((H1.o s2).fJ hx Y))<|ev (qD Y Y)<|dn<|bP Y (λhc8=>?_) (λhc8=>?_)
 ·replace hc8:=iY hc8;refine iT Y<|wO Y ?_
  have hd:eU sum k.c=(k.c,7):=by exact aS hc8
  have hs:ks=ks.set i k:=(GN hx).symm;have KZ:=((((H1.mV 0 2).sel s2)).DC hr s1 s1).sel s1;exact⟨k,(aV Prod.fst hd).symm,aV (Value.int .i64) (aV Prod.snd hd).symm,by rw [Et,<- hs]; exact KZ⟩
 replace hc8:=jS hc8;refine jy ?_;refine bQ Y<|ev (d9 Y)<|ev (fQ sJ Y (fV _ _ _))<|ev (kP jN Y ((H1.o s2).fJ hx Y))<|ev (Ev.add Y Y (zP aj aj))<|ev (d9 Y)<|ev (fQ sJ Y (fV _ _ _))<|se (x':=(⟨{ k.c with aB:=k.c.aB+1 },k.B,k.d⟩:bF)) H1 s2 Y Y Y hx Y uf (nX Y) Y (by rintro _ _ _ ⟨⟩; rfl) λw1 K1=>?_
 have hl1:(ks.set i (⟨{ k.c with aB:=k.c.aB+1 },k.B,k.d⟩:bF)).length=ks.length:=gW ..;have bN:(ks.set i (⟨{ k.c with aB:=k.c.aB+1 },k.B,k.d⟩:bF))[i]? = some (⟨{ k.c with aB:=k.c.aB+1 },k.B,k.d⟩:bF):=rT (aM hx);refine dn<|bQ Y<|mv Y<|ev (eF Xo Y (aCj.ext K1.ext) Y)<|ev (d9 Y)<|ev (fQ Iz Y (fV _ _ _))<|se (x':=(⟨{ (⟨{ k.c with aB:=k.c.aB+1 },k.B,k.d⟩:bF).c with Sum:=sum },(⟨{ k.c with aB:=k.c.aB+1 },k.B,k.d⟩:bF).B,(⟨{ k.c with aB:=k.c.aB+1 },k.B,k.d⟩:bF).d⟩:bF)) K1 s0 Y Y Y bN Y ajC (nX Y) Y (by rintro _ _ _ ⟨⟩; rfl) λw2 K2=>?_
 have hl2:((ks.set i (⟨{ k.c with aB:=k.c.aB+1 },k.B,k.d⟩:bF)).set i (⟨{ (⟨{ k.c with aB:=k.c.aB+1 },k.B,k.d⟩:bF).c with Sum:=sum },(⟨{ k.c with aB:=k.c.aB+1 },k.B,k.d⟩:bF).B,(⟨{ k.c with aB:=k.c.aB+1 },k.B,k.d⟩:bF).d⟩:bF)).length=(ks.set i (⟨{ k.c with aB:=k.c.aB+1 },k.B,k.d⟩:bF)).length:=gW ..;have lN:((ks.set i (⟨{ k.c with aB:=k.c.aB+1 },k.B,k.d⟩:bF)).set i (⟨{ (⟨{ k.c with aB:=k.c.aB+1 },k.B,k.d⟩:bF).c with Sum:=sum },(⟨{ k.c with aB:=k.c.aB+1 },k.B,k.d⟩:bF).B,(⟨{ k.c with aB:=k.c.aB+1 },k.B,k.d⟩:bF).d⟩:bF))[i]? = some (⟨{ (⟨{ k.c with aB:=k.c.aB+1 },k.B,k.d⟩:bF).c with Sum:=sum },(⟨{ k.c with aB:=k.c.aB+1 },k.B,k.d⟩:bF).B,(⟨{ k.c with aB:=k.c.aB+1 },k.B,k.d⟩:bF).d⟩:bF):=rT (aM bN);refine ev (d9 Y)<|ev (fQ kH Y (fV _ _ _))<|se (x':=(⟨{ (⟨{ (⟨{ k.c with aB:=k.c.aB+1 },k.B,k.d⟩:bF).c with Sum:=sum },(⟨{ k.c with aB:=k.c.aB+1 },k.B,k.d⟩:bF).B,(⟨{ k.c with aB:=k.c.aB+1 },k.B,k.d⟩:bF).d⟩:bF).c with aC:=[] },none,0⟩:bF)) K2 s0 Y Y Y lN Y PG (nX Y) Y (by rintro _ _ _ ⟨⟩; rfl) λw3 K3=>?_
 have hl3:(((ks.set i (⟨{ k.c with aB:=k.c.aB+1 },k.B,k.d⟩:bF)).set i (⟨{ (⟨{ k.c with aB:=k.c.aB+1 },k.B,k.d⟩:bF).c with Sum:=sum },(⟨{ k.c with aB:=k.c.aB+1 },k.B,k.d⟩:bF).B,(⟨{ k.c with aB:=k.c.aB+1 },k.B,k.d⟩:bF).d⟩:bF)).set i (⟨{ (⟨{ (⟨{ k.c with aB:=k.c.aB+1 },k.B,k.d⟩:bF).c with Sum:=sum },(⟨{ k.c with aB:=k.c.aB+1 },k.B,k.d⟩:bF).B,(⟨{ k.c with aB:=k.c.aB+1 },k.B,k.d⟩:bF).d⟩:bF).c with aC:=[] },none,0⟩:bF)).length=((ks.set i (⟨{ k.c with aB:=k.c.aB+1 },k.B,k.d⟩:bF)).set i (⟨{ (⟨{ k.c with aB:=k.c.aB+1 },k.B,k.d⟩:bF).c with Sum:=sum },(⟨{ k.c with aB:=k.c.aB+1 },k.B,k.d⟩:bF).B,(⟨{ k.c with aB:=k.c.aB+1 },k.B,k.d⟩:bF).d⟩:bF)).length:=gW ..;have hx3:(((ks.set i (⟨{ k.c with aB:=k.c.aB+1 },k.B,k.d⟩:bF)).set i (⟨{ (⟨{ k.c with aB:=k.c.aB+1 },k.B,k.d⟩:bF).c with Sum:=sum },(⟨{ k.c with aB:=k.c.aB+1 },k.B,k.d⟩:bF).B,(⟨{ k.c with aB:=k.c.aB+1 },k.B,k.d⟩:bF).d⟩:bF)).set i (⟨{ (⟨{ (⟨{ k.c with aB:=k.c.aB+1 },k.B,k.d⟩:bF).c with Sum:=sum },(⟨{ k.c with aB:=k.c.aB+1 },k.B,k.d⟩:bF).B,(⟨{ k.c with aB:=k.c.aB+1 },k.B,k.d⟩:bF).d⟩:bF).c with aC:=[] },none,0⟩:bF))[i]? = some (⟨{ (⟨{ (⟨{ k.c with aB:=k.c.aB+1 },k.B,k.d⟩:bF).c with Sum:=sum },(⟨{ k.c with aB:=k.c.aB+1 },k.B,k.d⟩:bF).B,(⟨{ k.c with aB:=k.c.aB+1 },k.B,k.d⟩:bF).d⟩:bF).c with aC:=[] },none,0⟩:bF):=rT (aM lN);refine dn<|iT Y<|iP Y ?_
 have H1:=K3.nil dQ 3;have hd:eU sum k.c=((⟨{ (⟨{ (⟨{ k.c with aB:=k.c.aB+1 },k.B,k.d⟩:bF).c with Sum:=sum },(⟨{ k.c with aB:=k.c.aB+1 },k.B,k.d⟩:bF).B,(⟨{ k.c with aB:=k.c.aB+1 },k.B,k.d⟩:bF).d⟩:bF).c with aC:=[] },none,0⟩:bF).c,0):=by exact aP hc8
 have hs:(((ks.set i (⟨{ k.c with aB:=k.c.aB+1 },k.B,k.d⟩:bF)).set i (⟨{ (⟨{ k.c with aB:=k.c.aB+1 },k.B,k.d⟩:bF).c with Sum:=sum },(⟨{ k.c with aB:=k.c.aB+1 },k.B,k.d⟩:bF).B,(⟨{ k.c with aB:=k.c.aB+1 },k.B,k.d⟩:bF).d⟩:bF)).set i (⟨{ (⟨{ (⟨{ k.c with aB:=k.c.aB+1 },k.B,k.d⟩:bF).c with Sum:=sum },(⟨{ k.c with aB:=k.c.aB+1 },k.B,k.d⟩:bF).B,(⟨{ k.c with aB:=k.c.aB+1 },k.B,k.d⟩:bF).d⟩:bF).c with aC:=[] },none,0⟩:bF))=ks.set i (⟨{ (⟨{ (⟨{ k.c with aB:=k.c.aB+1 },k.B,k.d⟩:bF).c with Sum:=sum },(⟨{ k.c with aB:=k.c.aB+1 },k.B,k.d⟩:bF).B,(⟨{ k.c with aB:=k.c.aB+1 },k.B,k.d⟩:bF).d⟩:bF).c with aC:=[] },none,0⟩:bF):=(by simp only [List.set_set]);have KZ:=(((((H1.rm s2).sel s0).sel s1)).DC hr s1 s1).sel s1;exact⟨(⟨{ (⟨{ (⟨{ k.c with aB:=k.c.aB+1 },k.B,k.d⟩:bF).c with Sum:=sum },(⟨{ k.c with aB:=k.c.aB+1 },k.B,k.d⟩:bF).B,(⟨{ k.c with aB:=k.c.aB+1 },k.B,k.d⟩:bF).d⟩:bF).c with aC:=[] },none,0⟩:bF),(aV Prod.fst hd).symm,aV (Value.int .i64) (aV Prod.snd hd).symm,by rw [Et,<- hs]; exact KZ⟩
theorem alZ{b w:World}{c:Nat}{Eu:Nat}(KW:Bx b Eu 3 [.int .i64 bH]){aal:Nat}(al0:Bx b aal 3 [.int .i64 bU])(H0:Hp b S w (aQ tK 59 A c ks::fU dQ 3 (ks.map ru)::F))(hx:ks[i]? = some k)(ho:oL k.c=true) :
    bO prog 419 #[.pointer (some ((Ih A).add (i*4))),.pointer (some ⟨Eu,0,none⟩),.pointer (some ⟨aal,0,none⟩)] w λv w'=>∃ k':bF,k'.c=(pY bH bU k.c).1/\v=.int .i64 (pY bH bU k.c).2/\Hp b S w' (aQ tK 59 A c (ks.set i k')::fU dQ 3 ((ks.set i k').map ru)::F):=by
 refine rU func419 ntmps419 Y ?_;have hr:(ks.map ru)[i]? = some (k.B,k.d,k.c.aC):=by rw [rQ,hx]; rfl
 have H1:=(H0.Ce s1 hr).sel s0;have hlen:=PL ho;have hup:=(MQ ho);have aCk:=rC ho;have hlow:=F9 (fun(y:Int)=>bL y bH) k.c.aC;refine iT Y<|qU ak ak<|bB (bq Y) Y<|bB (d9 Y) Y<|bB (fQ kH Y (fV _ _ _)) Y<|bB (kP Dp Y ((H1.o s2).fJ hx Y)) Y<|bB (eF jN Y (KW.ext H1.ext) Y) Y<|KE Y Y Y aoT (λwq eq=>(NY wq ((H1.o s0).ext eq) bH (Up.mono hup bH) aj).mono (by rintro _ _ ⟨rfl,gu⟩; exact⟨rfl,gu.ext⟩)) rfl<|bB (bq rfl) rfl<|bB (xP rfl rfl) rfl<|bB (xP rfl rfl) rfl<|bB (pz rfl) rfl<|bB (pz rfl) rfl<|qV λw1 e1=>?_
 have K1:=H1.grow e1;refine aY<|cB<|qU ak ak<|bB (eF jN Y (al0.ext K1.ext) Y) Y<|bB (bq Y) Y<|bB (d9 Y) Y<|bB (fQ sJ Y (fV _ _ _)) Y<|bB (kP jN Y ((K1.o s2).fJ hx Y)) Y<|bB (rY Y Y) Y<|bB (pz Y) Y<|qV λw2 e2=>?_
 have K2:=K1.grow e2;refine bP Y (λhc16=>?_) (λhc16=>?_)
 ·replace hc16:=oO hc16;refine iT Y<|Xb Y ?_
  have hd:pY bH bU k.c=(k.c,9):=by exact aS (by simpa using hc16)
  have hs:ks=ks.set i k:=(GN hx).symm;have KZ:=((((K2.mV 0 2).sel s2)).DC hr s1 s1).sel s1;exact⟨k,(aV Prod.fst hd).symm,aV (Value.int .i64) (aV Prod.snd hd).symm,by rw [Et,<- hs]; exact KZ⟩
 replace hc16:=oP hc16;refine bQ Y<|bX Y<|bP Y (λqP=>?_) (λqP=>?_)
 ·refine iT Y<|Xb Y ?_
  have hd:pY bH bU k.c=(k.c,6):=by exact(aP (by simpa using hc16)).trans (aS qP)
  have hs:ks=ks.set i k:=(GN hx).symm;have KZ:=((((K2.mV 0 2).sel s2)).DC hr s1 s1).sel s1;exact⟨k,(aV Prod.fst hd).symm,aV (Value.int .i64) (aV Prod.snd hd).symm,by rw [Et,<- hs]; exact KZ⟩
 refine Ci ?_;refine He K2 (λ_ K=>((K.rm s2).rm s0)) (λl0 rk lJ wJ=>∃(jW:ah)(jT:Nat),lJ=l0/\Hp b S wJ (aQ tK 59 A c (ks.set i (⟨{ k.c with aC:=(k.c.aC.take (low (fun(y:Int)=>bL y bH) k.c.aC)++[bH]++k.c.aC.drop (low (fun(y:Int)=>bL y bH) k.c.aC)) },jW,jT⟩:bF))::aQ dQ 3 jW jT (k.c.aC.take (low (fun(y:Int)=>bL y bH) k.c.aC)++[bH]++k.c.aC.drop (low (fun(y:Int)=>bL y bH) k.c.aC))::rk)) (λhns H1=>?_) ?_
 ·have k1:=((H1.rm s2).rm s0);refine lQ 0 Y Y k1<|lQ 1 Y Y k1<|tcz 2 Y Y k1<|l9 3 Y (λ_ _=>fQ kH Y (fV _ _ _)) k1<|lQ 5 Y Y k1<|l9 6 Y (λ_ hK=>eF jN Y (KW.ext hK.ext) Y) k1<|Jn H1 (λl0 rk lJ wJ=>∃(g1:Nat),lJ=(29,.slice k.B k.c.aC.length k.d)::(32,.slice (some ⟨g1,0,none⟩) (([bH]:List Int).length) 1)::l0/\Hp b S wJ (aQ dQ 3 (some ⟨g1,0,none⟩) 1 ([bH]:List Int)::rk)) 4 255 ?_ λhS1=>?_
  ·rintro _ w7 ⟨g1,rfl,K7⟩;refine O1 8 Y<|gU Y (abI K7 s1 s0 aj aj) ?_
   rintro _ w8 ⟨Xp,cp2,rfl,K8⟩;have k6:=((K8.rm s2).rm s0);refine aO k6<|tcz 9 Y Y k6<|l9 10 Y (λ_ _=>fQ kH Y (fV _ _ _)) k6<|O1 11 Y<|se (x':=(⟨{ k.c with aC:=(k.c.aC.take (low (fun(y:Int)=>bL y bH) k.c.aC)++[bH]++k.c.aC.drop (low (fun(y:Int)=>bL y bH) k.c.aC)) },Xp,cp2⟩:bF)) K8 s2 Y Y Y hx Y PG (nX Y) Y (by rintro _ _ _ ⟨⟩; rfl) λw9 K9=>?_
   have hl2:(ks.set i (⟨{ k.c with aC:=(k.c.aC.take (low (fun(y:Int)=>bL y bH) k.c.aC)++[bH]++k.c.aC.drop (low (fun(y:Int)=>bL y bH) k.c.aC)) },Xp,cp2⟩:bF)).length=ks.length:=gW ..;have lN:(ks.set i (⟨{ k.c with aC:=(k.c.aC.take (low (fun(y:Int)=>bL y bH) k.c.aC)++[bH]++k.c.aC.drop (low (fun(y:Int)=>bL y bH) k.c.aC)) },Xp,cp2⟩:bF))[i]? = some (⟨{ k.c with aC:=(k.c.aC.take (low (fun(y:Int)=>bL y bH) k.c.aC)++[bH]++k.c.aC.drop (low (fun(y:Int)=>bL y bH) k.c.aC)) },Xp,cp2⟩:bF):=rT (aM hx);have k7:=(K9.cU 0 2);refine aO k7<|Dn ⟨Xp,cp2,Y,K9⟩ Y
  refine O2 4 7 Y Y ?_ ?_
  ·refine ev (kP Dp Y ((H1.o s2).fJ hx Y))<|aO k1<|O1 7 Y<|Bh (τ:=dQ) (x:=bH) Y (by intro _; apply pR) rfl H1 (λ_ _=>rfl) λg3 Om K10=>?_
   have k8:=((K10.rm s3).cU 0 2);exact Kj hS1 k8 ⟨g3,Y,K10⟩ Y
  ·refine Bh (τ:=dQ) (x:=bH) Y (by intro _; apply pR) rfl H1 (λ_ _=>rfl) λg4 Va vM=>?_;have k9:=((vM.rm s3).cU 0 2);refine aO k9<|O1 4 Y<|ev (kP Dp Y ((vM.o s3).fJ hx Y))<|Kj hS1 k9 ⟨g4,Y,vM⟩ Y
 rintro _ Vb ⟨jW,jT,rfl,vH⟩;refine iT Y<|iP Y ?_
 have hd:pY bH bU k.c=((⟨{ k.c with aC:=(k.c.aC.take (low (fun(y:Int)=>bL y bH) k.c.aC)++[bH]++k.c.aC.drop (low (fun(y:Int)=>bL y bH) k.c.aC)) },jW,jT⟩:bF).c,0):=by exact(aP (by simpa using hc16)).trans (aP (by rw [qP]; decide))
 have hs:(ks.set i (⟨{ k.c with aC:=(k.c.aC.take (low (fun(y:Int)=>bL y bH) k.c.aC)++[bH]++k.c.aC.drop (low (fun(y:Int)=>bL y bH) k.c.aC)) },jW,jT⟩:bF))=ks.set i (⟨{ k.c with aC:=(k.c.aC.take (low (fun(y:Int)=>bL y bH) k.c.aC)++[bH]++k.c.aC.drop (low (fun(y:Int)=>bL y bH) k.c.aC)) },jW,jT⟩:bF):=(by simp only [List.set_set]);have KZ:=((vH).DC hr s1 s1).sel s1;exact⟨(⟨{ k.c with aC:=(k.c.aC.take (low (fun(y:Int)=>bL y bH) k.c.aC)++[bH]++k.c.aC.drop (low (fun(y:Int)=>bL y bH) k.c.aC)) },jW,jT⟩:bF),(aV Prod.fst hd).symm,aV (Value.int .i64) (aV Prod.snd hd).symm,by rw [Et,<- hs]; exact KZ⟩
theorem aeJ{b w:World}{c:Nat}{Eu:Nat}(KW:Bx b Eu 3 [.int .i64 bH])(H0:Hp b S w (aQ tK 59 A c ks::fU dQ 3 (ks.map ru)::F))(hx:ks[i]? = some k)(ho:oL k.c=true) :
    bO prog 422 #[.pointer (some ((Ih A).add (i*4))),.pointer (some ⟨Eu,0,none⟩)] w λv w'=>∃ k':bF,k'.c=(jB bH k.c).1/\v=.int .i64 (jB bH k.c).2/\Hp b S w' (aQ tK 59 A c (ks.set i k')::fU dQ 3 ((ks.set i k').map ru)::F):=by
 refine rU func422 ntmps422 Y ?_;have hr:(ks.map ru)[i]? = some (k.B,k.d,k.c.aC):=by rw [rQ,hx]; rfl
 have H1:=(H0.Ce s1 hr).sel s0;have hlen:=PL ho;have hup:=(MQ ho);have aCk:=rC ho;have hlow:=F9 (fun(y:Int)=>bL y bH) k.c.aC;refine iT Y<|qU ak ak<|bB (bq Y) Y<|bB (d9 Y) Y<|bB (fQ kH Y (fV _ _ _)) Y<|bB (kP Dp Y ((H1.o s2).fJ hx Y)) Y<|bB (eF jN Y (KW.ext H1.ext) Y) Y<|KE Y Y Y aoT (λwq eq=>(NY wq ((H1.o s0).ext eq) bH (Up.mono hup bH) aj).mono (by rintro _ _ ⟨rfl,gu⟩; exact⟨rfl,gu.ext⟩)) rfl<|bB (bq rfl) rfl<|bB (xP rfl rfl) rfl<|bB (xP rfl rfl) rfl<|bB (pz rfl) rfl<|bB (pz rfl) rfl<|qV λw1 e1=>?_
 have K1:=H1.grow e1;refine aY<|bQ Y<|ev (iG Y)<|dn<|bP Y (λhc16=>?_) (λhc16=>?_)
 ·try simp only [eT,dO,bK,eu,dZ,fI,bM,bV] at hc16
  refine iT Y<|wO Y ?_
  have hd:jB bH k.c=(k.c,5):=by exact aP (by rw [hc16]; decide)
  have hs:ks=ks.set i k:=(GN hx).symm;have KZ:=((((K1.mV 0 2).sel s2)).DC hr s1 s1).sel s1;exact⟨k,(aV Prod.fst hd).symm,aV (Value.int .i64) (aV Prod.snd hd).symm,by rw [Et,<- hs]; exact KZ⟩
 try simp only [eT,dO,bK,eu,dZ,fI,bM,bV] at hc16
 have hc16:hits (fun(y:Int)=>bL y bH) k.c.aC=true:=by simpa using hc16
 obtain⟨xb,hxb,hkb⟩:=qh hc16;have abH:=aM hxb;refine jy ?_;refine bQ Y<|mv Y<|ev (d9 Y)<|ev (fQ kH Y (fV _ _ _))<|ev (kP Dp Y ((K1.o s2).fJ hx Y))<|mv Y<|mv Y<|ev (Ev.add Y Y (zP aj aj))<|gU Y (abE (j:=low (fun(y:Int)=>bL y bH) k.c.aC+1) (K1.sel s0) aj aj) ?_
 rintro _ w2 ⟨rfl,K2⟩;refine ev (d9 Y)<|ev (fQ kH Y (fV _ _ _))<|se (x':=(⟨{ k.c with aC:=(k.c.aC.take (low (fun(y:Int)=>bL y bH) k.c.aC)++k.c.aC.drop (low (fun(y:Int)=>bL y bH) k.c.aC+1)) },k.B,k.d⟩:bF)) K2 s2 Y Y Y hx Y PG (nX Y) Y (by rintro _ _ _ ⟨⟩; rfl) λw3 K3=>?_
 have hl1:(ks.set i (⟨{ k.c with aC:=(k.c.aC.take (low (fun(y:Int)=>bL y bH) k.c.aC)++k.c.aC.drop (low (fun(y:Int)=>bL y bH) k.c.aC+1)) },k.B,k.d⟩:bF)).length=ks.length:=gW ..;have bN:(ks.set i (⟨{ k.c with aC:=(k.c.aC.take (low (fun(y:Int)=>bL y bH) k.c.aC)++k.c.aC.drop (low (fun(y:Int)=>bL y bH) k.c.aC+1)) },k.B,k.d⟩:bF))[i]? = some (⟨{ k.c with aC:=(k.c.aC.take (low (fun(y:Int)=>bL y bH) k.c.aC)++k.c.aC.drop (low (fun(y:Int)=>bL y bH) k.c.aC+1)) },k.B,k.d⟩:bF):=rT (aM hx);refine dn<|iT Y<|iP Y ?_
 have hd:jB bH k.c=((⟨{ k.c with aC:=(k.c.aC.take (low (fun(y:Int)=>bL y bH) k.c.aC)++k.c.aC.drop (low (fun(y:Int)=>bL y bH) k.c.aC+1)) },k.B,k.d⟩:bF).c,0):=by exact aS hc16
 have hs:(ks.set i (⟨{ k.c with aC:=(k.c.aC.take (low (fun(y:Int)=>bL y bH) k.c.aC)++k.c.aC.drop (low (fun(y:Int)=>bL y bH) k.c.aC+1)) },k.B,k.d⟩:bF))=ks.set i (⟨{ k.c with aC:=(k.c.aC.take (low (fun(y:Int)=>bL y bH) k.c.aC)++k.c.aC.drop (low (fun(y:Int)=>bL y bH) k.c.aC+1)) },k.B,k.d⟩:bF):=(by simp only [List.set_set]);have KZ:=((K3).DC hr s1 s1).sel s1;exact⟨(⟨{ k.c with aC:=(k.c.aC.take (low (fun(y:Int)=>bL y bH) k.c.aC)++k.c.aC.drop (low (fun(y:Int)=>bL y bH) k.c.aC+1)) },k.B,k.d⟩:bF),(aV Prod.fst hd).symm,aV (Value.int .i64) (aV Prod.snd hd).symm,by rw [Et,<- hs]; exact KZ⟩
theorem SE(w:World)(jE:Sl bD S0 w jU jR l)(id:Int){aoU:FuncId}{aoV:List Value}(aCl:bJ prog aoU)(dof:aF->aF × Int)(aCm:aCi w aoU aoV dof)(hn:l.length<=100000)(hh:∀ x∈l,x.aC.length<=100000) :
    bO prog 417 #[.slice jU l.length jR,.int .i64 id,.func (.func aoU) #[] aoV.toArray] w λv w'=>∃(A0:ah)(c0:Nat),v=.tuple #[.slice A0 (((iC l id dof).1).length) c0,.int .i64 ((iC l id dof).2)]/\Hp w S0 w' [aQ bD 59 A0 c0 ((iC l id dof).1)]:=by
 refine lg S0 func417 ntmps417 Y λH0=>?_;have GJ:=jE.bC;have hf:=D8 l;refine rg<|jk Y<|bX Y<|bQ Y<|gU Y (Xk (S0:=Rd w S0 [] _) _ (H0.a jE) hn hh) ?_
 rintro _ w1 ⟨A,c,ks,rfl,hkc,h9⟩;have K1:=H0.c2 h9;have hkl:ks.length=(eD l).length:=by rw [<- hkc,kF]
 refine bX Y ?_;have hrd:=K1.rdK s0 s0;refine lF (t:=0) Y (aV (λz=>Value.slice A z c) (PK ks).symm)<|bQ Y<|mv Y<|nD K1 Y (GL _ hrd id (by rw [hkc]; exact Cj l) (by rw [kF]; omega)) λw2 K2=>mv rfl<|xt rfl rfl<|xt rfl rfl<|jk rfl<|bX rfl<|aY<|bQ rfl<|ev (iG rfl)<|dn<|bP rfl (λlW=>?_) (λlW=>?_)
 ·try simp only [eT,dO,bK,eu,dZ,fI,bM,bV] at lW
  refine rg<|jk Y<|bX Y<|wO Y ?_
  have hch:=ajD (f:=dof) (by rw [<- hkc]; simpa using lW);have H1:=K2.nil bD 59;have fT:(([]:List aF):List aF)=((iC l id dof).1):=by rw [hch]
  have H2:=(fT▸H1:Hp w S0 w2 (aQ bD 59 none 0 ((iC l id dof).1)::[aQ tK 59 A c ks,fU dQ 3 (ks.map ru)]));have gu:(5:Int)=((iC l id dof).2):=by rw [hch]
  exact⟨none,0,by rw [<- fT,<- gu] <;> rfl,(H2.cU 1 2)⟩
 try simp only [eT,dO,bK,eu,dZ,fI,bM,bV] at lW
 have lW:hits (fun(y:aF)=>bL y.ID id) (ks.map bF.c)=true:=by simpa using lW
 obtain⟨xb,hxb,hkb⟩:=qh (key:=aF.ID) lW;have abH:=aM hxb;rw [kF] at abH;refine jy ?_;refine aY<|lF (t:=0) Y (aV (λz=>Value.slice A z c) (PK ks))<|bQ Y<|mv Y<|mv Y ?_
 obtain⟨x1,bN⟩:=bn (xs:=ks) (i:=low (fun(y:aF)=>bL y.ID id) (ks.map bF.c)) aj;refine ev (eP (i:=low (fun(y:aF)=>bL y.ID id) (ks.map bF.c)) iV qy Y Y Y (aM bN) ((K2.o s0).some_ bN)) ?_;have ho:oL x1.c=true:=aak l _ (by rw [<- hkc]; exact gB.2 ⟨x1,bZ bN,rfl⟩);refine zq Y Y Y aCl (aCm _ _ _ _ _ _ _ _ K2 bN ho) Y ?_;rintro _ w3 ⟨k1,hk1,rfl,K3⟩;refine bX Y<|bQ Y<|ev (rY Y Y)<|dn<|bP Y (λhc27=>?_) (λhc27=>?_)
 ·replace hc27:=oO hc27;refine bQ Y<|jk Y<|bX Y<|wO Y ?_
  have hkx:(eD l)[low (fun(y:aF)=>bL y.ID id) (eD l)]? = some x1.c:=by rw [<- hkc,rQ,bN]; rfl
  have hch:=Vm (f:=dof) (by rw [<- hkc]; exact lW) hkx;rw [aP (by simpa using hc27)] at hch;have H3:=K3.nil bD 59;have kC:(([]:List aF):List aF)=((iC l id dof).1):=by rw [hch]
  have H4:=(kC▸H3:Hp w S0 w3 (aQ bD 59 none 0 ((iC l id dof).1)::[aQ tK 59 A c (ks.set (low (fun(y:aF)=>bL y.ID id) (ks.map bF.c)) k1),fU dQ 3 ((ks.set (low (fun(y:aF)=>bL y.ID id) (ks.map bF.c)) k1).map ru)]));have nC:((dof x1.c).2:Int)=((iC l id dof).2):=by rw [hch]
  exact⟨none,0,by rw [nC,<- kC] <;> rfl,(H4.cU 1 2)⟩
 replace hc27:=oP hc27;refine jy ?_;refine bQ Y<|jk Y<|bX Y<|iP Y ?_
 have hkx:(eD l)[low (fun(y:aF)=>bL y.ID id) (eD l)]? = some x1.c:=by rw [<- hkc,rQ,bN]; rfl
 have hch:=Vm (f:=dof) (by rw [<- hkc]; exact lW) hkx;rw [aS (by simpa using hc27)] at hch;have he:iC l id dof=((ks.set (low (fun(y:aF)=>bL y.ID id) (ks.map bF.c)) k1).map bF.c,0):=by rw [hch,alV,hk1,hkc]
 have KZ:=(K3.WW s1).ofK s1 s0;exact⟨A,c,by rw [he,kF,gW] <;> rfl,by rw [he]; exact KZ⟩
theorem aoW(w:World)(jE:Sl bD S0 w jU jR l)(id:Int)(sum:Int)(hn:l.length<=100000)(hh:∀ x∈l,x.aC.length<=100000) :
    bO prog 356 #[.slice jU l.length jR,.int .i64 id,.int .u32 sum] w λv w'=>∃(A0:ah)(c0:Nat),v=.tuple #[.slice A0 (((iC l id (eU sum)).1).length) c0,.int .i64 ((iC l id (eU sum)).2)]/\Hp w S0 w' [aQ bD 59 A0 c0 ((iC l id (eU sum)).1)]:=by
 refine lg S0 func356 ntmps356 Y λH0=>?_;have GJ:=jE.bC;refine rg<|bx Y Y H0 λg1 w1 K1=>jk Y<|bX Y<|bQ Y<|mv Y<|ev (rE Y)<|gU Y (SE _ (K1.a jE) id ayw (eU sum) (λ_ _ _ _ _ _ _ _ H hx ho=>alY (K1.x s0) H hx ho) aj hh) ?_
 rintro _ w2 ⟨pI,pJ,rfl,h2⟩;have K2:=K1.c1 h2;have UA:=(K2.o s0).bC;refine xt Y Y<|xt Y Y<|jk Y<|bX Y<|iP Y ?_
 exact⟨pI,pJ,Y,(K2.rm s1)⟩
def lu(l:List aF)(id bH bU:Int):List aF × Int:=if bH<1∨16<bH then([],1) else iC l id (pY bH bU)
theorem aoX(w:World)(jE:Sl bD S0 w jU jR l)(id:Int)(bH:Int)(bU:Int)(hn:l.length<=100000)(hh:∀ x∈l,x.aC.length<=100000) :
    bO prog 359 #[.slice jU l.length jR,.int .i64 id,.int .i64 bH,.int .i64 bU] w λv w'=>∃(A0:ah)(c0:Nat),v=.tuple #[.slice A0 (((lu l id bH bU).1).length) c0,.int .i64 ((lu l id bH bU).2)]/\Hp w S0 w' [aQ bD 59 A0 c0 ((lu l id bH bU).1)]:=by
 refine lg S0 func359 ntmps359 Y λH0=>?_;have GJ:=jE.bC;refine rg<|bx Y Y H0 λg1 w1 K1=>bx Y Y K1 λg2 w2 K2=>jk Y<|bX Y<|aY<|rg<|nL K2 s1 Y<|ev (fD Y Y)<|mv Y<|iO 3 15 ((decide (bH<1))||(decide (16<bH))) ?_ ?_
 ·cases aH2:decide (bH<1) with
  | true=>
   refine dN<|dN<|ev (dM Y Y)<|dJ Y
  | false=>
   have aK3:=jS aH2;refine gby K2 s1 Y<|bE Y (sQ Y Y) Y<|ev (dS Y Y)<|dJ Y
 refine dn<|bP Y (λyX=>?_) (λyX=>?_)
 ·try simp only [eT,dO,bM,bV] at yX
  refine rg<|jk Y<|bX Y<|wO Y ?_
  have H1:=K2.nil bD 59;have fT:(([]:List aF):List aF)=((lu l id bH bU).1):=by grind [lu]
  have H2:=(fT▸H1:Hp w S0 w2 (aQ bD 59 none 0 ((lu l id bH bU).1)::[dW g2 3 [.int .i64 bU],dW g1 3 [.int .i64 bH]]));have gu:(1:Int)=((lu l id bH bU).2):=by grind [lu]
  exact⟨none,0,by rw [<- fT,<- gu] <;> rfl,(H2.cU 1 2)⟩
 try simp only [eT,dO,bM,bV] at yX
 refine jy ?_;refine bQ Y<|mv Y<|ev (rE Y)<|gU Y (SE _ (K2.a jE) id (aoV:=[.pointer (some ⟨g1,0,none⟩),.pointer (some ⟨g2,0,none⟩)]) ayx (pY bH bU) (λ_ _ _ _ _ _ _ _ H hx ho=>alZ (K2.x s1) (K2.x s0) H hx ho) aj hh) ?_
 rintro _ w3 ⟨qQ,qR,rfl,h3⟩;have K3:=K2.c1 h3;have aoY:=(K3.o s0).bC;refine xt Y Y<|xt Y Y<|jk Y<|bX Y<|iP Y ?_
 have kC:((iC l id (pY bH bU)).1:List aF)=((lu l id bH bU).1):=by grind [lu]
 rw [kC] at K3;have nC:((iC l id (pY bH bU)).2:Int)=((lu l id bH bU).2):=by grind [lu]
 exact⟨qQ,qR,by rw [kC,nC] <;> rfl,(K3.cU 1 2)⟩
theorem ahR(w:World)(jE:Sl bD S0 w jU jR l)(id:Int)(bH:Int)(hn:l.length<=100000)(hh:∀ x∈l,x.aC.length<=100000) :
    bO prog 361 #[.slice jU l.length jR,.int .i64 id,.int .i64 bH] w λv w'=>∃(A0:ah)(c0:Nat),v=.tuple #[.slice A0 (((iC l id (jB bH)).1).length) c0,.int .i64 ((iC l id (jB bH)).2)]/\Hp w S0 w' [aQ bD 59 A0 c0 ((iC l id (jB bH)).1)]:=by
 refine lg S0 func361 ntmps361 Y λH0=>?_;have GJ:=jE.bC;refine rg<|bx Y Y H0 λg1 w1 K1=>jk Y<|bX Y<|bQ Y<|mv Y<|ev (rE Y)<|gU Y (SE _ (K1.a jE) id ayy (jB bH) (λ_ _ _ _ _ _ _ _ H hx ho=>aeJ (K1.x s0) H hx ho) aj hh) ?_
 rintro _ w2 ⟨pI,pJ,rfl,h2⟩;have K2:=K1.c1 h2;have UA:=(K2.o s0).bC;refine xt Y Y<|xt Y Y<|jk Y<|bX Y<|iP Y ?_
 exact⟨pI,pJ,Y,(K2.rm s1)⟩
theorem mQ{key:α->Int}{l:List α}(hu:Up key l){x y:α}(hx:x∈l)(hy:y∈l)(h:key x=key y):x=y:=by
  obtain⟨i,hi⟩:=sZ hx;obtain⟨j,hj⟩:=sZ hy
  rcases abA i j with h1 | h1 | h1
  · have:=hu.get h1 hi hj; omega
  · grind
  · have:=hu.get h1 hj hi; omega
theorem abJ(h:kI l=true):Up aF.ID l:=by have:=Cj l; rwa [wD h] at this
theorem sK(h:kI l=true):∀ x∈l,oL x=true:=(kM.1 h).1
theorem uN(h:kI l=true):l.length<=32/\∀ x∈l,x.aC.length<=16:=by grind [kM,PL,sK]
theorem xX(h:kI l=true)(hb:gZ l j=true):l[low (fun(y:aF)=>bL y.ID j) l]? = some (aU l j)/\(aU l j).ID=j:=by
  unfold gZ at hb;obtain⟨x,hx,hk⟩:=qh (key:=aF.ID) hb
  grind [SB,wD]
theorem CB(h:kI l=true):gZ l j=true↔∃ c∈l,c.ID=j:=by
  simp_all [gZ,wD,sU,abJ]
theorem uO(h:kI l=true)(hb:gZ l j=true):aU l j∈l:=bZ (xX h hb).1
theorem xY(h:kI l=true)(hc:c∈l):gZ l c.ID=true/\aU l c.ID=c:=by
  have h1:=(CB h).2 ⟨c,hc,rfl⟩;exact⟨h1,mQ (abJ h) (uO h h1) hc (xX h h1).2⟩
theorem aam(h:kI l=true)(hb:gZ l j=false):(∀ c∈l,c.ID≠j)/\aU l j=⟨0,0,0,[]⟩:=by
  refine⟨λc hc e=>?_,Xm hb⟩
  grind [CB]
theorem aut{c':aF}(hx:l[i]? = some c)(hid:c'.ID=c.ID):(l.set i c').map aF.ID=l.map aF.ID:=by
  grind [List.map_set,GN]
theorem auu(h:kI l=true){c':aF}(hx:l[i]? = some c)(hid:c'.ID=c.ID)(ho:oL c'=true):kI (l.set i c')=true:=by
  grind [kM,List.length_set,aut,List.mem_or_eq_of_mem_set]
theorem abK(h:kI l=true)(hb:gZ l id=true)(f:aF->aF × Int):iC l id f=if(f (aU l id)).2=0 then(l.set (low (fun(y:aF)=>bL y.ID id) l) (f (aU l id)).1,0) else([],(f (aU l id)).2):=by
  have h1:=xX h hb;have h2:=Vm (f:=f) hb (by rw [wD h]; exact h1.1);rw [h2,wD h]
theorem ahS(hb:gZ l id=false)(f:aF->aF × Int):iC l id f=([],5):=ajD hb
theorem PN(ho:oL c=true)(n:Int):hits (fun(y:Int)=>bL y n) c.aC=true↔n∈c.aC:=by
  simp_all [sU,MQ]
theorem ahT(h:oL c=true)(hv:c.aB<1073741824)(sum:Int):oL { c with aB:=c.aB+1,Sum:=sum,aC:=[] }=true:=by
  grind [oL,nS]
theorem ayA(hu:Up aF.ID l){n:Nat}{x:aF}(hx:l[n]? = some x)(hid:x.ID=id):low (fun(y:aF)=>bL y.ID id) l=n:=by
  refine xB (by grind) (λa y ha hy=>?_) (λa y ha hy=>?_)
  · rw [qE]; have:=hu.get ha hy hx; omega
  · rw [qE]
    rcases F6 n a with h1 | h1
    · have:=hu.get h1 hx hy; omega
    grind
theorem MR(l:List aF)(id:Int):aU (eD l) id=aU l id/\gZ (eD l) id=gZ l id:=by
  unfold aU gZ; rw [wD (zw l)]; exact⟨rfl,rfl⟩
theorem ajE(l:List aF)(id:Int):(idxOf (fun(y:aF)=>decide (y.ID=id)) (eD l)=-1/\gZ l id=false)∨∃(n:Nat)(x:aF),idxOf (fun(y:aF)=>decide (y.ID=id)) (eD l)=(n:Int)/\(eD l)[n]? = some x/\x.ID=id/\gZ l id=true/\aU l id=x/\low (fun(y:aF)=>bL y.ID id) (eD l)=n:=by
  rcases wm (fun(y:aF)=>decide (y.ID=id)) (eD l) with ⟨h1,h2⟩ | ⟨n,x,h1,h2,h3,_⟩
  · left; refine⟨h1,?_⟩
    cases hb:gZ l id with
    | false=>rfl
    | true=>
      rw [<- (MR l id).2] at hb;have h3:=xX (zw l) hb
      grind
  · right
    have h4:x.ID=id:=by grind
    have h5:=xY (zw l) (bZ h2);rw [h4,(MR l id).1,(MR l id).2] at h5;exact⟨n,x,h1,h2,h4,h5.1,h5.2,ayA (Cj l) h2 h4⟩
theorem auv{n:Nat}{x:aF}(h3:gZ l id=true)(hx:(eD l)[n]? = some x)(h5:low (fun(y:aF)=>bL y.ID id) (eD l)=n)(f:aF->aF × Int):iC l id f=if(f x).2=0 then((eD l).set n (f x).1,0) else([],(f x).2):=by
  rw [Vm h3 (by rw [h5]; exact hx),h5]
theorem ahU{n:Nat}(h3:gZ l id=true)(h5:low (fun(y:aF)=>bL y.ID id) (eD l)=n):iZ l id=((eD l).take n++(eD l).drop (n+1),0):=by
  unfold iZ; rw [aS (show hits (fun(y:aF)=>bL y.ID id) (eD l)=true from h3),h5]
theorem al1(h:gZ l id=false):iZ l id=([],5):=by
  grind [iZ,gZ]
theorem al2(hu:h.Pairwise (λx y=>x<y))(n:Int):(∀ x∈h.take (low (fun(y:Int)=>bL y n) h),x<n)/\(∀ x∈h.drop (low (fun(y:Int)=>bL y n) h),n<=x):=by
  have key:∀(h:List Int),h.Pairwise (λx y=>x<y)->(∀ x∈h.take (low (fun(y:Int)=>bL y n) h),x<n)/\(∀ x∈h.drop (low (fun(y:Int)=>bL y n) h),n<=x):=by
    intro h
    induction h with
    | nil=>simp
    | cons a h ih=>
      intro hu;have h1:=nW.1 hu;have ih:=ih h1.2
      by_cases ha:a<n
      · have e:low (fun(y:Int)=>bL y n) (a::h)=low (fun(y:Int)=>bL y n) h+1:=by grind [low,List.countP_cons_of_pos,qE]
        grind
      · have e:low (fun(y:Int)=>bL y n) (a::h)=0:=by
          unfold low;rw [List.countP_eq_zero];intro x hx
          simp only [bM,qE]
          rcases iR.1 hx with rfl | hx
          · exact ha
          · grind
        grind
  grind
theorem aoZ(hu:h.Pairwise (λx y=>x<y)){n:Int}(hn:n∉h):(h.take (low (fun(y:Int)=>bL y n) h)++[n]++h.drop (low (fun(y:Int)=>bL y n) h)).Pairwise (λx y=>x<y)/\∀ x,x∈(h.take (low (fun(y:Int)=>bL y n) h)++[n]++h.drop (low (fun(y:Int)=>bL y n) h))↔x=n∨x∈h:=by
  obtain⟨h1,h2⟩:=al2 hu n;have h2':∀ x∈h.drop (low (fun(y:Int)=>bL y n) h),n<x:=by grind
  have h5:(h.take (low (fun(y:Int)=>bL y n) h)++h.drop (low (fun(y:Int)=>bL y n) h)).Pairwise (λx y=>x<y):=by grind
  have h6:=zk.1 h5
  constructor
  · grind
  · intro x
    have:x∈h↔x∈h.take (low (fun(y:Int)=>bL y n) h)∨x∈h.drop (low (fun(y:Int)=>bL y n) h):=by rw [<- kX,FC]
    grind
theorem ahV:(id<1∨1048576<id->dU l id sum=([],1))/\(¬ (id<1∨1048576<id)->gZ l id=true->dU l id sum=([],6))/\(¬ (id<1∨1048576<id)->gZ l id=false->32<=(eD l).length->dU l id sum=([],7))/\
    (¬ (id<1∨1048576<id)->gZ l id=false->(eD l).length<32->dU l id sum=((eD l).take (low (fun(y:aF)=>bL y.ID id) (eD l))++[⟨id,1,sum,[]⟩]++(eD l).drop (low (fun(y:aF)=>bL y.ID id) (eD l)),0)):=by
  grind [dU,gZ]
theorem BH:∀(l:List Int)(z:Int),nS most z l=true↔l.Pairwise (λx y=>x<y)/\∀ x∈l,z<=x/\x<=most
  | [],z=>by simp [nS]
  | y::l,z=>by
    constructor
    · intro h; exact⟨D9 _ _ h,BD _ _ h⟩
    · rintro⟨h1,h2⟩
      have h3:=nW.1 h1;have h4:=h2 y av
      simp only [nS,bK,dZ,dO,bV]
      refine⟨⟨aj,aj⟩,(BH l (y+1)).2 ⟨h3.2,λx hx=>?_⟩⟩;have h5:=h3.1 x hx;have h6:=h2 x (by simp [hx]);omega
theorem SF{z:Int}{l m:List Int}(h:nS most z l=true)(s:m.Sublist l):nS most z m=true:=by
  grind [BH]
theorem auw{m:List aF}(h:kI l=true)(s:m.Sublist l):kI m=true:=by
  grind [kM,Nat.le_trans,SF]
theorem abL(l:List α)(i:Nat):(l.take i++l.drop (i+1)).Sublist l:=by
  rw [<- R5]; grind
theorem aeK(ho:oL c=true)(hr:nS 16 1 h=true):oL { c with aC:=h }=true:=by
  grind [oL]
theorem aeL(ho:oL c=true):oL { c with aC:=c.aC.take i++c.aC.drop (i+1) }=true:=aeK ho (SF (rC ho).2.2 (abL _ _))
theorem al3(ho:oL c=true)(h1:1<=bH)(h2:bH<=16)(hn:bH∉c.aC):oL { c with aC:=c.aC.take (low (fun(y:Int)=>bL y bH) c.aC)++[bH]++c.aC.drop (low (fun(y:Int)=>bL y bH) c.aC) }=true:=by
  refine aeK ho ((BH _ _).2 ?_);obtain⟨h3,h4⟩:=aoZ (MQ ho) hn;refine⟨h3,λx hx=>?_⟩
  rcases(h4 x).1 hx with rfl | hx
  · grind
  · exact BD _ _ (rC ho).2.2 x hx
theorem aan(l:List aF)(id:Int)(f:aF->aF × Int):(gZ l id=false/\iC l id f=([],5))∨(gZ l id=true/\(f (aU l id)).2≠0/\iC l id f=([],(f (aU l id)).2))∨
    (gZ l id=true/\(f (aU l id)).2=0/\∃ n,(eD l)[n]? = some (aU l id)/\(aU l id).ID=id/\iC l id f=((eD l).set n (f (aU l id)).1,0)):=by
  rcases ajE l id with ⟨_,h⟩ | ⟨n,x,_,h1,h2,h3,h4,h5⟩
  · grind [ahS]
  · subst h4
    have h6:=auv h3 h1 h5 f
    grind
theorem MS(ho:oL c=true)(he:(eU sum c).2=0):(eU sum c).1={ c with aB:=c.aB+1,Sum:=sum,aC:=[] }/\oL (eU sum c).1=true/\(eU sum c).1.ID=c.ID:=by
  unfold eU at he ⊢
  grind [ahT]
theorem MV(ho:oL c=true)(h1:1<=bH)(h2:bH<=16)(he:(pY bH bU c).2=0):bU=c.aB/\bH∉c.aC/\(pY bH bU c).1={ c with aC:=c.aC.take (low (fun(y:Int)=>bL y bH) c.aC)++[bH]++c.aC.drop (low (fun(y:Int)=>bL y bH) c.aC) }/\oL (pY bH bU c).1=true/\(pY bH bU c).1.ID=c.ID:=by
  unfold pY at he ⊢
  by_cases h:bU≠c.aB
  · grind
  · rw [aP h] at he ⊢
    by_cases h3:hits (fun(y:Int)=>bL y bH) c.aC=true
    · grind
    · have h4:bH∉c.aC:=by grind [PN]
      grind [al3]
theorem FK(ho:oL c=true)(he:(jB bH c).2=0):bH∈c.aC/\(jB bH c).1={ c with aC:=c.aC.take (low (fun(y:Int)=>bL y bH) c.aC)++c.aC.drop (low (fun(y:Int)=>bL y bH) c.aC+1) }/\oL (jB bH c).1=true/\(jB bH c).1.ID=c.ID:=by
  unfold jB at he ⊢
  by_cases h3:hits (fun(y:Int)=>bL y bH) c.aC=true
  all_goals simp_all [aS,PN,aeL,aP]
def Good(f:aF->aF × Int):Prop:=∀ c,oL c=true->(f c).2=0->oL (f c).1=true/\(f c).1.ID=c.ID
theorem yY(sum:Int):Good (eU sum):=λ_ ho he=>(MS ho he).2
theorem Xq(bU:Int)(h1:1<=bH)(h2:bH<=16):Good (pY bH bU):=λ_ ho he=>(MV ho h1 h2 he).2.2.2
theorem PO(bH:Int):Good (jB bH):=λ_ ho he=>(FK ho he).2.2
theorem IE(l:List aF)(id:Int)(hf:Good f):kI (iC l id f).1=true/\((iC l id f).2≠0->(iC l id f).1=[]):=by
  rcases aan l id f with ⟨_,h⟩ | ⟨_,h1,h⟩ | ⟨h0,h1,n,h2,h3,h⟩
  · rw [h]; decide
  · rw [h]; exact⟨rfl,λ_=>rfl⟩
  · rw [h]
    have h4:=hf _ (by grind [aak]) h1
    grind [auu,zw]
theorem auy(l:List aF)(id:Int):low (fun(y:Int)=>bL y id) (l.map aF.ID)=low (fun(y:aF)=>bL y.ID id) l:=by
  simp only [low]; rw [List.countP_map]; rfl
theorem DI(l:List aF)(id sum:Int):((dU l id sum).1=[]/\(dU l id sum).2≠0)∨(1<=id/\id<=1048576/\gZ l id=false/\(eD l).length<32/\dU l id sum=((eD l).take (low (fun(y:aF)=>bL y.ID id) (eD l))++[⟨id,1,sum,[]⟩]++(eD l).drop (low (fun(y:aF)=>bL y.ID id) (eD l)),0)):=by
  obtain⟨h1,h2,h3,h4⟩:=ahV (l:=l) (id:=id) (sum:=sum)
  by_cases a:id<1∨1048576<id
  · grind
  · cases b:gZ l id <;> grind
theorem Ew(l:List aF)(id sum:Int):kI (dU l id sum).1=true/\((dU l id sum).2≠0->(dU l id sum).1=[])/\((dU l id sum).2=0->gZ l id=false/\∀ c:aF,c.ID≠id->(c∈(dU l id sum).1↔c∈eD l)):=by
  rcases DI l id sum with ⟨h1,h2⟩ | ⟨h1,h2,h3,h4,h5⟩
  · rw [h1]; exact⟨rfl,λ_=>rfl,λh=>absurd h h2⟩
  · rw [h5]
    have hm:=zw l;obtain⟨m1,m2,m3⟩:=kM.1 hm;obtain⟨r1,r2⟩:=(BH _ _).1 m3;have hno:∀ c∈eD l,c.ID≠id:=(aam hm (by simp_all [MR])).1;have hni:id∉(eD l).map aF.ID:=by grind
    obtain⟨i1,i2⟩:=aoZ r1 hni
    have hmem:∀ c:aF,c∈((eD l).take (low (fun(y:aF)=>bL y.ID id) (eD l))++[(⟨id,1,sum,[]⟩:aF)]++(eD l).drop (low (fun(y:aF)=>bL y.ID id) (eD l)))↔c=⟨id,1,sum,[]⟩∨c∈eD l:=λc=>by
      have:c∈eD l↔c∈(eD l).take (low (fun(y:aF)=>bL y.ID id) (eD l))∨c∈(eD l).drop (low (fun(y:aF)=>bL y.ID id) (eD l)):=by rw [<- kX,FC]
      grind
    refine⟨kM.2 ⟨λc hc=>?_,?_,?_⟩,λh=>absurd Y h,λ_=>⟨h3,λc hc=>?_⟩⟩
    · rcases(hmem c).1 hc with rfl | hc
      · rfl
      grind
    · grind
    · simp_all [BH,auy,tu,List.map_take,List.map_drop]
    grind
theorem ahW(l:List aF)(id:Int):kI (iZ l id).1=true/\((iZ l id).2≠0->(iZ l id).1=[])/\((iZ l id).2=0->gZ l id=true/\gZ (iZ l id).1 id=false/\(iZ l id).1.length+1=(eD l).length/\∀ c:aF,c.ID≠id->(c∈(iZ l id).1↔c∈eD l)):=by
  rcases ajE l id with ⟨_,h⟩ | ⟨n,x,_,h1,h2,h3,h4,h5⟩
  · rw [al1 h]; exact⟨rfl,λ_=>rfl,λh=>by simp at h⟩
  · rw [ahU h3 h5]
    have hm:=auw (zw l) (abL (eD l) n);have hlt:=aM h1
    have hmem:∀ c,c∈eD l↔c=x∨c∈(eD l).take n++(eD l).drop (n+1):=λc=>by
      have e:eD l=(eD l).take n++x::(eD l).drop (n+1):=by grind [List.drop_eq_getElem_cons,List.getElem?_eq_some_iff,List.take_append_drop]
      grind
    have hu:=abJ (zw l)
    have aK4:∀ c∈(eD l).take n++(eD l).drop (n+1),c.ID≠id:=λc hc e=>by
      rcases kX.1 hc with h | h
      · obtain⟨a,ha⟩:=sZ h
        have h6:=aM ha
        simp only [iF] at h6
        rw [Xd aj] at ha;have:=hu.get (by omega:a<n) ha h1; omega
      · obtain⟨a,ha⟩:=sZ h
        rw [F5] at ha;have:=hu.get (by omega:n<n+1+a) h1 ha; omega
    refine⟨hm,av,λ_=>⟨h3,?_,?_,λc hc=>?_⟩⟩
    · cases hb:gZ ((eD l).take n++(eD l).drop (n+1)) id with
      | false=>rfl
      | true=>exact absurd (xX hm hb).2 (by grind [uO])
    all_goals grind
theorem al4(l:List aF)(id bH bU:Int):kI (lu l id bH bU).1=true/\((lu l id bH bU).2≠0->(lu l id bH bU).1=[]):=by
  unfold lu
  split
  · decide
  grind [IE,Xq]
end
end Go.Proofs.YtlhnnmlenkahlaaGreat
