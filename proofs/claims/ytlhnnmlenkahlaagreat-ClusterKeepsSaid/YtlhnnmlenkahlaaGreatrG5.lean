/- Lemmas. -/
import Derived.Shelf.Bodies2
import Derived.Test.YtlhnnmlenkahlaaGreatrG4
set_option maxRecDepth 4000
set_option linter.all false
namespace Go.Proofs.YtlhnnmlenkahlaaGreat
open Go.RowKit Go.Proofs.Tryz
def tX:=@info_parts
def ab0:=@Bool.eq_iff_iff
def iN:=@underlying42
def zO:=@List.drop_eq_getElem_cons
def dX:=@Bool.or_eq_false_iff
def fq:=@Bool.or_eq_true
def SY:=@List.all_eq_false
def Gl:=@List.map_set
def eH:=@Bool.and_eq_false_imp
def fP:=@Bool.not_eq_false'
def xB:=@List.forall_mem_cons
def xC:=@false_implies
def xD:=@implies_true
def uO:=@and_true
variable {S S0:Nat->Prop}{w:World}{vY A jl:ah}{uY jk:Nat}{s:List Int}{most:Int}
structure aH where
  ID:Int
  aB:Int
  Sum:Int
  aD:List Int
  deriving DecidableEq
def aH.enc(x:aH)(B0:ah)(d0:Nat):List Value:=[.int .i64 x.ID,.int .i64 x.aB,.int .u32 x.Sum,.slice B0 x.aD.length d0]
theorem aH.lF(x:aH)(B0:ah)(d0:Nat):∀ u∈x.enc B0 d0,u.oneCell'=true:=by
  intro u hu
  simp only [aH.enc,iX,lM,sN] at hu
  rcases hu with rfl | rfl | rfl | rfl <;> rfl
def bJ:Ty aH where
  k:=4
  pos:=au
  R:=λS w x cs=>∃(B0:ah)(d0:Nat),cs=x.enc B0 d0/\Sl dQ S w B0 d0 x.aD
  len:=by rintro S w x cs ⟨B0,d0,rfl,h0⟩; rfl
  one:=by rintro S w x cs ⟨B0,d0,rfl,h0⟩; exact aH.lF x B0 d0
  keep:=by rintro S w w' x cs m ⟨B0,d0,rfl,h0⟩; exact⟨B0,d0,rfl,h0.keep m⟩
  sub:=by rintro S S' w x cs n ⟨B0,d0,rfl,h0⟩; exact⟨B0,d0,rfl,h0.sub n⟩
  bd:=by rintro S w x cs ⟨B0,d0,rfl,h0⟩; exact⟨B0,d0,rfl,h0.bd⟩
theorem aH.op{a:Addr}{i:Nat}{x:aH}(h:∃ cs,bJ.R S w x cs/\∀ j u,cs[j]? = some u->w.cell? (a.add (i*4+j))=some u) :
    ∃(B0:ah)(d0:Nat),(∀ j u,(x.enc B0 d0)[j]? = some u->w.cell? (a.add (i*4+j))=some u)/\Sl dQ S w B0 d0 x.aD:=by
  obtain⟨cs,⟨B0,d0,rfl,h0⟩,h9⟩:=h;exact⟨B0,d0,h9,h0⟩
def uP:=@aH.op
structure bI where
  c:aH
  B:Option Addr
  d:Nat
def bI.enc(k:bI):List Value:=[.int .i64 k.c.ID,.int .i64 k.c.aB,.int .u32 k.c.Sum,.slice k.B k.c.aD.length k.d]
theorem bI.lF(k:bI):∀ u∈k.enc,u.oneCell'=true:=by
  intro u hu
  simp only [bI.enc,iX,lM,sN] at hu
  rcases hu with rfl | rfl | rfl | rfl <;> rfl
def tK:Ty bI:=Ty.flat 4 bI.enc au (λ_=>rfl) bI.lF
instance:Flat tK:=⟨λh=>h⟩
def ru(k:bI):Option Addr × Nat × List Int:=(k.B,k.d,k.c.aD)
section
variable {b w:World}{S:Nat->Prop}{rs rest xM:List lH}{A:ah}{c e:Nat}
theorem Hp.toK{l:List aH}(H:Hp b S w rs)(s:pE rs (aS bJ e A c l) rest):∃ ks:List bI,ks.map bI.c=l/\Hp b S w (aS tK e A c ks::SI dQ (ks.map ru)::rest):=by
  have hex:∀ i,i<l.length->∃ k:bI,∃ x,l[i]? = some x/\k.c=x/\Sl dQ (Rd b S rs w) w k.B k.d k.c.aD/\∀ cs,(bJ.R (Rd b S rs w) w x cs/\∀ j u,cs[j]? = some u->w.cell? ((GN A).add (i*4+j))=some u)->cs=k.enc:=by
    intro i hi;obtain⟨x,hx⟩:=bC (xs:=l) hi;obtain⟨cs,⟨B,d,hcs,hs⟩,hc⟩:=H.oi s hx;refine⟨⟨x,B,d⟩,x,hx,Y,hs,?_⟩;rintro cs2 ⟨⟨B2,d2,hcs2,_⟩,hc2⟩;have h3:=hc 3 (.slice B x.aD.length d) (by rw [hcs]; rfl);have h4:=hc2 3 (.slice B2 x.aD.length d2) (by rw [hcs2]; rfl);have h5:w.cell? ((GN A).add (i*4+3))=some (.slice B x.aD.length d):=h3;rw [h4] at h5
    injection h5 with h5
    injection h5 with hB _ hd
    subst hB hd;rw [hcs2]; rfl
  obtain⟨ks,hl,hk⟩:=Le (q:=λi (k:bI)=>∃ x,l[i]? = some x/\k.c=x/\Sl dQ (Rd b S rs w) w k.B k.d k.c.aD/\∀ cs,(bJ.R (Rd b S rs w) w x cs/\∀ j u,cs[j]? = some u->w.cell? ((GN A).add (i*4+j))=some u)->cs=k.enc) l.length hex;refine⟨ks,?_,?_⟩
  · apply Gg
    intro i;rw [lK]
    cases hi:ks[i]? with
    | none=>have:=Wv.1 hi; rw [yP aj]; rfl
    | some k=>obtain⟨x,h1,h2,_⟩:=hk i k hi; rw [h1,<- h2]; rfl
  · have hin:Hp b S w (SI dQ (ks.map ru)::rs):=H.new (r:=SI dQ (ks.map ru)) (pI w) (λ_ h=>h.elim) (by
      intro r hr;obtain⟨k,hkm,rfl⟩:=gQ.1 hr;obtain⟨i,hi⟩:=sM hkm;obtain⟨x,_,_,h3,_⟩:=hk i k hi
      exact h3)
    have h1:Hp b S w (aS bJ e A c l::SI dQ (ks.map ru)::rest):=(hin.sel (.t s));obtain⟨css,c1,c2,c3⟩:=H.ow s;refine(h1.put (r':=aS tK e A c ks) ⟨Y,Y,Y,kV _,λ_ _ _=>Y,kV _⟩ (λg hg=>.inl hg) ?_);refine Own.low (lo:=b.heap.size) (S:=Rd b S rs w) ⟨css,by rw [c1,hl],λi y hy=>?_,by rw [<- hl] at c3; exact c3⟩ (fJ _) (λg hg=>?_)
    · obtain⟨x,hx,_,_,h4⟩:=hk i y hy
      obtain⟨cs,h5,h6⟩:=c2 i x hx;refine⟨cs,h5,?_⟩;refine h4 cs ⟨h6,λj u hu=>?_⟩;have hkk:=Vm c1 c2
      rcases c3.2 with ⟨hv,hn⟩ | ⟨g,cap,cur,hv,hg,hh,hnc,hcm,hcs,ht⟩
      · have:=aJ hx; omega
      · injection hv with hA hn' hc'
        subst hA hc';exact c3.cells (g:=g) Y _ _ (Qd css hkk i cs h5 j u hu)
    · rcases hg with h | ⟨g1,g2,g3⟩
      · exact .inl h
      · refine .inr ⟨g1,g2,λr hr=>?_⟩
        rcases iX.1 hr with rfl | hr
        · exact g3 _ (s.perm.mem_iff.2 av)
        · rcases iX.1 hr with rfl | hr
          · exact λh=>h
          · exact g3 r (s.perm.mem_iff.2 (by simp [hr]))
theorem Hp.ofK{ks:List bI}(H:Hp b S w rs)(s:pE rs (aS tK e A c ks) rest)(s':pE rest (SI dQ (ks.map ru)) xM):Hp b S w (aS bJ e A c (ks.map bI.c)::xM):=by
  have hmem:SI dQ (ks.map ru)∈rs:=s.perm.mem_iff.2 (by simp [s'.perm.mem_iff]);have hin:∀ r∈ks.map ru,Sl dQ (Rd b S rs w) w r.1 r.2.1 r.2.2:=H.ok (SI dQ (ks.map ru)) hmem;refine(H.ayp (ρ:=bJ) (ys:=ks.map bI.c) s Y av ?_).rm (.t s');intro i x y cs hx hy hR;rw [lK,hx] at hy
  cases hy
  have hR':cs=x.enc:=hR;refine⟨x.B,x.d,hR',hin (ru x) (gQ.2 ⟨x,bT hx,Y⟩)⟩
theorem Hp.rdK{ks:List bI}(H:Hp b S w rs)(s:pE rs (aS tK e A c ks) rest)(s':pE rest (fZ dQ 3 (ks.map ru)) xM):Sl bJ Any w A c (ks.map bI.c):=by
  have h1:=((H.sel s).perm (s'.perm.cons _):Hp b S w (aS tK e A c ks::fZ dQ 3 (ks.map ru)::xM));exact((h1.WJ s1).ofK s1 s0).o s0
end
theorem qW:(prog.underlying 3).isSome=true/\prog.underlying 97=some (.int (prog.intKind 97))/\prog.intKind 97=.u64:=⟨ak,ak,ak⟩
theorem qX:(prog.underlying 97).isSome=true/\prog.underlying 3=some (.int (prog.intKind 3))/\prog.intKind 3=.i64:=⟨ak,ak,ak⟩
theorem ayt:bF prog 443:=ay
theorem ao7  : ∀ w,(Instr.buildSlice 55 0 (List.toArray [])).run prog w=.ok (.slice (some ⟨w.heap.size,0,none⟩) 0 0) (w.alloc (.cells (List.toArray []) 3)):=ay
theorem Lh:lW prog 3 1 8:=by
  obtain⟨i,h1,h2,h3,h4⟩:=tX (show(prog.info? 3).map (λi=>(i.zero,i.size,i.bytes))=some (some (aF 0),1,8) by kernel_rfl);exact⟨i,_,h1,h2,h3,h4,Y⟩
theorem ayu:u6 prog 3 1 8:=by
  obtain⟨i,h1,h2,h3,h4⟩:=tX (show(prog.info? 3).map (λi=>(i.zero,i.size,i.bytes))=some (some (aF 0),1,8) by kernel_rfl);exact⟨i,_,h1,h2,h3,h4,Y,λv hv=>lI.1 (show(Value.cells (aF 0)).toList.all (λv=>v.oneCell')=true from Y) v hv⟩
theorem o9:Size prog 59 4:=ay
theorem ao8:lW prog 59 4 48:=by
  obtain⟨i,h1,h2,h3,h4⟩:=tX (show(prog.info? 59).map (λi=>(i.zero,i.size,i.bytes))=some (some (.agg #[aF 0,aF 0,gK 0,.slice none 0 0]),4,48) by kernel_rfl);exact⟨i,_,h1,h2,h3,h4,Y⟩
theorem axf:u6 prog 59 4 48:=by
  obtain⟨i,h1,h2,h3,h4⟩:=tX (show(prog.info? 59).map (λi=>(i.zero,i.size,i.bytes))=some (some (.agg #[aF 0,aF 0,gK 0,.slice none 0 0]),4,48) by kernel_rfl);exact⟨i,_,h1,h2,h3,h4,Y,λv hv=>lI.1 (show(Value.cells (.agg #[aF 0,aF 0,gK 0,.slice none 0 0])).toList.all (λv=>v.oneCell')=true from Y) v hv⟩
theorem qw:Agg prog 59 4:=⟨λ_=>by kernel_rfl,o9⟩
theorem lU:∀ w,(zeroValue 59).run prog w=.ok (.agg #[aF 0,aF 0,gK 0,.slice none 0 0]) w:=ay
theorem tH:eu prog 59 1 1:=ay
theorem j5:eu prog 59 3 3:=ay
theorem Bf:l9 prog 55:=ay
theorem ao9:bF prog 233:=ay
theorem pq:eu prog 59 0 0:=ay
theorem pW(a0:Int):∀ w,(Instr.buildSlice 55 1 (List.toArray [(0,aF a0)])).run prog w=.ok (.slice (some ⟨w.heap.size,0,none⟩) 1 1) (w.alloc (.cells (List.toArray [aF a0]) 3)):=ay
theorem apa  : ∀ w,(Instr.buildSlice 42 0 (List.toArray [])).run prog w=.ok (.slice (some ⟨w.heap.size,0,none⟩) 0 0) (w.alloc (.cells (List.toArray []) 59)):=ay
theorem apb:bF prog 152:=ay
theorem Ql:Size prog 55 1:=ay
theorem ayv:bF prog 194:=ay
theorem apc  : prog.built 59 []=some #[aF 0,aF 0,gK 0,.slice none 0 0]:=ak
theorem WU(a0:Int)(a1:Int)(a2:Int):prog.built 59 [(0,aF a0),(1,aF a1),(2,gK a2)]=some #[aF a0,aF a1,gK a2,.slice none 0 0]:=ak
theorem ab1(a0:Int)(a1:Int)(a2:Int)(a3:ah)(a3n a3c:Nat):∀ w,(Instr.buildSlice 42 1 (List.toArray [(0,.agg #[aF a0,aF a1,gK a2,.slice a3 a3n a3c])])).run prog w=.ok (.slice (some ⟨w.heap.size,0,none⟩) 1 1) (w.alloc (.cells (List.toArray [aF a0,aF a1,gK a2,.slice a3 a3n a3c]) 59)):=ay
theorem WV:bF prog 111:=ay
theorem aus(w:World)(x:Int)(y:Int) :
    bS prog 380 #[aF x,.int .i64 y] w λv w'=>v=.bool (decide (x<y))/\Hp w S0 w' []:=by
 refine kP S0 func380 ntmps380 Y λH0=>iZ Y<|bQ Y<|mU H0 Y (WT (S0:=Any) _ x) λw1 K1=>mv Y<|dN<|dN<|dN<|ev (dL Y Y)<|mv Y<|bn Y (bf Y) Y<|bn Y (bf Y) Y<|bn Y (fC Y Y) Y<|ev (dL Y Y)<|bU Y<|jc Y ?_
 exact⟨Y,K1⟩
theorem aeY(w:World)(mP:Sl dQ S0 w vY uY s)(val:Int) :
    bS prog 191 #[.slice vY s.length uY,aF val] w λv w'=>v=aF (idxOf (fun(x:Int)=>decide (x=val)) s)/\Hp w S0 w' []:=by
 refine kP S0 func191 ntmps191 Y λH0=>?_;have Qm:=mP.bH;refine iZ Y<|aW<|bQ Y<|ev (eU fB Y)<|mv Y<|dn<|cB<|Lp H0 (λl0 rk mJ lJ wJ=>∃(k:Nat),lJ=(8,aF ((k:Nat):Int))::l0/\mJ=s.length - k/\k<=s.length/\(∀ y∈s.take k,(fun(x:Int)=>decide (x=val)) y=false)/\Hp w S0 wJ rk) ⟨0,Y,Y,fJ _,av,H0⟩ rfl ?_
 rintro _ _ w1 ⟨k,rfl,rfl,hk,hno,K1⟩;refine rg<|ev (fC Y Y)<|dn<|pQ Y (λER=>?_) (λER=>?_)
 ·refine jm ?_;refine aW<|cB<|bQ Y<|bU Y<|bQ Y<|mv Y<|mv Y ?_
  obtain⟨x1,bP⟩:=bC (xs:=s) (i:=k) aj;refine ev (cu (i:=k) fB rZ Y Y Y (aJ bP) ((K1.a mP).some_ bP))<|ev (iL jD Y ((K1.a mP).fF (j:=0) bP Y))<|ev (iA Y Y)<|dn<|mQ Y (λhc16=>?_) (λhc16=>?_)
  ·refine bQ Y<|bU Y<|jf (jg (fT (fT (jg (fT (zA Y ?_))))))
   have eO:(((k:Nat):Int):Int)=(idxOf (fun(x:Int)=>decide (x=val)) s):=by exact(rX hno bP (by simp; omega)).symm
   exact⟨by rw [eO] <;> rfl,K1⟩
  refine xQ ?_;refine jy<|ev (dO Y Y)<|mv Y<|jA<|dI ⟨(k+1),Y,Y,aj,by exact pJ (q:=λy=>decide (y=val)=false) hno bP (by simp; omega),K1⟩ rfl aj
 refine wE ?_;refine iZ Y<|jc Y ?_
 have fQ:((-1):Int)=(idxOf (fun(x:Int)=>decide (x=val)) s):=by exact(uK (vU hno aj)).symm
 exact⟨by rw [<- fQ] <;> rfl,K1⟩
theorem ab2(s:List Int)(v:Int):decide (0<=idxOf (fun(x:Int)=>decide (x=v)) s)=s.contains v:=by
  rw [ab0]
  simp only [bO,nI]
  rcases vT (fun(x:Int)=>decide (x=v)) s with ⟨h1,h2⟩ | ⟨k,x,h1,h2,h3,h4⟩
  · rw [h1]; simp; intro h; have:=h2 v h; simp at this
  · rw [h1]; simp at h3; subst h3; simp; exact bT h2
theorem kJ(w:World)(mP:Sl dQ S0 w vY uY s)(val:Int) :
    bS prog 111 #[.slice vY s.length uY,aF val] w λv w'=>v=.bool (s.contains val)/\Hp w S0 w' []:=by
 refine kP S0 func111 ntmps111 Y λH0=>iZ Y<|bQ Y<|mv Y<|mU H0 Y (aeY _ (H0.a mP).any val) λw1 K1=>ev (qK Y Y)<|bU Y<|jc Y ?_
 have eO:(decide (0<=idxOf (fun(x:Int)=>decide (x=val)) s):Bool)=(s.contains val):=by exact ab2 s val
 exact⟨by rw [eO] <;> rfl,K1⟩
theorem amo(w:World)(x:Int) :
    bS prog 443 #[aF x] w λv w'=>v=.bool false/\Hp w S0 w' []:=by
 refine kP S0 func443 ntmps443 Y λH0=>iZ Y<|bQ Y<|mv Y<|ev (nQ Y Y)<|bU Y<|jc Y ?_
 have eO:((!decide (x=x)):Bool)=false:=by simp
 exact⟨by rw [eO] <;> rfl,H0⟩
theorem Oy(w:World)(mP:Sl dQ S0 w vY uY s)(target:Int)(hm:abR (fun(y:Int)=>bB y target) s)(hn:s.length<=1000000) :
    bS prog 420 #[.slice vY s.length uY,aF target] w λv w'=>v=.tuple #[aF ((low (fun(y:Int)=>bB y target) s:Nat):Int),.bool (hits (fun(y:Int)=>bB y target) s)]/\Hp w S0 w' []:=by
 refine kP S0 func420 ntmps420 Y λH0=>?_;have Qm:=mP.bH;refine rg<|iI Y<|bU Y<|bQ Y<|ev (eU fB Y)<|bU Y<|bQ Y<|iI Y<|bU Y<|aW<|cB<|Lp H0 (λl0 rk mJ lJ wJ=>∃(i j:Nat),lJ=(7,aF ((i:Nat):Int))::(8,aF ((j:Nat):Int))::l0/\mJ=j - i/\(i<=j/\j<=s.length)/\(∀(a:Nat)(y:Int),a<i->s[a]? = some y->bB y target<0)/\(∀(a:Nat)(y:Int),j<=a->s[a]? = some y->¬ bB y target<0)/\Hp w S0 wJ rk) ⟨0,s.length,Y,Y,by exact⟨fJ _,kV _⟩,by intro a y ha; omega,by intro a y ha hy; have:=aJ hy; omega,H0⟩ rfl ?_
 rintro _ _ w1 ⟨i,j,rfl,rfl,hij,hlo,hhi,K1⟩;refine aW<|bQ Y<|mv Y<|ev (fC Y Y)<|dn<|mQ Y (λtY=>?_) (λtY=>?_)
 ·refine jm ?_;refine cB<|bQ Y<|mv Y<|ev (dO Y Y)<|ev (Bl (m:=i+j) qW.1 qW.2.1 qW.2.2 Y (wH aj))<|ev (Ev.ama (m:=i+j) Y Y)<|ev (Bl (m:=((i+j) / 2)) qX.1 qX.2.1 qX.2.2 Y (uL aj))<|bU Y<|bQ Y<|mv Y ?_
  obtain⟨x1,bP⟩:=bC (xs:=s) (i:=((i+j) / 2)) aj;refine ev (cu (i:=((i+j) / 2)) fB rZ Y Y Y (aJ bP) ((K1.a mP).some_ bP))<|ev (iL jD Y ((K1.a mP).fF (j:=0) bP Y))<|mv Y<|mU K1 Y (aus (S0:=Any) _ x1 target) λw2 K2=>dn<|mQ Y (λhc27=>?_) (λhc27=>?_)
  ·refine jy<|mv Y<|ev (dO Y Y)<|iI Y<|jA<|iE<|dI ⟨(((i+j) / 2)+1),j,Y,Y,aj,by first | exact hlo | exact λa y ha hy=>hm a _ y x1 aj hy bP (qL.2 hc27),by first | exact hhi | exact λa y ha hy hlt=>hc27 (qL.1 (hm _ a x1 y aj bP hy hlt)),K2⟩ rfl aj
  refine jy<|mv Y<|iI Y<|jA<|iE<|dI ⟨i,((i+j) / 2),Y,Y,aj,by first | exact hlo | exact λa y ha hy=>hm a _ y x1 aj hy bP (qL.2 hc27),by first | exact hhi | exact λa y ha hy hlt=>hc27 (qL.1 (hm _ a x1 y aj bP hy hlt)),K2⟩ rfl aj
 refine wE ?_;refine bQ Y<|mv Y<|mv Y<|ev (fC Y Y)<|mv Y<|oG 18 53 (hits (fun(y:Int)=>bB y target) s) ?_ ?_
 ·cases S9:decide (((i:Nat):Int)<((s.length:Nat):Int)) with
  | true=>
   have aJu:=gW S9;refine bn Y (bf Y) Y<|bn Y (bf Y) Y ?_
   obtain⟨x2,kZ⟩:=bC (xs:=s) (i:=i) aj;refine bn Y (cu (i:=i) fB rZ Y Y Y (aJ kZ) ((K1.a mP).some_ kZ)) Y<|bn Y (iL jD Y ((K1.a mP).fF (j:=0) kZ Y)) Y<|bn Y (bf Y) Y<|bn Y (iA Y Y) Y<|bn Y (bf Y) Y<|oG 10 52 ((decide (x2=target))||false) ?_ ?_
   ·cases aLL:decide (x2=target) with
    | true=>
     refine dN<|dN<|dN<|dN<|dN<|dN<|dN<|dN<|dN<|bn Y (dH Y Y) Y<|jh Y (pI _)
    | false=>
     refine bn Y (bf Y) Y<|bn Y (bf Y) Y<|bn Y (cu (i:=i) fB rZ Y Y Y (aJ kZ) ((K1.a mP).some_ kZ)) Y<|bn Y (iL jD Y ((K1.a mP).fF (j:=0) kZ Y)) Y<|oh Y Y Y Y ayt (amo (S0:=Any) _ x2) Y ?_
     rintro _ w3 ⟨rfl,h3⟩;refine bn Y (bf Y) Y<|dN<|dN<|bn Y (dL Y Y) Y<|bn Y (dL Y Y) Y<|jh Y h3.ext
   intro w4 e4;refine ev (dH Y Y)<|fU (t:=53) (u:=.bool ((decide (x2=target))||false)) (v:=.bool (hits (fun(y:Int)=>bB y target) s)) Y (aR Value.bool (by have hl:=xk (g:=fun(y:Int)=>bB y target) (s:=s) (i:=i) aj hlo (λa y ha=>hhi a y aj); unfold hits; rw [hl,kZ]; rw [ab0]; simp [zf]))<|jh rfl e4
  | false=>
   refine dN<|dN<|dN<|dN<|dN<|dN<|dN<|dN<|dN<|dN<|dN<|dN<|dN<|dN<|dN<|dN<|dN<|ev (dL Y Y)<|fU (t:=53) (u:=.bool false) (v:=.bool (hits (fun(y:Int)=>bB y target) s)) Y (aR Value.bool (by have hl:=xk (g:=fun(y:Int)=>bB y target) (s:=s) (i:=i) aj hlo (λa y ha=>hhi a y aj); unfold hits; rw [hl,yP (by have:=iJ S9; omega)])) ?_
   exact jh Y (pI _)
 intro w5 e5;have K5:=K1.grow e5;refine iI Y<|bU Y<|jc Y ?_
 have eO:(i:Nat)=(low (fun(y:Int)=>bB y target) s):=by exact(xk (g:=fun(y:Int)=>bB y target) aj hlo (λa y ha=>hhi a y aj)).symm
 exact⟨by rw [<- eO] <;> rfl,K5⟩
abbrev ab3:=(([]:List Int):List Int)
theorem uH(w:World)(mP:Sl dQ S0 w vY uY s)(hn:s.length<=1000000) :
    bS prog 60 #[.slice vY s.length uY] w λv w'=>∃(A0:ah)(c0:Nat),v=.slice A0 s.length c0/\Hp w S0 w' [aS dQ 3 A0 c0 s]:=by
 refine kP S0 func60 ntmps60 Y λH0=>iZ Y<|aW<|bQ Y<|ev (Ov fB Y Y)<|dn<|bK Y (λhc4=>?_) (λhc4=>?_)
 ·refine iZ Y<|uX Y ?_
  have H1:=H0.nil dQ 3;have eO:ab3=s:=by have h1:=mP.nil (by simpa using hc4); have h2:=mP.cap; exact(uE aj).symm
  have H2:=(eO▸H1:Hp w S0 w (aS dQ 3 none 0 s::[]));exact⟨none,0,by rw [<- eO] <;> rfl,H2⟩
 refine jm ?_;refine rg<|bs0 (τ:=dQ) (vs:=[]) Y (by intro _; apply ao7) rfl H0 λg1 w1 K1=>mv rfl<|ap (ys:=s) K1 s0 rfl rfl (K1.a mP).any fB Lh av (by first | omega | (simp; omega) | (simp; done)) rfl λoL oM w2 K2=>bU rfl<|jc rfl ?_
 have fQ:((([]:List Int)++s):List Int)=s:=by simp
 rw [fQ] at K2;exact⟨oL,oM,by rw [fQ] <;> rfl,K2⟩
theorem ab4{b:World}{F:List lH}{c:Nat}{xs:List Int}(H0:Hp b S w (aS dQ 3 A c xs::F)){i j:Nat}(hij:i<j)(hj:j<=xs.length) :
    bS prog 423 #[.slice A xs.length c,aF (i:Int),aF (j:Int)] w λv w'=>v=.slice A (xs.take i++xs.drop j).length c/\Hp b S w' (aS dQ 3 A c (xs.take i++xs.drop j)::F):=by
 refine sV func423 ntmps423 Y ?_;have WW:=(H0.o s0).bH;have hcap:=(H0.o s0).cap;refine iZ Y<|bQ Y<|mv Y<|mv Y<|mv Y<|ev (eU fB Y)<|ev (Ev.aui (lo:=i) (hi:=j) (mx:=xs.length) fB rZ Y Y Y Y Y Y Y aj hj (H0.o s0).cap)<|dn<|aW<|bQ Y<|mv Y<|ev (iA Y Y)<|dn<|mQ Y (λhc16=>?_) (λhc16=>?_)
 ·omega
 refine jm ?_;refine bQ Y<|ev (eU fB Y)<|bU Y<|He H0 (λ_ K=>(K.rm s0)) (λl0 rk lJ wJ=>lJ=(0,.slice A ((xs.take i++xs.drop j).length) c)::l0/\Hp b S wJ (aS dQ 3 A c (xs.take i++xs.drop j)::rk)) (λhns H1=>?_) ?_
 ·have k1:=(H1.rm s0);refine kX 0 Y Y k1<|kX 1 Y Y k1<|kX 3 Y Y k1<|kX 4 Y Y k1<|Jn H1 (λl0 rk lJ wJ=>lJ=(22,.slice A ((xs.take i).length) c)::(25,.slice (tQ A c j 1) ((xs.drop j).length) (c - j))::l0/\Hp b S wJ rk) 2 63 ?_ λhS1=>?_
  ·rintro _ w2 ⟨rfl,K2⟩;refine O1 6 Y<|abX (τ:=dQ) (xs:=xs) (i:=i) (j:=j) K2 s0 Y Y fB Lh hij hj λw3 K3=>?_
   have k3:=(K3.rm s0);refine aQ k3<|xI 7 Y Y k3<|Dn ⟨Y,K3⟩ Y
  refine O2 2 5 Y Y ?_ ?_
  ·refine ev (F9 (hi:=i) (xs:=xs) fB rZ Y Y Y aj (H1.o s0).cap)<|aQ k1<|O1 5 Y<|ev (Gf (lo:=j) (xs:=xs) fB rZ Y Y Y aj (H1.o s0).cap)<|Kj hS1 k1 ⟨Y,H1⟩ Y
  ·refine ev (Gf (lo:=j) (xs:=xs) fB rZ Y Y Y aj (H1.o s0).cap)<|aQ k1<|O1 2 Y<|ev (F9 (hi:=i) (xs:=xs) fB rZ Y Y Y aj (H1.o s0).cap)<|Kj hS1 k1 ⟨Y,H1⟩ Y
 rintro _ w4 ⟨rfl,K4⟩;refine bQ Y<|mv Y<|ev (eU fB Y)<|mv Y ?_
 have hln:(xs.take i++xs.drop j).length+(j - i)=xs.length:=by simp only [jd,fO,kW]; omega
 refine ev (Ev.auj (lo:=(xs.take i++xs.drop j).length) (hi:=xs.length) fB rZ Y Y Y Y Y aj hcap)<|aeR (τ:=dQ) (m:=xs.length - (xs.take i++xs.drop j).length) K4 s0 Y fB ayu aj λw5 K5=>dn<|bQ Y<|bU Y<|jc Y ?_
 exact⟨Y,K5⟩
theorem WX{b:World}{F:List lH}{c:Nat}{xs:List aH}(H0:Hp b S w (aS bJ 59 A c xs::F)){i j:Nat}(hij:i<j)(hj:j<=xs.length) :
    bS prog 424 #[.slice A xs.length c,aF (i:Int),aF (j:Int)] w λv w'=>v=.slice A (xs.take i++xs.drop j).length c/\Hp b S w' (aS bJ 59 A c (xs.take i++xs.drop j)::F):=by
 refine sV func424 ntmps424 Y ?_;have WW:=(H0.o s0).bH;have hcap:=(H0.o s0).cap;refine iZ Y<|bQ Y<|mv Y<|mv Y<|mv Y<|ev (eU iN Y)<|ev (Ev.aui (lo:=i) (hi:=j) (mx:=xs.length) iN o9 Y Y Y Y Y Y Y aj hj (H0.o s0).cap)<|dn<|aW<|bQ Y<|mv Y<|ev (iA Y Y)<|dn<|mQ Y (λhc16=>?_) (λhc16=>?_)
 ·omega
 refine jm ?_;refine bQ Y<|ev (eU iN Y)<|bU Y<|He H0 (λ_ K=>(K.rm s0)) (λl0 rk lJ wJ=>lJ=(0,.slice A ((xs.take i++xs.drop j).length) c)::l0/\Hp b S wJ (aS bJ 59 A c (xs.take i++xs.drop j)::rk)) (λhns H1=>?_) ?_
 ·have k1:=(H1.rm s0);refine kX 0 Y Y k1<|kX 1 Y Y k1<|kX 3 Y Y k1<|kX 4 Y Y k1<|Jn H1 (λl0 rk lJ wJ=>lJ=(22,.slice A ((xs.take i).length) c)::(25,.slice (tQ A c j 4) ((xs.drop j).length) (c - j))::l0/\Hp b S wJ rk) 2 63 ?_ λhS1=>?_
  ·rintro _ w2 ⟨rfl,K2⟩;refine O1 6 Y<|abX (τ:=bJ) (xs:=xs) (i:=i) (j:=j) K2 s0 Y Y iN ao8 hij hj λw3 K3=>?_
   have k3:=(K3.rm s0);refine aQ k3<|xI 7 Y Y k3<|Dn ⟨Y,K3⟩ Y
  refine O2 2 5 Y Y ?_ ?_
  ·refine ev (F9 (hi:=i) (xs:=xs) iN o9 Y Y Y aj (H1.o s0).cap)<|aQ k1<|O1 5 Y<|ev (Gf (lo:=j) (xs:=xs) iN o9 Y Y Y aj (H1.o s0).cap)<|Kj hS1 k1 ⟨Y,H1⟩ Y
  ·refine ev (Gf (lo:=j) (xs:=xs) iN o9 Y Y Y aj (H1.o s0).cap)<|aQ k1<|O1 2 Y<|ev (F9 (hi:=i) (xs:=xs) iN o9 Y Y Y aj (H1.o s0).cap)<|Kj hS1 k1 ⟨Y,H1⟩ Y
 rintro _ w4 ⟨rfl,K4⟩;refine bQ Y<|mv Y<|ev (eU iN Y)<|mv Y ?_
 have hln:(xs.take i++xs.drop j).length+(j - i)=xs.length:=by simp only [jd,fO,kW]; omega
 refine ev (Ev.auj (lo:=(xs.take i++xs.drop j).length) (hi:=xs.length) iN o9 Y Y Y Y Y aj hcap)<|aeR (τ:=bJ) (m:=xs.length - (xs.take i++xs.drop j).length) K4 s0 Y iN axf aj λw5 K5=>dn<|bQ Y<|bU Y<|jc Y ?_
 exact⟨Y,K5⟩
def nX(most:Int):Int->List Int->Bool
  | _,[]=>true
  | Dh,n::l=>!(decide (n<Dh)||decide (most<n))&&nX most (n+1) l
def qx(c:aH):Bool:=!(decide (c.aB<1)||decide (1073741824<c.aB)||!nX 16 1 c.aD)
def kR(l:List aH):Bool:=l.all qx&&decide (l.length<=32)&&nX 1048576 1 (l.map aH.ID)
def d9(l:List aH):List aH:=if kR l then l else[]
theorem DK(l:List aH):(d9 l).length<=l.length:=by unfold d9; split <;> simp
theorem UG{z:Int}{l:List Int}{k:Nat}{x:Int}(hx:l[k]? = some x):nX most z (l.drop k)=(!(decide (x<z)||decide (most<x))&&nX most (x+1) (l.drop (k+1))):=by
  rw [zO (aJ hx),(nP.1 hx).2]; rfl
theorem GY:∀(l:List Int)(z:Int),nX most z l=true->∀ x∈l,z<=x/\x<=most
  | [],_,_,x,hx=>by simp at hx
  | y::l,z,h,x,hx=>by
    simp only [nX,bN,eG,dX,bV] at h
    rcases iX.1 hx with rfl | hx
    · omega
    · have:=GY l _ h.2 x hx; omega
theorem DL:∀(l:List Int)(z:Int),nX most z l=true->l.Pairwise (λx y=>x<y)
  | [],_,_=>List.Pairwise.nil
  | y::l,z,h=>by
    simp only [nX,bN,eG,dX,bV] at h
    exact pG.2 ⟨λx hx=>by have:=GY l _ h.2 x hx; omega,DL l _ h.2⟩
theorem kF{l:List aH}:kR l=true↔(∀ c∈l,qx c=true)/\l.length<=32/\nX 1048576 1 (l.map aH.ID)=true:=by
  unfold kR; simp only [bN,lI,bO,and_assoc]
theorem BN(l:List aH):Up aH.ID (d9 l):=by
  unfold d9; split
  · rename_i h
    have:=DL _ _ (kF.1 h).2.2;rw [Lc] at this;exact this
  · exact List.Pairwise.nil
theorem zi(l:List aH):kR (d9 l)=true:=by
  unfold d9; split
  · assumption
  · rfl
theorem vZ{l:List aH}(h:kR l=true):d9 l=l:=by unfold d9; rw [aO h]
theorem amq{l:List aH}(h:kR l=false):d9 l=[]:=by unfold d9; rw [h]; rfl
theorem aeZ(w:World){l:List Int}(jo:Sl dQ S0 w jl jk l)(Dh:Int)(most:Int)(hm:most<=9223372036854775806)(hl0:0<=Dh) :
    bS prog 233 #[.slice jl l.length jk,aF Dh,aF most] w λv w'=>v=.bool (nX most Dh l)/\Hp w S0 w' []:=by
 refine kP S0 func233 ntmps233 Y λH0=>?_;have EY:=jo.bH;refine iZ Y<|aW<|bQ Y<|ev (eU fB Y)<|mv Y<|dn<|cB<|Lp H0 (λl0 rk mJ lJ wJ=>∃(k:Nat)(z:Int),lJ=(1,aF z)::(11,aF ((k:Nat):Int))::l0/\mJ=l.length - k/\k<=l.length/\(nX most Dh l=nX most z (l.drop k))/\(0<=z)/\Hp w S0 wJ rk) ⟨0,Dh,Y,Y,fJ _,av,by exact hl0,H0⟩ rfl ?_
 rintro _ _ w1 ⟨k,z,rfl,rfl,hk,hz,hz0,K1⟩;refine rg<|ev (fC Y Y)<|dn<|pQ Y (λoN=>?_) (λoN=>?_)
 ·refine jm ?_;refine aW<|cB<|rg ?_
  obtain⟨x1,bP⟩:=bC (xs:=l) (i:=k) aj;refine ev (cu (i:=k) fB rZ Y Y Y (aJ bP) ((K1.a jo).some_ bP))<|ev (iL jD Y ((K1.a jo).fF (j:=0) bP Y))<|bU Y<|aW<|bQ Y<|mv Y<|ev (fC Y Y)<|mv Y<|iP 4 22 ((decide (x1<z))||(decide (most<x1))) ?_ ?_
  ·cases ayw:decide (x1<z) with
   | true=>
    refine dN<|dN<|dN<|ev (dH Y Y)<|dM Y
   | false=>
    have axg:=iJ ayw;refine bn Y (bf Y) Y<|bn Y (bf Y) Y<|bn Y (pV Y Y) Y<|ev (dL Y Y)<|dM Y
  refine dn<|bK Y (λhc22=>?_) (λhc22=>?_)
  ·try simp only [fq,dX,bO,bV] at hc22
   refine iZ Y<|jf (fT (jg (fT (fT (jg (fT (zA Y ?_)))))))
   have eO:(false:Bool)=(nX most Dh l):=by rw [hz,UG bP]; simp; intro h1 h2; omega
   exact⟨by rw [<- eO] <;> rfl,K1⟩
  try simp only [fq,dX,bO,bV] at hc22
  refine jm ?_;refine jy<|mv Y<|ev (dO Y Y)<|iI Y<|jA<|iE (gG ?_)
  refine jy<|ev (dO Y Y)<|mv Y<|jA<|dI ⟨(k+1),x1+1,Y,Y,aj,by rw [hz,UG bP]; simp [hc22],aj,K1⟩ rfl aj
 refine wE ?_;refine iZ Y<|jc Y ?_
 have fQ:(true:Bool)=(nX most Dh l):=by rw [hz,Bj aj]; rfl
 exact⟨by rw [<- fQ] <;> rfl,K1⟩
abbrev ab5(iD:List aH):=((iD.length:Nat):Int)<=32
theorem Nq(w:World){l:List aH}(jo:Sl bJ S0 w jl jk l)(hn:l.length<=100000) :
    bS prog 152 #[.slice jl l.length jk] w λv w'=>v=.bool (kR l)/\Hp w S0 w' []:=by
 refine kP S0 func152 ntmps152 Y λH0=>iZ Y<|iZ Y<|aW<|bQ Y<|ev (eU iN Y)<|mv Y<|dn<|cB ?_
 have H1:=H0.nil dQ 3;have eO:ab3=((l.take 0).map aH.ID):=by rfl
 refine lC (t:=3) Y (aR (λz=>Value.slice none (List.length z) 0) eO) ?_;have H2:=H1.nil dQ 3;have H3:=(eO▸H2:Hp w S0 w (aS dQ 3 none 0 ((l.take 0).map aH.ID)::[aS dQ 3 none 0 []]));refine Lp (H3.cU 0 2) (λl0 rk mJ lJ wJ=>∃(k:Nat)(A3:ah)(c3:Nat),lJ=(3,.slice A3 (((l.take k).map aH.ID).length) c3)::(8,aF ((k:Nat):Int))::l0/\mJ=l.length - k/\k<=l.length/\(∀ y∈l.take k,qx y=true)/\Hp w S0 wJ (aS dQ 3 A3 c3 ((l.take k).map aH.ID)::rk)) ⟨0,none,0,Y,Y,fJ _,av,(H3.rm s1)⟩ rfl ?_;rintro _ _ w1 ⟨k,A3,c3,rfl,rfl,hk,hall,K1⟩;refine rg<|ev (fC Y Y)<|dn<|pQ Y (λER=>?_) (λER=>?_)
 ·refine jm ?_;refine aW<|cB<|rg ?_
  obtain⟨x1,bP⟩:=bC (xs:=l) (i:=k) aj;refine ev (cu (i:=k) iN o9 Y Y Y (aJ bP) ((K1.a jo).some_ bP)) ?_;obtain⟨B1,d1,zP,hi1⟩:=uP (jo.row bP);refine ev (gI (cs:=[aF x1.ID,aF x1.aB,gK x1.Sum,.slice B1 x1.aD.length d1]) qw Y Y (GV (λj u hu=>K1.ext.cell (zP j u hu))))<|al lU Y K1 λg1 w2 K2=>sty Y K2 s0 Y λw3 K3=>dn<|aW<|rg<|jT g1 1 tH K3 s0 Y<|ev (fC Y Y)<|mv Y<|iP 4 19 ((decide (x1.aB<1))||(decide (1073741824<x1.aB))) ?_ ?_
  ·cases Tc:decide (x1.aB<1) with
   | true=>
    refine dN<|dN<|dN<|ev (dH Y Y)<|dM Y
   | false=>
    refine wL g1 1 tH K3 s0 Y<|bn Y (pV Y Y) Y<|ev (dL Y Y)<|dM Y
  refine mv Y<|oG 5 25 (((decide (x1.aB<1))||(decide (1073741824<x1.aB)))||(!(nX 16 1 x1.aD))) ?_ ?_
  ·cases ab6:((decide (x1.aB<1))||(decide (1073741824<x1.aB))) with
   | true=>
    refine dN<|dN<|dN<|dN<|ev (dH Y Y)<|jh Y (pI _)
   | false=>
    have ae0:=ab6
    try simp only [fq,dX,bO,bV] at ae0
    refine wL g1 3 j5 K3 s0 Y<|oh Y Y Y Y ao9 (aeZ _ (K3.a hi1).any 1 16 aj aj) Y ?_
    rintro _ w4 ⟨rfl,h4⟩;refine bn Y (iB Y) Y<|ev (dL Y Y)<|jh Y h4.ext
  intro w5 e5;have K5:=K3.grow e5;refine dn<|bK Y (λhc25=>?_) (λhc25=>?_)
  ·refine iZ Y<|jf (fT (jg (fT (fT (jg (fT (zA Y ?_)))))))
   have fQ:(false:Bool)=(kR l):=by symm; unfold kR; rw [show l.all qx=false from by rw [SY]; exact⟨x1,bT bP,by unfold qx; rw [hc25]; simp⟩]; rfl
   exact⟨by rw [<- fQ] <;> rfl,K5.z⟩
  refine jm ?_;refine jy<|mv Y<|jT g1 0 pq K5 s0 Y<|Az (τ:=dQ) (x:=x1.ID) Y (by intro _; apply pW) rfl K5 (λ_ _=>rfl) λg2 w6 K6=>ap (ys:=([x1.ID]:List Int)) K6 s2 rfl rfl (K6.o s0) fB Lh (by first | omega | (simp; omega) | (simp; done)) av rfl λoL oM w7 K7=>iI rfl<|jA<|iE (gG ?_)
  refine jy<|ev (dO Y Y)<|mv Y<|jA ?_
  have jW:((((l.take k).map aH.ID)++([x1.ID]:List Int)):List Int)=((l.take (k+1)).map aH.ID):=by rw [fD bP,qc]; rfl
  refine jq (t:=3) Y (aR (λz=>Value.slice oL (List.length z) oM) jW) ?_;rw [jW] at K7;exact dI ⟨(k+1),oL,oM,Y,Y,aj,by exact pJ (q:=λy=>qx y=true) hall bP (by unfold qx; rw [hc25]; rfl),(K7.cU 1 2)⟩ rfl aj
 refine wE ?_;refine bQ Y<|ev (eU iN Y)<|ev (vS Y Y)<|mv Y<|oG 3 38 ((decide (ab5 l))&&(nX 1048576 1 ((l.take k).map aH.ID))) ?_ ?_
 ·cases S9:decide (ab5 l) with
  | true=>
   refine bn Y (bf Y) Y<|oh Y Y Y Y ao9 (aeZ _ (K1.o s0) 1 1048576 aj aj) Y ?_
   rintro _ w8 ⟨rfl,h8⟩;refine ev (dH Y Y)<|jh Y h8.ext
  | false=>
   refine dN<|dN<|ev (dL Y Y)<|jh Y (pI _)
 intro w9 e9;have K9:=K1.grow e9;refine bU Y<|jc Y ?_
 have mH:(((decide (ab5 l))&&(nX 1048576 1 ((l.take k).map aH.ID))):Bool)=(kR l):=by rw [iH aj] at hall ⊢; unfold kR; rw [show l.all qx=true from by rw [lI]; exact hall,show decide (ab5 l)=decide (l.length<=32) from by rw [decide_eq_decide]; omega,Bool.true_and]
 exact⟨by rw [mH] <;> rfl,(K9.rm s0)⟩
abbrev WY:=(([]:List aH):List aH)
theorem vB(w:World){s:List aH}(mP:Sl bJ S0 w vY uY s)(hn:s.length<=1000000) :
    bS prog 59 #[.slice vY s.length uY] w λv w'=>∃(A0:ah)(c0:Nat),v=.slice A0 s.length c0/\Hp w S0 w' [aS bJ 59 A0 c0 s]:=by
 refine kP S0 func59 ntmps59 Y λH0=>iZ Y<|aW<|bQ Y<|ev (Ov iN Y Y)<|dn<|bK Y (λhc4=>?_) (λhc4=>?_)
 ·refine iZ Y<|uX Y ?_
  have H1:=H0.nil bJ 59;have eO:WY=s:=by have h1:=mP.nil (by simpa using hc4); have h2:=mP.cap; exact(uE aj).symm
  have H2:=(eO▸H1:Hp w S0 w (aS bJ 59 none 0 s::[]));exact⟨none,0,by rw [<- eO] <;> rfl,H2⟩
 refine jm ?_;refine rg<|bs0 (τ:=bJ) (vs:=[]) Y (by intro _; apply apa) rfl H0 λg1 w1 K1=>mv rfl<|apd (ys:=s) K1 s0 rfl rfl (K1.a mP) iN ao8 av (by first | omega | (simp; omega) | (simp; done)) rfl λoL oM w2 K2=>bU rfl<|jc rfl ?_
 have fQ:((([]:List aH)++s):List aH)=s:=by simp
 rw [fQ] at K2;exact⟨oL,oM,by rw [fQ] <;> rfl,K2⟩
theorem Td{ks:List bI}{i:Nat}{k k':bI}(hx:ks[i]? = some k):(((ks.set i k').take (i+1)).map ru)=((ks.take i).map ru)++[ru k']:=by
  have h1:(ks.set i k')[i]? = some k':=qb (aJ hx);rw [fD h1,qc,List.take_set_of_le (kV _)]; rfl
theorem WZ{ks:List bI}{i:Nat}{k k':bI}(hx:ks[i]? = some k)(hc:k'.c=k.c):(ks.set i k').map bI.c=ks.map bI.c:=by
  apply Gg;intro j;rw [lK,lK]
  by_cases h:i=j
  · subst h; rw [qb (aJ hx),hx]; simp [hc]
  · rw [Ea h]
theorem amr{ks:List bI}{i:Nat}{k':bI}:(ks.set i k').map bI.c=(ks.map bI.c).set i k'.c:=by rw [Gl]
theorem Ef{ks:List bI}{i:Nat}{k':bI}:(ks.set i k').map ru=(ks.map ru).set i (ru k'):=by rw [Gl]
theorem W9(w:World){l:List aH}(jo:Sl bJ S0 w jl jk l)(hn:l.length<=100000)(hh:∀ x∈l,x.aD.length<=100000) :
    bS prog 116 #[.slice jl l.length jk] w λv w'=>∃(A:ah)(c:Nat)(ks:List bI),v=.slice A ks.length c/\ks.map bI.c=d9 l/\Hp w S0 w' [aS tK 59 A c ks,fZ dQ 3 (ks.map ru)]:=by
 refine sV func116 ntmps116 Y ?_;have EY:=jo.bH;have H0:=KM w S0;refine iZ Y<|aW<|bQ Y<|mU H0 Y (Nq _ (H0.a jo).any aj) λw1 K1=>ev (iB Y)<|dn<|bK Y (λhc8=>?_) (λhc8=>?_)
 ·try simp only [fq,dX,bN,eH,eG,fP,bO,bV] at hc8
  refine iZ Y<|uX Y ?_
  have H1:=K1.nil tK 59;have H2:=H1.aeS dQ 3;exact⟨none,0,[],Y,by rw [amq hc8]; rfl,(H2.sel s1)⟩
 try simp only [fq,dX,bN,eH,eG,fP,bO,bV] at hc8
 refine jm ?_;refine bQ Y<|gX Y (vB _ (K1.a jo) aj) ?_
 rintro _ w2 ⟨oo,oq,rfl,h2⟩;have K2:=K1.c1 h2;refine bU Y<|aW ?_
 obtain⟨Qn,ae1,HK1⟩:=Hp.toK K2 s0;have HK2:=HK1.aeS dQ 3;have ah8:Qn.length=l.length:=by rw [<- ae1,jY]
 refine lC (t:=3) Y (aR (λz=>Value.slice oo z oq) ah8.symm)<|bQ Y<|ev (eU iN Y)<|mv Y<|dn<|cB ?_
 have eO:[]=((Qn.take 0).map ru):=by rfl
 rw [eO] at HK2;refine Lp (HK2.cU 0 2) (λl0 rk mJ lJ wJ=>∃(k:Nat)(ks:List bI),lJ=(3,.slice oo ks.length oq)::(11,.slice oo ks.length oq)::(13,aF ((k:Nat):Int))::l0/\mJ=Qn.length - k/\k<=Qn.length/\(ks.length=Qn.length)/\(ks.map bI.c=l)/\(∀ j,k<=j->ks[j]? = Qn[j]?)/\Hp w S0 wJ (aS tK 59 oo oq ks::fZ dQ 3 ((ks.take k).map ru)::rk)) ⟨0,Qn,Y,Y,fJ _,by rfl,by exact ae1,by intro j _; rfl,((HK2.sel s0).sel s1)⟩ rfl ?_;rintro _ _ w3 ⟨k,ks,rfl,rfl,hk,hkn,hka,hkb,K3⟩;refine rg<|ev (fC Y Y)<|dn<|pQ Y (λrM=>?_) (λrM=>?_)
 ·refine jm ?_;refine aW<|cB<|bQ Y ?_
  obtain⟨x1,bP⟩:=bC (xs:=ks) (i:=k) aj;refine ev (cu (i:=k) iN o9 Y Y Y (aJ bP) ((K3.o s0).some_ bP))<|ev (gI qw Y Y ((K3.o s0).fE bP))<|al lU Y K3 λg1 w4 K4=>iI Y<|sty Y K4 s0 Y λw5 K5=>dn ?_
  have hin:=K5.ayo s3 (gQ.2 ⟨x1,bT (by rw [<- hkb k (kV _)]; exact bP),rfl⟩:(x1.B,x1.d,x1.c.aD)∈_);have hHl:x1.c.aD.length<=100000:=hh x1.c (by rw [<- hka]; exact gQ.2 ⟨x1,bT bP,rfl⟩);have H3:=K5.push hin;refine jy<|mv Y<|mv Y<|jT g1 3 j5 H3 s1 Y<|gX Y (uH _ (H3.s s0).any aj) ?_
  rintro _ w6 ⟨Dm,Dp,rfl,h6⟩;have K6:=H3.f1 h6;refine ev (cu (i:=k) iN o9 Y Y Y (aJ bP) ((K6.o s3).some_ bP))<|ev (dW j5 Y (fH _ _ _))<|se (i:=k) (f:=3) (x:=x1) (x':=({ x1 with B:=Dm,d:=Dp }:bI)) (ds:=[.slice Dm x1.c.aD.length Dp]) K6 s3 Y Y Y bP Y Ql (pU Y) Y (by rintro _ _ _ ⟨⟩; rfl) λw7 K7=>?_
  have hl1:(ks.set k ({ x1 with B:=Dm,d:=Dp }:bI)).length=ks.length:=gJ ..;refine fU (t:=3) (u:=.slice oo ks.length oq) (v:=.slice oo ((ks.set k ({ x1 with B:=Dm,d:=Dp }:bI)).length) oq) Y (by rw [hl1])<|fU (t:=11) (u:=.slice oo ks.length oq) (v:=.slice oo ((ks.set k ({ x1 with B:=Dm,d:=Dp }:bI)).length) oq) rfl (by rw [hl1])<|fU (t:=18) (u:=.slice oo ks.length oq) (v:=.slice oo ((ks.set k ({ x1 with B:=Dm,d:=Dp }:bI)).length) oq) rfl (by rw [hl1]) ?_
  refine jA<|iE (gG ?_)
  have H4:=K7.Qk s1 s3;refine jy<|ev (dO Y Y)<|mv Y<|jA ?_
  have fQ:((ks.take k).map ru)++[(Dm,Dp,x1.c.aD)]=(((ks.set k ({ x1 with B:=Dm,d:=Dp }:bI)).take (k+1)).map ru):=by rw [Td bP]; rfl
  rw [fQ] at H4;exact dI ⟨(k+1),(ks.set k ({ x1 with B:=Dm,d:=Dp }:bI)),Y,Y,aj,by rw [gJ]; exact hkn,by refine(WZ bP ?_).trans hka; rfl,by intro j hj; rw [Ea aj]; exact hkb j aj,(((H4.cU 2 2).sel s0).sel s1)⟩ rfl aj
 refine wE ?_;refine bQ Y<|bU Y<|jc Y ?_
 have hfin:ks.take k=ks:=iH aj;rw [hfin] at K3;exact⟨oo,oq,ks,Y,by rw [hka,vZ hc8],(K3.rm s2)⟩
theorem Vq(w:World){l:List aH}(jo:Sl bJ S0 w jl jk l)(hn:l.length<=100000)(hh:∀ x∈l,x.aD.length<=100000) :
    bS prog 116 #[.slice jl l.length jk] w λv w'=>∃(A0:ah)(c0:Nat),v=.slice A0 (d9 l).length c0/\Hp w S0 w' [aS bJ 59 A0 c0 (d9 l)]:=by
  refine(W9 w jo hn hh).mono ?_;rintro _ w' ⟨A,c,ks,rfl,hk,K⟩;have K1:=(K.WJ s1).ofK s1 s0;rw [hk] at K1;exact⟨A,c,by rw [<- hk,jY],K1⟩
theorem Va(w:World){s:List aH}(mP:Sl bJ S0 w vY uY s)(target:Int){AA:FuncId}{AX:List Value}(KI:bF prog AA)(f:aH->Int->Int)(KJ:∀(w':World)(x:aH){ae2:ah}{ae3:Nat}(ae4:Sl dQ Any w' ae2 ae3 x.aD)(t:Int),Ext w w'->True->bS prog AA (([.agg #[aF x.ID,aF x.aB,gK x.Sum,.slice ae2 x.aD.length ae3],aF t]:List Value)++AX).toArray w' λv w''=>v=aF (f x t)/\Ext w' w'')(hm:abR (fun(y:aH)=>f y target) s)(hn:s.length<=1000000) :
    bS prog 193 #[.slice vY s.length uY,aF target,.func (.func AA) #[] AX.toArray] w λv w'=>v=.tuple #[aF ((low (fun(y:aH)=>f y target) s:Nat):Int),.bool (hits (fun(y:aH)=>f y target) s)]/\Hp w S0 w' []:=by
 refine kP S0 func193 ntmps193 Y λH0=>?_;have Qm:=mP.bH;refine rg<|iI Y<|bU Y<|bQ Y<|ev (eU iN Y)<|bU Y<|bQ Y<|iI Y<|bU Y<|aW<|cB<|Lp H0 (λl0 rk mJ lJ wJ=>∃(i j:Nat),lJ=(9,aF ((i:Nat):Int))::(10,aF ((j:Nat):Int))::l0/\mJ=j - i/\(i<=j/\j<=s.length)/\(∀(a:Nat)(y:aH),a<i->s[a]? = some y->f y target<0)/\(∀(a:Nat)(y:aH),j<=a->s[a]? = some y->¬ f y target<0)/\Hp w S0 wJ rk) ⟨0,s.length,Y,Y,by exact⟨fJ _,kV _⟩,by intro a y ha; omega,by intro a y ha hy; have:=aJ hy; omega,H0⟩ rfl ?_
 rintro _ _ w1 ⟨i,j,rfl,rfl,hij,hlo,hhi,K1⟩;refine aW<|bQ Y<|mv Y<|ev (fC Y Y)<|dn<|mQ Y (λhc17=>?_) (λhc17=>?_)
 ·refine jm ?_;refine cB<|bQ Y<|mv Y<|ev (dO Y Y)<|ev (Bl (m:=i+j) qW.1 qW.2.1 qW.2.2 Y (wH aj))<|ev (Ev.ama (m:=i+j) Y Y)<|ev (Bl (m:=((i+j) / 2)) qX.1 qX.2.1 qX.2.2 Y (uL aj))<|bU Y<|bQ Y<|mv Y<|mv Y ?_
  obtain⟨x1,bP⟩:=bC (xs:=s) (i:=((i+j) / 2)) aj;refine ev (cu (i:=((i+j) / 2)) iN o9 Y Y Y (aJ bP) ((K1.a mP).some_ bP)) ?_;obtain⟨B1,d1,zP,hi1⟩:=uP (mP.row bP);refine ev (gI (cs:=[aF x1.ID,aF x1.aB,gK x1.Sum,.slice B1 x1.aD.length d1]) qw Y Y (GV (λj u hu=>K1.ext.cell (zP j u hu))))<|mv Y<|xK Y Y Y KI (KJ _ x1 (K1.a hi1).any target K1.ext trivial) Y ?_
  rintro _ w2 ⟨rfl,e2⟩;have K2:=K1.grow e2;refine ev (fC Y Y)<|dn<|mQ Y (λhc31=>?_) (λhc31=>?_)
  ·refine jy<|mv Y<|ev (dO Y Y)<|iI Y<|jA<|iE<|dI ⟨(((i+j) / 2)+1),j,Y,Y,aj,by first | exact hlo | exact λa y ha hy=>hm a _ y x1 aj hy bP hc31,by first | exact hhi | exact λa y ha hy hlt=>hc31 (hm _ a x1 y aj bP hy hlt),K2⟩ rfl aj
  refine jy<|mv Y<|iI Y<|jA<|iE<|dI ⟨i,((i+j) / 2),Y,Y,aj,by first | exact hlo | exact λa y ha hy=>hm a _ y x1 aj hy bP hc31,by first | exact hhi | exact λa y ha hy hlt=>hc31 (hm _ a x1 y aj bP hy hlt),K2⟩ rfl aj
 refine wE ?_;refine bQ Y<|mv Y<|mv Y<|ev (fC Y Y)<|mv Y<|oG 9 48 (hits (λy=>f y target) s) ?_ ?_
 ·cases OX:decide (((i:Nat):Int)<((s.length:Nat):Int)) with
  | true=>
   have aj1:=gW OX;refine bn Y (bf Y) Y<|bn Y (bf Y) Y<|bn Y (bf Y) Y ?_
   obtain⟨x2,kZ⟩:=bC (xs:=s) (i:=i) aj;refine bn Y (cu (i:=i) iN o9 Y Y Y (aJ kZ) ((K1.a mP).some_ kZ)) Y ?_;obtain⟨B2,d2,ah9,hi2⟩:=uP (mP.row kZ);refine bn Y (gI (cs:=[aF x2.ID,aF x2.aB,gK x2.Sum,.slice B2 x2.aD.length d2]) qw Y Y (GV (λj u hu=>K1.ext.cell (ah9 j u hu)))) Y<|bn Y (bf Y) Y<|oh Y Y Y Y KI (KJ _ x2 (K1.a hi2).any target K1.ext trivial) Y ?_
   rintro _ w3 ⟨rfl,e3⟩;refine bn Y (iA Y Y) Y<|ev (dH Y Y)<|fU (t:=48) (u:=.bool (decide (f x2 target=0))) (v:=.bool (hits (λy=>f y target) s)) Y (aR Value.bool (by have hl:=xk (g:=λy=>f y target) (s:=s) (i:=i) aj hlo (λa y ha=>hhi a y aj); unfold hits; rw [hl,kZ]))<|jh rfl e3
  | false=>
   refine dN<|dN<|dN<|dN<|dN<|dN<|dN<|dN<|ev (dL Y Y)<|fU (t:=48) (u:=.bool false) (v:=.bool (hits (λy=>f y target) s)) Y (aR Value.bool (by have hl:=xk (g:=λy=>f y target) (s:=s) (i:=i) aj hlo (λa y ha=>hhi a y aj); unfold hits; rw [hl,yP (by have:=iJ OX; omega)])) ?_
   exact jh Y (pI _)
 intro w4 e4;have K4:=K1.grow e4;refine iI Y<|bU Y<|jc Y ?_
 have eO:(i:Nat)=(low (fun(y:aH)=>f y target) s):=by exact(xk (g:=λy=>f y target) aj hlo (λa y ha=>hhi a y aj)).symm
 have fQ:(hits (λy=>f y target) s:Bool)=(hits (fun(y:aH)=>f y target) s):=by rfl
 exact⟨by rw [fQ,<- eO] <;> rfl,K4⟩
theorem aia(w:World)(c:aH){BO:ah}{Bq:Nat}(GZ:Sl dQ S0 w BO Bq c.aD)(id:Int) :
    bS prog 194 #[.agg #[aF c.ID,aF c.aB,gK c.Sum,.slice BO c.aD.length Bq],aF id] w λv w'=>v=aF (bB c.ID id)/\Hp w S0 w' []:=by
 refine kP S0 func194 ntmps194 Y λH0=>rg<|bx Y Y H0 λg1 w1 K1=>bU Y<|rg<|jT g1 0 pq K1 s0 Y<|mv Y<|mU K1 Y (nK (S0:=Any) _ c.ID id) λw2 K2=>bU Y<|jc Y ?_
 exact⟨Y,(K2.rm s0)⟩
theorem G5(w:World){l:List aH}(jo:Sl bJ S0 w jl jk l)(id:Int)(hu:Up aH.ID l)(hn:l.length<=1000000) :
    bS prog 117 #[.slice jl l.length jk,aF id] w λv w'=>v=.tuple #[aF ((low (fun(y:aH)=>bB y.ID id) l:Nat):Int),.bool (hits (fun(y:aH)=>bB y.ID id) l)]/\Hp w S0 w' []:=by
 refine kP S0 func117 ntmps117 Y λH0=>rg<|iI Y<|bU Y<|bQ Y<|mv Y<|mU H0 Y (Va _ (H0.a jo).any id (AX:=[]) ayv (fun(x:aH) (t:Int)=>bB x.ID t) (λw' x=>λae4 t e hm=>(aia w' x ae4 t).mono (by rintro _ _ ⟨rfl,fQ⟩; exact⟨rfl,fQ.ext⟩)) (hu.mono id) aj) λw1 K1=>xt rfl rfl<|xt rfl rfl<|iI rfl<|bU rfl<|jc rfl ?_
 exact⟨Y,K1⟩
def aU(l:List aH)(id:Int):aH:=match (d9 l)[low (fun(y:aH)=>bB y.ID id) (d9 l)]? with | some c=>if c.ID=id then c else⟨0,0,0,[]⟩ | none=>⟨0,0,0,[]⟩
def gY(l:List aH)(id:Int):Bool:=hits (fun(y:aH)=>bB y.ID id) (d9 l)
theorem Xa{l:List aH}{id:Int}(h:hits (fun(y:aH)=>bB y.ID id) (d9 l)=false):aU l id=⟨0,0,0,[]⟩:=by
  unfold aU; split
  · rename_i c hc
    rw [aK];intro e;have:=(uZ (BN l) id).2 ⟨c,bT hc,e⟩;rw [h] at this; cases this
  · rfl
theorem Tf{l:List aH}{id:Int}{c:aH}(h:hits (fun(y:aH)=>bB y.ID id) (d9 l)=true)(hc:(d9 l)[low (fun(y:aH)=>bB y.ID id) (d9 l)]? = some c):aU l id=c:=by
  unfold aU; rw [hc];obtain⟨x,hx,hk⟩:=qU (key:=aH.ID) h;rw [hc] at hx; cases hx;exact aO hk
def eB(l:List aH)(id sum:Int):List aH × Int:=if id<1∨1048576<id then([],1) else if hits (fun(y:aH)=>bB y.ID id) (d9 l)=true then([],6) else if 32<=(d9 l).length then([],7) else((d9 l).take (low (fun(y:aH)=>bB y.ID id) (d9 l))++[⟨id,1,sum,[]⟩]++(d9 l).drop (low (fun(y:aH)=>bB y.ID id) (d9 l)),0)
def iV(l:List aH)(id:Int):List aH × Int:=if hits (fun(y:aH)=>bB y.ID id) (d9 l)=true then((d9 l).take (low (fun(y:aH)=>bB y.ID id) (d9 l))++(d9 l).drop (low (fun(y:aH)=>bB y.ID id) (d9 l)+1),0) else([],5)
def Xb(l:List aH)(bE:Int):List Int:=((d9 l).filter (fun(c:aH)=>c.aD.contains bE)).map aH.ID
theorem find_ok(w:World){l:List aH}(jo:Sl bJ S0 w jl jk l)(id:Int)(hn:l.length<=100000)(hh:∀ x∈l,x.aD.length<=100000) :
    bS prog 53 #[.slice jl l.length jk,aF id] w λv w'=>∃(vP:ah)(vQ:Nat),v=.tuple #[.agg #[aF ((aU l id).ID),aF ((aU l id).aB),gK ((aU l id).Sum),.slice vP (((aU l id).aD).length) vQ],.bool (gY l id)]/\Hp w S0 w' [dP dQ vP vQ ((aU l id).aD)]:=by
 refine kP S0 func53 ntmps53 Y λH0=>?_;have EY:=jo.bH;have hf:=DK l;have hlow:=D8 (fun(y:aH)=>bB y.ID id) (d9 l);refine rg<|al lU Y H0 λg1 w1 K1=>bU Y<|bQ Y<|gX Y (Vq _ (K1.a jo) aj hh) ?_
 rintro _ w2 ⟨oo,oq,rfl,h2⟩;have K2:=K1.c1 h2;have Xc:=(K2.o s0).bH;refine bU Y<|bQ Y<|mv Y<|mU K2 Y (G5 _ (K2.o s0) id (BN l) aj) λw3 K3=>mv Y<|xt Y Y<|xt Y Y<|iI Y<|bU Y<|aW<|bQ Y<|ev (iB Y)<|dn<|bK Y (λhc17=>?_) (λhc17=>?_)
 ·try simp only [fq,dX,bN,eH,eG,fP,bO,bV] at hc17
  refine rg<|ev (iY (vs:=[]) (cs:=[aF 0,aF 0,gK 0,.slice none 0 0]) Y (by apply apc))<|sty rfl K3 s1 rfl λw4 K4=>bU rfl<|jf (fT (qA rfl ⟨_,_,rfl,⟨_,rfl,jL (cs:=[aF 0,aF 0,gK 0,.slice none 0 0]) qw rfl (K4.x s0)⟩,⟨_,_,rfl,rfl,rfl⟩⟩ ?_))
  have eO:((⟨0,0,0,[]⟩:aH):aH)=(aU l id):=by exact(Xa hc17).symm
  have fQ:(0:Int)=(aU l id).ID:=by rw [<- eO]
  have jW:(0:Int)=(aU l id).aB:=by rw [<- eO]
  have mH:(0:Int)=(aU l id).Sum:=by rw [<- eO]
  have H1:=K4.push (DV dQ _ _);have rR:ab3=((aU l id).aD):=by rw [<- eO]
  have wM:(false:Bool)=(gY l id):=by unfold gY; rw [hc17]
  exact⟨none,0,by first | (rw [<- fQ,<- jW,<- mH,<- wM,<- rR] <;> rfl) | (rw [<- rR,<- fQ,<- jW,<- mH,<- wM] <;> rfl),by rw [<- rR]; exact(H1.cU 1 2)⟩
 try simp only [fq,dX,bN,eH,eG,fP,bO,bV] at hc17
 have hc17:hits (fun(y:aH)=>bB y.ID id) (d9 l)=true:=hc17;obtain⟨xb,hxb,hkb⟩:=qU (key:=aH.ID) hc17;have Xd:=aJ hxb;refine jm ?_;refine bQ Y<|mv Y ?_
 obtain⟨x1,bP⟩:=bC (xs:=d9 l) (i:=low (fun(y:aH)=>bB y.ID id) (d9 l)) aj;refine ev (cu (i:=low (fun(y:aH)=>bB y.ID id) (d9 l)) iN o9 Y Y Y (aJ bP) ((K3.o s0).some_ bP)) ?_;obtain⟨B1,d1,zP,hi1⟩:=uP (K3.oi s0 bP);have H2:=K3.push hi1;refine ev (gI (cs:=[aF x1.ID,aF x1.aB,gK x1.Sum,.slice B1 x1.aD.length d1]) qw Y Y (GV zP))<|sty Y H2 s2 Y λw5 K5=>bU Y<|jf (qA Y ⟨_,_,Y,⟨_,Y,jL (cs:=[aF x1.ID,aF x1.aB,gK x1.Sum,.slice B1 x1.aD.length d1]) qw Y (K5.x s0)⟩,⟨_,_,Y,Y,Y⟩⟩ ?_)
 have zk:(x1:aH)=(aU l id):=by exact(Tf hc17 bP).symm
 have hq8:(x1.ID:Int)=(aU l id).ID:=by rw [<- zk]
 have AJ:(x1.aB:Int)=(aU l id).aB:=by rw [<- zk]
 have r9:(x1.Sum:Int)=(aU l id).Sum:=by rw [<- zk]
 have hq11:(x1.aD:List Int)=((aU l id).aD):=by rw [<- zk]
 have hq12:(true:Bool)=(gY l id):=by unfold gY; rw [hc17]
 exact⟨B1,d1,by first | (rw [hq8,AJ,r9,hq11,<- hq12] <;> rfl) | (rw [hq11,hq8,AJ,r9,<- hq12] <;> rfl),by rw [<- hq11]; exact((K5.rm s2).rm s0)⟩
def rI(f ov rr tS e:Nat):Go.Shelf.Ren:=⟨λ| 22=>f | 29=>ov | 30=>rr | n=>n,λ| 24=>tS | 9=>e | n=>n,λn=>n⟩
structure ab7 (f ov rr tS e k bt:Nat) (nm:String):Prop where
  hf:prog.funcs[f]? = some { Go.Proofs.Body2.n22 (rI f ov rr tS e) with name:=nm }
  o:∃ fn,prog.funcs[ov]? = some fn/\(fn.name == "runtime.NumGoroutine")=false/\fn.body.isNone=true/\Extern.findNext fn=none/\Extern.find fn=some (Extern.SlicesOverlaps.overlaps #[tS,tS] #[4])
  u:prog.underlying tS=some (.slice e)
  i:prog.underlying 3=some (.int .i64)
  z:Size prog e k
  hb:Nat.ble bt 1000=true
  ei:lW prog e k bt
  ez:u6 prog e k bt
theorem aut{f ov rr tS e k bt:Nat}{kp:0<k}{nm:String}(X:ab7 f ov rr tS e k bt nm){b:World}(eb:Ext b w){c:Nat}{us:List (Cells k)}{gv:Nat}{u:Cells k}{i:Nat}(mP:Own (zy k kp) e b.heap.size No w A c us)(h_v:Bx w gv e u.1)(hgv:blk A≠some gv)(hi:i<=us.length)(hn:us.length<=900000) :
    bS prog f #[.slice A us.length c,aF (i:Int),.slice (some ⟨gv,0,none⟩) 1 1] w λv w'=>∃ A' c',v=.slice A' (us.take i++[u]++us.drop i).length c'/\Own (zy k kp) e b.heap.size No w' A' c' (us.take i++[u]++us.drop i)/\Og w w' (blk A)/\(blk A'=blk A∨∃ g,blk A'=some g/\w.heap.size<=g):=by
  refine WP.enter X.hf Y (Go.Proofs.Body2.n22_ntmps (rI f ov rr tS e)) Y ?_;have hcap:=(mP.sl (S':=Any) (λ_ _=>trivial) (λ_ _=>trivial)).cap;refine CW<|jQ (om Y) Y<|CX<|CW<|jQ (bf Y) Y<|jQ (bf Y) Y<|jQ (Ec (lo:=i) X.u X.z Y Y Y aj aj) Y<|CX<|CW<|jQ (bf Y) Y<|jQ (eU X.u Y) Y<|jQ (om Y) Y<|CX<|aW<|CW<|jQ (bf Y) Y<|jQ (iA Y Y) Y<|CX<|bK Y (λhc16=>?_) (λhc16=>?_)
  · replace hc16:=gW hc16
    omega
  replace hc16:=iJ hc16;refine jm ?_;refine CW<|jQ (bf Y) Y<|jQ (eU X.u Y) Y<|jQ (om Y) Y<|CX<|aW<|CW<|jQ (bf Y) Y<|jQ (bf Y) Y<|jQ (iA Y Y) Y<|CX<|bK Y (λhc22=>?_) (λhc22=>?_)
  · replace hc22:=gW hc22
    refine CW<|jQ (bf Y) Y<|jQ (bf Y) Y ?_
    have hv1:Sl (zy k kp) Any w (some ⟨gv,0,none⟩) 1 [u]:=h_v.ahW (S:=Any) (S2:=No) rfl trivial (λ_ h=>h.elim);refine WL.app (xs:=us) (ys:=[u]) Y Y mP hv1 X.u X.ei (λ_ _ _ h=>h) (λ_ _ h=>h) aj av X.hb eb.size Y λA1 c1 w1 o1 g1 at1=>jQ (om Y) Y<|CX<|jf (fT (UC (v:=.slice A1 ((us++[u]).length) c1) Y Y Y ?_))
    have h_i:i=us.length:=aj;exact⟨A1,c1,by rw [ajX us u h_i],by rw [ajX us u h_i]; exact o1,g1,at1.imp id (λh=>⟨_,h,kV _⟩)⟩
  replace hc22:=iJ hc22;refine jm ?_;refine aW<|CW<|jQ (bf Y) Y<|jQ (bf Y) Y<|jQ (dO Y Y) Y<|jQ (bf Y) Y<|jQ (Ev.cap X.u Y) Y<|jQ (pV Y Y) Y<|CX<|bK Y (λhc31=>?_) (λhc31=>?_)
  · replace hc31:=gW hc31
    refine CW<|jQ (bf Y) Y<|jQ (bf Y) Y<|jQ (F9 (hi:=i) (xs:=us) X.u X.z Y Y Y aj (mP.fr (a:=b) (kV _)).cap) Y<|jQ (bf Y) Y<|jQ (bf Y) Y<|jQ (dO Y Y) Y<|jQ (bf Y) Y<|jQ (UD Y Y) Y<|fU (t:=39) (u:=aF (((us.length+1:Nat):Int) - ((i:Nat):Int))) (v:=aF ((us.length+1 - i:Nat):Int)) Y (aR (Value.int .i64) aj)<|WL.ah1 (m:=us.length+1 - i) (us:=us.take i) (kp:=kp) Y Y X.u X.i X.ez ((mP.sl (S':=Any) (λ_ _=>trivial) (λ_ _=>trivial)).ajU (hi:=i) aj) (by simp only [fO]; omega) aj (by simp only [fO]; omega) aj X.hb rfl λg1 c1 w1 z1 o1 e1=>?_
    have hl1:(us.take i++List.replicate (us.length+1 - i) z1).length=us.length+1:=by simp only [jd,fO,Iu]; omega
    have hcp1:=(o1.sl (S':=Any) (λ_ _=>trivial) (λ_ _=>trivial)).cap;have hz1:w.heap.size<=g1:=(o1.abI _ rfl).1;refine fU (t:=40) (u:=.slice (some ⟨g1,0,none⟩) ((us.take i).length+(us.length+1 - i)) c1) (v:=.slice (some ⟨g1,0,none⟩) (us.take i++List.replicate (us.length+1 - i) z1).length c1) Y (by simp only [jd,Iu])<|jQ (om rfl) rfl<|CX<|CW<|jQ (bf rfl) rfl<|jQ (bf rfl) rfl<|jQ (Ec (lo:=i) X.u X.z rfl rfl rfl aj aj) rfl<|jQ (bf rfl) rfl ?_
    have hv1:Sl (zy k kp) Any w1 (some ⟨gv,0,none⟩) 1 [u]:=(h_v.ext e1).ahW (S:=Any) (S2:=No) rfl trivial (λ_ h=>h.elim);refine WL.ajW (lo:=i) (us:=(us.take i++List.replicate (us.length+1 - i) z1)) (vs:=[u]) (kp:=kp) Y Y X.u X.z o1 hv1 aj Y λw2 v2 o2 g2 z2=>?_;have hl2:(over (us.take i++List.replicate (us.length+1 - i) z1) i [u]).length=us.length+1:=by rw [KS aj,hl1]
    have aBV:=(mP.ext e1).grown g2 (λg hA hB=>by have h1:=(mP.abI g hA).2; have h2:g1=g:=(by simpa [blk] using hB); omega) (λ_ _ h=>h);refine fU (t:=9) (u:=.slice (some ⟨g1,0,none⟩) (us.take i++List.replicate (us.length+1 - i) z1).length c1) (v:=.slice (some ⟨g1,0,none⟩) (over (us.take i++List.replicate (us.length+1 - i) z1) i [u]).length c1) Y (by rw [hl1,hl2])<|CX<|WP.held (λ_=>True) (λlJ w'=>lJ=[(9,.slice (some ⟨g1,0,none⟩) ((over (us.take i++List.replicate (us.length+1 - i) z1) i [u]).length) c1)]/\Own (zy k kp) e w.heap.size No w' (some ⟨g1,0,none⟩) c1 (over (over (us.take i++List.replicate (us.length+1 - i) z1) i [u]) (i+1) (us.drop i))/\Og w2 w' (some g1)) ak ?_ ?_
    · refine xq (fuel:=8) 0 Y ak ak ak (λ_=>(bf Y)) Y<|xq (fuel:=7) 1 Y ak ak ak (λ_=>(bf Y)) Y<|xq (fuel:=6) 2 Y ak ak ak (λ_=>(bf Y)) Y<|xq (fuel:=5) 3 Y ak ak ak (λ_=>(dO Y Y)) Y<|xq (fuel:=4) 4 Y ak ak ak (λ_=>(Ec (lo:=i+1) X.u X.z Y Y Y aj aj)) Y<|xq (fuel:=3) 5 Y ak ak ak (λ_=>(bf Y)) Y<|xq (fuel:=2) 6 Y ak ak ak (λ_=>(bf Y)) Y<|xq (fuel:=1) 7 Y ak ak ak (λ_=>(Gf (lo:=i) (xs:=us) X.u X.z Y Y Y aj (aBV.fr (a:=b) (kV _)).cap)) Y<|yO (fuel:=0) (rs:=[8]) ak au ?_
      simp only [xB,lM,xC,xD,uO]
      refine⟨_,Y,?_⟩;refine WL.ajW (lo:=i+1) (us:=(over (us.take i++List.replicate (us.length+1 - i) z1) i [u])) (vs:=us.drop i) (kp:=kp) Y Y X.u X.z (o2.ext (pI w2).drew) (((aBV.sl (S':=Any) (λ_ _=>trivial) (λ_ _=>trivial)).cutFrom (lo:=i) aj).ext (pI w2).drew) aj Y λw3 v3 o3 g3 z3=>aQ trivial<|WH.done [(9,.slice (some ⟨g1,0,none⟩) ((over (us.take i++List.replicate (us.length+1 - i) z1) i [u]).length) c1)] ak ⟨Y,trivial⟩ ⟨Y,o3,⟨g3.os,g3.tape,g3.output,g3.size,g3.block,lV (abH _) g3.drawn⟩⟩
    rintro _ w3 ⟨rfl,o3,g3⟩;have hov:over (over (us.take i++List.replicate (us.length+1 - i) z1) i [u]) (i+1) (us.drop i)=us.take i++[u]++us.drop i:=aoU us u z1 hi;rw [hov] at o3;refine CW<|jQ (bf Y) Y<|jQ (om Y) Y<|CX<|jf (fT (UC (v:=.slice (some ⟨g1,0,none⟩) ((over (us.take i++List.replicate (us.length+1 - i) z1) i [u]).length) c1) Y Y Y ?_))
    have hl3:(us.take i++[u]++us.drop i).length=us.length+1:=by simp only [jd,fO,kW,pF,rH]; omega
    exact⟨_,_,by rw [hl2,<- hl3],o3.low (by exact eb.size) (λ_ h=>h),Ext.al8 e1 g2 g3 hz1,.inr ⟨g1,rfl,hz1⟩⟩
  replace hc31:=iJ hc31;refine jm ?_;refine CW<|jQ (bf Y) Y<|jQ (bf Y) Y<|jQ (bf Y) Y<|jQ (dO Y Y) Y<|jQ (SH (hi:=us.length+1) X.u X.z Y Y Y aj) Y<|jQ (om Y) Y<|CX<|aW<|CW<|jQ (bf Y) Y<|jQ (bf Y) Y<|jQ (bf Y) Y<|jQ (bf Y) Y<|jQ (dO Y Y) Y<|jQ (Ec (lo:=i+1) X.u X.z Y Y Y aj aj) Y ?_
  obtain⟨gA,cA,rfl,aLN,hAb,hAn,hAm,hAl,hAt⟩:=mP.open_ aj;have aBW:gv≠gA:=λh=>hgv (by rw [h]; rfl);have hcut:tQ (some ⟨gA,0,none⟩) c (i+1) k=some ⟨gA,(i+1)*k,none⟩:=DJ aj;refine WL.extern (v:=.bool false) Y Y Y ?_ Y ?_
  · show(callFunc ov #[.slice (some ⟨gv,0,none⟩) 1 1,.slice (tQ (some ⟨gA,0,none⟩) c (i+1) k) (us.length+1 - (i+1)) (c - (i+1))]).run prog w=_
    rw [hcut];obtain⟨fn,o1,o2,o3,o4,o5⟩:=X.o;exact U9 (tR:=4) o1 o2 o3 o4 o5 X.u X.z h_v hAb aBW (by rw [hAl]; exact Nat.mul_pos aj kp)
  refine jQ (iB Y) Y<|CX<|bK Y (λ_h=>?_) nofun
  refine WP.held (λ_=>True) (λlJ w'=>lJ=[(0,.slice (some ⟨gA,0,none⟩) (us.length+1) c),(1,aF ((i:Nat):Int)),(2,.slice (some ⟨gv,0,none⟩) 1 1),(7,aF ((1:Nat):Int))]/\Gap e b.heap.size w' (some ⟨gA,0,none⟩) c us i 1/\Og w w' (some gA)/\w'.heap.size=w.heap.size) ak ?_ ?_
  · refine xq (fuel:=8) 0 Y ak ak ak (λ_=>(bf Y)) Y<|xq (fuel:=7) 1 Y ak ak ak (λ_=>(bf Y)) Y<|xq (fuel:=6) 2 Y ak ak ak (λ_=>(bf Y)) Y<|xq (fuel:=5) 3 Y ak ak ak (λ_=>(dO Y Y)) Y<|xq (fuel:=4) 4 Y ak ak ak (λ_=>(Ec (lo:=i+1) X.u X.z Y Y Y aj aj)) Y<|xq (fuel:=3) 5 Y ak ak ak (λ_=>(bf Y)) Y<|xq (fuel:=2) 6 Y ak ak ak (λ_=>(bf Y)) Y<|xq (fuel:=1) 7 Y ak ak ak (λ_=>(Ec (lo:=i) X.u X.z Y Y Y aj aj)) Y<|yO (fuel:=0) (rs:=[8]) ak au ?_
    simp only [xB,lM,xC,xD,uO]
    refine⟨_,Y,?_⟩;refine WL.al5 (i:=i) (m:=1) (us:=us) (kp:=kp) Y Y X.u X.z (mP.ext (pI w).drew) aj aj Y λw1 v1 o1 g1 z1=>aQ trivial<|WH.done [(0,.slice (some ⟨gA,0,none⟩) (us.length+1) c),(1,aF ((i:Nat):Int)),(2,.slice (some ⟨gv,0,none⟩) 1 1),(7,aF ((1:Nat):Int))] ak ⟨Y,Y,Y,Y,trivial⟩ ⟨Y,o1,⟨g1.os,g1.tape,g1.output,g1.size,g1.block,lV (abH _) g1.drawn⟩,z1⟩
  rintro _ w1 ⟨rfl,o1,g1,z1⟩;refine CW<|jQ (bf Y) Y<|jQ (bf Y) Y<|jQ (Ec (lo:=i) X.u X.z Y Y Y aj aj) Y<|jQ (bf Y) Y ?_
  have aG1:=h_v.mod (alX g1 (λk hk=>by cases hk; rfl)) aBW;have hv1:Sl (zy k kp) Any w1 (some ⟨gv,0,none⟩) 1 [u]:=aG1.ahW (S:=Any) (S2:=No) rfl trivial (λ_ h=>h.elim);refine WL.aud (i:=i) (m:=1) (us:=us) (vs:=[u]) (kp:=kp) (S:=No) Y Y X.u X.z o1 hv1 Y aj aj Y λw2 v2 o2 g2 z2=>?_;have hl2:(us.take i++[u]++us.drop i).length=us.length+1:=by simp only [jd,fO,kW,pF,rH]; omega
  refine fU (t:=0) (u:=.slice (some ⟨gA,0,none⟩) (us.length+1) c) (v:=.slice (some ⟨gA,0,none⟩) (us.take i++[u]++us.drop i).length c) Y (by rw [hl2])<|CX<|CW<|jQ (bf rfl) rfl<|jQ (om rfl) rfl<|CX<|jf (fT (UC (v:=.slice (some ⟨gA,0,none⟩) ((us.take i++[u]++us.drop i).length) c) rfl rfl rfl ?_))
  exact⟨_,_,Y,o2,abT g1 g2,.inl Y⟩
theorem OY{f ov rr tS e bt:Nat}{nm:String}{α:Type}{τ:Ty α}(X:ab7 f ov rr tS e τ.k bt nm){b w:World}{S:Nat->Prop}{rs rest xM:List lH}{A:ah}{c:Nat}{l:List α}{gv:Nat}{x:α}{i:Nat}(H:Hp b S w rs)(s:pE rs (aS τ e A c l) rest)(sv:pE rest (aS τ e (some ⟨gv,0,none⟩) 1 [x]) xM)(hi:i<=l.length)(hn:l.length<=900000) :
    bS prog f #[.slice A l.length c,aF (i:Int),.slice (some ⟨gv,0,none⟩) 1 1] w λv w'=>∃ A' c',v=.slice A' (l.take i++[x]++l.drop i).length c'/\Hp b S w' (aS τ e A' c' (l.take i++[x]++l.drop i)::xM):=by
  obtain⟨us,hU,hr⟩:∃ us:List (Cells τ.k),Own (zy τ.k τ.pos) e b.heap.size No w A c us/\Rel τ (Rd b S rs w) w l us:=H.raw s;have hl:us.length=l.length:=hr.1;have H1:=H.sel s;obtain⟨cs,hb,hx⟩:=Own.aym (H1.ow (.t sv));have hx':τ.R (Rd b S rs w) w x cs:=Ty.sub _ (Rd.perm s.perm.symm) hx;have h0:=aut X (u:=⟨cs,Ty.len _ hx,Ty.one _ hx⟩) H.ext hU hb (H.ayn s sv rfl) (by rw [hl]; exact hi) (by rw [hl]; exact hn);rw [hl] at h0;refine h0.mono ?_;rintro v w' ⟨A',c',rfl,hO,hg,hat⟩;have h1:=((hr.take i).append (Rel.one (τ:=τ) (S:=Rd b S rs w) (w:=w) (x:=x) (u:=⟨cs,Ty.len _ hx,Ty.one _ hx⟩) hx')).append (hr.drop i);have h2:(us.take i++[(⟨cs,Ty.len _ hx,Ty.one _ hx⟩:Cells τ.k)]++us.drop i).length=(l.take i++[x]++l.drop i).length:=h1.1;refine⟨A',c',by rw [h2],(Hp.back H s hO h1 hg ?_).rm (.t sv)⟩;intro g hg'
  rcases hat with h | ⟨g',h,hle⟩
  · exact .inl (h▸hg')
  · rw [h] at hg'; cases hg'; exact .inr hle
theorem ape:ab7 416 441 442 42 59 4 48 Tryz.f416.name:=⟨func416.trans (aR some ak),⟨_,func441,ak,ak,ak,ak⟩,iN,iQ,o9,ak,ao8,axf⟩
def Xe:=@OY _ _ _ _ _ _ _ _ bJ ape
theorem ams(w:World){l:List aH}(jo:Sl bJ S0 w jl jk l)(id:Int)(sum:Int)(hn:l.length<=100000)(hh:∀ x∈l,x.aD.length<=100000) :
    bS prog 354 #[.slice jl l.length jk,aF id,gK sum] w λv w'=>∃(A0:ah)(c0:Nat),v=.tuple #[.slice A0 (((eB l id sum).1).length) c0,aF ((eB l id sum).2)]/\Hp w S0 w' [aS bJ 59 A0 c0 ((eB l id sum).1)]:=by
 refine kP S0 func354 ntmps354 Y λH0=>?_;have EY:=jo.bH;have hf:=DK l;have hlow:=D8 (fun(y:aH)=>bB y.ID id) (d9 l);refine rg<|iI Y<|bU Y<|bQ Y<|gX Y (Vq _ (H0.a jo) aj hh) ?_
 rintro _ w1 ⟨j6,kg,rfl,h1⟩;have K1:=H0.c1 h1;have Lj:=(K1.o s0).bH;refine bU Y<|bQ Y<|mv Y<|mU K1 Y (G5 _ (K1.o s0) id (BN l) aj) λw2 K2=>mv Y<|xt Y Y<|xt Y Y<|iI Y<|bU Y<|aW<|cB<|bQ Y<|ev (fC Y Y)<|mv Y<|iP 3 24 ((decide (id<1))||(decide (1048576<id))) ?_ ?_
 ·cases Vb:decide (id<1) with
  | true=>
   refine dN<|dN<|ev (dH Y Y)<|dM Y
  | false=>
   refine bn Y (bf Y) Y<|bn Y (pV Y Y) Y<|ev (dL Y Y)<|dM Y
 refine bU Y<|bK Y (λhc18=>?_) (λhc18=>?_)
 ·try simp only [fq,dX,bO,bV] at hc18
  refine rg<|iI Y<|bU Y<|Ox Y ?_
  have H1:=K2.nil bJ 59;have eO:WY=((eB l id sum).1):=by unfold eB; rw [aO hc18]
  have H2:=(eO▸H1:Hp w S0 w2 (aS bJ 59 none 0 ((eB l id sum).1)::[aS bJ 59 j6 kg (d9 l)]));have fQ:(1:Int)=((eB l id sum).2):=by unfold eB; rw [aO hc18]
  exact⟨none,0,by rw [<- eO,<- fQ] <;> rfl,(H2.rm s1)⟩
 try simp only [fq,dX,bO,bV] at hc18
 refine bQ Y<|bU Y<|bK Y (λhc25=>?_) (λhc25=>?_)
 ·refine rg<|iI Y<|bU Y<|Ox Y ?_
  have H3:=K2.nil bJ 59;have jW:WY=((eB l id sum).1):=by unfold eB; rw [aK aj,aO hc25]
  have H4:=(jW▸H3:Hp w S0 w2 (aS bJ 59 none 0 ((eB l id sum).1)::[aS bJ 59 j6 kg (d9 l)]));have mH:(6:Int)=((eB l id sum).2):=by unfold eB; rw [aK aj,aO hc25]
  exact⟨none,0,by rw [<- jW,<- mH] <;> rfl,(H4.rm s1)⟩
 refine bQ Y<|ev (eU iN Y)<|ev (qK Y Y)<|bU Y<|mQ Y (λhc27=>?_) (λhc27=>?_)
 ·refine rg<|iI Y<|bU Y<|Ox Y ?_
  have H5:=K2.nil bJ 59;have rR:WY=((eB l id sum).1):=by unfold eB; rw [aK aj,aK (by rw [hc25]; decide),aO aj]
  have H6:=(rR▸H5:Hp w S0 w2 (aS bJ 59 none 0 ((eB l id sum).1)::[aS bJ 59 j6 kg (d9 l)]));have wM:(7:Int)=((eB l id sum).2):=by unfold eB; rw [aK aj,aK (by rw [hc25]; decide),aO aj]
  exact⟨none,0,by rw [<- rR,<- wM] <;> rfl,(H6.rm s1)⟩
 refine xQ ?_;refine bQ Y<|mv Y<|mv Y<|mv Y<|ev (iY (vs:=[(0,aF id),(1,aF 1),(2,gK sum)]) (cs:=[aF id,aF 1,gK sum,.slice none 0 0]) Y (by apply WU))<|Az (τ:=bJ) (x:=(⟨id,1,sum,[]⟩:aH)) rfl (by intro _; apply ab1) rfl K2 (λ_ e=>⟨_,_,rfl,(DV dQ _ _).ext e⟩) λg1 w3 K3=>gX rfl (Xe (i:=low (fun(y:aH)=>bB y.ID id) (d9 l)) K3 s1 s0 aj aj) ?_
 rintro _ w4 ⟨oL,oM,rfl,K4⟩;refine iI Y<|bU Y<|jc Y ?_
 have zk:(((d9 l).take (low (fun(y:aH)=>bB y.ID id) (d9 l))++[(⟨id,1,sum,[]⟩:aH)]++(d9 l).drop (low (fun(y:aH)=>bB y.ID id) (d9 l))):List aH)=((eB l id sum).1):=by unfold eB; rw [aK aj,aK (by rw [hc25]; decide),aK aj]
 rw [zk] at K4;have hq8:(0:Int)=((eB l id sum).2):=by unfold eB; rw [aK aj,aK (by rw [hc25]; decide),aK aj]
 exact⟨oL,oM,by rw [zk,<- hq8] <;> rfl,K4⟩
theorem amu(w:World){l:List aH}(jo:Sl bJ S0 w jl jk l)(id:Int)(hn:l.length<=100000)(hh:∀ x∈l,x.aD.length<=100000) :
    bS prog 363 #[.slice jl l.length jk,aF id] w λv w'=>∃(A0:ah)(c0:Nat),v=.tuple #[.slice A0 (((iV l id).1).length) c0,aF ((iV l id).2)]/\Hp w S0 w' [aS bJ 59 A0 c0 ((iV l id).1)]:=by
 refine kP S0 func363 ntmps363 Y λH0=>?_;have EY:=jo.bH;have hf:=DK l;have hlow:=D8 (fun(y:aH)=>bB y.ID id) (d9 l);refine rg<|iI Y<|bU Y<|bQ Y<|gX Y (Vq _ (H0.a jo) aj hh) ?_
 rintro _ w1 ⟨j6,kg,rfl,h1⟩;have K1:=H0.c1 h1;have Lj:=(K1.o s0).bH;refine bU Y<|bQ Y<|mv Y<|mU K1 Y (G5 _ (K1.o s0) id (BN l) aj) λw2 K2=>mv Y<|xt Y Y<|xt Y Y<|iI Y<|bU Y<|aW<|bQ Y<|ev (iB Y)<|dn<|bK Y (λhc17=>?_) (λhc17=>?_)
 ·try simp only [fq,dX,bN,eH,eG,fP,bO,bV] at hc17
  refine rg<|iI Y<|bU Y<|uX Y ?_
  have H1:=K2.nil bJ 59;have eO:WY=((iV l id).1):=by unfold iV; rw [aK (by rw [hc17]; decide)]
  have H2:=(eO▸H1:Hp w S0 w2 (aS bJ 59 none 0 ((iV l id).1)::[aS bJ 59 j6 kg (d9 l)]));have fQ:(5:Int)=((iV l id).2):=by unfold iV; rw [aK (by rw [hc17]; decide)]
  exact⟨none,0,by rw [<- eO,<- fQ] <;> rfl,(H2.rm s1)⟩
 try simp only [fq,dX,bN,eH,eG,fP,bO,bV] at hc17
 have hc17:hits (fun(y:aH)=>bB y.ID id) (d9 l)=true:=hc17;obtain⟨xb,hxb,hkb⟩:=qU (key:=aH.ID) hc17;have Xd:=aJ hxb;refine jm ?_;refine bQ Y<|mv Y<|mv Y<|ev (dO Y Y)<|gX Y (WX (i:=low (fun(y:aH)=>bB y.ID id) (d9 l)) (j:=low (fun(y:aH)=>bB y.ID id) (d9 l)+1) (K2.sel s0) aj aj) ?_
 rintro _ w3 ⟨rfl,K3⟩;refine iI Y<|bU Y<|jc Y ?_
 have jW:(((d9 l).take (low (fun(y:aH)=>bB y.ID id) (d9 l))++(d9 l).drop (low (fun(y:aH)=>bB y.ID id) (d9 l)+1)):List aH)=((iV l id).1):=by unfold iV; rw [aO hc17]
 rw [jW] at K3;have mH:(0:Int)=((iV l id).2):=by unfold iV; rw [aO hc17]
 exact⟨j6,kg,by rw [jW,<- mH] <;> rfl,K3⟩
theorem aBX(w:World){l:List aH}(jo:Sl bJ S0 w jl jk l)(bE:Int)(hn:l.length<=100000)(hh:∀ x∈l,x.aD.length<=100000) :
    bS prog 350 #[.slice jl l.length jk,aF bE] w λv w'=>∃(A0:ah)(c0:Nat),v=.slice A0 ((Xb l bE).length) c0/\Hp w S0 w' [aS dQ 3 A0 c0 (Xb l bE)]:=by
 refine kP S0 func350 ntmps350 Y λH0=>?_;have hf:=DK l;have hq:=λk=>mR (fun(c:aH)=>c.aD.contains bE) ((d9 l).take k)
 simp only [fO] at hq
 refine iZ Y<|iZ Y<|aW<|bQ Y<|gX Y (Vq _ (H0.a jo) aj hh) ?_
 rintro _ w1 ⟨j6,kg,rfl,h1⟩;have K1:=H0.c1 h1;have Lj:=(K1.o s0).bH;refine ev (eU iN Y)<|mv Y<|dn<|cB ?_
 have H1:=K1.nil dQ 3;have eO:ab3=((((d9 l).take 0).filter (fun(c:aH)=>c.aD.contains bE)).map aH.ID):=by rfl
 refine lC (t:=5) Y (aR (λz=>Value.slice none (List.length z) 0) eO) ?_;have H2:=H1.nil dQ 3;have H3:=(eO▸H2:Hp w S0 w1 (aS dQ 3 none 0 ((((d9 l).take 0).filter (fun(c:aH)=>c.aD.contains bE)).map aH.ID)::[aS dQ 3 none 0 [],aS bJ 59 j6 kg (d9 l)]));refine Lp (H3.cU 0 2) (λl0 rk mJ lJ wJ=>∃(k:Nat)(A5:ah)(c5:Nat),lJ=(5,.slice A5 (((((d9 l).take k).filter (fun(c:aH)=>c.aD.contains bE)).map aH.ID).length) c5)::(11,aF ((k:Nat):Int))::l0/\mJ=(d9 l).length - k/\k<=(d9 l).length/\Hp w S0 wJ (aS dQ 3 A5 c5 ((((d9 l).take k).filter (fun(c:aH)=>c.aD.contains bE)).map aH.ID)::rk)) ⟨0,none,0,Y,Y,fJ _,(H3.rm s1)⟩ Y ?_;rintro _ _ w2 ⟨k,A5,c5,rfl,rfl,hk,K2⟩;refine rg<|ev (fC Y Y)<|dn<|pQ Y (λoN=>?_) (λoN=>?_)
 ·refine jm ?_;refine aW<|cB<|rg ?_
  obtain⟨x1,bP⟩:=bC (xs:=d9 l) (i:=k) aj;refine ev (cu (i:=k) iN o9 Y Y Y (aJ bP) ((K2.o s1).some_ bP)) ?_;obtain⟨B1,d1,zP,hi1⟩:=uP (K2.oi s1 bP);have H4:=K2.push hi1;refine ev (gI (cs:=[aF x1.ID,aF x1.aB,gK x1.Sum,.slice B1 x1.aD.length d1]) qw Y Y (GV zP))<|al lU Y H4 λg1 w3 K3=>sty Y K3 s0 Y λw4 K4=>dn<|rg<|jT g1 3 j5 K4 s0 Y<|mv Y<|mU K4 Y (kJ _ (K4.s s1).any bE) λw5 K5=>dn<|bK Y (λhc18=>?_) (λhc18=>?_)
  ·refine jy<|mv Y<|jT g1 0 pq K5 s0 Y<|Az (τ:=dQ) (x:=x1.ID) Y (by intro _; apply pW) rfl K5 (λ_ _=>rfl) λg2 w6 K6=>ap (ys:=([x1.ID]:List Int)) K6 s3 rfl rfl (K6.o s0) fB Lh (by have:=hq k; simp only [jY]; omega) av rfl λoL oM w7 K7=>iI rfl<|jA<|iE (gG ?_)
   refine jy<|ev (dO Y Y)<|mv Y<|jA ?_
   have fQ:((((((d9 l).take k).filter (fun(c:aH)=>c.aD.contains bE)).map aH.ID)++([x1.ID]:List Int)):List Int)=((((d9 l).take (k+1)).filter (fun(c:aH)=>c.aD.contains bE)).map aH.ID):=by rw [lX bP,hc18]; simp
   refine jq (t:=5) Y (aR (λz=>Value.slice oL (List.length z) oM) fQ) ?_;rw [fQ] at K7;exact dI ⟨(k+1),oL,oM,Y,Y,aj,(K7.cU 1 3)⟩ rfl aj
  refine xQ ?_;refine jy<|ev (dO Y Y)<|mv Y<|jA ?_
  have jW:(((((d9 l).take k).filter (fun(c:aH)=>c.aD.contains bE)).map aH.ID):List Int)=((((d9 l).take (k+1)).filter (fun(c:aH)=>c.aD.contains bE)).map aH.ID):=by rw [lX bP,hc18]; simp
  refine jq (t:=5) Y (aR (λz=>Value.slice A5 (List.length z) c5) jW) ?_;rw [jW] at K5;exact dI ⟨(k+1),A5,c5,Y,Y,aj,(K5.cU 0 2)⟩ rfl aj
 refine wE ?_;refine bQ Y<|bU Y<|jc Y ?_
 have mH:(((((d9 l).take k).filter (fun(c:aH)=>c.aD.contains bE)).map aH.ID):List Int)=(Xb l bE):=by rw [iH aj]; rfl
 rw [mH] at K2;exact⟨A5,c5,by rw [mH] <;> rfl,(K2.rm s1)⟩
end Go.Proofs.YtlhnnmlenkahlaaGreat
