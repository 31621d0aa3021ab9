/- Lemmas. -/
import Derived.Shelf.Bodies2
import Derived.Test.YtlhnnmlenkahlaaGreatvG4
set_option maxRecDepth 4000
set_option linter.all false
namespace Go.Proofs.YtlhnnmlenkahlaaGreat
open Go.RowKit Go.Proofs.Tryz
def rT:=@info_parts
def jf:=@underlying42
def yu:=@List.drop_eq_getElem_cons
def dN:=@Bool.or_eq_false_iff
def eO:=@Bool.or_eq_true
def EF:=@List.map_set
def dZ:=@Bool.and_eq_false_imp
def fC:=@Bool.not_eq_false'
def vV:=@List.forall_mem_cons
def vW:=@false_implies
def vX:=@implies_true
def tq:=@and_true
variable {S S0:Nat->Prop}{w:World}{u7 A jl:ah}{tN jg:Nat}{s:List Int}{most:Int}
structure aI where
  ID:Int
  aC:Int
  Sum:Int
  aF:List Int
  deriving DecidableEq
def aI.enc(x:aI)(B0:ah)(d0:Nat):List Value:=[.int .i64 x.ID,.int .i64 x.aC,.int .u32 x.Sum,.slice B0 x.aF.length d0]
theorem aI.kC(x:aI)(B0:ah)(d0:Nat):∀ u∈x.enc B0 d0,u.oneCell'=true:=by
  intro u hu
  simp only [aI.enc,iN,kY,qW] at hu
  rcases hu with rfl | rfl | rfl | rfl <;> rfl
def bH:Ty aI where
  k:=4
  pos:=au
  R:=λS w x cs=>∃(B0:ah)(d0:Nat),cs=x.enc B0 d0/\Sl dL S w B0 d0 x.aF
  len:=by rintro S w x cs ⟨B0,d0,rfl,h0⟩; rfl
  one:=by rintro S w x cs ⟨B0,d0,rfl,h0⟩; exact aI.kC x B0 d0
  keep:=by rintro S w w' x cs m ⟨B0,d0,rfl,h0⟩; exact⟨B0,d0,rfl,h0.keep m⟩
  sub:=by rintro S S' w x cs n ⟨B0,d0,rfl,h0⟩; exact⟨B0,d0,rfl,h0.sub n⟩
  bd:=by rintro S w x cs ⟨B0,d0,rfl,h0⟩; exact⟨B0,d0,rfl,h0.bd⟩
theorem aI.op{a:Addr}{i:Nat}{x:aI}(h:∃ cs,bH.R S w x cs/\∀ j u,cs[j]? = some u->w.cell? (a.add (i*4+j))=some u) :
    ∃(B0:ah)(d0:Nat),(∀ j u,(x.enc B0 d0)[j]? = some u->w.cell? (a.add (i*4+j))=some u)/\Sl dL S w B0 d0 x.aF:=by
  obtain⟨cs,⟨B0,d0,rfl,h0⟩,h9⟩:=h;exact⟨B0,d0,h9,h0⟩
def Aj:=@aI.op
structure bE where
  c:aI
  B:Option Addr
  d:Nat
def bE.enc(k:bE):List Value:=[.int .i64 k.c.ID,.int .i64 k.c.aC,.int .u32 k.c.Sum,.slice k.B k.c.aF.length k.d]
theorem bE.kC(k:bE):∀ u∈k.enc,u.oneCell'=true:=by
  intro u hu
  simp only [bE.enc,iN,kY,qW] at hu
  rcases hu with rfl | rfl | rfl | rfl <;> rfl
def tK:Ty bE:=Ty.flat 4 bE.enc au (λ_=>rfl) bE.kC
instance:Flat tK:=⟨λh=>h⟩
def qg(k:bE):Option Addr × Nat × List Int:=(k.B,k.d,k.c.aF)
section
variable {b w:World}{S:Nat->Prop}{rs rest wz:List lC}{A:ah}{c e:Nat}
theorem Hp.toK{l:List aI}(H:Hp b S w rs)(s:ou rs (aR bH e A c l) rest):∃ ks:List bE,ks.map bE.c=l/\Hp b S w (aR tK e A c ks::Qd dL (ks.map qg)::rest):=by
  have hex:∀ i,i<l.length->∃ k:bE,∃ x,l[i]? = some x/\k.c=x/\Sl dL (Rd b S rs w) w k.B k.d k.c.aF/\∀ cs,(bH.R (Rd b S rs w) w x cs/\∀ j u,cs[j]? = some u->w.cell? ((ET A).add (i*4+j))=some u)->cs=k.enc:=by
    intro i hi;obtain⟨x,hx⟩:=bC (xs:=l) hi;obtain⟨cs,⟨B,d,hcs,hs⟩,hc⟩:=H.oi s hx;refine⟨⟨x,B,d⟩,x,hx,Y,hs,?_⟩;rintro cs2 ⟨⟨B2,d2,hcs2,_⟩,hc2⟩;have h3:=hc 3 (.slice B x.aF.length d) (by rw [hcs]; rfl);have h4:=hc2 3 (.slice B2 x.aF.length d2) (by rw [hcs2]; rfl);have h5:w.cell? ((ET A).add (i*4+3))=some (.slice B x.aF.length d):=h3;rw [h4] at h5
    injection h5 with h5
    injection h5 with hB _ hd
    subst hB hd;rw [hcs2]; rfl
  obtain⟨ks,hl,hk⟩:=Jb (q:=λi (k:bE)=>∃ x,l[i]? = some x/\k.c=x/\Sl dL (Rd b S rs w) w k.B k.d k.c.aF/\∀ cs,(bH.R (Rd b S rs w) w x cs/\∀ j u,cs[j]? = some u->w.cell? ((ET A).add (i*4+j))=some u)->cs=k.enc) l.length hex;refine⟨ks,?_,?_⟩
  · apply EB
    intro i;rw [kI]
    cases hi:ks[i]? with
    | none=>have:=Ub.1 hi; rw [xu aj]; rfl
    | some k=>obtain⟨x,h1,h2,_⟩:=hk i k hi; rw [h1,<- h2]; rfl
  · have hin:Hp b S w (Qd dL (ks.map qg)::rs):=H.new (r:=Qd dL (ks.map qg)) (om w) (λ_ h=>h.elim) (by
      intro r hr;obtain⟨k,hkm,rfl⟩:=jI.1 hr;obtain⟨i,hi⟩:=qV hkm;obtain⟨x,_,_,h3,_⟩:=hk i k hi
      exact h3)
    have h1:Hp b S w (aR bH e A c l::Qd dL (ks.map qg)::rest):=(hin.sel (.t s));obtain⟨css,c1,c2,c3⟩:=H.ow s;refine(h1.put (r':=aR tK e A c ks) ⟨Y,Y,Y,kH _,λ_ _ _=>Y,kH _⟩ (λg hg=>.inl hg) ?_);refine Own.low (lo:=b.heap.size) (S:=Rd b S rs w) ⟨css,by rw [c1,hl],λi y hy=>?_,by rw [<- hl] at c3; exact c3⟩ (fK _) (λg hg=>?_)
    · obtain⟨x,hx,_,_,h4⟩:=hk i y hy
      obtain⟨cs,h5,h6⟩:=c2 i x hx;refine⟨cs,h5,?_⟩;refine h4 cs ⟨h6,λj u hu=>?_⟩;have hkk:=Sn c1 c2
      rcases c3.2 with ⟨hv,hn⟩ | ⟨g,cap,cur,hv,hg,hh,hnc,hcm,hcs,ht⟩
      · have:=aJ hx; omega
      · injection hv with hA hn' hc'
        subst hA hc';exact c3.cells (g:=g) Y _ _ (Nw css hkk i cs h5 j u hu)
    · rcases hg with h | ⟨g1,g2,g3⟩
      · exact .inl h
      · refine .inr ⟨g1,g2,λr hr=>?_⟩
        rcases iN.1 hr with rfl | hr
        · exact g3 _ (s.perm.mem_iff.2 av)
        · rcases iN.1 hr with rfl | hr
          · exact λh=>h
          · exact g3 r (s.perm.mem_iff.2 (by simp [hr]))
theorem Hp.ofK{ks:List bE}(H:Hp b S w rs)(s:ou rs (aR tK e A c ks) rest)(s':ou rest (Qd dL (ks.map qg)) wz):Hp b S w (aR bH e A c (ks.map bE.c)::wz):=by
  have hmem:Qd dL (ks.map qg)∈rs:=s.perm.mem_iff.2 (by simp [s'.perm.mem_iff]);have hin:∀ r∈ks.map qg,Sl dL (Rd b S rs w) w r.1 r.2.1 r.2.2:=H.ok (Qd dL (ks.map qg)) hmem;refine(H.atW (ρ:=bH) (ys:=ks.map bE.c) s Y av ?_).rm (.t s');intro i x y cs hx hy hR;rw [kI,hx] at hy
  cases hy
  have hR':cs=x.enc:=hR;refine⟨x.B,x.d,hR',hin (qg x) (jI.2 ⟨x,dA hx,Y⟩)⟩
theorem Hp.rdK{ks:List bE}(H:Hp b S w rs)(s:ou rs (aR tK e A c ks) rest)(s':ou rest (fD dL 3 (ks.map qg)) wz):Sl bH Any w A c (ks.map bE.c):=by
  have h1:=((H.sel s).perm (s'.perm.cons _):Hp b S w (aR tK e A c ks::fD dL 3 (ks.map qg)::wz));exact((h1.Uk s1).ofK s1 s0).o s0
end
theorem p9:(prog.underlying 3).isSome=true/\prog.underlying 97=some (.int (prog.intKind 97))/\prog.intKind 97=.u64:=⟨ak,ak,ak⟩
theorem qb:(prog.underlying 97).isSome=true/\prog.underlying 3=some (.int (prog.intKind 3))/\prog.intKind 3=.i64:=⟨ak,ak,ak⟩
theorem at0:bI prog 443:=ay
theorem alz  : ∀ w,(Instr.buildSlice 55 0 (List.toArray [])).run prog w=.ok (.slice (some ⟨w.heap.size,0,none⟩) 0 0) (w.alloc (.cells (List.toArray []) 3)):=ay
theorem KY:kQ prog 3 1 8:=by
  obtain⟨i,h1,h2,h3,h4⟩:=rT (show(prog.info? 3).map (λi=>(i.zero,i.size,i.bytes))=some (some (aD 0),1,8) by kernel_rfl);exact⟨i,_,h1,h2,h3,h4,Y⟩
theorem at6:tT prog 3 1 8:=by
  obtain⟨i,h1,h2,h3,h4⟩:=rT (show(prog.info? 3).map (λi=>(i.zero,i.size,i.bytes))=some (some (aD 0),1,8) by kernel_rfl);exact⟨i,_,h1,h2,h3,h4,Y,λv hv=>mZ.1 (show(Value.cells (aD 0)).toList.all (λv=>v.oneCell')=true from Y) v hv⟩
theorem qG:Size prog 59 4:=ay
theorem alA:kQ prog 59 4 48:=by
  obtain⟨i,h1,h2,h3,h4⟩:=rT (show(prog.info? 59).map (λi=>(i.zero,i.size,i.bytes))=some (some (.agg #[aD 0,aD 0,fT 0,.slice none 0 0]),4,48) by kernel_rfl);exact⟨i,_,h1,h2,h3,h4,Y⟩
theorem asG:tT prog 59 4 48:=by
  obtain⟨i,h1,h2,h3,h4⟩:=rT (show(prog.info? 59).map (λi=>(i.zero,i.size,i.bytes))=some (some (.agg #[aD 0,aD 0,fT 0,.slice none 0 0]),4,48) by kernel_rfl);exact⟨i,_,h1,h2,h3,h4,Y,λv hv=>mZ.1 (show(Value.cells (.agg #[aD 0,aD 0,fT 0,.slice none 0 0])).toList.all (λv=>v.oneCell')=true from Y) v hv⟩
theorem pU:XY prog 59 4:=⟨λ_=>by kernel_rfl,qG⟩
theorem kZ:∀ w,(zeroValue 59).run prog w=.ok (.agg #[aD 0,aD 0,fT 0,.slice none 0 0]) w:=ay
theorem tu:dH prog 59 1 1:=ay
theorem kD:dH prog 59 3 3:=ay
theorem CQ:kW prog 55:=ay
theorem alB:bI prog 233:=ay
theorem qH:dH prog 59 0 0:=ay
theorem pE(a0:Int):∀ w,(Instr.buildSlice 55 1 (List.toArray [(0,aD a0)])).run prog w=.ok (.slice (some ⟨w.heap.size,0,none⟩) 1 1) (w.alloc (.cells (List.toArray [aD a0]) 3)):=ay
theorem alC  : ∀ w,(Instr.buildSlice 42 0 (List.toArray [])).run prog w=.ok (.slice (some ⟨w.heap.size,0,none⟩) 0 0) (w.alloc (.cells (List.toArray []) 59)):=ay
theorem alD:bI prog 152:=ay
theorem NH:Size prog 55 1:=ay
theorem at7:bI prog 194:=ay
theorem alE  : prog.built 59 []=some #[aD 0,aD 0,fT 0,.slice none 0 0]:=ak
theorem Ut(a0:Int)(a1:Int)(a2:Int):prog.built 59 [(0,aD a0),(1,aD a1),(2,fT a2)]=some #[aD a0,aD a1,fT a2,.slice none 0 0]:=ak
theorem Zj(a0:Int)(a1:Int)(a2:Int)(a3:ah)(a3n a3c:Nat):∀ w,(Instr.buildSlice 42 1 (List.toArray [(0,.agg #[aD a0,aD a1,fT a2,.slice a3 a3n a3c])])).run prog w=.ok (.slice (some ⟨w.heap.size,0,none⟩) 1 1) (w.alloc (.cells (List.toArray [aD a0,aD a1,fT a2,.slice a3 a3n a3c]) 59)):=ay
theorem Uu:bI prog 111:=ay
theorem ap3(w:World)(x:Int)(y:Int) :
    bO prog 380 #[aD x,.int .i64 y] w λv w'=>v=.bool (decide (x<y))/\Hp w S0 w' []:=by
 refine j4 S0 func380 ntmps380 Y λH0=>iY Y<|bQ Y<|lF H0 Y (Us (S0:=Any) _ x) λw1 K1=>mv Y<|eB<|eB<|eB<|ev (eG Y Y)<|mv Y<|bG Y (bA Y) Y<|bG Y (bA Y) Y<|bG Y (fB Y Y) Y<|ev (eG Y Y)<|bS Y<|iI Y ?_
 exact⟨Y,K1⟩
theorem ab2(w:World)(lK:Sl dL S0 w u7 tN s)(val:Int) :
    bO prog 191 #[.slice u7 s.length tN,aD val] w λv w'=>v=aD (idxOf (fun(x:Int)=>decide (x=val)) s)/\Hp w S0 w' []:=by
 refine j4 S0 func191 ntmps191 Y λH0=>?_;have NI:=lK.bN;refine iY Y<|aZ<|bQ Y<|ev (eY fq Y)<|mv Y<|dn<|cZ<|Lp H0 (λl0 rk mJ lJ wJ=>∃(k:Nat),lJ=(8,aD ((k:Nat):Int))::l0/\mJ=s.length - k/\k<=s.length/\(∀ y∈s.take k,(fun(x:Int)=>decide (x=val)) y=false)/\Hp w S0 wJ rk) ⟨0,Y,Y,fK _,av,H0⟩ rfl ?_
 rintro _ _ w1 ⟨k,rfl,rfl,hk,hno,K1⟩;refine rg<|ev (fB Y Y)<|dn<|oC Y (λFQ=>?_) (λFQ=>?_)
 ·refine jh ?_;refine aZ<|cZ<|bQ Y<|bS Y<|bQ Y<|mv Y<|mv Y ?_
  obtain⟨x1,bP⟩:=bC (xs:=s) (i:=k) aj;refine ev (eU (i:=k) fq sZ Y Y Y (aJ bP) ((K1.a lK).some_ bP))<|ev (jq jG Y ((K1.a lK).fZ (j:=0) bP Y))<|ev (iP Y Y)<|dn<|kX Y (λhc16=>?_) (λhc16=>?_)
  ·refine bQ Y<|bS Y<|je (jH (gL (gL (jH (gL (zD Y ?_))))))
   have d9:(((k:Nat):Int):Int)=(idxOf (fun(x:Int)=>decide (x=val)) s):=by exact(qD hno bP (by simp; omega)).symm
   exact⟨by rw [d9] <;> rfl,K1⟩
  refine zF ?_;refine jr<|ev (dW Y Y)<|mv Y<|jv<|dQ ⟨(k+1),Y,Y,aj,by exact tQ (q:=λy=>decide (y=val)=false) hno bP (by simp; omega),K1⟩ rfl aj
 refine wQ ?_;refine iY Y<|iI Y ?_
 have fG:((-1):Int)=(idxOf (fun(x:Int)=>decide (x=val)) s):=by exact(sQ (uW hno aj)).symm
 exact⟨by rw [<- fG] <;> rfl,K1⟩
theorem Zk(s:List Int)(v:Int):decide (0<=idxOf (fun(x:Int)=>decide (x=v)) s)=s.contains v:=by
  rw [Bool.eq_iff_iff]
  simp only [bL,sU]
  rcases uV (fun(x:Int)=>decide (x=v)) s with ⟨h1,h2⟩ | ⟨k,x,h1,h2,h3,h4⟩
  · rw [h1]; simp; intro h; have:=h2 v h; simp at this
  · rw [h1]; simp at h3; subst h3; simp; exact dA h2
theorem jT(w:World)(lK:Sl dL S0 w u7 tN s)(val:Int) :
    bO prog 111 #[.slice u7 s.length tN,aD val] w λv w'=>v=.bool (s.contains val)/\Hp w S0 w' []:=by
 refine j4 S0 func111 ntmps111 Y λH0=>iY Y<|bQ Y<|mv Y<|lF H0 Y (ab2 _ (H0.a lK).any val) λw1 K1=>ev (pK Y Y)<|bS Y<|iI Y ?_
 have d9:(decide (0<=idxOf (fun(x:Int)=>decide (x=val)) s):Bool)=(s.contains val):=by exact Zk s val
 exact⟨by rw [d9] <;> rfl,K1⟩
theorem ai0(w:World)(x:Int) :
    bO prog 443 #[aD x] w λv w'=>v=.bool false/\Hp w S0 w' []:=by
 refine j4 S0 func443 ntmps443 Y λH0=>iY Y<|bQ Y<|mv Y<|ev (rz Y Y)<|bS Y<|iI Y ?_
 have d9:((!decide (x=x)):Bool)=false:=by simp
 exact⟨by rw [d9] <;> rfl,H0⟩
theorem LB(w:World)(lK:Sl dL S0 w u7 tN s)(target:Int)(hm:Zc (fun(y:Int)=>bn y target) s)(hn:s.length<=1000000) :
    bO prog 420 #[.slice u7 s.length tN,aD target] w λv w'=>v=.tuple #[aD ((low (fun(y:Int)=>bn y target) s:Nat):Int),.bool (hits (fun(y:Int)=>bn y target) s)]/\Hp w S0 w' []:=by
 refine j4 S0 func420 ntmps420 Y λH0=>?_;have NI:=lK.bN;refine rg<|iA Y<|bS Y<|bQ Y<|ev (eY fq Y)<|bS Y<|bQ Y<|iA Y<|bS Y<|aZ<|cZ<|Lp H0 (λl0 rk mJ lJ wJ=>∃(i j:Nat),lJ=(7,aD ((i:Nat):Int))::(8,aD ((j:Nat):Int))::l0/\mJ=j - i/\(i<=j/\j<=s.length)/\(∀(a:Nat)(y:Int),a<i->s[a]? = some y->bn y target<0)/\(∀(a:Nat)(y:Int),j<=a->s[a]? = some y->¬ bn y target<0)/\Hp w S0 wJ rk) ⟨0,s.length,Y,Y,by exact⟨fK _,kH _⟩,by intro a y ha; omega,by intro a y ha hy; have:=aJ hy; omega,H0⟩ rfl ?_
 rintro _ _ w1 ⟨i,j,rfl,rfl,hij,hlo,hhi,K1⟩;refine aZ<|bQ Y<|mv Y<|ev (fB Y Y)<|dn<|kX Y (λrU=>?_) (λrU=>?_)
 ·refine jh ?_;refine cZ<|bQ Y<|mv Y<|ev (dW Y Y)<|ev (zi (m:=i+j) p9.1 p9.2.1 p9.2.2 Y (vE aj))<|ev (Ev.aiM (m:=i+j) Y Y)<|ev (zi (m:=((i+j) / 2)) qb.1 qb.2.1 qb.2.2 Y (sS aj))<|bS Y<|bQ Y<|mv Y ?_
  obtain⟨x1,bP⟩:=bC (xs:=s) (i:=((i+j) / 2)) aj;refine ev (eU (i:=((i+j) / 2)) fq sZ Y Y Y (aJ bP) ((K1.a lK).some_ bP))<|ev (jq jG Y ((K1.a lK).fZ (j:=0) bP Y))<|mv Y<|lF K1 Y (ap3 (S0:=Any) _ x1 target) λw2 K2=>dn<|kX Y (λhc27=>?_) (λhc27=>?_)
  ·refine jr<|mv Y<|ev (dW Y Y)<|iA Y<|jv<|ig<|dQ ⟨(((i+j) / 2)+1),j,Y,Y,aj,by first | exact hlo | exact λa y ha hy=>hm a _ y x1 aj hy bP (pO.2 hc27),by first | exact hhi | exact λa y ha hy hlt=>hc27 (pO.1 (hm _ a x1 y aj bP hy hlt)),K2⟩ rfl aj
  refine jr<|mv Y<|iA Y<|jv<|ig<|dQ ⟨i,((i+j) / 2),Y,Y,aj,by first | exact hlo | exact λa y ha hy=>hm a _ y x1 aj hy bP (pO.2 hc27),by first | exact hhi | exact λa y ha hy hlt=>hc27 (pO.1 (hm _ a x1 y aj bP hy hlt)),K2⟩ rfl aj
 refine wQ ?_;refine bQ Y<|mv Y<|mv Y<|ev (fB Y Y)<|mv Y<|nA 18 53 (hits (fun(y:Int)=>bn y target) s) ?_ ?_
 ·cases Ql:decide (((i:Nat):Int)<((s.length:Nat):Int)) with
  | true=>
   have aFf:=jC Ql;refine bG Y (bA Y) Y<|bG Y (bA Y) Y ?_
   obtain⟨x2,kK⟩:=bC (xs:=s) (i:=i) aj;refine bG Y (eU (i:=i) fq sZ Y Y Y (aJ kK) ((K1.a lK).some_ kK)) Y<|bG Y (jq jG Y ((K1.a lK).fZ (j:=0) kK Y)) Y<|bG Y (bA Y) Y<|bG Y (iP Y Y) Y<|bG Y (bA Y) Y<|nA 10 52 ((decide (x2=target))||false) ?_ ?_
   ·cases aHf:decide (x2=target) with
    | true=>
     refine eB<|eB<|eB<|eB<|eB<|eB<|eB<|eB<|eB<|bG Y (dY Y Y) Y<|iH Y (om _)
    | false=>
     refine bG Y (bA Y) Y<|bG Y (bA Y) Y<|bG Y (eU (i:=i) fq sZ Y Y Y (aJ kK) ((K1.a lK).some_ kK)) Y<|bG Y (jq jG Y ((K1.a lK).fZ (j:=0) kK Y)) Y<|nu Y Y Y Y at0 (ai0 (S0:=Any) _ x2) Y ?_
     rintro _ w3 ⟨rfl,h3⟩;refine bG Y (bA Y) Y<|eB<|eB<|bG Y (eG Y Y) Y<|bG Y (eG Y Y) Y<|iH Y h3.ext
   intro w4 e4;refine ev (dY Y Y)<|fJ (t:=53) (u:=.bool ((decide (x2=target))||false)) (v:=.bool (hits (fun(y:Int)=>bn y target) s)) Y (aS Value.bool (by have hl:=vR (g:=fun(y:Int)=>bn y target) (s:=s) (i:=i) aj hlo (λa y ha=>hhi a y aj); unfold hits; rw [hl,kK]; rw [Bool.eq_iff_iff]; simp [xI]))<|iH rfl e4
  | false=>
   refine eB<|eB<|eB<|eB<|eB<|eB<|eB<|eB<|eB<|eB<|eB<|eB<|eB<|eB<|eB<|eB<|eB<|ev (eG Y Y)<|fJ (t:=53) (u:=.bool false) (v:=.bool (hits (fun(y:Int)=>bn y target) s)) Y (aS Value.bool (by have hl:=vR (g:=fun(y:Int)=>bn y target) (s:=s) (i:=i) aj hlo (λa y ha=>hhi a y aj); unfold hits; rw [hl,xu (by have:=kg Ql; omega)])) ?_
   exact iH Y (om _)
 intro w5 e5;have K5:=K1.grow e5;refine iA Y<|bS Y<|iI Y ?_
 have d9:(i:Nat)=(low (fun(y:Int)=>bn y target) s):=by exact(vR (g:=fun(y:Int)=>bn y target) aj hlo (λa y ha=>hhi a y aj)).symm
 exact⟨by rw [<- d9] <;> rfl,K5⟩
abbrev Zl:=(([]:List Int):List Int)
theorem sM(w:World)(lK:Sl dL S0 w u7 tN s)(hn:s.length<=1000000) :
    bO prog 60 #[.slice u7 s.length tN] w λv w'=>∃(A0:ah)(c0:Nat),v=.slice A0 s.length c0/\Hp w S0 w' [aR dL 3 A0 c0 s]:=by
 refine j4 S0 func60 ntmps60 Y λH0=>iY Y<|aZ<|bQ Y<|ev (Lx fq Y Y)<|dn<|bR Y (λhc4=>?_) (λhc4=>?_)
 ·refine iY Y<|vG Y ?_
  have H1:=H0.nil dL 3;have d9:Zl=s:=by have h1:=lK.nil (by simpa using hc4); have h2:=lK.cap; exact(uI aj).symm
  have H2:=(d9▸H1:Hp w S0 w (aR dL 3 none 0 s::[]));exact⟨none,0,by rw [<- d9] <;> rfl,H2⟩
 refine jh ?_;refine rg<|bs0 (τ:=dL) (vs:=[]) Y (by intro _; apply alz) rfl H0 λg1 w1 K1=>mv rfl<|ap (ys:=s) K1 s0 rfl rfl (K1.a lK).any fq KY av (by first | omega | (simp; omega) | (simp; done)) rfl λnY nZ w2 K2=>bS rfl<|iI rfl ?_
 have fG:((([]:List Int)++s):List Int)=s:=by simp
 rw [fG] at K2;exact⟨nY,nZ,by rw [fG] <;> rfl,K2⟩
theorem Zm{b:World}{F:List lC}{c:Nat}{xs:List Int}(H0:Hp b S w (aR dL 3 A c xs::F)){i j:Nat}(hij:i<j)(hj:j<=xs.length) :
    bO prog 423 #[.slice A xs.length c,aD (i:Int),aD (j:Int)] w λv w'=>v=.slice A (xs.take i++xs.drop j).length c/\Hp b S w' (aR dL 3 A c (xs.take i++xs.drop j)::F):=by
 refine sF func423 ntmps423 Y ?_;have Uw:=(H0.o s0).bN;have hcap:=(H0.o s0).cap;refine iY Y<|bQ Y<|mv Y<|mv Y<|mv Y<|ev (eY fq Y)<|ev (Ev.apT (lo:=i) (hi:=j) (mx:=xs.length) fq sZ Y Y Y Y Y Y Y aj hj (H0.o s0).cap)<|dn<|aZ<|bQ Y<|mv Y<|ev (iP Y Y)<|dn<|kX Y (λhc16=>?_) (λhc16=>?_)
 ·omega
 refine jh ?_;refine bQ Y<|ev (eY fq Y)<|bS Y<|He H0 (λ_ K=>(K.rm s0)) (λl0 rk lJ wJ=>lJ=(0,.slice A ((xs.take i++xs.drop j).length) c)::l0/\Hp b S wJ (aR dL 3 A c (xs.take i++xs.drop j)::rk)) (λhns H1=>?_) ?_
 ·have k1:=(H1.rm s0);refine kT 0 Y Y k1<|kT 1 Y Y k1<|kT 3 Y Y k1<|kT 4 Y Y k1<|Jn H1 (λl0 rk lJ wJ=>lJ=(22,.slice A ((xs.take i).length) c)::(25,.slice (rO A c j 1) ((xs.drop j).length) (c - j))::l0/\Hp b S wJ rk) 2 63 ?_ λhS1=>?_
  ·rintro _ w2 ⟨rfl,K2⟩;refine O1 6 Y<|Zh (τ:=dL) (xs:=xs) (i:=i) (j:=j) K2 s0 Y Y fq KY hij hj λw3 K3=>?_
   have k3:=(K3.rm s0);refine aP k3<|xJ 7 Y Y k3<|Dn ⟨Y,K3⟩ Y
  refine O2 2 5 Y Y ?_ ?_
  ·refine ev (Ey (hi:=i) (xs:=xs) fq sZ Y Y Y aj (H1.o s0).cap)<|aP k1<|O1 5 Y<|ev (Ez (lo:=j) (xs:=xs) fq sZ Y Y Y aj (H1.o s0).cap)<|Kj hS1 k1 ⟨Y,H1⟩ Y
  ·refine ev (Ez (lo:=j) (xs:=xs) fq sZ Y Y Y aj (H1.o s0).cap)<|aP k1<|O1 2 Y<|ev (Ey (hi:=i) (xs:=xs) fq sZ Y Y Y aj (H1.o s0).cap)<|Kj hS1 k1 ⟨Y,H1⟩ Y
 rintro _ w4 ⟨rfl,K4⟩;refine bQ Y<|mv Y<|ev (eY fq Y)<|mv Y ?_
 have hln:(xs.take i++xs.drop j).length+(j - i)=xs.length:=by simp only [iO,fE,kN]; omega
 refine ev (Ev.apU (lo:=(xs.take i++xs.drop j).length) (hi:=xs.length) fq sZ Y Y Y Y Y aj hcap)<|abV (τ:=dL) (m:=xs.length - (xs.take i++xs.drop j).length) K4 s0 Y fq at6 aj λw5 K5=>dn<|bQ Y<|bS Y<|iI Y ?_
 exact⟨Y,K5⟩
theorem Ux{b:World}{F:List lC}{c:Nat}{xs:List aI}(H0:Hp b S w (aR bH 59 A c xs::F)){i j:Nat}(hij:i<j)(hj:j<=xs.length) :
    bO prog 424 #[.slice A xs.length c,aD (i:Int),aD (j:Int)] w λv w'=>v=.slice A (xs.take i++xs.drop j).length c/\Hp b S w' (aR bH 59 A c (xs.take i++xs.drop j)::F):=by
 refine sF func424 ntmps424 Y ?_;have Uw:=(H0.o s0).bN;have hcap:=(H0.o s0).cap;refine iY Y<|bQ Y<|mv Y<|mv Y<|mv Y<|ev (eY jf Y)<|ev (Ev.apT (lo:=i) (hi:=j) (mx:=xs.length) jf qG Y Y Y Y Y Y Y aj hj (H0.o s0).cap)<|dn<|aZ<|bQ Y<|mv Y<|ev (iP Y Y)<|dn<|kX Y (λhc16=>?_) (λhc16=>?_)
 ·omega
 refine jh ?_;refine bQ Y<|ev (eY jf Y)<|bS Y<|He H0 (λ_ K=>(K.rm s0)) (λl0 rk lJ wJ=>lJ=(0,.slice A ((xs.take i++xs.drop j).length) c)::l0/\Hp b S wJ (aR bH 59 A c (xs.take i++xs.drop j)::rk)) (λhns H1=>?_) ?_
 ·have k1:=(H1.rm s0);refine kT 0 Y Y k1<|kT 1 Y Y k1<|kT 3 Y Y k1<|kT 4 Y Y k1<|Jn H1 (λl0 rk lJ wJ=>lJ=(22,.slice A ((xs.take i).length) c)::(25,.slice (rO A c j 4) ((xs.drop j).length) (c - j))::l0/\Hp b S wJ rk) 2 63 ?_ λhS1=>?_
  ·rintro _ w2 ⟨rfl,K2⟩;refine O1 6 Y<|Zh (τ:=bH) (xs:=xs) (i:=i) (j:=j) K2 s0 Y Y jf alA hij hj λw3 K3=>?_
   have k3:=(K3.rm s0);refine aP k3<|xJ 7 Y Y k3<|Dn ⟨Y,K3⟩ Y
  refine O2 2 5 Y Y ?_ ?_
  ·refine ev (Ey (hi:=i) (xs:=xs) jf qG Y Y Y aj (H1.o s0).cap)<|aP k1<|O1 5 Y<|ev (Ez (lo:=j) (xs:=xs) jf qG Y Y Y aj (H1.o s0).cap)<|Kj hS1 k1 ⟨Y,H1⟩ Y
  ·refine ev (Ez (lo:=j) (xs:=xs) jf qG Y Y Y aj (H1.o s0).cap)<|aP k1<|O1 2 Y<|ev (Ey (hi:=i) (xs:=xs) jf qG Y Y Y aj (H1.o s0).cap)<|Kj hS1 k1 ⟨Y,H1⟩ Y
 rintro _ w4 ⟨rfl,K4⟩;refine bQ Y<|mv Y<|ev (eY jf Y)<|mv Y ?_
 have hln:(xs.take i++xs.drop j).length+(j - i)=xs.length:=by simp only [iO,fE,kN]; omega
 refine ev (Ev.apU (lo:=(xs.take i++xs.drop j).length) (hi:=xs.length) jf qG Y Y Y Y Y aj hcap)<|abV (τ:=bH) (m:=xs.length - (xs.take i++xs.drop j).length) K4 s0 Y jf asG aj λw5 K5=>dn<|bQ Y<|bS Y<|iI Y ?_
 exact⟨Y,K5⟩
def nC(most:Int):Int->List Int->Bool
  | _,[]=>true
  | Bj,n::l=>!(decide (n<Bj)||decide (most<n))&&nC most (n+1) l
def pF(c:aI):Bool:=!(decide (c.aC<1)||decide (1073741824<c.aC)||!nC 16 1 c.aF)
def lY(l:List aI):Bool:=l.all pF&&decide (l.length<=32)&&nC 1048576 1 (l.map aI.ID)
def dG(l:List aI):List aI:=if lY l then l else[]
theorem BP(l:List aI):(dG l).length<=l.length:=by unfold dG; split <;> simp
theorem RF{z:Int}{l:List Int}{k:Nat}{x:Int}(hx:l[k]? = some x):nC most z (l.drop k)=(!(decide (x<z)||decide (most<x))&&nC most (x+1) (l.drop (k+1))):=by
  rw [yu (aJ hx),(mM.1 hx).2]; rfl
theorem Kq:∀(l:List Int)(z:Int),nC most z l=true->∀ x∈l,z<=x/\x<=most
  | [],_,_,x,hx=>by simp at hx
  | y::l,z,h,x,hx=>by
    simp only [nC,bK,eu,dN,bU] at h
    rcases iN.1 hx with rfl | hx
    · omega
    · have:=Kq l _ h.2 x hx; omega
theorem BQ:∀(l:List Int)(z:Int),nC most z l=true->l.Pairwise (λx y=>x<y)
  | [],_,_=>List.Pairwise.nil
  | y::l,z,h=>by
    simp only [nC,bK,eu,dN,bU] at h
    exact oU.2 ⟨λx hx=>by have:=Kq l _ h.2 x hx; omega,BQ l _ h.2⟩
theorem mQ{l:List aI}:lY l=true↔(∀ c∈l,pF c=true)/\l.length<=32/\nC 1048576 1 (l.map aI.ID)=true:=by
  unfold lY; simp only [bK,mZ,bL,and_assoc]
theorem zO(l:List aI):Up aI.ID (dG l):=by
  unfold dG; split
  · rename_i h
    have:=BQ _ _ (mQ.1 h).2.2;rw [I8] at this;exact this
  · exact List.Pairwise.nil
theorem xK(l:List aI):lY (dG l)=true:=by
  unfold dG; split
  · assumption
  · rfl
theorem wE{l:List aI}(h:lY l=true):dG l=l:=by unfold dG; rw [aO h]
theorem ai1{l:List aI}(h:lY l=false):dG l=[]:=by unfold dG; rw [h]; rfl
theorem ab3(w:World){l:List Int}(iR:Sl dL S0 w jl jg l)(Bj:Int)(most:Int)(hm:most<=9223372036854775806)(hl0:0<=Bj) :
    bO prog 233 #[.slice jl l.length jg,aD Bj,aD most] w λv w'=>v=.bool (nC most Bj l)/\Hp w S0 w' []:=by
 refine j4 S0 func233 ntmps233 Y λH0=>?_;have EG:=iR.bN;refine iY Y<|aZ<|bQ Y<|ev (eY fq Y)<|mv Y<|dn<|cZ<|Lp H0 (λl0 rk mJ lJ wJ=>∃(k:Nat)(z:Int),lJ=(1,aD z)::(11,aD ((k:Nat):Int))::l0/\mJ=l.length - k/\k<=l.length/\(nC most Bj l=nC most z (l.drop k))/\(0<=z)/\Hp w S0 wJ rk) ⟨0,Bj,Y,Y,fK _,av,by exact hl0,H0⟩ rfl ?_
 rintro _ _ w1 ⟨k,z,rfl,rfl,hk,hz,hz0,K1⟩;refine rg<|ev (fB Y Y)<|dn<|oC Y (λnQ=>?_) (λnQ=>?_)
 ·refine jh ?_;refine aZ<|cZ<|rg ?_
  obtain⟨x1,bP⟩:=bC (xs:=l) (i:=k) aj;refine ev (eU (i:=k) fq sZ Y Y Y (aJ bP) ((K1.a iR).some_ bP))<|ev (jq jG Y ((K1.a iR).fZ (j:=0) bP Y))<|bS Y<|aZ<|bQ Y<|mv Y<|ev (fB Y Y)<|mv Y<|iG 4 22 ((decide (x1<z))||(decide (most<x1))) ?_ ?_
  ·cases aua:decide (x1<z) with
   | true=>
    refine eB<|eB<|eB<|ev (dY Y Y)<|dI Y
   | false=>
    have asH:=kg aua;refine bG Y (bA Y) Y<|bG Y (bA Y) Y<|bG Y (pJ Y Y) Y<|ev (eG Y Y)<|dI Y
  refine dn<|bR Y (λhc22=>?_) (λhc22=>?_)
  ·try simp only [eO,dN,bL,bU] at hc22
   refine iY Y<|je (gL (jH (gL (gL (jH (gL (zD Y ?_)))))))
   have d9:(false:Bool)=(nC most Bj l):=by rw [hz,RF bP]; simp; intro h1 h2; omega
   exact⟨by rw [<- d9] <;> rfl,K1⟩
  try simp only [eO,dN,bL,bU] at hc22
  refine jh ?_;refine jr<|mv Y<|ev (dW Y Y)<|iA Y<|jv<|ig (gB ?_)
  refine jr<|ev (dW Y Y)<|mv Y<|jv<|dQ ⟨(k+1),x1+1,Y,Y,aj,by rw [hz,RF bP]; simp [hc22],aj,K1⟩ rfl aj
 refine wQ ?_;refine iY Y<|iI Y ?_
 have fG:(true:Bool)=(nC most Bj l):=by rw [hz,zf aj]; rfl
 exact⟨by rw [<- fG] <;> rfl,K1⟩
abbrev Zn(gJ:List aI):=((gJ.length:Nat):Int)<=32
theorem Kr(w:World){l:List aI}(iR:Sl bH S0 w jl jg l)(hn:l.length<=100000) :
    bO prog 152 #[.slice jl l.length jg] w λv w'=>v=.bool (lY l)/\Hp w S0 w' []:=by
 refine j4 S0 func152 ntmps152 Y λH0=>iY Y<|iY Y<|aZ<|bQ Y<|ev (eY jf Y)<|mv Y<|dn<|cZ ?_
 have H1:=H0.nil dL 3;have d9:Zl=((l.take 0).map aI.ID):=by rfl
 refine kP (t:=3) Y (aS (λz=>Value.slice none (List.length z) 0) d9) ?_;have H2:=H1.nil dL 3;have H3:=(d9▸H2:Hp w S0 w (aR dL 3 none 0 ((l.take 0).map aI.ID)::[aR dL 3 none 0 []]));refine Lp (H3.cU 0 2) (λl0 rk mJ lJ wJ=>∃(k:Nat)(A3:ah)(c3:Nat),lJ=(3,.slice A3 (((l.take k).map aI.ID).length) c3)::(8,aD ((k:Nat):Int))::l0/\mJ=l.length - k/\k<=l.length/\(∀ y∈l.take k,pF y=true)/\Hp w S0 wJ (aR dL 3 A3 c3 ((l.take k).map aI.ID)::rk)) ⟨0,none,0,Y,Y,fK _,av,(H3.rm s1)⟩ rfl ?_;rintro _ _ w1 ⟨k,A3,c3,rfl,rfl,hk,hall,K1⟩;refine rg<|ev (fB Y Y)<|dn<|oC Y (λFQ=>?_) (λFQ=>?_)
 ·refine jh ?_;refine aZ<|cZ<|rg ?_
  obtain⟨x1,bP⟩:=bC (xs:=l) (i:=k) aj;refine ev (eU (i:=k) jf qG Y Y Y (aJ bP) ((K1.a iR).some_ bP)) ?_;obtain⟨B1,d1,Ak,hi1⟩:=Aj (iR.row bP);refine ev (fV (cs:=[aD x1.ID,aD x1.aC,fT x1.Sum,.slice B1 x1.aF.length d1]) pU Y Y (Ib (λj u hu=>K1.ext.cell (Ak j u hu))))<|al kZ Y K1 λg1 w2 K2=>sty Y K2 s0 Y λw3 K3=>dn<|aZ<|rg<|jD g1 1 tu K3 s0 Y<|ev (fB Y Y)<|mv Y<|iG 4 19 ((decide (x1.aC<1))||(decide (1073741824<x1.aC))) ?_ ?_
  ·cases Qm:decide (x1.aC<1) with
   | true=>
    refine eB<|eB<|eB<|ev (dY Y Y)<|dI Y
   | false=>
    refine wP g1 1 tu K3 s0 Y<|bG Y (pJ Y Y) Y<|ev (eG Y Y)<|dI Y
  refine mv Y<|nA 5 25 (((decide (x1.aC<1))||(decide (1073741824<x1.aC)))||(!(nC 16 1 x1.aF))) ?_ ?_
  ·cases ab4:((decide (x1.aC<1))||(decide (1073741824<x1.aC))) with
   | true=>
    refine eB<|eB<|eB<|eB<|ev (dY Y Y)<|iH Y (om _)
   | false=>
    have ab5:=ab4
    try simp only [eO,dN,bL,bU] at ab5
    refine wP g1 3 kD K3 s0 Y<|nu Y Y Y Y alB (ab3 _ (K3.a hi1).any 1 16 aj aj) Y ?_
    rintro _ w4 ⟨rfl,h4⟩;refine bG Y (gZ Y) Y<|ev (eG Y Y)<|iH Y h4.ext
  intro w5 e5;have K5:=K3.grow e5;refine dn<|bR Y (λhc25=>?_) (λhc25=>?_)
  ·refine iY Y<|je (gL (jH (gL (gL (jH (gL (zD Y ?_)))))))
   have fG:(false:Bool)=(lY l):=by symm; unfold lY; rw [show l.all pF=false from by rw [List.all_eq_false]; exact⟨x1,dA bP,by unfold pF; rw [hc25]; simp⟩]; rfl
   exact⟨by rw [<- fG] <;> rfl,K5.z⟩
  refine jh ?_;refine jr<|mv Y<|jD g1 0 qH K5 s0 Y<|yU (τ:=dL) (x:=x1.ID) Y (by intro _; apply pE) rfl K5 (λ_ _=>rfl) λg2 w6 K6=>ap (ys:=([x1.ID]:List Int)) K6 s2 rfl rfl (K6.o s0) fq KY (by first | omega | (simp; omega) | (simp; done)) av rfl λnY nZ w7 K7=>iA rfl<|jv<|ig (gB ?_)
  refine jr<|ev (dW Y Y)<|mv Y<|jv ?_
  have jQ:((((l.take k).map aI.ID)++([x1.ID]:List Int)):List Int)=((l.take (k+1)).map aI.ID):=by rw [fI bP,pR]; rfl
  refine ji (t:=3) Y (aS (λz=>Value.slice nY (List.length z) nZ) jQ) ?_;rw [jQ] at K7;exact dQ ⟨(k+1),nY,nZ,Y,Y,aj,by exact tQ (q:=λy=>pF y=true) hall bP (by unfold pF; rw [hc25]; rfl),(K7.cU 1 2)⟩ rfl aj
 refine wQ ?_;refine bQ Y<|ev (eY jf Y)<|ev (uK Y Y)<|mv Y<|nA 3 38 ((decide (Zn l))&&(nC 1048576 1 ((l.take k).map aI.ID))) ?_ ?_
 ·cases Ql:decide (Zn l) with
  | true=>
   refine bG Y (bA Y) Y<|nu Y Y Y Y alB (ab3 _ (K1.o s0) 1 1048576 aj aj) Y ?_
   rintro _ w8 ⟨rfl,h8⟩;refine ev (dY Y Y)<|iH Y h8.ext
  | false=>
   refine eB<|eB<|ev (eG Y Y)<|iH Y (om _)
 intro w9 e9;have K9:=K1.grow e9;refine bS Y<|iI Y ?_
 have lV:(((decide (Zn l))&&(nC 1048576 1 ((l.take k).map aI.ID))):Bool)=(lY l):=by rw [iD aj] at hall ⊢; unfold lY; rw [show l.all pF=true from by rw [mZ]; exact hall,show decide (Zn l)=decide (l.length<=32) from by rw [decide_eq_decide]; omega,Bool.true_and]
 exact⟨by rw [lV] <;> rfl,(K9.rm s0)⟩
abbrev Uy:=(([]:List aI):List aI)
theorem uw(w:World){s:List aI}(lK:Sl bH S0 w u7 tN s)(hn:s.length<=1000000) :
    bO prog 59 #[.slice u7 s.length tN] w λv w'=>∃(A0:ah)(c0:Nat),v=.slice A0 s.length c0/\Hp w S0 w' [aR bH 59 A0 c0 s]:=by
 refine j4 S0 func59 ntmps59 Y λH0=>iY Y<|aZ<|bQ Y<|ev (Lx jf Y Y)<|dn<|bR Y (λhc4=>?_) (λhc4=>?_)
 ·refine iY Y<|vG Y ?_
  have H1:=H0.nil bH 59;have d9:Uy=s:=by have h1:=lK.nil (by simpa using hc4); have h2:=lK.cap; exact(uI aj).symm
  have H2:=(d9▸H1:Hp w S0 w (aR bH 59 none 0 s::[]));exact⟨none,0,by rw [<- d9] <;> rfl,H2⟩
 refine jh ?_;refine rg<|bs0 (τ:=bH) (vs:=[]) Y (by intro _; apply alC) rfl H0 λg1 w1 K1=>mv rfl<|apd (ys:=s) K1 s0 rfl rfl (K1.a lK) jf alA av (by first | omega | (simp; omega) | (simp; done)) rfl λnY nZ w2 K2=>bS rfl<|iI rfl ?_
 have fG:((([]:List aI)++s):List aI)=s:=by simp
 rw [fG] at K2;exact⟨nY,nZ,by rw [fG] <;> rfl,K2⟩
theorem Qn{ks:List bE}{i:Nat}{k k':bE}(hx:ks[i]? = some k):(((ks.set i k').take (i+1)).map qg)=((ks.take i).map qg)++[qg k']:=by
  have h1:(ks.set i k')[i]? = some k':=pQ (aJ hx);rw [fI h1,pR,List.take_set_of_le (kH _)]; rfl
theorem Uz{ks:List bE}{i:Nat}{k k':bE}(hx:ks[i]? = some k)(hc:k'.c=k.c):(ks.set i k').map bE.c=ks.map bE.c:=by
  apply EB;intro j;rw [kI,kI]
  by_cases h:i=j
  · subst h; rw [pQ (aJ hx),hx]; simp [hc]
  · rw [CJ h]
theorem ai2{ks:List bE}{i:Nat}{k':bE}:(ks.set i k').map bE.c=(ks.map bE.c).set i k'.c:=by rw [EF]
theorem CS{ks:List bE}{i:Nat}{k':bE}:(ks.set i k').map qg=(ks.map qg).set i (qg k'):=by rw [EF]
theorem UA(w:World){l:List aI}(iR:Sl bH S0 w jl jg l)(hn:l.length<=100000)(hh:∀ x∈l,x.aF.length<=100000) :
    bO prog 116 #[.slice jl l.length jg] w λv w'=>∃(A:ah)(c:Nat)(ks:List bE),v=.slice A ks.length c/\ks.map bE.c=dG l/\Hp w S0 w' [aR tK 59 A c ks,fD dL 3 (ks.map qg)]:=by
 refine sF func116 ntmps116 Y ?_;have EG:=iR.bN;have H0:=Hp.init w S0;refine iY Y<|aZ<|bQ Y<|lF H0 Y (Kr _ (H0.a iR).any aj) λw1 K1=>ev (gZ Y)<|dn<|bR Y (λhc8=>?_) (λhc8=>?_)
 ·try simp only [eO,dN,bK,dZ,eu,fC,bL,bU] at hc8
  refine iY Y<|vG Y ?_
  have H1:=K1.nil tK 59;have H2:=H1.abW dL 3;exact⟨none,0,[],Y,by rw [ai1 hc8]; rfl,(H2.sel s1)⟩
 try simp only [eO,dN,bK,dZ,eu,fC,bL,bU] at hc8
 refine jh ?_;refine bQ Y<|gW Y (uw _ (K1.a iR) aj) ?_
 rintro _ w2 ⟨ni,nk,rfl,h2⟩;have K2:=K1.c1 h2;refine bS Y<|aZ ?_
 obtain⟨NJ,ab6,HK1⟩:=Hp.toK K2 s0;have HK2:=HK1.abW dL 3;have afa:NJ.length=l.length:=by rw [<- ab6,jN]
 refine kP (t:=3) Y (aS (λz=>Value.slice ni z nk) afa.symm)<|bQ Y<|ev (eY jf Y)<|mv Y<|dn<|cZ ?_
 have d9:[]=((NJ.take 0).map qg):=by rfl
 rw [d9] at HK2;refine Lp (HK2.cU 0 2) (λl0 rk mJ lJ wJ=>∃(k:Nat)(ks:List bE),lJ=(3,.slice ni ks.length nk)::(11,.slice ni ks.length nk)::(13,aD ((k:Nat):Int))::l0/\mJ=NJ.length - k/\k<=NJ.length/\(ks.length=NJ.length)/\(ks.map bE.c=l)/\(∀ j,k<=j->ks[j]? = NJ[j]?)/\Hp w S0 wJ (aR tK 59 ni nk ks::fD dL 3 ((ks.take k).map qg)::rk)) ⟨0,NJ,Y,Y,fK _,by rfl,by exact ab6,by intro j _; rfl,((HK2.sel s0).sel s1)⟩ rfl ?_;rintro _ _ w3 ⟨k,ks,rfl,rfl,hk,hkn,hka,hkb,K3⟩;refine rg<|ev (fB Y Y)<|dn<|oC Y (λtC=>?_) (λtC=>?_)
 ·refine jh ?_;refine aZ<|cZ<|bQ Y ?_
  obtain⟨x1,bP⟩:=bC (xs:=ks) (i:=k) aj;refine ev (eU (i:=k) jf qG Y Y Y (aJ bP) ((K3.o s0).some_ bP))<|ev (fV pU Y Y ((K3.o s0).eX bP))<|al kZ Y K3 λg1 w4 K4=>iA Y<|sty Y K4 s0 Y λw5 K5=>dn ?_
  have hin:=K5.atV s3 (jI.2 ⟨x1,dA (by rw [<- hkb k (kH _)]; exact bP),rfl⟩:(x1.B,x1.d,x1.c.aF)∈_);have hHl:x1.c.aF.length<=100000:=hh x1.c (by rw [<- hka]; exact jI.2 ⟨x1,dA bP,rfl⟩);have H3:=K5.push hin;refine jr<|mv Y<|mv Y<|jD g1 3 kD H3 s1 Y<|gW Y (sM _ (H3.s s0).any aj) ?_
  rintro _ w6 ⟨CU,CV,rfl,h6⟩;have K6:=H3.f1 h6;refine ev (eU (i:=k) jf qG Y Y Y (aJ bP) ((K6.o s3).some_ bP))<|ev (eF kD Y (gI _ _ _))<|se (i:=k) (f:=3) (x:=x1) (x':=({ x1 with B:=CU,d:=CV }:bE)) (ds:=[.slice CU x1.c.aF.length CV]) K6 s3 Y Y Y bP Y NH (oJ Y) Y (by rintro _ _ _ ⟨⟩; rfl) λw7 K7=>?_
  have hl1:(ks.set k ({ x1 with B:=CU,d:=CV }:bE)).length=ks.length:=fQ ..;refine fJ (t:=3) (u:=.slice ni ks.length nk) (v:=.slice ni ((ks.set k ({ x1 with B:=CU,d:=CV }:bE)).length) nk) Y (by rw [hl1])<|fJ (t:=11) (u:=.slice ni ks.length nk) (v:=.slice ni ((ks.set k ({ x1 with B:=CU,d:=CV }:bE)).length) nk) rfl (by rw [hl1])<|fJ (t:=18) (u:=.slice ni ks.length nk) (v:=.slice ni ((ks.set k ({ x1 with B:=CU,d:=CV }:bE)).length) nk) rfl (by rw [hl1]) ?_
  refine jv<|ig (gB ?_)
  have H4:=K7.NG s1 s3;refine jr<|ev (dW Y Y)<|mv Y<|jv ?_
  have fG:((ks.take k).map qg)++[(CU,CV,x1.c.aF)]=(((ks.set k ({ x1 with B:=CU,d:=CV }:bE)).take (k+1)).map qg):=by rw [Qn bP]; rfl
  rw [fG] at H4;exact dQ ⟨(k+1),(ks.set k ({ x1 with B:=CU,d:=CV }:bE)),Y,Y,aj,by rw [fQ]; exact hkn,by refine(Uz bP ?_).trans hka; rfl,by intro j hj; rw [CJ aj]; exact hkb j aj,(((H4.cU 2 2).sel s0).sel s1)⟩ rfl aj
 refine wQ ?_;refine bQ Y<|bS Y<|iI Y ?_
 have hfin:ks.take k=ks:=iD aj;rw [hfin] at K3;exact⟨ni,nk,ks,Y,by rw [hka,wE hc8],(K3.rm s2)⟩
theorem SA(w:World){l:List aI}(iR:Sl bH S0 w jl jg l)(hn:l.length<=100000)(hh:∀ x∈l,x.aF.length<=100000) :
    bO prog 116 #[.slice jl l.length jg] w λv w'=>∃(A0:ah)(c0:Nat),v=.slice A0 (dG l).length c0/\Hp w S0 w' [aR bH 59 A0 c0 (dG l)]:=by
  refine(UA w iR hn hh).mono ?_;rintro _ w' ⟨A,c,ks,rfl,hk,K⟩;have K1:=(K.Uk s1).ofK s1 s0;rw [hk] at K1;exact⟨A,c,by rw [<- hk,jN],K1⟩
theorem R5(w:World){s:List aI}(lK:Sl bH S0 w u7 tN s)(target:Int){yS:FuncId}{yV:List Value}(IG:bI prog yS)(f:aI->Int->Int)(II:∀(w':World)(x:aI){ab7:ah}{ab8:Nat}(ab9:Sl dL Any w' ab7 ab8 x.aF)(t:Int),Ext w w'->True->bO prog yS (([.agg #[aD x.ID,aD x.aC,fT x.Sum,.slice ab7 x.aF.length ab8],aD t]:List Value)++yV).toArray w' λv w''=>v=aD (f x t)/\Ext w' w'')(hm:Zc (fun(y:aI)=>f y target) s)(hn:s.length<=1000000) :
    bO prog 193 #[.slice u7 s.length tN,aD target,.func (.func yS) #[] yV.toArray] w λv w'=>v=.tuple #[aD ((low (fun(y:aI)=>f y target) s:Nat):Int),.bool (hits (fun(y:aI)=>f y target) s)]/\Hp w S0 w' []:=by
 refine j4 S0 func193 ntmps193 Y λH0=>?_;have NI:=lK.bN;refine rg<|iA Y<|bS Y<|bQ Y<|ev (eY jf Y)<|bS Y<|bQ Y<|iA Y<|bS Y<|aZ<|cZ<|Lp H0 (λl0 rk mJ lJ wJ=>∃(i j:Nat),lJ=(9,aD ((i:Nat):Int))::(10,aD ((j:Nat):Int))::l0/\mJ=j - i/\(i<=j/\j<=s.length)/\(∀(a:Nat)(y:aI),a<i->s[a]? = some y->f y target<0)/\(∀(a:Nat)(y:aI),j<=a->s[a]? = some y->¬ f y target<0)/\Hp w S0 wJ rk) ⟨0,s.length,Y,Y,by exact⟨fK _,kH _⟩,by intro a y ha; omega,by intro a y ha hy; have:=aJ hy; omega,H0⟩ rfl ?_
 rintro _ _ w1 ⟨i,j,rfl,rfl,hij,hlo,hhi,K1⟩;refine aZ<|bQ Y<|mv Y<|ev (fB Y Y)<|dn<|kX Y (λhc17=>?_) (λhc17=>?_)
 ·refine jh ?_;refine cZ<|bQ Y<|mv Y<|ev (dW Y Y)<|ev (zi (m:=i+j) p9.1 p9.2.1 p9.2.2 Y (vE aj))<|ev (Ev.aiM (m:=i+j) Y Y)<|ev (zi (m:=((i+j) / 2)) qb.1 qb.2.1 qb.2.2 Y (sS aj))<|bS Y<|bQ Y<|mv Y<|mv Y ?_
  obtain⟨x1,bP⟩:=bC (xs:=s) (i:=((i+j) / 2)) aj;refine ev (eU (i:=((i+j) / 2)) jf qG Y Y Y (aJ bP) ((K1.a lK).some_ bP)) ?_;obtain⟨B1,d1,Ak,hi1⟩:=Aj (lK.row bP);refine ev (fV (cs:=[aD x1.ID,aD x1.aC,fT x1.Sum,.slice B1 x1.aF.length d1]) pU Y Y (Ib (λj u hu=>K1.ext.cell (Ak j u hu))))<|mv Y<|wo Y Y Y IG (II _ x1 (K1.a hi1).any target K1.ext trivial) Y ?_
  rintro _ w2 ⟨rfl,e2⟩;have K2:=K1.grow e2;refine ev (fB Y Y)<|dn<|kX Y (λhc31=>?_) (λhc31=>?_)
  ·refine jr<|mv Y<|ev (dW Y Y)<|iA Y<|jv<|ig<|dQ ⟨(((i+j) / 2)+1),j,Y,Y,aj,by first | exact hlo | exact λa y ha hy=>hm a _ y x1 aj hy bP hc31,by first | exact hhi | exact λa y ha hy hlt=>hc31 (hm _ a x1 y aj bP hy hlt),K2⟩ rfl aj
  refine jr<|mv Y<|iA Y<|jv<|ig<|dQ ⟨i,((i+j) / 2),Y,Y,aj,by first | exact hlo | exact λa y ha hy=>hm a _ y x1 aj hy bP hc31,by first | exact hhi | exact λa y ha hy hlt=>hc31 (hm _ a x1 y aj bP hy hlt),K2⟩ rfl aj
 refine wQ ?_;refine bQ Y<|mv Y<|mv Y<|ev (fB Y Y)<|mv Y<|nA 9 48 (hits (λy=>f y target) s) ?_ ?_
 ·cases Me:decide (((i:Nat):Int)<((s.length:Nat):Int)) with
  | true=>
   have ag3:=jC Me;refine bG Y (bA Y) Y<|bG Y (bA Y) Y<|bG Y (bA Y) Y ?_
   obtain⟨x2,kK⟩:=bC (xs:=s) (i:=i) aj;refine bG Y (eU (i:=i) jf qG Y Y Y (aJ kK) ((K1.a lK).some_ kK)) Y ?_;obtain⟨B2,d2,alF,hi2⟩:=Aj (lK.row kK);refine bG Y (fV (cs:=[aD x2.ID,aD x2.aC,fT x2.Sum,.slice B2 x2.aF.length d2]) pU Y Y (Ib (λj u hu=>K1.ext.cell (alF j u hu)))) Y<|bG Y (bA Y) Y<|nu Y Y Y Y IG (II _ x2 (K1.a hi2).any target K1.ext trivial) Y ?_
   rintro _ w3 ⟨rfl,e3⟩;refine bG Y (iP Y Y) Y<|ev (dY Y Y)<|fJ (t:=48) (u:=.bool (decide (f x2 target=0))) (v:=.bool (hits (λy=>f y target) s)) Y (aS Value.bool (by have hl:=vR (g:=λy=>f y target) (s:=s) (i:=i) aj hlo (λa y ha=>hhi a y aj); unfold hits; rw [hl,kK]))<|iH rfl e3
  | false=>
   refine eB<|eB<|eB<|eB<|eB<|eB<|eB<|eB<|ev (eG Y Y)<|fJ (t:=48) (u:=.bool false) (v:=.bool (hits (λy=>f y target) s)) Y (aS Value.bool (by have hl:=vR (g:=λy=>f y target) (s:=s) (i:=i) aj hlo (λa y ha=>hhi a y aj); unfold hits; rw [hl,xu (by have:=kg Me; omega)])) ?_
   exact iH Y (om _)
 intro w4 e4;have K4:=K1.grow e4;refine iA Y<|bS Y<|iI Y ?_
 have d9:(i:Nat)=(low (fun(y:aI)=>f y target) s):=by exact(vR (g:=λy=>f y target) aj hlo (λa y ha=>hhi a y aj)).symm
 have fG:(hits (λy=>f y target) s:Bool)=(hits (fun(y:aI)=>f y target) s):=by rfl
 exact⟨by rw [fG,<- d9] <;> rfl,K4⟩
theorem afb(w:World)(c:aI){CW:ah}{Br:Nat}(F7:Sl dL S0 w CW Br c.aF)(id:Int) :
    bO prog 194 #[.agg #[aD c.ID,aD c.aC,fT c.Sum,.slice CW c.aF.length Br],aD id] w λv w'=>v=aD (bn c.ID id)/\Hp w S0 w' []:=by
 refine j4 S0 func194 ntmps194 Y λH0=>rg<|bx Y Y H0 λg1 w1 K1=>bS Y<|rg<|jD g1 0 qH K1 s0 Y<|mv Y<|lF K1 Y (mF (S0:=Any) _ c.ID id) λw2 K2=>bS Y<|iI Y ?_
 exact⟨Y,(K2.rm s0)⟩
theorem EY(w:World){l:List aI}(iR:Sl bH S0 w jl jg l)(id:Int)(hu:Up aI.ID l)(hn:l.length<=1000000) :
    bO prog 117 #[.slice jl l.length jg,aD id] w λv w'=>v=.tuple #[aD ((low (fun(y:aI)=>bn y.ID id) l:Nat):Int),.bool (hits (fun(y:aI)=>bn y.ID id) l)]/\Hp w S0 w' []:=by
 refine j4 S0 func117 ntmps117 Y λH0=>rg<|iA Y<|bS Y<|bQ Y<|mv Y<|lF H0 Y (R5 _ (H0.a iR).any id (yV:=[]) at7 (fun(x:aI) (t:Int)=>bn x.ID t) (λw' x=>λab9 t e hm=>(afb w' x ab9 t).mono (by rintro _ _ ⟨rfl,fG⟩; exact⟨rfl,fG.ext⟩)) (hu.mono id) aj) λw1 K1=>xt rfl rfl<|xt rfl rfl<|iA rfl<|bS rfl<|iI rfl ?_
 exact⟨Y,K1⟩
def aV(l:List aI)(id:Int):aI:=match (dG l)[low (fun(y:aI)=>bn y.ID id) (dG l)]? with | some c=>if c.ID=id then c else⟨0,0,0,[]⟩ | none=>⟨0,0,0,[]⟩
def gU(l:List aI)(id:Int):Bool:=hits (fun(y:aI)=>bn y.ID id) (dG l)
theorem UC{l:List aI}{id:Int}(h:hits (fun(y:aI)=>bn y.ID id) (dG l)=false):aV l id=⟨0,0,0,[]⟩:=by
  unfold aV; split
  · rename_i c hc
    rw [aK];intro e;have:=(uY (zO l) id).2 ⟨c,dA hc,e⟩;rw [h] at this; cases this
  · rfl
theorem Qo{l:List aI}{id:Int}{c:aI}(h:hits (fun(y:aI)=>bn y.ID id) (dG l)=true)(hc:(dG l)[low (fun(y:aI)=>bn y.ID id) (dG l)]? = some c):aV l id=c:=by
  unfold aV; rw [hc];obtain⟨x,hx,hk⟩:=qE (key:=aI.ID) h;rw [hc] at hx; cases hx;exact aO hk
def eD(l:List aI)(id sum:Int):List aI × Int:=if id<1∨1048576<id then([],1) else if hits (fun(y:aI)=>bn y.ID id) (dG l)=true then([],6) else if 32<=(dG l).length then([],7) else((dG l).take (low (fun(y:aI)=>bn y.ID id) (dG l))++[⟨id,1,sum,[]⟩]++(dG l).drop (low (fun(y:aI)=>bn y.ID id) (dG l)),0)
def iB(l:List aI)(id:Int):List aI × Int:=if hits (fun(y:aI)=>bn y.ID id) (dG l)=true then((dG l).take (low (fun(y:aI)=>bn y.ID id) (dG l))++(dG l).drop (low (fun(y:aI)=>bn y.ID id) (dG l)+1),0) else([],5)
def ofL(l:List aI)(bq:Int):List Int:=((dG l).filter (fun(c:aI)=>c.aF.contains bq)).map aI.ID
theorem find_ok(w:World){l:List aI}(iR:Sl bH S0 w jl jg l)(id:Int)(hn:l.length<=100000)(hh:∀ x∈l,x.aF.length<=100000) :
    bO prog 53 #[.slice jl l.length jg,aD id] w λv w'=>∃(uP:ah)(uQ:Nat),v=.tuple #[.agg #[aD ((aV l id).ID),aD ((aV l id).aC),fT ((aV l id).Sum),.slice uP (((aV l id).aF).length) uQ],.bool (gU l id)]/\Hp w S0 w' [dP dL uP uQ ((aV l id).aF)]:=by
 refine j4 S0 func53 ntmps53 Y λH0=>?_;have EG:=iR.bN;have hf:=BP l;have hlow:=CF (fun(y:aI)=>bn y.ID id) (dG l);refine rg<|al kZ Y H0 λg1 w1 K1=>bS Y<|bQ Y<|gW Y (SA _ (K1.a iR) aj hh) ?_
 rintro _ w2 ⟨ni,nk,rfl,h2⟩;have K2:=K1.c1 h2;have UD:=(K2.o s0).bN;refine bS Y<|bQ Y<|mv Y<|lF K2 Y (EY _ (K2.o s0) id (zO l) aj) λw3 K3=>mv Y<|xt Y Y<|xt Y Y<|iA Y<|bS Y<|aZ<|bQ Y<|ev (gZ Y)<|dn<|bR Y (λhc17=>?_) (λhc17=>?_)
 ·try simp only [eO,dN,bK,dZ,eu,fC,bL,bU] at hc17
  refine rg<|ev (iE (vs:=[]) (cs:=[aD 0,aD 0,fT 0,.slice none 0 0]) Y (by apply alE))<|sty rfl K3 s1 rfl λw4 K4=>bS rfl<|je (gL (oW rfl ⟨_,_,rfl,⟨_,rfl,jm (cs:=[aD 0,aD 0,fT 0,.slice none 0 0]) pU rfl (K4.x s0)⟩,⟨_,_,rfl,rfl,rfl⟩⟩ ?_))
  have d9:((⟨0,0,0,[]⟩:aI):aI)=(aV l id):=by exact(UC hc17).symm
  have fG:(0:Int)=(aV l id).ID:=by rw [<- d9]
  have jQ:(0:Int)=(aV l id).aC:=by rw [<- d9]
  have lV:(0:Int)=(aV l id).Sum:=by rw [<- d9]
  have H1:=K4.push (Cb dL _ _);have qU:Zl=((aV l id).aF):=by rw [<- d9]
  have vY:(false:Bool)=(gU l id):=by unfold gU; rw [hc17]
  exact⟨none,0,by first | (rw [<- fG,<- jQ,<- lV,<- vY,<- qU] <;> rfl) | (rw [<- qU,<- fG,<- jQ,<- lV,<- vY] <;> rfl),by rw [<- qU]; exact(H1.cU 1 2)⟩
 try simp only [eO,dN,bK,dZ,eu,fC,bL,bU] at hc17
 have hc17:hits (fun(y:aI)=>bn y.ID id) (dG l)=true:=hc17;obtain⟨xb,hxb,hkb⟩:=qE (key:=aI.ID) hc17;have UE:=aJ hxb;refine jh ?_;refine bQ Y<|mv Y ?_
 obtain⟨x1,bP⟩:=bC (xs:=dG l) (i:=low (fun(y:aI)=>bn y.ID id) (dG l)) aj;refine ev (eU (i:=low (fun(y:aI)=>bn y.ID id) (dG l)) jf qG Y Y Y (aJ bP) ((K3.o s0).some_ bP)) ?_;obtain⟨B1,d1,Ak,hi1⟩:=Aj (K3.oi s0 bP);have H2:=K3.push hi1;refine ev (fV (cs:=[aD x1.ID,aD x1.aC,fT x1.Sum,.slice B1 x1.aF.length d1]) pU Y Y (Ib Ak))<|sty Y H2 s2 Y λw5 K5=>bS Y<|je (oW Y ⟨_,_,Y,⟨_,Y,jm (cs:=[aD x1.ID,aD x1.aC,fT x1.Sum,.slice B1 x1.aF.length d1]) pU Y (K5.x s0)⟩,⟨_,_,Y,Y,Y⟩⟩ ?_)
 have xZ:(x1:aI)=(aV l id):=by exact(Qo hc17 bP).symm
 have hq8:(x1.ID:Int)=(aV l id).ID:=by rw [<- xZ]
 have yT:(x1.aC:Int)=(aV l id).aC:=by rw [<- xZ]
 have qI:(x1.Sum:Int)=(aV l id).Sum:=by rw [<- xZ]
 have hq11:(x1.aF:List Int)=((aV l id).aF):=by rw [<- xZ]
 have hq12:(true:Bool)=(gU l id):=by unfold gU; rw [hc17]
 exact⟨B1,d1,by first | (rw [hq8,yT,qI,hq11,<- hq12] <;> rfl) | (rw [hq11,hq8,yT,qI,<- hq12] <;> rfl),by rw [<- hq11]; exact((K5.rm s2).rm s0)⟩
def rI(f ov rr tS e:Nat):Go.Shelf.Ren:=⟨λ| 22=>f | 29=>ov | 30=>rr | n=>n,λ| 24=>tS | 9=>e | n=>n,λn=>n⟩
structure Zo (f ov rr tS e k bt:Nat) (nm:String):Prop where
  hf:prog.funcs[f]? = some { Go.Proofs.Body2.n22 (rI f ov rr tS e) with name:=nm }
  o:∃ fn,prog.funcs[ov]? = some fn/\(fn.name == "runtime.NumGoroutine")=false/\fn.body.isNone=true/\Extern.findNext fn=none/\Extern.find fn=some (Extern.SlicesOverlaps.overlaps #[tS,tS] #[4])
  u:prog.underlying tS=some (.slice e)
  i:prog.underlying 3=some (.int .i64)
  z:Size prog e k
  hb:Nat.ble bt 1000=true
  ei:kQ prog e k bt
  ez:tT prog e k bt
theorem ap4{f ov rr tS e k bt:Nat}{kp:0<k}{nm:String}(X:Zo f ov rr tS e k bt nm){b:World}(eb:Ext b w){c:Nat}{us:List (Cells k)}{gv:Nat}{u:Cells k}{i:Nat}(lK:Own (xR k kp) e b.heap.size No w A c us)(h_v:Bx w gv e u.1)(hgv:blk A≠some gv)(hi:i<=us.length)(hn:us.length<=900000) :
    bO prog f #[.slice A us.length c,aD (i:Int),.slice (some ⟨gv,0,none⟩) 1 1] w λv w'=>∃ A' c',v=.slice A' (us.take i++[u]++us.drop i).length c'/\Own (xR k kp) e b.heap.size No w' A' c' (us.take i++[u]++us.drop i)/\KW w w' (blk A)/\(blk A'=blk A∨∃ g,blk A'=some g/\w.heap.size<=g):=by
  refine WP.enter X.hf Y (Go.Proofs.Body2.n22_ntmps (rI f ov rr tS e)) Y ?_;have hcap:=(lK.sl (S':=Any) (λ_ _=>trivial) (λ_ _=>trivial)).cap;refine AZ<|jA (nP Y) Y<|Ba<|AZ<|jA (bA Y) Y<|jA (bA Y) Y<|jA (CO (lo:=i) X.u X.z Y Y Y aj aj) Y<|Ba<|AZ<|jA (bA Y) Y<|jA (eY X.u Y) Y<|jA (nP Y) Y<|Ba<|aZ<|AZ<|jA (bA Y) Y<|jA (iP Y Y) Y<|Ba<|bR Y (λhc16=>?_) (λhc16=>?_)
  · replace hc16:=jC hc16
    omega
  replace hc16:=kg hc16;refine jh ?_;refine AZ<|jA (bA Y) Y<|jA (eY X.u Y) Y<|jA (nP Y) Y<|Ba<|aZ<|AZ<|jA (bA Y) Y<|jA (bA Y) Y<|jA (iP Y Y) Y<|Ba<|bR Y (λhc22=>?_) (λhc22=>?_)
  · replace hc22:=jC hc22
    refine AZ<|jA (bA Y) Y<|jA (bA Y) Y ?_
    have hv1:Sl (xR k kp) Any w (some ⟨gv,0,none⟩) 1 [u]:=h_v.aeZ (S:=Any) (S2:=No) rfl trivial (λ_ h=>h.elim);refine WL.app (xs:=us) (ys:=[u]) Y Y lK hv1 X.u X.ei (λ_ _ _ h=>h) (λ_ _ h=>h) aj av X.hb eb.size Y λA1 c1 w1 o1 g1 at1=>jA (nP Y) Y<|Ba<|je (gL (Rz (v:=.slice A1 ((us++[u]).length) c1) Y Y Y ?_))
    have h_i:i=us.length:=aj;exact⟨A1,c1,by rw [agZ us u h_i],by rw [agZ us u h_i]; exact o1,g1,at1.imp id (λh=>⟨_,h,kH _⟩)⟩
  replace hc22:=kg hc22;refine jh ?_;refine aZ<|AZ<|jA (bA Y) Y<|jA (bA Y) Y<|jA (dW Y Y) Y<|jA (bA Y) Y<|jA (Ev.cap X.u Y) Y<|jA (pJ Y Y) Y<|Ba<|bR Y (λhc31=>?_) (λhc31=>?_)
  · replace hc31:=jC hc31
    refine AZ<|jA (bA Y) Y<|jA (bA Y) Y<|jA (Ey (hi:=i) (xs:=us) X.u X.z Y Y Y aj (lK.fr (a:=b) (kH _)).cap) Y<|jA (bA Y) Y<|jA (bA Y) Y<|jA (dW Y Y) Y<|jA (bA Y) Y<|jA (RA Y Y) Y<|fJ (t:=39) (u:=aD (((us.length+1:Nat):Int) - ((i:Nat):Int))) (v:=aD ((us.length+1 - i:Nat):Int)) Y (aS (Value.int .i64) aj)<|WL.ae3 (m:=us.length+1 - i) (us:=us.take i) (kp:=kp) Y Y X.u X.i X.ez ((lK.sl (S':=Any) (λ_ _=>trivial) (λ_ _=>trivial)).agW (hi:=i) aj) (by simp only [fE]; omega) aj (by simp only [fE]; omega) aj X.hb rfl λg1 c1 w1 z1 o1 e1=>?_
    have hl1:(us.take i++List.replicate (us.length+1 - i) z1).length=us.length+1:=by simp only [iO,fE,FX]; omega
    have hcp1:=(o1.sl (S':=Any) (λ_ _=>trivial) (λ_ _=>trivial)).cap;have hz1:w.heap.size<=g1:=(o1.Y3 _ rfl).1;refine fJ (t:=40) (u:=.slice (some ⟨g1,0,none⟩) ((us.take i).length+(us.length+1 - i)) c1) (v:=.slice (some ⟨g1,0,none⟩) (us.take i++List.replicate (us.length+1 - i) z1).length c1) Y (by simp only [iO,FX])<|jA (nP rfl) rfl<|Ba<|AZ<|jA (bA rfl) rfl<|jA (bA rfl) rfl<|jA (CO (lo:=i) X.u X.z rfl rfl rfl aj aj) rfl<|jA (bA rfl) rfl ?_
    have hv1:Sl (xR k kp) Any w1 (some ⟨gv,0,none⟩) 1 [u]:=(h_v.ext e1).aeZ (S:=Any) (S2:=No) rfl trivial (λ_ h=>h.elim);refine WL.agY (lo:=i) (us:=(us.take i++List.replicate (us.length+1 - i) z1)) (vs:=[u]) (kp:=kp) Y Y X.u X.z o1 hv1 aj Y λw2 v2 o2 g2 z2=>?_;have hl2:(over (us.take i++List.replicate (us.length+1 - i) z1) i [u]).length=us.length+1:=by rw [IW aj,hl1]
    have axA:=(lK.ext e1).grown g2 (λg hA hB=>by have h1:=(lK.Y3 g hA).2; have h2:g1=g:=(by simpa [blk] using hB); omega) (λ_ _ h=>h);refine fJ (t:=9) (u:=.slice (some ⟨g1,0,none⟩) (us.take i++List.replicate (us.length+1 - i) z1).length c1) (v:=.slice (some ⟨g1,0,none⟩) (over (us.take i++List.replicate (us.length+1 - i) z1) i [u]).length c1) Y (by rw [hl1,hl2])<|Ba<|WP.held (λ_=>True) (λlJ w'=>lJ=[(9,.slice (some ⟨g1,0,none⟩) ((over (us.take i++List.replicate (us.length+1 - i) z1) i [u]).length) c1)]/\Own (xR k kp) e w.heap.size No w' (some ⟨g1,0,none⟩) c1 (over (over (us.take i++List.replicate (us.length+1 - i) z1) i [u]) (i+1) (us.drop i))/\KW w2 w' (some g1)) ak ?_ ?_
    · refine vS (fuel:=8) 0 Y ak ak ak (λ_=>(bA Y)) Y<|vS (fuel:=7) 1 Y ak ak ak (λ_=>(bA Y)) Y<|vS (fuel:=6) 2 Y ak ak ak (λ_=>(bA Y)) Y<|vS (fuel:=5) 3 Y ak ak ak (λ_=>(dW Y Y)) Y<|vS (fuel:=4) 4 Y ak ak ak (λ_=>(CO (lo:=i+1) X.u X.z Y Y Y aj aj)) Y<|vS (fuel:=3) 5 Y ak ak ak (λ_=>(bA Y)) Y<|vS (fuel:=2) 6 Y ak ak ak (λ_=>(bA Y)) Y<|vS (fuel:=1) 7 Y ak ak ak (λ_=>(Ez (lo:=i) (xs:=us) X.u X.z Y Y Y aj (axA.fr (a:=b) (kH _)).cap)) Y<|xq (fuel:=0) (rs:=[8]) ak au ?_
      simp only [vV,kY,vW,vX,tq]
      refine⟨_,Y,?_⟩;refine WL.agY (lo:=i+1) (us:=(over (us.take i++List.replicate (us.length+1 - i) z1) i [u])) (vs:=us.drop i) (kp:=kp) Y Y X.u X.z (o2.ext (om w2).drew) (((axA.sl (S':=Any) (λ_ _=>trivial) (λ_ _=>trivial)).cutFrom (lo:=i) aj).ext (om w2).drew) aj Y λw3 v3 o3 g3 z3=>aP trivial<|WH.done [(9,.slice (some ⟨g1,0,none⟩) ((over (us.take i++List.replicate (us.length+1 - i) z1) i [u]).length) c1)] ak ⟨Y,trivial⟩ ⟨Y,o3,⟨g3.os,g3.tape,g3.output,g3.size,g3.block,lG (Y2 _) g3.drawn⟩⟩
    rintro _ w3 ⟨rfl,o3,g3⟩;have hov:over (over (us.take i++List.replicate (us.length+1 - i) z1) i [u]) (i+1) (us.drop i)=us.take i++[u]++us.drop i:=alj us u z1 hi;rw [hov] at o3;refine AZ<|jA (bA Y) Y<|jA (nP Y) Y<|Ba<|je (gL (Rz (v:=.slice (some ⟨g1,0,none⟩) ((over (us.take i++List.replicate (us.length+1 - i) z1) i [u]).length) c1) Y Y Y ?_))
    have hl3:(us.take i++[u]++us.drop i).length=us.length+1:=by simp only [iO,fE,kN,oI,qx]; omega
    exact⟨_,_,by rw [hl2,<- hl3],o3.low (by exact eb.size) (λ_ h=>h),Ext.aiL e1 g2 g3 hz1,.inr ⟨g1,rfl,hz1⟩⟩
  replace hc31:=kg hc31;refine jh ?_;refine AZ<|jA (bA Y) Y<|jA (bA Y) Y<|jA (bA Y) Y<|jA (dW Y Y) Y<|jA (P9 (hi:=us.length+1) X.u X.z Y Y Y aj) Y<|jA (nP Y) Y<|Ba<|aZ<|AZ<|jA (bA Y) Y<|jA (bA Y) Y<|jA (bA Y) Y<|jA (bA Y) Y<|jA (dW Y Y) Y<|jA (CO (lo:=i+1) X.u X.z Y Y Y aj aj) Y ?_
  obtain⟨gA,cA,rfl,aHh,hAb,hAn,hAm,hAl,hAt⟩:=lK.open_ aj;have axB:gv≠gA:=λh=>hgv (by rw [h]; rfl);have hcut:rO (some ⟨gA,0,none⟩) c (i+1) k=some ⟨gA,(i+1)*k,none⟩:=BO aj;refine WL.extern (v:=.bool false) Y Y Y ?_ Y ?_
  · show(callFunc ov #[.slice (some ⟨gv,0,none⟩) 1 1,.slice (rO (some ⟨gA,0,none⟩) c (i+1) k) (us.length+1 - (i+1)) (c - (i+1))]).run prog w=_
    rw [hcut];obtain⟨fn,o1,o2,o3,o4,o5⟩:=X.o;exact R4 (tR:=4) o1 o2 o3 o4 o5 X.u X.z h_v hAb axB (by rw [hAl]; exact Nat.mul_pos aj kp)
  refine jA (gZ Y) Y<|Ba<|bR Y (λ_h=>?_) nofun
  refine WP.held (λ_=>True) (λlJ w'=>lJ=[(0,.slice (some ⟨gA,0,none⟩) (us.length+1) c),(1,aD ((i:Nat):Int)),(2,.slice (some ⟨gv,0,none⟩) 1 1),(7,aD ((1:Nat):Int))]/\Gap e b.heap.size w' (some ⟨gA,0,none⟩) c us i 1/\KW w w' (some gA)/\w'.heap.size=w.heap.size) ak ?_ ?_
  · refine vS (fuel:=8) 0 Y ak ak ak (λ_=>(bA Y)) Y<|vS (fuel:=7) 1 Y ak ak ak (λ_=>(bA Y)) Y<|vS (fuel:=6) 2 Y ak ak ak (λ_=>(bA Y)) Y<|vS (fuel:=5) 3 Y ak ak ak (λ_=>(dW Y Y)) Y<|vS (fuel:=4) 4 Y ak ak ak (λ_=>(CO (lo:=i+1) X.u X.z Y Y Y aj aj)) Y<|vS (fuel:=3) 5 Y ak ak ak (λ_=>(bA Y)) Y<|vS (fuel:=2) 6 Y ak ak ak (λ_=>(bA Y)) Y<|vS (fuel:=1) 7 Y ak ak ak (λ_=>(CO (lo:=i) X.u X.z Y Y Y aj aj)) Y<|xq (fuel:=0) (rs:=[8]) ak au ?_
    simp only [vV,kY,vW,vX,tq]
    refine⟨_,Y,?_⟩;refine WL.aiI (i:=i) (m:=1) (us:=us) (kp:=kp) Y Y X.u X.z (lK.ext (om w).drew) aj aj Y λw1 v1 o1 g1 z1=>aP trivial<|WH.done [(0,.slice (some ⟨gA,0,none⟩) (us.length+1) c),(1,aD ((i:Nat):Int)),(2,.slice (some ⟨gv,0,none⟩) 1 1),(7,aD ((1:Nat):Int))] ak ⟨Y,Y,Y,Y,trivial⟩ ⟨Y,o1,⟨g1.os,g1.tape,g1.output,g1.size,g1.block,lG (Y2 _) g1.drawn⟩,z1⟩
  rintro _ w1 ⟨rfl,o1,g1,z1⟩;refine AZ<|jA (bA Y) Y<|jA (bA Y) Y<|jA (CO (lo:=i) X.u X.z Y Y Y aj aj) Y<|jA (bA Y) Y ?_
  have aCW:=h_v.mod (aiA g1 (λk hk=>by cases hk; rfl)) axB;have hv1:Sl (xR k kp) Any w1 (some ⟨gv,0,none⟩) 1 [u]:=aCW.aeZ (S:=Any) (S2:=No) rfl trivial (λ_ h=>h.elim);refine WL.apO (i:=i) (m:=1) (us:=us) (vs:=[u]) (kp:=kp) (S:=No) Y Y X.u X.z o1 hv1 Y aj aj Y λw2 v2 o2 g2 z2=>?_;have hl2:(us.take i++[u]++us.drop i).length=us.length+1:=by simp only [iO,fE,kN,oI,qx]; omega
  refine fJ (t:=0) (u:=.slice (some ⟨gA,0,none⟩) (us.length+1) c) (v:=.slice (some ⟨gA,0,none⟩) (us.take i++[u]++us.drop i).length c) Y (by rw [hl2])<|Ba<|AZ<|jA (bA rfl) rfl<|jA (nP rfl) rfl<|Ba<|je (gL (Rz (v:=.slice (some ⟨gA,0,none⟩) ((us.take i++[u]++us.drop i).length) c) rfl rfl rfl ?_))
  exact⟨_,_,Y,o2,Zd g1 g2,.inl Y⟩
theorem MB{f ov rr tS e bt:Nat}{nm:String}{α:Type}{τ:Ty α}(X:Zo f ov rr tS e τ.k bt nm){b w:World}{S:Nat->Prop}{rs rest wz:List lC}{A:ah}{c:Nat}{l:List α}{gv:Nat}{x:α}{i:Nat}(H:Hp b S w rs)(s:ou rs (aR τ e A c l) rest)(sv:ou rest (aR τ e (some ⟨gv,0,none⟩) 1 [x]) wz)(hi:i<=l.length)(hn:l.length<=900000) :
    bO prog f #[.slice A l.length c,aD (i:Int),.slice (some ⟨gv,0,none⟩) 1 1] w λv w'=>∃ A' c',v=.slice A' (l.take i++[x]++l.drop i).length c'/\Hp b S w' (aR τ e A' c' (l.take i++[x]++l.drop i)::wz):=by
  obtain⟨us,hU,hr⟩:∃ us:List (Cells τ.k),Own (xR τ.k τ.pos) e b.heap.size No w A c us/\Rel τ (Rd b S rs w) w l us:=H.raw s;have hl:us.length=l.length:=hr.1;have H1:=H.sel s;obtain⟨cs,hb,hx⟩:=Own.atT (H1.ow (.t sv));have hx':τ.R (Rd b S rs w) w x cs:=Ty.sub _ (Rd.perm s.perm.symm) hx;have h0:=ap4 X (u:=⟨cs,Ty.len _ hx,Ty.one _ hx⟩) H.ext hU hb (H.atU s sv rfl) (by rw [hl]; exact hi) (by rw [hl]; exact hn);rw [hl] at h0;refine h0.mono ?_;rintro v w' ⟨A',c',rfl,hO,hg,hat⟩;have h1:=((hr.take i).append (Rel.one (τ:=τ) (S:=Rd b S rs w) (w:=w) (x:=x) (u:=⟨cs,Ty.len _ hx,Ty.one _ hx⟩) hx')).append (hr.drop i);have h2:(us.take i++[(⟨cs,Ty.len _ hx,Ty.one _ hx⟩:Cells τ.k)]++us.drop i).length=(l.take i++[x]++l.drop i).length:=h1.1;refine⟨A',c',by rw [h2],(Hp.back H s hO h1 hg ?_).rm (.t sv)⟩;intro g hg'
  rcases hat with h | ⟨g',h,hle⟩
  · exact .inl (h▸hg')
  · rw [h] at hg'; cases hg'; exact .inr hle
theorem alG:Zo 416 441 442 42 59 4 48 Tryz.f416.name:=⟨func416.trans (aS some ak),⟨_,func441,ak,ak,ak,ak⟩,jf,iw,qG,ak,alA,asG⟩
def UF:=@MB _ _ _ _ _ _ _ _ bH alG
theorem ai3(w:World){l:List aI}(iR:Sl bH S0 w jl jg l)(id:Int)(sum:Int)(hn:l.length<=100000)(hh:∀ x∈l,x.aF.length<=100000) :
    bO prog 354 #[.slice jl l.length jg,aD id,fT sum] w λv w'=>∃(A0:ah)(c0:Nat),v=.tuple #[.slice A0 (((eD l id sum).1).length) c0,aD ((eD l id sum).2)]/\Hp w S0 w' [aR bH 59 A0 c0 ((eD l id sum).1)]:=by
 refine j4 S0 func354 ntmps354 Y λH0=>?_;have EG:=iR.bN;have hf:=BP l;have hlow:=CF (fun(y:aI)=>bn y.ID id) (dG l);refine rg<|iA Y<|bS Y<|bQ Y<|gW Y (SA _ (H0.a iR) aj hh) ?_
 rintro _ w1 ⟨jK,jL,rfl,h1⟩;have K1:=H0.c1 h1;have LC:=(K1.o s0).bN;refine bS Y<|bQ Y<|mv Y<|lF K1 Y (EY _ (K1.o s0) id (zO l) aj) λw2 K2=>mv Y<|xt Y Y<|xt Y Y<|iA Y<|bS Y<|aZ<|cZ<|bQ Y<|ev (fB Y Y)<|mv Y<|iG 3 24 ((decide (id<1))||(decide (1048576<id))) ?_ ?_
 ·cases R6:decide (id<1) with
  | true=>
   refine eB<|eB<|ev (dY Y Y)<|dI Y
  | false=>
   refine bG Y (bA Y) Y<|bG Y (pJ Y Y) Y<|ev (eG Y Y)<|dI Y
 refine bS Y<|bR Y (λhc18=>?_) (λhc18=>?_)
 ·try simp only [eO,dN,bL,bU] at hc18
  refine rg<|iA Y<|bS Y<|LA Y ?_
  have H1:=K2.nil bH 59;have d9:Uy=((eD l id sum).1):=by unfold eD; rw [aO hc18]
  have H2:=(d9▸H1:Hp w S0 w2 (aR bH 59 none 0 ((eD l id sum).1)::[aR bH 59 jK jL (dG l)]));have fG:(1:Int)=((eD l id sum).2):=by unfold eD; rw [aO hc18]
  exact⟨none,0,by rw [<- d9,<- fG] <;> rfl,(H2.rm s1)⟩
 try simp only [eO,dN,bL,bU] at hc18
 refine bQ Y<|bS Y<|bR Y (λhc25=>?_) (λhc25=>?_)
 ·refine rg<|iA Y<|bS Y<|LA Y ?_
  have H3:=K2.nil bH 59;have jQ:Uy=((eD l id sum).1):=by unfold eD; rw [aK aj,aO hc25]
  have H4:=(jQ▸H3:Hp w S0 w2 (aR bH 59 none 0 ((eD l id sum).1)::[aR bH 59 jK jL (dG l)]));have lV:(6:Int)=((eD l id sum).2):=by unfold eD; rw [aK aj,aO hc25]
  exact⟨none,0,by rw [<- jQ,<- lV] <;> rfl,(H4.rm s1)⟩
 refine bQ Y<|ev (eY jf Y)<|ev (pK Y Y)<|bS Y<|kX Y (λhc27=>?_) (λhc27=>?_)
 ·refine rg<|iA Y<|bS Y<|LA Y ?_
  have H5:=K2.nil bH 59;have qU:Uy=((eD l id sum).1):=by unfold eD; rw [aK aj,aK (by rw [hc25]; decide),aO aj]
  have H6:=(qU▸H5:Hp w S0 w2 (aR bH 59 none 0 ((eD l id sum).1)::[aR bH 59 jK jL (dG l)]));have vY:(7:Int)=((eD l id sum).2):=by unfold eD; rw [aK aj,aK (by rw [hc25]; decide),aO aj]
  exact⟨none,0,by rw [<- qU,<- vY] <;> rfl,(H6.rm s1)⟩
 refine zF ?_;refine bQ Y<|mv Y<|mv Y<|mv Y<|ev (iE (vs:=[(0,aD id),(1,aD 1),(2,fT sum)]) (cs:=[aD id,aD 1,fT sum,.slice none 0 0]) Y (by apply Ut))<|yU (τ:=bH) (x:=(⟨id,1,sum,[]⟩:aI)) rfl (by intro _; apply Zj) rfl K2 (λ_ e=>⟨_,_,rfl,(Cb dL _ _).ext e⟩) λg1 w3 K3=>gW rfl (UF (i:=low (fun(y:aI)=>bn y.ID id) (dG l)) K3 s1 s0 aj aj) ?_
 rintro _ w4 ⟨nY,nZ,rfl,K4⟩;refine iA Y<|bS Y<|iI Y ?_
 have xZ:(((dG l).take (low (fun(y:aI)=>bn y.ID id) (dG l))++[(⟨id,1,sum,[]⟩:aI)]++(dG l).drop (low (fun(y:aI)=>bn y.ID id) (dG l))):List aI)=((eD l id sum).1):=by unfold eD; rw [aK aj,aK (by rw [hc25]; decide),aK aj]
 rw [xZ] at K4;have hq8:(0:Int)=((eD l id sum).2):=by unfold eD; rw [aK aj,aK (by rw [hc25]; decide),aK aj]
 exact⟨nY,nZ,by rw [xZ,<- hq8] <;> rfl,K4⟩
theorem ai4(w:World){l:List aI}(iR:Sl bH S0 w jl jg l)(id:Int)(hn:l.length<=100000)(hh:∀ x∈l,x.aF.length<=100000) :
    bO prog 363 #[.slice jl l.length jg,aD id] w λv w'=>∃(A0:ah)(c0:Nat),v=.tuple #[.slice A0 (((iB l id).1).length) c0,aD ((iB l id).2)]/\Hp w S0 w' [aR bH 59 A0 c0 ((iB l id).1)]:=by
 refine j4 S0 func363 ntmps363 Y λH0=>?_;have EG:=iR.bN;have hf:=BP l;have hlow:=CF (fun(y:aI)=>bn y.ID id) (dG l);refine rg<|iA Y<|bS Y<|bQ Y<|gW Y (SA _ (H0.a iR) aj hh) ?_
 rintro _ w1 ⟨jK,jL,rfl,h1⟩;have K1:=H0.c1 h1;have LC:=(K1.o s0).bN;refine bS Y<|bQ Y<|mv Y<|lF K1 Y (EY _ (K1.o s0) id (zO l) aj) λw2 K2=>mv Y<|xt Y Y<|xt Y Y<|iA Y<|bS Y<|aZ<|bQ Y<|ev (gZ Y)<|dn<|bR Y (λhc17=>?_) (λhc17=>?_)
 ·try simp only [eO,dN,bK,dZ,eu,fC,bL,bU] at hc17
  refine rg<|iA Y<|bS Y<|vG Y ?_
  have H1:=K2.nil bH 59;have d9:Uy=((iB l id).1):=by unfold iB; rw [aK (by rw [hc17]; decide)]
  have H2:=(d9▸H1:Hp w S0 w2 (aR bH 59 none 0 ((iB l id).1)::[aR bH 59 jK jL (dG l)]));have fG:(5:Int)=((iB l id).2):=by unfold iB; rw [aK (by rw [hc17]; decide)]
  exact⟨none,0,by rw [<- d9,<- fG] <;> rfl,(H2.rm s1)⟩
 try simp only [eO,dN,bK,dZ,eu,fC,bL,bU] at hc17
 have hc17:hits (fun(y:aI)=>bn y.ID id) (dG l)=true:=hc17;obtain⟨xb,hxb,hkb⟩:=qE (key:=aI.ID) hc17;have UE:=aJ hxb;refine jh ?_;refine bQ Y<|mv Y<|mv Y<|ev (dW Y Y)<|gW Y (Ux (i:=low (fun(y:aI)=>bn y.ID id) (dG l)) (j:=low (fun(y:aI)=>bn y.ID id) (dG l)+1) (K2.sel s0) aj aj) ?_
 rintro _ w3 ⟨rfl,K3⟩;refine iA Y<|bS Y<|iI Y ?_
 have jQ:(((dG l).take (low (fun(y:aI)=>bn y.ID id) (dG l))++(dG l).drop (low (fun(y:aI)=>bn y.ID id) (dG l)+1)):List aI)=((iB l id).1):=by unfold iB; rw [aO hc17]
 rw [jQ] at K3;have lV:(0:Int)=((iB l id).2):=by unfold iB; rw [aO hc17]
 exact⟨jK,jL,by rw [jQ,<- lV] <;> rfl,K3⟩
theorem axC(w:World){l:List aI}(iR:Sl bH S0 w jl jg l)(bq:Int)(hn:l.length<=100000)(hh:∀ x∈l,x.aF.length<=100000) :
    bO prog 350 #[.slice jl l.length jg,aD bq] w λv w'=>∃(A0:ah)(c0:Nat),v=.slice A0 ((ofL l bq).length) c0/\Hp w S0 w' [aR dL 3 A0 c0 (ofL l bq)]:=by
 refine j4 S0 func350 ntmps350 Y λH0=>?_;have hf:=BP l;have hq:=λk=>lX (fun(c:aI)=>c.aF.contains bq) ((dG l).take k)
 simp only [fE] at hq
 refine iY Y<|iY Y<|aZ<|bQ Y<|gW Y (SA _ (H0.a iR) aj hh) ?_
 rintro _ w1 ⟨jK,jL,rfl,h1⟩;have K1:=H0.c1 h1;have LC:=(K1.o s0).bN;refine ev (eY jf Y)<|mv Y<|dn<|cZ ?_
 have H1:=K1.nil dL 3;have d9:Zl=((((dG l).take 0).filter (fun(c:aI)=>c.aF.contains bq)).map aI.ID):=by rfl
 refine kP (t:=5) Y (aS (λz=>Value.slice none (List.length z) 0) d9) ?_;have H2:=H1.nil dL 3;have H3:=(d9▸H2:Hp w S0 w1 (aR dL 3 none 0 ((((dG l).take 0).filter (fun(c:aI)=>c.aF.contains bq)).map aI.ID)::[aR dL 3 none 0 [],aR bH 59 jK jL (dG l)]));refine Lp (H3.cU 0 2) (λl0 rk mJ lJ wJ=>∃(k:Nat)(A5:ah)(c5:Nat),lJ=(5,.slice A5 (((((dG l).take k).filter (fun(c:aI)=>c.aF.contains bq)).map aI.ID).length) c5)::(11,aD ((k:Nat):Int))::l0/\mJ=(dG l).length - k/\k<=(dG l).length/\Hp w S0 wJ (aR dL 3 A5 c5 ((((dG l).take k).filter (fun(c:aI)=>c.aF.contains bq)).map aI.ID)::rk)) ⟨0,none,0,Y,Y,fK _,(H3.rm s1)⟩ Y ?_;rintro _ _ w2 ⟨k,A5,c5,rfl,rfl,hk,K2⟩;refine rg<|ev (fB Y Y)<|dn<|oC Y (λnQ=>?_) (λnQ=>?_)
 ·refine jh ?_;refine aZ<|cZ<|rg ?_
  obtain⟨x1,bP⟩:=bC (xs:=dG l) (i:=k) aj;refine ev (eU (i:=k) jf qG Y Y Y (aJ bP) ((K2.o s1).some_ bP)) ?_;obtain⟨B1,d1,Ak,hi1⟩:=Aj (K2.oi s1 bP);have H4:=K2.push hi1;refine ev (fV (cs:=[aD x1.ID,aD x1.aC,fT x1.Sum,.slice B1 x1.aF.length d1]) pU Y Y (Ib Ak))<|al kZ Y H4 λg1 w3 K3=>sty Y K3 s0 Y λw4 K4=>dn<|rg<|jD g1 3 kD K4 s0 Y<|mv Y<|lF K4 Y (jT _ (K4.s s1).any bq) λw5 K5=>dn<|bR Y (λhc18=>?_) (λhc18=>?_)
  ·refine jr<|mv Y<|jD g1 0 qH K5 s0 Y<|yU (τ:=dL) (x:=x1.ID) Y (by intro _; apply pE) rfl K5 (λ_ _=>rfl) λg2 w6 K6=>ap (ys:=([x1.ID]:List Int)) K6 s3 rfl rfl (K6.o s0) fq KY (by have:=hq k; simp only [jN]; omega) av rfl λnY nZ w7 K7=>iA rfl<|jv<|ig (gB ?_)
   refine jr<|ev (dW Y Y)<|mv Y<|jv ?_
   have fG:((((((dG l).take k).filter (fun(c:aI)=>c.aF.contains bq)).map aI.ID)++([x1.ID]:List Int)):List Int)=((((dG l).take (k+1)).filter (fun(c:aI)=>c.aF.contains bq)).map aI.ID):=by rw [mP bP,hc18]; simp
   refine ji (t:=5) Y (aS (λz=>Value.slice nY (List.length z) nZ) fG) ?_;rw [fG] at K7;exact dQ ⟨(k+1),nY,nZ,Y,Y,aj,(K7.cU 1 3)⟩ rfl aj
  refine zF ?_;refine jr<|ev (dW Y Y)<|mv Y<|jv ?_
  have jQ:(((((dG l).take k).filter (fun(c:aI)=>c.aF.contains bq)).map aI.ID):List Int)=((((dG l).take (k+1)).filter (fun(c:aI)=>c.aF.contains bq)).map aI.ID):=by rw [mP bP,hc18]; simp
  refine ji (t:=5) Y (aS (λz=>Value.slice A5 (List.length z) c5) jQ) ?_;rw [jQ] at K5;exact dQ ⟨(k+1),A5,c5,Y,Y,aj,(K5.cU 0 2)⟩ rfl aj
 refine wQ ?_;refine bQ Y<|bS Y<|iI Y ?_
 have lV:(((((dG l).take k).filter (fun(c:aI)=>c.aF.contains bq)).map aI.ID):List Int)=(ofL l bq):=by rw [iD aj]; rfl
 rw [lV] at K2;exact⟨A5,c5,by rw [lV] <;> rfl,(K2.rm s1)⟩
end Go.Proofs.YtlhnnmlenkahlaaGreat
