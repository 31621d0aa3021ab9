/- Lemmas. -/
import Derived.Test.YtlhnnmlenkahlaaGreatvG29
set_option maxRecDepth 4000
set_option linter.all false
namespace Go.Proofs.YtlhnnmlenkahlaaGreat
open Go.RowKit Go.Proofs.Tryz
def abx:=@underlying24
variable {b w:World}{S:Nat->Prop}{F:List lC}{iT:Nat}{G:GC}{jl:ah}{l:List AItem}
theorem asn:∀ w,(zeroValue 23).run prog w=.ok (.agg #[aD 0,aD 0,aD 0,aD 0,aD 0,aD 0]) w:=ay
theorem FP(a0:Int)(a1:Int)(a2:Int)(a3:Int)(a4:Int)(a5:Int):prog.built 23 [(0,aD a0),(1,aD a1),(2,aD a2),(3,aD a3),(4,aD a4),(5,aD a5)]=some #[aD a0,aD a1,aD a2,aD a3,aD a4,aD a5]:=ak
theorem Ep(a0:Int)(a1:Int)(a2:Int)(a3:Int):prog.built 32 [(0,aD a0),(1,aD a1),(2,aD a2),(3,aD a3)]=some #[aD a0,aD a1,aD a2,aD a3]:=ak
theorem J5(a0:Int)(a1:Int):prog.built 32 [(0,aD a0),(1,aD a1)]=some #[aD a0,aD a1,aD 0,aD 0]:=ak
theorem WJ(a0:Int)(a1:Int)(a2:Int):prog.built 32 [(0,aD a0),(1,aD a1),(2,aD a2)]=some #[aD a0,aD a1,aD a2,aD 0]:=ak
theorem atD:bI prog 28:=ay
def J6(g:Nat)(G:GC):lC:=XH (G.rs g)
theorem Nl(H0:Hp b S w (J6 iT G::F))(it:AItem)(hok:Ok G.pl)(hC:uJ it.C) :
    bO prog 11 #[fP iT,.agg #[aD it.Kind,aD it.A,aD it.B,aD it.C]] w λv w'=>∃(G1:GC),v=aD (ES G.pl it).2/\G1.pl=(ES G.pl it).1/\Hp b S w' (J6 iT G1::F):=by
  refine(awy H0.allOut it hok hC).mono ?_;rintro v w' ⟨G',rfl,h,K⟩;exact⟨G',Y,h,K.allIn⟩
theorem awL(H0:Hp b S w (J6 iT G::F))(bq:Int)  :
    bO prog 37 #[fP iT,aD bq] w λv w'=>v=.bool (M9 G.pl.hs bq)/\Hp b S w' (J6 iT G::F):=by
  obtain⟨A1,c1,A2,c2,A3,c3,A4,c4,A5,c5,A6,c6,A7,c7,m,s,r,aN,gm,dR,hs⟩:=G;have H1:=H0.allOut;refine(aop (w:=w) (H1.mV 1 8) bq).mono ?_;rintro v w' ⟨rfl,K⟩;exact⟨Y,(EO (L:=GC.rs (⟨A1,c1,A2,c2,A3,c3,A4,c4,A5,c5,A6,c6,A7,c7,m,s,r,aN,gm,dR,hs⟩:GC) iT) (K.sel s8))⟩
theorem aso(H0:Hp b S w (J6 iT G::F))(bq:Int)  :
    bO prog 35 #[fP iT,aD bq] w λv w'=>v=aD ((aaU G.pl.hs bq:Nat):Int)/\Hp b S w' (J6 iT G::F):=by
  obtain⟨A1,c1,A2,c2,A3,c3,A4,c4,A5,c5,A6,c6,A7,c7,m,s,r,aN,gm,dR,hs⟩:=G;have H1:=H0.allOut;refine(arN (w:=w) (H1.mV 1 8) bq).mono ?_;rintro v w' ⟨rfl,K⟩;exact⟨Y,(EO (L:=GC.rs (⟨A1,c1,A2,c2,A3,c3,A4,c4,A5,c5,A6,c6,A7,c7,m,s,r,aN,gm,dR,hs⟩:GC) iT) (K.sel s8))⟩
theorem WK(H0:Hp b S w (J6 iT G::F))(bq:Int)(hok:Ok G.pl) :
    bO prog 28 #[fP iT,aD bq] w λv w'=>∃(A0:ah)(c0:Nat),v=.slice A0 ((XO G.pl.hs bq).length) c0/\Hp b S w' (aR bf 132 A0 c0 (XO G.pl.hs bq)::J6 iT G::F):=by
  obtain⟨A1,c1,A2,c2,A3,c3,A4,c4,A5,c5,A6,c6,A7,c7,m,s,r,aN,gm,dR,hs⟩:=G;have H1:=H0.allOut;refine(agI (w:=w) (H1.mV 1 8) bq (λh hg=>lG (aoZ hok.hz _ _ hg).1 au)).mono ?_;rintro v w' ⟨A0,c0,rfl,K⟩;exact⟨A0,c0,Y,((EO (L:=GC.rs (⟨A1,c1,A2,c2,A3,c3,A4,c4,A5,c5,A6,c6,A7,c7,m,s,r,aN,gm,dR,hs⟩:GC) iT) ((K.mV 1 8).sel s9)).sel s1)⟩
theorem apo(H0:Hp b S w (J6 iT G::F))(aL:Int)(hok:Ok G.pl) :
    bO prog 12 #[fP iT,aD aL] w λv w'=>∃(A0:ah)(c0:Nat),v=.tuple #[.slice A0 (((FN G.pl aL).1).length) c0,aD ((FN G.pl aL).2)]/\Hp b S w' (aR gu 5 A0 c0 ((FN G.pl aL).1)::J6 iT G::F):=by
  obtain⟨A1,c1,A2,c2,A3,c3,A4,c4,A5,c5,A6,c6,A7,c7,m,s,r,aN,gm,dR,hs⟩:=G;have H1:=H0.allOut;refine(aoV (w:=w) (H1.mV 1 8) aL hok.hm (atz (aoZ hok.hz))).mono ?_;rintro v w' ⟨A0,c0,rfl,K⟩;exact⟨A0,c0,Y,((EO (L:=GC.rs (⟨A1,c1,A2,c2,A3,c3,A4,c4,A5,c5,A6,c6,A7,c7,m,s,r,aN,gm,dR,hs⟩:GC) iT) ((K.mV 1 8).sel s9)).sel s1)⟩
theorem apq(H0:Hp b S w (J6 iT G::F)) (hok:Ok G.pl) :
    bO prog 18 #[fP iT] w λv w'=>∃(uP:ah)(uQ:Nat)(xU:ah)(xV:Nat)(xW:ah)(xX:Nat),v=.agg #[.slice uP G.pl.s.dX.length uQ,.slice xU G.pl.s.bY.length xV,.slice xW G.pl.s.dM.length xX]/\Hp b S w' (aR iL 107 uP uQ G.pl.s.dX::aR dB 117 xU xV G.pl.s.bY::aR bF 112 xW xX G.pl.s.dM::J6 iT G::F):=by
  obtain⟨A1,c1,A2,c2,A3,c3,A4,c4,A5,c5,A6,c6,A7,c7,m,s,r,aN,gm,dR,hs⟩:=G;have H1:=H0.allOut;refine(aoT (w:=w) (H1.mV 1 8) hok.hb (lG hok.hl au) (lG hok.hd au)).mono ?_;rintro v w' ⟨uP,uQ,xU,xV,xW,xX,rfl,K⟩;exact⟨uP,uQ,xU,xV,xW,xX,Y,((((EO (L:=GC.rs (⟨A1,c1,A2,c2,A3,c3,A4,c4,A5,c5,A6,c6,A7,c7,m,s,r,aN,gm,dR,hs⟩:GC) iT) ((K.mV 3 8).sel s11)).sel s3).sel s3).sel s3)⟩
theorem apr(H0:Hp b S w (J6 iT G::F)) (hok:Ok G.pl) :
    bO prog 16 #[fP iT] w λv w'=>∃(uP:ah)(uQ:Nat)(xU:ah)(xV:Nat)(xW:ah)(xX:Nat),v=.agg #[.slice uP G.pl.m.aY.length uQ,.slice xU G.pl.m.aA.length xV,.slice xW G.pl.m.aQ.length xX]/\Hp b S w' (dP bX uP uQ G.pl.m.aY::dP bH xU xV G.pl.m.aA::dP bZ xW xX G.pl.m.aQ::J6 iT G::F):=by
  obtain⟨A1,c1,A2,c2,A3,c3,A4,c4,A5,c5,A6,c6,A7,c7,m,s,r,aN,gm,dR,hs⟩:=G;have H1:=H0.allOut;refine(aoX (w:=w) (H1.mV 1 8) hok.hm).mono ?_;rintro v w' ⟨uP,uQ,xU,xV,xW,xX,rfl,K⟩;exact⟨uP,uQ,xU,xV,xW,xX,Y,((((EO (L:=GC.rs (⟨A1,c1,A2,c2,A3,c3,A4,c4,A5,c5,A6,c6,A7,c7,m,s,r,aN,gm,dR,hs⟩:GC) iT) ((K.mV 3 8).sel s11)).sel s3).sel s3).sel s3)⟩
theorem aiv(H0:Hp b S w F)(r:ARules)(hr:nM r=true) :
    bO prog 10 #[.agg #[aD r.ku,aD r.l5,aD r.All,aD r.qj,aD r.jy,aD r.fA]] w λv w'=>∃(gc:Nat)(G1:GC),v=.tuple #[fP gc,aD 0]/\G1.pl=pc0 r/\Hp b S w' (J6 gc G1::F):=by
  refine(aoW H0 r hr).mono ?_;rintro v w' ⟨gc,gm,B1,d1,B2,d2,B3,d3,B4,d4,B5,d5,B6,d6,B7,d7,rfl,K⟩;exact⟨gc,⟨B1,d1,B2,d2,B3,d3,B4,d4,B5,d5,B6,d6,B7,d7,mE,sE,r,0,gm,[],[]⟩,Y,Y,EO (L:=GC.rs ⟨B1,d1,B2,d2,B3,d3,B4,d4,B5,d5,B6,d6,B7,d7,mE,sE,r,0,gm,[],[]⟩ gc) (K.sel s8)⟩
def asq(xs:List (BitVec 8)):ByteArray:=(xs.map λb=>(b.toNat:Int)).foldl (λr n=>r.push (UInt8.ofNat n.toNat)) ByteArray.empty
section
open Go
variable {P:Program}{n:Cx}{l:List (Nat × Value)}{w:World}{x y:Operand}
theorem Ev.b2s{A:ah}{c:Nat}{xs:List (BitVec 8)}{t d e:TypeId}(h:Sl gu S w A c xs)(hs:P.underlying t=some (.slice e))(he:P.underlying e=some (.int .u8))(hd:P.underlying d=some .string)(hx:gQ l x=some (.slice A xs.length c)) :
    Ev P n l w (.convert t d x) (.string (asq xs)):=λo ac w' ho ha hw=>by
  unfold execOp; rw [ho]
  cases A with
  | none=>
    have hz:xs=[]:=uI (by have:=h.cap; have:=h.nil rfl; omega);subst hz
    simp only [ha.eval hx,Go.run_convert_bytes_string w' t d e none _ _ hs he hd,jc]
    simp [Conv.bytesToString,asq]
  | some a=>
    have hc:∀ j u,((xs.map λb=>(b.toNat:Int)).map (Value.int .u8))[j]? = some u->w.cell? (a.add j)=some u:=by
      intro j u hu;rw [GU,kI] at hu
      cases hb:xs[j]? with
      | none=>rw [hb] at hu; cases hu
      | some b=>
        rw [hb] at hu;obtain⟨_,cs,h1,h2⟩:=h.rows j b hb;have h3:cs=[.int .u8 (b.toNat:Int)]:=h1;have:=h2 0 u (by rw [h3]; exact hu)
        simpa [gu,Ty.flat,ET] using this
    have hl:=Y6 (P:=P) w' a _ (λj u hu=>hw.cell (hc j u hu))
    simp only [jN] at hl
    have h2:=Go.run_bytesToString (P:=P) w' a xs.length c (xs.map λb=>(b.toNat:Int)) hl
    simp [ha.eval hx,Go.run_convert_bytes_string w' t d e (some a) _ _ hs he hd,h2,asq]
theorem Ev.eqs{a b:ByteArray}{t ty:TypeId}(hx:gQ l x=some (.string a))(hy:gQ l y=some (.string b)):Ev P n l w (.binOp .eql t x y ty) (.bool (a.toList == b.toList)):=
  pI hx hy (eqGuard_at_string ..) λw=>by simp [binOp,Op.stringOp]
end
abbrev zB30x0z:=(⟨10,2,4,2,5,1⟩:ARules)
theorem aps (H0:Hp b S w F)  :
    bO prog 36 #[] w λv w'=>v=.agg #[aD (zB30x0z.ku),aD (zB30x0z.l5),aD (zB30x0z.All),aD (zB30x0z.qj),aD (zB30x0z.jy),aD (zB30x0z.fA)]/\Hp b S w' F:=by
 refine sF func36 ntmps36 Y<|rg<|al asn Y H0 λg1 w1 K1=>dn<|rg<|ev (iE (vs:=[(0,aD 10),(1,aD 2),(2,aD 4),(3,aD 2),(4,aD 5),(5,aD 1)]) (cs:=[aD 10,aD 2,aD 4,aD 2,aD 5,aD 1]) Y (by apply FP))<|sty rfl K1 s0 rfl λw2 K2=>dn<|je (oW rfl ⟨_,_,rfl,⟨_,rfl,jm (cs:=[aD 10,aD 2,aD 4,aD 2,aD 5,aD 1]) OI rfl (K2.x s0)⟩,rfl⟩ ?_)
 have d9:(10:Int)=(zB30x0z.ku):=by first | with_reducible rfl | (simp; done) | omega
 have fG:(2:Int)=(zB30x0z.l5):=by first | with_reducible rfl | (simp; done) | omega
 have jQ:(4:Int)=(zB30x0z.All):=by first | with_reducible rfl | (simp; done) | omega
 have lV:(2:Int)=(zB30x0z.qj):=by first | with_reducible rfl | (simp; done) | omega
 have qU:(5:Int)=(zB30x0z.jy):=by first | with_reducible rfl | (simp; done) | omega
 have vY:(1:Int)=(zB30x0z.fA):=by first | with_reducible rfl | (simp; done) | omega
 exact⟨by rw [<- d9,<- fG,<- jQ,<- lV,<- qU,<- vY] <;> rfl,(K2.rm s0)⟩
abbrev zB30x1z:=ES ((ES ((ES (pc0 zB30x0z) (⟨1,1,1,4⟩:AItem)).1) (⟨3,1,0,0⟩:AItem)).1) (⟨1,2,2,4⟩:AItem)
abbrev zB30x2z:=ES (zB30x1z.1) (⟨3,2,0,0⟩:AItem)
abbrev zB30x3z:=(⟨11,5,1,0⟩:AItem)
theorem aeQ (H0:Hp b S w F)  :
    bO prog 9 #[] w λv w'=>v=.bool true/\Hp b S w' F:=by
 refine sF func9 ntmps9 Y<|iY Y<|rg<|gW Y (aps H0 ) ?_
 rintro _ w1 ⟨rfl,K1⟩;refine gW Y (aiv K1 zB30x0z au) ?_;rintro _ w2 ⟨aIY,aBO,rfl,aEU,K2⟩;have hS2:aBO.pl=pc0 zB30x0z:=by rw [aEU]
 have hI2:Inv aBO.pl 0:=by rw [hS2]; exact atB au
 skip
 refine mv Y<|xt Y Y<|xt Y Y<|iA Y<|bS Y<|aZ<|bQ Y<|ev (rz Y Y)<|mv Y<|bG Y (bA Y) Y<|bG Y (Ev.aj5 underlying26 Y Y) Y<|ev (eG Y Y)<|dn<|bR Y nofun (λ_h=>?_)
 refine jh ?_;refine aZ<|iY Y<|cZ<|Rn 3 (RN.s ?_)
 refine aZ<|bQ Y<|ev (uK Y Y)<|dn<|bR Y (λ_h=>?_) nofun
 refine jh ?_;refine aZ<|cZ<|bQ Y<|mv Y<|mv Y<|ev (iE (vs:=[(0,aD 1),(1,aD 1),(2,aD 1),(3,aD 4)]) (cs:=[aD 1,aD 1,aD 1,aD 4]) Y (by apply Ep))<|gW rfl (Nl K2 (⟨1,1,1,4⟩:AItem) (hI2.ok au) (by simp [uJ])) ?_
 rintro _ w3 ⟨asr,rfl,asu,K3⟩;have hI3:Inv asr.pl 1:=by rw [asu]; exact J4 hI2 _
 have hS3:asr.pl=(ES (pc0 zB30x0z) (⟨1,1,1,4⟩:AItem)).1:=by rw [asu,hS2]
 skip
 refine dn<|jr<|mv Y<|mv Y<|ev (iE (vs:=[(0,aD 3),(1,aD 1)]) (cs:=[aD 3,aD 1,aD 0,aD 0]) Y (by apply J5))<|gW rfl (Nl K3 (⟨3,1,0,0⟩:AItem) (hI3.ok au) (by simp [uJ])) ?_
 rintro _ w4 ⟨aBP,rfl,aBQ,K4⟩;have hI4:Inv aBP.pl 2:=by rw [aBQ]; exact J4 hI3 _
 have hS4:aBP.pl=(ES ((ES (pc0 zB30x0z) (⟨1,1,1,4⟩:AItem)).1) (⟨3,1,0,0⟩:AItem)).1:=by rw [aBQ,hS3]
 skip
 refine jv<|ig (gB ?_)
 refine jr<|mv Y<|ev (dW Y Y)<|iA Y<|jv<|kV.rnd (RN.s ?_)
 refine aZ<|bQ Y<|ev (uK Y Y)<|dn<|bR Y (λ_h=>?_) nofun
 refine jh ?_;refine aZ<|cZ<|bQ Y<|mv Y<|mv Y<|ev (iE (vs:=[(0,aD 1),(1,aD 2),(2,aD 2),(3,aD 4)]) (cs:=[aD 1,aD 2,aD 2,aD 4]) Y (by apply Ep))<|gW rfl (Nl K4 (⟨1,2,2,4⟩:AItem) (hI4.ok au) (by simp [uJ])) ?_
 rintro _ w5 ⟨EP,rfl,akU,K5⟩;have hI5:Inv EP.pl 3:=by rw [akU]; exact J4 hI4 _
 have hS5:EP.pl=zB30x1z.1:=by rw [akU,hS4]
 skip
 refine dn<|jr<|mv Y<|mv Y<|ev (iE (vs:=[(0,aD 3),(1,aD 2)]) (cs:=[aD 3,aD 2,aD 0,aD 0]) Y (by apply J5))<|gW rfl (Nl K5 (⟨3,2,0,0⟩:AItem) (hI5.ok au) (by simp [uJ])) ?_
 rintro _ w6 ⟨awM,rfl,aBR,K6⟩;have hI6:Inv awM.pl 4:=by rw [aBR]; exact J4 hI5 _
 have hS6:awM.pl=zB30x2z.1:=by rw [aBR,hS5]
 skip
 refine jv<|ig (gB ?_)
 refine jr<|mv Y<|ev (dW Y Y)<|iA Y<|jv<|kV.rnd (RN.s ?_)
 refine aZ<|bQ Y<|ev (uK Y Y)<|dn<|bR Y nofun (λ_h=>?_)
 refine wQ ?_;refine bQ Y<|ev (iE (vs:=[(0,aD 11),(1,aD 5),(2,aD 1)]) (cs:=[aD 11,aD 5,aD 1,aD 0]) Y (by apply WJ))<|gW rfl (Nl K6 zB30x3z (hI6.ok au) (by simp [uJ])) ?_
 rintro _ w7 ⟨aBS,rfl,aBT,K7⟩;have hI7:Inv aBS.pl 5:=by rw [aBT]; exact J4 hI6 _
 have hS7:aBS.pl=(ES (zB30x2z.1) zB30x3z).1:=by rw [aBT,hS6]
 skip
 refine bS Y<|bQ Y<|ev (iE (vs:=[(0,aD 9),(1,aD 1)]) (cs:=[aD 9,aD 1,aD 0,aD 0]) Y (by apply J5))<|gW rfl (Nl K7 (⟨9,1,0,0⟩:AItem) (hI7.ok au) (by simp [uJ])) ?_
 rintro _ w8 ⟨agR,rfl,aBU,K8⟩;have hI8:Inv agR.pl 6:=by rw [aBU]; exact J4 hI7 _
 have hS8:agR.pl=(ES ((ES (zB30x2z.1) zB30x3z).1) (⟨9,1,0,0⟩:AItem)).1:=by rw [aBU,hS7]
 skip
 refine dn<|bQ Y<|gW Y (apo K8 5 (hI8.ok au)) ?_
 rintro _ w9 ⟨aqN,aqO,rfl,K9⟩;refine mv Y<|xt Y Y<|xt Y Y<|iA Y<|bS Y<|bQ Y<|ev (iP Y Y) ?_
 have d9:(decide ((ES awM.pl zB30x3z).2=0):Bool)=true:=by rw [hS6]; decide +kernel
 refine fJ (t:=43) Y (aS Value.bool d9)<|mv Y<|bG Y (bA Y) Y<|bG Y (iP Y Y) Y ?_
 have fG:(decide ((FN agR.pl 5).2=0):Bool)=true:=by rw [hS8]; decide +kernel
 refine fJ (t:=46) Y (aS Value.bool fG)<|ev (dY Y Y)<|mv Y<|bG Y (bA Y) Y ?_
 have H1:=K9.fz s0;refine bG Y (Ev.b2s (e:=5) (H1.s s0) ak ak ak Y) Y<|bG Y (Ev.eqs Y Y) Y ?_
 have jQ:(((asq ((FN agR.pl 5).1)).toList == (⟨#[5,0,1,0]⟩:ByteArray).toList):Bool)=true:=by rw [hS8]; decide +kernel
 refine fJ (t:=51) Y (aS Value.bool jQ)<|ev (dY Y Y)<|mv Y<|bG Y (bA Y) Y<|nu Y Y Y Y atD (WK ((H1.sel s0).sel s1) 1 (hI8.ok au)) Y ?_
 rintro _ Nn ⟨LQ,LU,rfl,K10⟩;refine bG Y (eY jo Y) Y<|bG Y (iP Y Y) Y ?_
 have lV:(decide ((((XO agR.pl.hs 1).length:Nat):Int)=1):Bool)=true:=by rw [hS8]; decide +kernel
 refine fJ (t:=57) Y (aS Value.bool lV)<|ev (dY Y Y)<|mv Y<|bG Y (bA Y) Y<|nu Y Y Y Y atD (WK ((K10.sel s0).sel s1) 2 (hI8.ok au)) Y ?_
 rintro _ RG ⟨YB,YC,rfl,tO⟩;refine bG Y (eY jo Y) Y<|bG Y (iP Y Y) Y ?_
 have qU:(decide ((((XO agR.pl.hs 2).length:Nat):Int)=1):Bool)=true:=by rw [hS8]; decide +kernel
 refine fJ (t:=63) Y (aS Value.bool qU)<|ev (dY Y Y)<|mv Y<|bG Y (bA Y) Y<|nu Y Y Y Y azV (awL ((tO.sel s0).sel s1) 1) Y ?_
 rintro _ Qp ⟨rfl,rW⟩;refine bG Y (gZ Y) Y ?_;have vY:((!(M9 agR.pl.hs 1)):Bool)=true:=by rw [hS8]; decide +kernel
 refine fJ (t:=68) Y (aS Value.bool vY)<|ev (dY Y Y)<|bS Y<|iI Y ?_
 exact⟨Y,(rW.cU 0 4)⟩
theorem agS{jg:Nat}(H0:Hp b S w (dP tItem jl jg l::F))(r:ARules)(hr:nM r=false)(hwf:∀ x∈l,uJ x.C) :
    bO prog 8 #[.agg #[aD r.ku,aD r.l5,aD r.All,aD r.qj,aD r.jy,aD r.fA],.slice jl l.length jg] w λv w'=>v=.bool true/\Hp b S w' F:=by
 refine sF func8 ntmps8 Y<|rg<|bx Y Y H0 λg1 w1 K1=>bS Y<|rg<|gW Y (aeQ K1 ) ?_
 rintro _ w2 ⟨rfl,K2⟩;refine bS Y<|rg<|ev (dK OI Y Y (K2.x s0))<|gW Y (ar5 K2 r hr) ?_
 rintro _ w3 ⟨rfl,K3⟩;refine mv Y<|xt Y Y<|xt Y Y<|iA Y<|bS Y<|aZ<|bQ Y<|ev (gZ Y)<|mv Y<|bG Y (bA Y) Y<|bG Y (eY abx Y) Y<|bG Y (pJ Y Y) Y<|ev (eG Y Y)<|mv Y ?_
 cases ajB:decide (150<((l.length:Nat):Int)) with
 | true=>
  refine eB<|eB<|ev (dY Y Y)<|mv Y<|eB<|eB<|ev (dY Y Y)<|dn<|bR Y (λ_h=>?_) nofun
  refine bQ Y<|bS Y<|vG Y ?_
  exact⟨Y,(K3.cU 0 2)⟩
 | false=>
  refine bG Y (bA Y) Y<|bG Y (rz Y Y) Y<|ev (eG Y Y)<|mv Y<|eB<|eB<|ev (dY Y Y)<|dn<|bR Y (λ_h=>?_) nofun
  refine bQ Y<|bS Y<|vG Y ?_
  exact⟨Y,(K3.cU 0 2)⟩
theorem aeR{jg:Nat}(H0:Hp b S w (dP tItem jl jg l::F))(r:ARules)(hr:nM r=true)(hwf:∀ x∈l,uJ x.C) :
    bO prog 8 #[.agg #[aD r.ku,aD r.l5,aD r.All,aD r.qj,aD r.jy,aD r.fA],.slice jl l.length jg] w λv w'=>v=.bool true/\Hp b S w' F:=by
 refine sF func8 ntmps8 Y<|rg<|bx Y Y H0 λg1 w1 K1=>bS Y<|rg<|gW Y (aeQ K1 ) ?_
 rintro _ w2 ⟨rfl,K2⟩;refine bS Y<|rg<|ev (dK OI Y Y (K2.x s0))<|gW Y (aiv K2 r hr) ?_
 rintro _ w3 ⟨asv,asr,rfl,asu,K3⟩;refine mv Y<|xt Y Y<|xt Y Y<|iA Y<|bS Y<|aZ<|bQ Y<|ev (gZ Y)<|mv Y<|bG Y (bA Y) Y<|bG Y (eY abx Y) Y<|bG Y (pJ Y Y) Y<|ev (eG Y Y)<|mv Y ?_
 cases ajB:decide (150<((l.length:Nat):Int)) with
 | true=>
  refine eB<|eB<|ev (dY Y Y)<|mv Y<|eB<|eB<|ev (dY Y Y)<|dn<|bR Y (λ_h=>?_) nofun
  refine bQ Y<|bS Y<|vG Y ?_
  exact⟨Y,(K3.cU 0 3)⟩
 | false=>
  refine bG Y (bA Y) Y<|bG Y (rz Y Y) Y<|ev (eG Y Y)<|mv Y<|bG Y (bA Y) Y<|bG Y (Ev.aj5 underlying26 Y Y) Y<|ev (eG Y Y)<|dn<|bR Y nofun (λ_h=>?_)
  refine jh ?_;refine aZ ?_;have aIZ:l.length<=150:=by have h9:¬ (150:Int)<((l.length:Nat):Int):=kg (by assumption); omega
  refine iY Y<|cZ<|rR (λmJ lJ wJ=>∃(k:Nat)(Gk:GC),lJ=[(1,.slice jl l.length jg),(2,fP g1),(6,fP asv),(8,aD ((k:Nat):Int))]/\mJ=l.length - k/\k<=l.length/\(Gk.pl=agQ (pc0 r) (l.take k))/\Hp b S wJ (J6 asv Gk::dJ g1 23 [aD r.ku,aD r.l5,aD r.All,aD r.qj,aD r.jy,aD r.fA]::dP tItem jl jg l::F)) ⟨0,asr,Y,Y,fK _,by rw [asu]; rfl,K3⟩ rfl ?_
  rintro _ _ w4 ⟨k,Gk,rfl,rfl,hk,hG,K4⟩;refine aZ<|bQ Y<|mv Y<|ev (eY abx Y)<|ev (fB Y Y)<|dn<|kX Y (λJr=>?_) (λJr=>?_)
  ·refine jh ?_;refine aZ<|cZ ?_
   have hI:Inv Gk.pl k:=by rw [hG]; exact asl hr aj
   refine bQ Y<|mv Y<|mv Y ?_
   obtain⟨x1,bP⟩:=bC (xs:=l) (i:=k) aj;refine ev (eU (i:=k) abx aty Y Y Y (aJ bP) ((K4.s s2).some_ bP))<|ev (fV Aa Y Y ((K4.s s2).eX bP))<|gW Y (Nl K4 x1 (hI.ok aj) (hwf _ (dA bP))) ?_
   rintro _ w5 ⟨EP,rfl,akU,K5⟩;have hI2:Inv EP.pl (k+1):=by rw [akU]; exact J4 hI _
   have hr9:EP.pl.r=r:=by rw [akU,aBN,hG,atC]; rfl
   skip
   refine dn<|aZ<|He K5 (λ_ K=>K) (λl0 rk lJ wJ=>lJ=(53,.bool false)::l0/\Hp b S wJ rk) (λhns H1=>?_) ?_
   ·refine kT 0 Y Y H1<|mD 3 4 g1 1 SS s1 Y H1<|mD 5 6 g1 2 ZU s1 Y H1<|O1 1 Y<|gW Y (apq H1 (hI2.ok aj)) ?_
    rintro _ w6 ⟨Dl,Dm,awN,awO,awP,awQ,rfl,K6⟩;have aGY:=(K6.o s0).bN;have aGZ:=(K6.o s1).bN;have aG0:=(K6.o s2).bN;have k1:=(K6.cU 0 3);refine aP k1<|lH 2 Y (λ_ _=>Ev.fld (cs:=[.slice Dl EP.pl.s.dX.length Dm,.slice awN EP.pl.s.bY.length awO,.slice awP EP.pl.s.dM.length awQ]) underlying51 Y Y ahw Y Y) k1<|O1 7 Y<|lF K6 Y (ama _ (K6.o s1) r.l5 r.All (lG hI2.apf au)) λw7 K7=>?_
    have d9:(Da EP.pl.s.bY r.l5 r.All:Bool)=true:=by have h9:=hI2.hl; rw [hr9] at h9; exact h9
    refine fJ (t:=52) Y (aS Value.bool d9) ?_;have k2:=(K7.cU 0 3);refine aP k2<|lH 8 Y (λ_ _=>gZ Y) k2<|Dn ⟨Y,(K7.cU 0 3)⟩ Y
   rintro _ w8 ⟨rfl,K8⟩;refine bR Y nofun (λ_h=>?_);refine jh ?_;refine bQ Y<|gW Y (apr K8 (hI2.ok aj)) ?_
   rintro _ w9 ⟨Du,Dv,Dw,Dx,Dy,Dz,rfl,K9⟩;have azp:=(K9.s s0).bN;have azq:=(K9.s s1).bN;have azr:=(K9.s s2).bN;refine al yG Y K9 λg2 Nn K10=>sty Y K10 s0 Y λRG tO=>dn<|iY Y<|cZ<|rR (λmJ lJ wJ=>∃(kb:Nat),lJ=[(1,.slice jl l.length jg),(2,fP g1),(6,fP asv),(8,aD ((k:Nat):Int)),(9,fP g2),(10,aD ((kb:Nat):Int))]/\mJ=EP.pl.m.aY.length - kb/\kb<=EP.pl.m.aY.length/\Hp b S wJ (dJ g2 45 [.slice Du EP.pl.m.aY.length Dv,.slice Dw EP.pl.m.aA.length Dx,.slice Dy EP.pl.m.aQ.length Dz]::dP bX Du Dv EP.pl.m.aY::dP bH Dw Dx EP.pl.m.aA::dP bZ Dy Dz EP.pl.m.aQ::J6 asv EP::dJ g1 23 [aD r.ku,aD r.l5,aD r.All,aD r.qj,aD r.jy,aD r.fA]::dP tItem jl jg l::F)) ⟨0,Y,Y,fK _,tO⟩ Y ?_
   rintro _ _ Qp ⟨kb,rfl,rfl,hkb,rW⟩;refine aZ<|bQ Y<|jD g2 0 nD rW s0 Y<|ev (eY lM Y)<|ev (fB Y Y)<|dn<|kX Y (λagc=>?_) (λagc=>?_)
   ·refine jh ?_;refine aZ<|cZ ?_
    obtain⟨x2,kK⟩:=bC (xs:=EP.pl.m.aY) (i:=kb) aj;refine He rW (λ_ K=>K) (λl0 rk lJ wJ=>lJ=(77,.bool false)::l0/\Hp b S wJ rk) (λhns H2=>?_) ?_
    ·refine kT 0 Y Y H2<|mD 1 2 g2 0 nD s0 Y H2<|kT 3 Y Y H2<|lH 4 Y (λ_ hK=>eU (i:=kb) lM uL Y Y Y (aJ kK) ((hK.s s1).some_ kK)) H2<|lH 5 Y (λ_ _=>eF lT Y (gI _ _ _)) H2<|lH 6 Y (λ_ hK=>jq jG Y ((hK.s s1).fZ (j:=0) kK Y)) H2<|mD 8 9 g2 0 nD s0 Y H2<|kT 10 Y Y H2<|lH 11 Y (λ_ hK=>eU (i:=kb) lM uL Y Y Y (aJ kK) ((hK.s s1).some_ kK)) H2<|lH 12 Y (λ_ _=>eF NV Y (gI _ _ _)) H2<|lH 13 Y (λ_ hK=>jq jG Y ((hK.s s1).fZ (j:=2) kK Y)) H2<|O1 7 Y<|gW Y (aso ((H2.mV 0 4).sel s4) x2.ID) ?_
     rintro _ WO ⟨rfl,vC⟩;have k3:=((vC.sel s0).mV 1 4);refine aP k3<|lH 14 Y (λ_ _=>pJ Y Y) k3 ?_
     have fG:(decide (x2.lW<((aaU EP.pl.hs x2.ID:Nat):Int)):Bool)=false:=by exact decide_eq_false (by have h9:=apm hI2 (dA kK); omega)
     refine WH.re2 (t:=77) Y (aS Value.bool fG)<|Dn ⟨Y,((vC.sel s0).mV 1 4)⟩ Y
    rintro _ Xv ⟨rfl,vo⟩;refine bR Y nofun (λ_h=>?_);refine zF ?_;refine jr<|mv Y<|ev (dW Y Y)<|iA Y<|jv<|dQ ⟨(kb+1),Y,Y,aj,vo⟩ rfl aj
   refine uU (oz (oz (vK (ig (gB ?_)))));refine jr<|mv Y<|ev (dW Y Y)<|iA Y<|jv<|dQ ⟨(k+1),EP,Y,Y,aj,by rw [fI bP,akT,<- hG]; exact akU,(rW.cU 0 4)⟩ rfl aj
  refine wQ ?_;refine iY Y<|iI Y ?_
  exact⟨Y,(K4.cU 0 3)⟩
theorem climits_true{S0:Nat->Prop}(w:World)(r:ARules){A:ah}{c:Nat}(iR:Sl tItem S0 w A c l)(hwf:∀ x∈l,x.wf) :
    bO prog 8 #[.agg #[aD r.ku,aD r.l5,aD r.All,aD r.qj,aD r.jy,aD r.fA],.slice A l.length c] w λv w'=>v=.bool true/\Hp w S0 w' []:=by
  have H0:=(Hp.init w S0).push ((Hp.init w S0).a iR);have hC:∀ x∈l,uJ x.C:=λx hx=>(hwf x hx).2.2.2
  cases hr:nM r with
  | false=>exact agS (F:=[]) H0 r hr hC
  | true=>exact aeR (F:=[]) H0 r hr hC
end Go.Proofs.YtlhnnmlenkahlaaGreat
