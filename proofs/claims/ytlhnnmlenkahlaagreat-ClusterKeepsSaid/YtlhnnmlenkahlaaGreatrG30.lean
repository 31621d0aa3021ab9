/- Lemmas. -/
import Derived.Test.YtlhnnmlenkahlaaGreatrG29
set_option maxRecDepth 4000
set_option linter.all false
namespace Go.Proofs.YtlhnnmlenkahlaaGreat
open Go.RowKit Go.Proofs.Tryz
def aee:=@underlying26
variable {b w:World}{S:Nat->Prop}{F:List lH}{je:Nat}{G:GC}{jl:ah}{l:List AItem}
theorem awE:∀ w,(zeroValue 23).run prog w=.ok (.agg #[aF 0,aF 0,aF 0,aF 0,aF 0,aF 0]) w:=ay
theorem Il(a0:Int)(a1:Int)(a2:Int)(a3:Int)(a4:Int)(a5:Int):prog.built 23 [(0,aF a0),(1,aF a1),(2,aF a2),(3,aF a3),(4,aF a4),(5,aF a5)]=some #[aF a0,aF a1,aF a2,aF a3,aF a4,aF a5]:=ak
theorem aK6:bF prog 10:=ay
theorem F5(a0:Int)(a1:Int)(a2:Int)(a3:Int):prog.built 32 [(0,aF a0),(1,aF a1),(2,aF a2),(3,aF a3)]=some #[aF a0,aF a1,aF a2,aF a3]:=ak
theorem aK7:bF prog 11:=ay
theorem Nb(a0:Int)(a1:Int):prog.built 32 [(0,aF a0),(1,aF a1)]=some #[aF a0,aF a1,aF 0,aF 0]:=ak
theorem Y5(a0:Int)(a1:Int)(a2:Int):prog.built 32 [(0,aF a0),(1,aF a1),(2,aF a2)]=some #[aF a0,aF a1,aF a2,aF 0]:=ak
theorem aK8:bF prog 12:=ay
theorem ax7:bF prog 28:=ay
theorem aNs:bF prog 9:=ay
theorem aK9:bF prog 18:=ay
theorem aLa:bF prog 16:=ay
def CU(g:Nat)(G:GC):lH:=aak (G.rs g)
theorem J2(H0:Hp b S w (CU je G::F))(it:AItem)(hok:Ok G.pl)(hC:qm it.C) :
    bS prog 11 #[gD je,.agg #[aF it.Kind,aF it.A,aF it.B,aF it.C]] w λv w'=>∃(G1:GC),v=aF (AU G.pl it).2/\G1.pl=(AU G.pl it).1/\Hp b S w' (CU je G1::F):=by
  refine(aAT H0.allOut it hok hC).mono ?_;rintro v w' ⟨G',rfl,h,K⟩;exact⟨G',Y,h,K.allIn⟩
theorem aA2(H0:Hp b S w (CU je G::F))(bE:Int)  :
    bS prog 37 #[gD je,aF bE] w λv w'=>v=.bool (PO G.pl.hs bE)/\Hp b S w' (CU je G::F):=by
  obtain⟨A1,c1,A2,c2,A3,c3,A4,c4,A5,c5,A6,c6,A7,c7,m,s,r,aN,gm,eD,hs⟩:=G;have H1:=H0.allOut;refine(ar4 (w:=w) (H1.mV 1 8) bE).mono ?_;rintro v w' ⟨rfl,K⟩;exact⟨Y,(GA (L:=GC.rs (⟨A1,c1,A2,c2,A3,c3,A4,c4,A5,c5,A6,c6,A7,c7,m,s,r,aN,gm,eD,hs⟩:GC) je) (K.sel s8))⟩
theorem PY(H0:Hp b S w (CU je G::F))(bE:Int)(hok:Ok G.pl) :
    bS prog 28 #[gD je,aF bE] w λv w'=>∃(A0:ah)(c0:Nat),v=.slice A0 ((KF G.pl.hs bE).length) c0/\Hp b S w' (aS bq 132 A0 c0 (KF G.pl.hs bE)::CU je G::F):=by
  obtain⟨A1,c1,A2,c2,A3,c3,A4,c4,A5,c5,A6,c6,A7,c7,m,s,r,aN,gm,eD,hs⟩:=G;have H1:=H0.allOut;refine(ajz (w:=w) (H1.mV 1 8) bE (λh hg=>lV (asM hok.hz _ _ hg).1 au)).mono ?_;rintro v w' ⟨A0,c0,rfl,K⟩;exact⟨A0,c0,Y,((GA (L:=GC.rs (⟨A1,c1,A2,c2,A3,c3,A4,c4,A5,c5,A6,c6,A7,c7,m,s,r,aN,gm,eD,hs⟩:GC) je) ((K.mV 1 8).sel s9)).sel s1)⟩
theorem Y6(H0:Hp b S w (CU je G::F))(aL:Int)(hok:Ok G.pl) :
    bS prog 12 #[gD je,aF aL] w λv w'=>∃(A0:ah)(c0:Nat),v=.tuple #[.slice A0 (((vw G.pl aL).1).length) c0,aF ((vw G.pl aL).2)]/\Hp b S w' (aS gV 5 A0 c0 ((vw G.pl aL).1)::CU je G::F):=by
  obtain⟨A1,c1,A2,c2,A3,c3,A4,c4,A5,c5,A6,c6,A7,c7,m,s,r,aN,gm,eD,hs⟩:=G;have H1:=H0.allOut;refine(asI (w:=w) (H1.mV 1 8) aL hok.hm (ax4 (asM hok.hz))).mono ?_;rintro v w' ⟨A0,c0,rfl,K⟩;exact⟨A0,c0,Y,((GA (L:=GC.rs (⟨A1,c1,A2,c2,A3,c3,A4,c4,A5,c5,A6,c6,A7,c7,m,s,r,aN,gm,eD,hs⟩:GC) je) ((K.mV 1 8).sel s9)).sel s1)⟩
theorem Y7(H0:Hp b S w (CU je G::F)) (hok:Ok G.pl) :
    bS prog 18 #[gD je] w λv w'=>∃(vP:ah)(vQ:Nat)(zC:ah)(zD:Nat)(zF:ah)(zG:Nat),v=.agg #[.slice vP G.pl.s.eF.length vQ,.slice zC G.pl.s.bY.length zD,.slice zF G.pl.s.bL.length zG]/\Hp b S w' (aS iO 107 vP vQ G.pl.s.eF::aS dJ 117 zC zD G.pl.s.bY::aS bG 112 zF zG G.pl.s.bL::CU je G::F):=by
  obtain⟨A1,c1,A2,c2,A3,c3,A4,c4,A5,c5,A6,c6,A7,c7,m,s,r,aN,gm,eD,hs⟩:=G;have H1:=H0.allOut;refine(asG (w:=w) (H1.mV 1 8) hok.hb (lV hok.hl au) (lV hok.hd au)).mono ?_;rintro v w' ⟨vP,vQ,zC,zD,zF,zG,rfl,K⟩;exact⟨vP,vQ,zC,zD,zF,zG,Y,((((GA (L:=GC.rs (⟨A1,c1,A2,c2,A3,c3,A4,c4,A5,c5,A6,c6,A7,c7,m,s,r,aN,gm,eD,hs⟩:GC) je) ((K.mV 3 8).sel s11)).sel s3).sel s3).sel s3)⟩
theorem Y8(H0:Hp b S w (CU je G::F)) (hok:Ok G.pl) :
    bS prog 16 #[gD je] w λv w'=>∃(vP:ah)(vQ:Nat)(zC:ah)(zD:Nat)(zF:ah)(zG:Nat),v=.agg #[.slice vP G.pl.m.aT.length vQ,.slice zC G.pl.m.aA.length zD,.slice zF G.pl.m.aP.length zG]/\Hp b S w' (dP cZ vP vQ G.pl.m.aT::dP bJ zC zD G.pl.m.aA::dP bX zF zG G.pl.m.aP::CU je G::F):=by
  obtain⟨A1,c1,A2,c2,A3,c3,A4,c4,A5,c5,A6,c6,A7,c7,m,s,r,aN,gm,eD,hs⟩:=G;have H1:=H0.allOut;refine(asK (w:=w) (H1.mV 1 8) hok.hm).mono ?_;rintro v w' ⟨vP,vQ,zC,zD,zF,zG,rfl,K⟩;exact⟨vP,vQ,zC,zD,zF,zG,Y,((((GA (L:=GC.rs (⟨A1,c1,A2,c2,A3,c3,A4,c4,A5,c5,A6,c6,A7,c7,m,s,r,aN,gm,eD,hs⟩:GC) je) ((K.mV 3 8).sel s11)).sel s3).sel s3).sel s3)⟩
theorem V4(H0:Hp b S w F)(r:ARules)(hr:lY r=true) :
    bS prog 10 #[.agg #[aF r.jV,aF r.lQ,aF r.All,aF r.nE,aF r.jr,aF r.eP]] w λv w'=>∃(gc:Nat)(G1:GC),v=.tuple #[gD gc,aF 0]/\G1.pl=V3 r/\Hp b S w' (CU gc G1::F):=by
  refine(asJ H0 r hr).mono ?_;rintro v w' ⟨gc,gm,B1,d1,B2,d2,B3,d3,B4,d4,B5,d5,B6,d6,B7,d7,rfl,K⟩;exact⟨gc,⟨B1,d1,B2,d2,B3,d3,B4,d4,B5,d5,B6,d6,B7,d7,mE,sE,r,0,gm,[],[]⟩,Y,Y,GA (L:=GC.rs ⟨B1,d1,B2,d2,B3,d3,B4,d4,B5,d5,B6,d6,B7,d7,mE,sE,r,0,gm,[],[]⟩ gc) (K.sel s8)⟩
def awF(xs:List (BitVec 8)):ByteArray:=(xs.map λb=>(b.toNat:Int)).foldl (λr n=>r.push (UInt8.ofNat n.toNat)) ByteArray.empty
section
open Go
variable {P:Program}{n:Cx}{l:List (Nat × Value)}{w:World}{x y:Operand}
theorem Ev.b2s{A:ah}{c:Nat}{xs:List (BitVec 8)}{t d e:TypeId}(h:Sl gV S w A c xs)(hs:P.underlying t=some (.slice e))(he:P.underlying e=some (.int .u8))(hd:P.underlying d=some .string)(hx:iG l x=some (.slice A xs.length c)) :
    Ev P n l w (.convert t d x) (.string (awF xs)):=λo ac w' ho ha hw=>by
  unfold execOp; rw [ho]
  cases A with
  | none=>
    have hz:xs=[]:=uE (by have:=h.cap; have:=h.nil rfl; omega);subst hz
    simp only [ha.eval hx,Go.run_convert_bytes_string w' t d e none _ _ hs he hd,jF]
    simp [Conv.bytesToString,awF]
  | some a=>
    have hc:∀ j u,((xs.map λb=>(b.toNat:Int)).map (Value.int .u8))[j]? = some u->w.cell? (a.add j)=some u:=by
      intro j u hu;rw [Gz,lK] at hu
      cases hb:xs[j]? with
      | none=>rw [hb] at hu; cases hu
      | some b=>
        rw [hb] at hu;obtain⟨_,cs,h1,h2⟩:=h.rows j b hb;have h3:cs=[.int .u8 (b.toNat:Int)]:=h1;have:=h2 0 u (by rw [h3]; exact hu)
        simpa [gV,Ty.flat,GN] using this
    have hl:=abL (P:=P) w' a _ (λj u hu=>hw.cell (hc j u hu))
    simp only [jY] at hl
    have h2:=Go.run_bytesToString (P:=P) w' a xs.length c (xs.map λb=>(b.toNat:Int)) hl
    simp [ha.eval hx,Go.run_convert_bytes_string w' t d e (some a) _ _ hs he hd,h2,awF]
theorem Ev.eqs{a b:ByteArray}{t ty:TypeId}(hx:iG l x=some (.string a))(hy:iG l y=some (.string b)):Ev P n l w (.binOp .eql t x y ty) (.bool (a.toList == b.toList)):=
  qG hx hy (eqGuard_at_string ..) λw=>by simp [binOp,Op.stringOp]
end
abbrev zB30x0z:=(⟨10,2,4,2,5,1⟩:ARules)
theorem as3 (H0:Hp b S w F)  :
    bS prog 36 #[] w λv w'=>v=.agg #[aF (zB30x0z.jV),aF (zB30x0z.lQ),aF (zB30x0z.All),aF (zB30x0z.nE),aF (zB30x0z.jr),aF (zB30x0z.eP)]/\Hp b S w' F:=by
 refine sV func36 ntmps36 Y<|rg<|al awE Y H0 λg1 w1 K1=>dn<|rg<|ev (iY (vs:=[(0,aF 10),(1,aF 2),(2,aF 4),(3,aF 2),(4,aF 5),(5,aF 1)]) (cs:=[aF 10,aF 2,aF 4,aF 2,aF 5,aF 1]) Y (by apply Il))<|sty rfl K1 s0 rfl λw2 K2=>dn<|jf (qA rfl ⟨_,_,rfl,⟨_,rfl,jL (cs:=[aF 10,aF 2,aF 4,aF 2,aF 5,aF 1]) Hr rfl (K2.x s0)⟩,rfl⟩ ?_)
 have eO:(10:Int)=(zB30x0z.jV):=by first | with_reducible rfl | (simp; done) | omega
 have fQ:(2:Int)=(zB30x0z.lQ):=by first | with_reducible rfl | (simp; done) | omega
 have jW:(4:Int)=(zB30x0z.All):=by first | with_reducible rfl | (simp; done) | omega
 have mH:(2:Int)=(zB30x0z.nE):=by first | with_reducible rfl | (simp; done) | omega
 have rR:(5:Int)=(zB30x0z.jr):=by first | with_reducible rfl | (simp; done) | omega
 have wM:(1:Int)=(zB30x0z.eP):=by first | with_reducible rfl | (simp; done) | omega
 exact⟨by rw [<- eO,<- fQ,<- jW,<- mH,<- rR,<- wM] <;> rfl,(K2.rm s0)⟩
abbrev zB30x1z:=AU ((AU ((AU (V3 zB30x0z) (⟨1,1,1,4⟩:AItem)).1) (⟨3,1,0,0⟩:AItem)).1) (⟨1,2,2,4⟩:AItem)
abbrev zB30x2z:=AU (zB30x1z.1) (⟨3,2,0,0⟩:AItem)
abbrev zB30x3z:=(⟨11,5,1,0⟩:AItem)
theorem Io (H0:Hp b S w F)  :
    bS prog 9 #[] w λv w'=>v=.bool true/\Hp b S w' F:=by
 refine sV func9 ntmps9 Y<|iZ Y<|rg<|gX Y (as3 H0 ) ?_
 rintro _ w1 ⟨rfl,K1⟩;refine gX Y (V4 K1 zB30x0z au) ?_;rintro _ w2 ⟨aNt,aFQ,rfl,aIQ,K2⟩;have hS2:aFQ.pl=V3 zB30x0z:=by rw [aIQ]
 have hI2:Inv aFQ.pl 0:=by rw [hS2]; exact ax6 au
 skip
 refine mv Y<|xt Y Y<|xt Y Y<|iI Y<|bU Y<|aW<|bQ Y<|ev (nQ Y Y)<|mv Y<|bn Y (bf Y) Y<|bn Y (Ev.agA aee Y Y) Y<|ev (dL Y Y)<|dn<|bK Y nofun (λ_h=>?_)
 refine jm ?_;refine aW<|iZ Y<|cB<|Rn 3 (RN.s ?_)
 refine aW<|bQ Y<|ev (vS Y Y)<|dn<|bK Y (λ_h=>?_) nofun
 refine jm ?_;refine aW<|cB<|bQ Y<|mv Y<|mv Y<|ev (iY (vs:=[(0,aF 1),(1,aF 1),(2,aF 1),(3,aF 4)]) (cs:=[aF 1,aF 1,aF 1,aF 4]) Y (by apply F5))<|gX rfl (J2 K2 (⟨1,1,1,4⟩:AItem) (hI2.ok au) (by simp [qm])) ?_
 rintro _ w3 ⟨ahp,rfl,Y9,K3⟩;have hI3:Inv ahp.pl 1:=by rw [Y9]; exact GJ hI2 _
 have hS3:ahp.pl=(AU (V3 zB30x0z) (⟨1,1,1,4⟩:AItem)).1:=by rw [Y9,hS2]
 skip
 refine dn<|jy<|mv Y<|mv Y<|ev (iY (vs:=[(0,aF 3),(1,aF 1)]) (cs:=[aF 3,aF 1,aF 0,aF 0]) Y (by apply Nb))<|gX rfl (J2 K3 (⟨3,1,0,0⟩:AItem) (hI3.ok au) (by simp [qm])) ?_
 rintro _ w4 ⟨aFR,rfl,aFS,K4⟩;have hI4:Inv aFR.pl 2:=by rw [aFS]; exact GJ hI3 _
 have hS4:aFR.pl=(AU ((AU (V3 zB30x0z) (⟨1,1,1,4⟩:AItem)).1) (⟨3,1,0,0⟩:AItem)).1:=by rw [aFS,hS3]
 skip
 refine jA<|iE (gG ?_)
 refine jy<|mv Y<|ev (dO Y Y)<|iI Y<|jA<|l8.rnd (RN.s ?_)
 refine aW<|bQ Y<|ev (vS Y Y)<|dn<|bK Y (λ_h=>?_) nofun
 refine jm ?_;refine aW<|cB<|bQ Y<|mv Y<|mv Y<|ev (iY (vs:=[(0,aF 1),(1,aF 2),(2,aF 2),(3,aF 4)]) (cs:=[aF 1,aF 2,aF 2,aF 4]) Y (by apply F5))<|gX rfl (J2 K4 (⟨1,2,2,4⟩:AItem) (hI4.ok au) (by simp [qm])) ?_
 rintro _ w5 ⟨Nc,rfl,Un,K5⟩;have hI5:Inv Nc.pl 3:=by rw [Un]; exact GJ hI4 _
 have hS5:Nc.pl=zB30x1z.1:=by rw [Un,hS4]
 skip
 refine dn<|jy<|mv Y<|mv Y<|ev (iY (vs:=[(0,aF 3),(1,aF 2)]) (cs:=[aF 3,aF 2,aF 0,aF 0]) Y (by apply Nb))<|gX rfl (J2 K5 (⟨3,2,0,0⟩:AItem) (hI5.ok au) (by simp [qm])) ?_
 rintro _ w6 ⟨ig,rfl,J3,K6⟩;have hI6:Inv ig.pl 4:=by rw [J3]; exact GJ hI5 _
 have hS6:ig.pl=zB30x2z.1:=by rw [J3,hS5]
 skip
 refine jA<|iE (gG ?_)
 refine jy<|mv Y<|ev (dO Y Y)<|iI Y<|jA<|l8.rnd (RN.s ?_)
 refine aW<|bQ Y<|ev (vS Y Y)<|dn<|bK Y nofun (λ_h=>?_)
 refine wE ?_;refine bQ Y<|ev (iY (vs:=[(0,aF 11),(1,aF 5),(2,aF 1)]) (cs:=[aF 11,aF 5,aF 1,aF 0]) Y (by apply Y5))<|gX rfl (J2 K6 zB30x3z (hI6.ok au) (by simp [qm])) ?_
 rintro _ w7 ⟨aFT,rfl,aFU,K7⟩;have hI7:Inv aFT.pl 5:=by rw [aFU]; exact GJ hI6 _
 have hS7:aFT.pl=(AU (zB30x2z.1) zB30x3z).1:=by rw [aFU,hS6]
 skip
 refine bU Y<|bQ Y<|ev (iY (vs:=[(0,aF 9),(1,aF 1)]) (cs:=[aF 9,aF 1,aF 0,aF 0]) Y (by apply Nb))<|gX rfl (J2 K7 (⟨9,1,0,0⟩:AItem) (hI7.ok au) (by simp [qm])) ?_
 rintro _ w8 ⟨ajH,rfl,aFV,K8⟩;have hI8:Inv ajH.pl 6:=by rw [aFV]; exact GJ hI7 _
 have hS8:ajH.pl=(AU ((AU (zB30x2z.1) zB30x3z).1) (⟨9,1,0,0⟩:AItem)).1:=by rw [aFV,hS7]
 skip
 refine dn<|bQ Y<|gX Y (Y6 K8 5 (hI8.ok au)) ?_
 rintro _ w9 ⟨avd,ave,rfl,K9⟩;refine mv Y<|xt Y Y<|xt Y Y<|iI Y<|bU Y<|bQ Y<|ev (iA Y Y) ?_
 have eO:(decide ((AU ig.pl zB30x3z).2=0):Bool)=true:=by rw [hS6]; decide +kernel
 refine fU (t:=43) Y (aR Value.bool eO)<|mv Y<|bn Y (bf Y) Y<|bn Y (iA Y Y) Y ?_
 have fQ:(decide ((vw ajH.pl 5).2=0):Bool)=true:=by rw [hS8]; decide +kernel
 refine fU (t:=46) Y (aR Value.bool fQ)<|ev (dH Y Y)<|mv Y<|bn Y (bf Y) Y ?_
 have H1:=K9.fz s0;refine bn Y (Ev.b2s (e:=5) (H1.s s0) ak ak ak Y) Y<|bn Y (Ev.eqs Y Y) Y ?_
 have jW:(((awF ((vw ajH.pl 5).1)).toList == (⟨#[5,0,1,0]⟩:ByteArray).toList):Bool)=true:=by rw [hS8]; decide +kernel
 refine fU (t:=51) Y (aR Value.bool jW)<|ev (dH Y Y)<|mv Y<|bn Y (bf Y) Y<|oh Y Y Y Y ax7 (PY ((H1.sel s0).sel s1) 1 (hI8.ok au)) Y ?_
 rintro _ Oz ⟨LK,LP,rfl,K10⟩;refine bn Y (eU jK Y) Y<|bn Y (iA Y Y) Y ?_
 have mH:(decide ((((KF ajH.pl.hs 1).length:Nat):Int)=1):Bool)=true:=by rw [hS8]; decide +kernel
 refine fU (t:=57) Y (aR Value.bool mH)<|ev (dH Y Y)<|mv Y<|bn Y (bf Y) Y<|oh Y Y Y Y ax7 (PY ((K10.sel s0).sel s1) 2 (hI8.ok au)) Y ?_
 rintro _ Ti ⟨aa7,aa8,rfl,tZ⟩;refine bn Y (eU jK Y) Y<|bn Y (iA Y Y) Y ?_
 have rR:(decide ((((KF ajH.pl.hs 2).length:Nat):Int)=1):Bool)=true:=by rw [hS8]; decide +kernel
 refine fU (t:=63) Y (aR Value.bool rR)<|ev (dH Y Y)<|mv Y<|bn Y (bf Y) Y<|oh Y Y Y Y aDZ (aA2 ((tZ.sel s0).sel s1) 1) Y ?_
 rintro _ Sm ⟨rfl,sJ⟩;refine bn Y (iB Y) Y ?_;have wM:((!(PO ajH.pl.hs 1)):Bool)=true:=by rw [hS8]; decide +kernel
 refine fU (t:=68) Y (aR Value.bool wM)<|ev (dH Y Y)<|bU Y<|jc Y ?_
 exact⟨Y,(sJ.cU 0 4)⟩
end Go.Proofs.YtlhnnmlenkahlaaGreat
