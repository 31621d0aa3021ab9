/- Lemmas. -/
import Derived.WalkKit
import Derived.WalkSpells
import Derived.WalkLawsBesides
import Derived.Deep.Quiet
import Derived.Deep.LoopGhost
import Derived.Sort.LoopGhostIn
import Derived.RangeFuncLeaves
import Derived.OrdersIn
import Derived.Deep.AppendLies
import Derived.Lib.SliceRun
import Derived.Maps.AppendAt
import Derived.OrdersHeld
import Derived.Laws.CopyRow
import Derived.Laws.IdiomCopy
import Derived.Lib.Overlaps
import Derived.Lib.AppendZerosOnto
import Derived.RangeFuncSeq
import Derived.Test.YtlhnnmlenkahlaaGreathG12
set_option maxRecDepth 4000
set_option linter.all false
namespace Go.Proofs.YtlhnnmlenkahlaaGreat
open Go.RowKit Go.Proofs.Tryz
def nK:=@underlying87
def xI:=@underlying30
def L6:=@Decidable.not_not
def aAO:=@List.length_singleton
def oo:=@List.mem_cons_self
section
variable {c:PC}{it:AItem}{b w:World}{S:Nat->Prop}{F:List lG}{iI:Nat}{h:oZ}
theorem akH:Size prog 32 4:=ay
theorem CW:Z9 prog 32 4:=⟨λ_=>by kernel_rfl,akH⟩
theorem aE2:bJ prog 39:=ay
theorem aE3:bJ prog 40:=ay
theorem aE4:bJ prog 41:=ay
theorem aE5:bJ prog 42:=ay
theorem asi:bJ prog 43:=ay
theorem aE6:bJ prog 44:=ay
theorem aE7:bJ prog 46:=ay
theorem aE8:bJ prog 47:=ay
theorem aE9:bJ prog 48:=ay
theorem aFa:bJ prog 49:=ay
theorem aFb:bJ prog 50:=ay
theorem aFc:bJ prog 51:=ay
theorem aFd:bJ prog 52:=ay
theorem awd:∀ w,(zeroValue 30).run prog w=.ok (.nilFunc) w:=ay
structure GC where
  A1:Option Addr
  c1:Nat
  A2:Option Addr
  c2:Nat
  A3:Option Addr
  c3:Nat
  A4:Option Addr
  c4:Nat
  A5:Option Addr
  c5:Nat
  A6:Option Addr
  c6:Nat
  A7:Option Addr
  c7:Nat
  m:dh
  s:gG
  r:ARules
  aJ:Int
  gm:Nat
  bR:List aK
  hs:kG
def GC.pl(G:GC):PC:=⟨G.m,G.s,G.r,G.aJ,G.bR,kR G.hs⟩
def GC.rs(G:GC)(iI:Nat):List lG:=[jL G.gm G.hs,GA iI G.A1 G.c1 G.A2 G.c2 G.A3 G.c3 G.A4 G.c4 G.A5 G.c5 G.A6 G.c6 G.A7 G.c7 G.m G.s G.r G.aJ G.gm G.bR,dH bW G.A1 G.c1 G.m.aL,dH bD G.A2 G.c2 G.m.aA,dH dw G.A3 G.c3 G.m.aT,dH iK G.A4 G.c4 G.s.cZ,dH dz G.A5 G.c5 G.s.bI,dH bg G.A6 G.c6 G.s.bA,aQ bg 112 G.A7 G.c7 G.bR]
instance Ap.g{iI:Nat}{F:List lG}{A1:ah}{c1:Nat}{A2:ah}{c2:Nat}{A3:ah}{c3:Nat}{A4:ah}{c4:Nat}{A5:ah}{c5:Nat}{A6:ah}{c6:Nat}{A7:ah}{c7:Nat}{m:dh}{s:gG}{r:ARules}{aJ:Int}{gm:Nat}{bR:List aK}{hs:kG}:Ap (GC.rs ⟨A1,c1,A2,c2,A3,c3,A4,c4,A5,c5,A6,c6,A7,c7,m,s,r,aJ,gm,bR,hs⟩ iI) F (jL gm hs::GA iI A1 c1 A2 c2 A3 c3 A4 c4 A5 c5 A6 c6 A7 c7 m s r aJ gm bR::dH bW A1 c1 m.aL::dH bD A2 c2 m.aA::dH dw A3 c3 m.aT::dH iK A4 c4 s.cZ::dH dz A5 c5 s.bI::dH bg A6 c6 s.bA::aQ bg 112 A7 c7 bR::F):=⟨rfl⟩
structure Ok (c:PC):Prop where
  hm:mG c.m=true
  hr:l5 c.r=true
  hb:c.s.cZ.length<=1000
  hl:c.s.bI.length<=64
  hd:c.s.bA.length<=50000
  hu:0<=c.aJ/\c.aJ<=549755813888
  hw:c.bR.length<=500000
  hz:∀ z h,dY z c.hs=some h->h.l.length<=900/\∀ k,(qA k h.d).length<=1000
  hN:∀ n∈c.m.aL,(dY n.ID c.hs).isSome=true
theorem asj{hs:kG}(h:∀ z h,dY z (kR hs)=some h->h.l.length<=900/\∀ k,(qA k h.d).length<=1000):∀ z h,dY z hs=some h->h.l.length<=900/\∀ k,(gD k h.es).2.2.length<=1000:=λz g hg=>by
  have h1:=h z g.pl (by rw [jA,hg]; rfl);exact⟨h1.1,λk=>by have:=h1.2 k; rwa [show g.pl.d=LX g.es from rfl,Nh] at this⟩
theorem axU{hs:kG}(h:∀ z h,dY z hs=some h->h.l.length<=900/\∀ k,(gD k h.es).2.2.length<=1000):hSz hs:=λz g hg=>⟨lI (h z g hg).1 au,(h z g hg).2⟩
theorem aFe{m:dh}{hs:kG}(h:∀ n∈m.aL,(dY n.ID (kR hs)).isSome=true):∀ n∈m.aL,(dY n.ID hs).isSome=true:=λn hn=>by
  have:=h n hn
  rwa [jA,Option.isSome_map] at this
theorem asl{r:ARules}{aJ:Int}{hs:kN}(h1:r=c.r)(h2:aJ=c.aJ)(h3:hs=c.hs):(⟨c.m,c.s,r,aJ,c.bR,hs⟩:PC)=c:=by subst h1 h2 h3; rfl
theorem aAP{s:gG}{r:ARules}{aJ:Int}{bR:List aK}{hs:kN}(h0:s=c.s)(h1:r=c.r)(h2:aJ=c.aJ)(h4:bR=c.bR)(h3:hs=c.hs):(⟨c.m,s,r,aJ,bR,hs⟩:PC)=c:=by subst h0 h1 h2 h4 h3; rfl
theorem TV(c:PC)(it:AItem):(lC c it).1.r=c.r/\(lC c it).1.aJ=c.aJ:=by
  unfold lC
  split
  · exact⟨Y,Y⟩
  · split
    · exact⟨Y,Y⟩
    · split
      · exact⟨Y,Y⟩
      · split
        · have h:=akD { c with bR:=c.bR.take it.A.toNat++c.bR.drop (it.A.toNat+1) }
          exact⟨(h _).2.2,(h _).2.1⟩
        · exact⟨Y,Y⟩
theorem adG(c:PC)(it:AItem):(sF c it).1.s=c.s/\(sF c it).1.r=c.r/\(sF c it).1.aJ=c.aJ/\(sF c it).1.bR=c.bR:=by
  unfold sF
  split
  · exact⟨Y,Y,Y,Y⟩
  · split <;> exact⟨rfl,rfl,rfl,rfl⟩
theorem aJ5(h:it.Kind=0):oC c it=({ c with aJ:=if it.A<0∨100<it.A then c.aJ else c.aJ+it.A },if it.A<0∨100<it.A then 1 else 0):=by
  unfold oC; rw [aS h]; split <;> rfl
theorem aJ6(h:it.Kind=1):oC c it=avX c it:=by unfold oC; rw [h]; rfl
theorem aJ7(h:it.Kind=2):oC c it=({ c with m:=tY c.m ⟨0,0,2,it.A,it.B,0⟩ },knE c.m ⟨0,0,2,it.A,it.B,0⟩):=by unfold oC; rw [h]; rfl
theorem aJ8(h:it.Kind=5):oC c it=(uY c,0):=by unfold oC; rw [h]; rfl
theorem ai5(h:it.Kind=6∨it.Kind=7∨it.Kind=8):oC c it=lC c it:=by
  unfold oC; rw [aP aj,aP aj,aP aj,aP aj,aS h]
theorem aFf(h:it.Kind=11):oC c it=sF c it:=by unfold oC; rw [h]; rfl
theorem aFg(h:it.Kind<0∨14<it.Kind):oC c it=(c,1):=by
  unfold oC; rw [aP aj,aP aj,aP aj,aP aj,aP aj,aP aj,aS h]
theorem asn(h:it.Kind=3∨it.Kind=4∨it.Kind=9∨it.Kind=10∨it.Kind=12∨it.Kind=13∨it.Kind=14):oC c it=match dY it.A c.hs with
    | none=>(c,5)
    | some h=>if uZ it.Kind=some (!h.up) then(c,8) else J6 c it h:=by
  unfold oC; rw [aP aj,aP aj,aP aj,aP aj,aP aj,aP aj,aP aj]; rfl
theorem JG(h:it.Kind=3∨it.Kind=4∨it.Kind=9∨it.Kind=10∨it.Kind=12∨it.Kind=13∨it.Kind=14)(hg:dY it.A c.hs=none):oC c it=(c,5):=by rw [asn h,hg]
theorem OZ(h:it.Kind=3∨it.Kind=4∨it.Kind=9∨it.Kind=10∨it.Kind=12∨it.Kind=13∨it.Kind=14){g:oZ}(hg:dY it.A c.hs=some g)(hn:uZ it.Kind=some (!g.up)):oC c it=(c,8):=by rw [asn h,hg]; exact aS hn
theorem Y3(h:it.Kind=3∨it.Kind=4∨it.Kind=9∨it.Kind=10∨it.Kind=12∨it.Kind=13∨it.Kind=14){g:oZ}(hg:dY it.A c.hs=some g)(hn:¬ uZ it.Kind=some (!g.up)):oC c it=J6 c it g:=by rw [asn h,hg]; exact aP hn
theorem O4{fd:FuncId}{pa qa:Array Value}{gv:Nat}(H0:Hp b S w F)(needs:Bool)(up:Bool) :
    bO prog 45 #[gI gv,.bool needs,.bool up,.func (.func fd) pa qa] w λv w'=>∃(ga gb gd ge:Nat),v=.func (.func 106) #[] #[gI ga,gI gb,gI gd,gI ge]/\Hp b S w' (dW ga 26 [gI gv]::dW gb 4 [.bool needs]::dW gd 4 [.bool up]::dW ge 86 [.func (.func fd) pa qa]::F):=by
 refine rU func45 ntmps45 Y<|rg<|bx Y Y H0 λg1 w1 K1=>bx Y Y K1 λg2 w2 K2=>bx Y Y K2 λg3 w3 K3=>bx Y Y K3 λg4 w4 K4=>bX Y<|rg<|ev (rE Y)<|bX Y<|iP Y ?_
 exact⟨g1,g2,g3,g4,Y,((((K4.sel s0).sel s1).sel s2).sel s3)⟩
abbrev adH(iE:Nat)(je:ah)(wP:Nat)(zZ:ah)(Fh:Nat)(QA:ah)(UH:Nat)(ZI:ah)(y8z:Nat)(y9z:ah)(Rk:Nat)(Rl:ah)(Ro:Nat)(Rq:ah)(Rt:Nat)(DW:dh)(DX:gG)(adi:ARules)(adk:Int)(Ru:Nat)(Rw:List aK)(adl:kG)(adn:List lG):=GA iE je wP zZ Fh QA UH ZI y8z y9z Rk Rl Ro Rq Rt DW DX adi adk Ru Rw::dH bW je wP DW.aL::dH bD zZ Fh DW.aA::dH dw QA UH DW.aT::dH iK ZI y8z DX.cZ::dH dz y9z Rk DX.bI::dH bg Rl Ro DX.bA::aQ bg 112 Rq Rt Rw::jL Ru adl::adn
theorem JH{fd:FuncId}{g4 g5 g6 g7:Nat}{needs up:Bool}{A1 A2 A3 A4 A5 A6 A7:ah}{c1 c2 c3 c4 c5 c6 c7 gm:Nat}{m:dh}{s:gG}{r:ARules}{aJ:Int}{bR:List aK}{hs:kG}(H0:Hp b S w (dW g4 26 [gI iI]::dW g5 4 [.bool needs]::dW g6 4 [.bool up]::dW g7 86 [.func (.func fd) #[gI iI] #[]]::GA iI A1 c1 A2 c2 A3 c3 A4 c4 A5 c5 A6 c6 A7 c7 m s r aJ gm bR::dH bW A1 c1 m.aL::dH bD A2 c2 m.aA::dH dw A3 c3 m.aT::dH iK A4 c4 s.cZ::dH dz A5 c5 s.bI::dH bg A6 c6 s.bA::aQ bg 112 A7 c7 bR::jL gm hs::F))(it:AItem)(qd:bJ prog fd){R:Value->World->Prop}
    (h5:dY it.A hs=none->∀ w',Hp b S w' (adH iI A1 c1 A2 c2 A3 c3 A4 c4 A5 c5 A6 c6 A7 c7 m s r aJ gm bR hs F)->R (aI 5) w')
    (h8:∀ h,dY it.A hs=some h->needs=true->(h.up == up)=false->∀ w',Hp b S w' (adH iI A1 c1 A2 c2 A3 c3 A4 c4 A5 c5 A6 c6 A7 c7 m s r aJ gm bR hs F)->R (aI 8) w')
    (hd:∀ h,dY it.A hs=some h->¬ (needs=true/\(h.up == up)=false)->∀ w',Hp b S w' (adH iI A1 c1 A2 c2 A3 c3 A4 c4 A5 c5 A6 c6 A7 c7 m s r aJ gm bR hs F)->bO prog fd #[gI iI,.agg #[aI it.Kind,aI it.A,aI it.B,aI it.C],gI h.gh] w' R) :
    bO prog 106 #[.agg #[aI it.Kind,aI it.A,aI it.B,aI it.C],gI g4,gI g5,gI g6,gI g7] w R:=by
 refine rU func106 ntmps106 Y<|rg<|bx Y Y H0 λg1 w1 K1=>bX Y ?_
 rcases hg1:dY it.A hs with _ | ⟨gh1,gs1,Zl,Ah1,ch1,YN,Zn,l1,es1⟩
 ·refine qU ak ak<|bB (eF ar3 Y (K1.x s1) Y) Y<|bB (d9 Y) Y<|bB (fQ u6 Y Y) Y<|bB (eF UQ Y (K1.x s5) Y) Y<|bB (fQ om Y Y) Y<|bB (eF jN Y (K1.x s0) Y) Y<|bB (Ev.hN K1 s13 hg1 EY zi vS Y Y) Y<|bB (pz Y) Y<|qV λw2 e2=>?_
  have K2:=K1.grow e2;refine aY<|cB<|bQ Y<|ev (Ev.amY Dh Y Y)<|bX Y<|bP Y (λ_h=>?_) nofun
  refine iT Y<|Xb Y ?_
  exact h5 hg1 _ (K2.cU 0 5)
 ·refine qU ak ak<|bB (eF ar3 Y (K1.x s1) Y) Y<|bB (d9 Y) Y<|bB (fQ u6 Y Y) Y<|bB (eF UQ Y (K1.x s5) Y) Y<|bB (fQ om Y Y) Y<|bB (eF jN Y (K1.x s0) Y) Y<|bB (Ev.hS K1 s13 hg1 EY zi vS Y Y) Y<|bB (pz Y) Y<|qV λw3 e3=>?_
  have K3:=K1.grow e3;refine aY<|cB<|bQ Y<|ev (Ev.amY Dh Y Y)<|bX Y<|bP Y nofun (λ_h=>?_)
  refine qU ak ak<|bB (eF aiO Y (K3.x s2) Y) Y<|bB (bq Y) Y<|qY 7 27 (needs&&(!(YN == up))) ?_ ?_
  ·cases abG:needs with
   | true=>
    refine dX Y (bq Y) Y<|dX Y (d9 Y) Y<|dX Y (fQ Ju Y Y) Y<|dX Y (eF aiO Y (K3.EZ s13 hg1) Y) Y<|dX Y (eF aiO Y (K3.x s3) Y) Y<|dX Y (Ev.neb Sm Y Y) Y<|bB (dM Y Y) Y<|jY Y
   | false=>
    refine dI Y Y Y<|dI Y Y Y<|dI Y Y Y<|dI Y Y Y<|dI Y Y Y<|dI Y Y Y<|bB (dS Y Y) Y<|jY Y
  refine bB (pz Y) Y<|qV λw4 e4=>?_
  have K4:=K3.grow e4;refine bP Y (λhc18=>?_) (λhc18=>?_)
  ·refine iT Y<|Xb Y ?_
   exact h8 _ hg1 (by revert hc18; cases needs <;> simp) (by revert hc18; cases needs <;> simp) _ (K4.cU 0 5)
  refine Ci ?_;refine rg<|nL K4 s4 Y<|ev (fK CW Y Y (K4.x s0))<|mv Y<|Jk Y Y Y qd (hd _ hg1 (λh9=>by obtain⟨h10,h11⟩:=h9; simp_all) _ (K4.cU 0 5)) rfl ?_
  intro v9 w5 zG;refine bX Y<|iP Y ?_
  exact zG
theorem awe(k:Int):k=0∨k=1∨k=2∨k=5∨k=6∨k=7∨k=8∨k=11∨k=3∨k=4∨k=9∨k=10∨k=12∨k=13∨k=14∨(k<0∨14<k):=aj
def DoR(b:World)(S:Nat->Prop)(F:List lG)(iI:Nat)(c:PC)(it:AItem)(v:Value)(w:World):Prop:=∃ G':GC,v=.int .i64 (oC c it).2/\G'.pl=(oC c it).1/\Hp b S w (G'.rs iI++F)
theorem DoR.mk{c':PC}{e:Int}(G':GC)(hd:oC c it=(c',e))(hp:G'.pl=c')(H:Hp b S w (G'.rs iI++F)):DoR b S F iI c it (aI e) w:=⟨G',by rw [hd],by rw [hd]; exact hp,H⟩
def nT:=@DoR.mk
theorem aFh(hk:it.Kind=3):J6 c it h=({ c with s:=⟨tX c.s.cZ it.A c.aJ,c.s.bI,c.s.bA⟩ },0):=by unfold J6; rw [hk]; rfl
theorem aFi(hk:it.Kind=4):J6 c it h=(LY c it h,0):=by unfold J6; rw [hk]; rfl
theorem aFj(hk:it.Kind=9):J6 c it h=({ c with hs:=gK it.A { h with up:=false } c.hs },0):=by unfold J6; rw [hk]; rfl
theorem aAQ(hk:it.Kind=10):J6 c it h=({ c with hs:=gK it.A ⟨true,h.bG,(ZR h.l h.d).1,(ZR h.l h.d).2⟩ c.hs },0):=by unfold J6; rw [hk]; rfl
theorem aAR(hk:it.Kind=12):J6 c it h=({ c with hs:=gK it.A ⟨h.up,h.bG,(ZT h.l h.d).1,(ZT h.l h.d).2⟩ c.hs },0):=by unfold J6; rw [hk]; rfl
theorem aAS(hk:it.Kind=13):J6 c it h=({ c with hs:=gK it.A { h with d:=adf it.B it.C h.d } c.hs },if(qA ⟨it.B,false⟩ h.d).length=0 then 5 else 0):=by unfold J6; rw [hk]; rfl
theorem aAT(hk:it.Kind=14):J6 c it h=({ c with hs:=gK it.A ⟨h.up,h.bG,[],[]⟩ c.hs },0):=by unfold J6; rw [hk]; rfl
set_option maxHeartbeats 20000000 in
theorem aAU{G:GC}(H0:Hp b S w (G.rs iI++F))(it:AItem)(hok:Ok G.pl)(hC:qC it.C) :
    bO prog 11 #[gI iI,.agg #[aI it.Kind,aI it.A,aI it.B,aI it.C]] w (DoR b S F iI G.pl it):=by
 obtain⟨A1,c1,A2,c2,A3,c3,A4,c4,A5,c5,A6,c6,A7,c7,m,s,r,aJ,gm,bR,hs⟩:=G;have H1:Hp b S w (jL gm hs::GA iI A1 c1 A2 c2 A3 c3 A4 c4 A5 c5 A6 c6 A7 c7 m s r aJ gm bR::dH bW A1 c1 m.aL::dH bD A2 c2 m.aA::dH dw A3 c3 m.aT::dH iK A4 c4 s.cZ::dH dz A5 c5 s.bI::dH bg A6 c6 s.bA::aQ bg 112 A7 c7 bR::F):=H0;have hm:mG m=true:=hok.hm;have hr:l5 r=true:=hok.hr;have hb:s.cZ.length<=1000:=hok.hb;have hl:s.bI.length<=64:=hok.hl;have hd:s.bA.length<=50000:=hok.hd;have hu:0<=aJ/\aJ<=549755813888:=hok.hu;have hw:bR.length<=500000:=hok.hw;have hz:=asj hok.hz;have hz2:=axU hz;have hz9:∀ z h,dY z hs=some h->h.l.length<=900:=λz h hg=>(hz z h hg).1;have hN:=aFe hok.hN;refine rU func11 ntmps11 Y<|rg<|bx Y Y H1 λg1 w1 K1=>bX Y<|rg<|mkm K1 Y λg2 w2 K2=>mv Y<|ev (zf Y Y)<|ins K2 s0 Y Y Y nK iJ Y λw3 K3=>mv Y<|ev (zf Y Y)<|ins K3 s0 Y Y Y nK iJ Y λw4 K4=>mv Y<|ev (zf Y Y)<|ins K4 s0 Y Y Y nK iJ Y λw5 K5=>mv Y<|ev (zf Y Y)<|ins K5 s0 Y Y Y nK iJ Y λw6 K6=>mv Y<|ev (zf Y Y)<|ins K6 s0 Y Y Y nK iJ Y λw7 K7=>mv Y<|ev (zf Y Y)<|ins K7 s0 Y Y Y nK iJ Y λw8 K8=>mv Y<|ev (zf Y Y) ?_
 refine ins K8 s0 Y Y Y nK iJ Y λw9 K9=>mv Y<|ev (zf Y Y)<|ins K9 s0 Y Y Y nK iJ Y λOm K10=>mv Y<|mv Y<|ev (zf Y Y)<|gU Y (O4 K10 true true) ?_
 rintro _ Va ⟨aMb,aMc,aMd,aMe,rfl,vM⟩;refine ins vM s4 Y Y Y nK iJ Y λVb vH=>mv Y<|mv Y<|ev (zf Y Y)<|gU Y (O4 vH true true) ?_
 rintro _ w13 ⟨aMf,aMg,aMh,aMi,rfl,Bf⟩;refine ins Bf s4 Y Y Y nK iJ Y λw14 xM=>mv Y<|mv Y<|ev (zf Y Y)<|gU Y (O4 xM true true) ?_
 rintro _ w15 ⟨aMj,aMk,aMl,aMm,rfl,BI⟩;refine ins BI s4 Y Y Y nK iJ Y λw16 EB=>mv Y<|mv Y<|ev (zf Y Y)<|gU Y (O4 EB true false) ?_
 rintro _ w17 ⟨aMn,aMo,aMp,aMq,rfl,BJ⟩;refine ins BJ s4 Y Y Y nK iJ Y λw18 JR=>mv Y<|mv Y<|ev (zf Y Y)<|gU Y (O4 JR true true) ?_
 rintro _ w19 ⟨aMr,aMs,aMt,aMu,rfl,EC⟩;refine ins EC s4 Y Y Y nK iJ Y λw20 Gy=>mv Y<|mv Y<|ev (zf Y Y)<|gU Y (O4 Gy false false) ?_
 rintro _ w21 ⟨aMv,aMw,aMx,aMy,rfl,IV⟩;refine ins IV s4 Y Y Y nK iJ Y λw22 GR=>mv Y<|mv Y<|ev (zf Y Y)<|gU Y (O4 GR false false) ?_
 rintro _ w23 ⟨aMz,aMA,aMB,aMC,rfl,JU⟩;refine ins JU s4 Y Y Y nK iJ Y λw24 pK=>mv Y<|bX Y<|WP.keep' [(3,gI g1),(5,.map (some g2))] Y ?_
 rcases awe it.Kind with hkd | hkd | hkd | hkd | hkd | hkd | hkd | hkd | hkd | hkd | hkd | hkd | hkd | hkd | hkd | hkd
 ·refine bQ Y<|j6 g1 0 o9 pK (sx 29) Y<|ev (xE pK s0 Y Y nK iJ (by rw [hkd]; rfl))<|bX rfl<|aY<|bQ rfl<|ev (ze xI rfl)<|dn<|bP rfl nofun (λ_h=>?_)
  refine jy ?_;refine bQ Y<|ev (fK CW Y Y (pK.x (sx 29)))<|Jk Y Y Y aE2 (arI (((pK.mV 0 30).sel (sx 30)).mV 31 8) it hu) Y ?_
  rintro _ w25 ⟨rfl,Ea⟩;refine bX Y<|iP Y ?_
  exact nT (⟨A1,c1,A2,c2,A3,c3,A4,c4,A5,c5,A6,c6,A7,c7,m,s,r,(if it.A<0∨100<it.A then aJ else aJ+it.A),gm,bR,hs⟩:GC) (aJ5 hkd) Y (((Ea.cU 9 30).mV 0 8).sel s8)
 ·refine bQ Y<|j6 g1 0 o9 pK (sx 29) Y<|ev (xE pK s0 Y Y nK iJ (by rw [hkd]; rfl))<|bX rfl<|aY<|bQ rfl<|ev (ze xI rfl)<|dn<|bP rfl nofun (λ_h=>?_)
  refine jy ?_;refine bQ Y<|ev (fK CW Y Y (pK.x (sx 29)))<|Jk Y Y Y aE3 (avZ (((pK.mV 0 30).sel (sx 30)).mV 31 8) it hm) Y ?_
  rintro _ w26 ⟨aFk,aFl,aFm,aFo,aFp,aFq,aAV,rfl,aFr,NK⟩;refine bX Y<|iP Y ?_
  exact nT (⟨aFk,aFl,aFm,aFo,aFp,aFq,A4,c4,A5,c5,A6,c6,A7,c7,(tY m (⟨0,0,1,it.A,it.B,it.C⟩:fH)),s,r,aJ,gm,bR,aAV⟩:GC) (aJ6 hkd) (by show(⟨_,_,_,_,_,kR _⟩:PC)=_; rw [aFr]; rfl) (((NK.cU 9 30).mV 0 8).sel s8)
 ·refine bQ Y<|j6 g1 0 o9 pK (sx 29) Y<|ev (xE pK s0 Y Y nK iJ (by rw [hkd]; rfl))<|bX rfl<|aY<|bQ rfl<|ev (ze xI rfl)<|dn<|bP rfl nofun (λ_h=>?_)
  refine jy ?_;refine bQ Y<|ev (fK CW Y Y (pK.x (sx 29)))<|Jk Y Y Y aE4 (avY (((pK.mV 0 30).sel (sx 30)).mV 31 8) it hm) Y ?_
  rintro _ w27 ⟨aFs,aFt,aFu,aFv,aFw,aFx,rfl,Ou⟩;refine bX Y<|iP Y ?_
  exact nT (⟨aFs,aFt,aFu,aFv,aFw,aFx,A4,c4,A5,c5,A6,c6,A7,c7,(tY m (⟨0,0,2,it.A,it.B,0⟩:fH)),s,r,aJ,gm,bR,hs⟩:GC) (aJ7 hkd) Y (((Ou.cU 9 30).mV 0 8).sel s8)
 ·refine bQ Y<|j6 g1 0 o9 pK (sx 29) Y<|ev (xE pK s0 Y Y nK iJ (by rw [hkd]; rfl))<|bX rfl<|aY<|bQ rfl<|ev (ze xI rfl)<|dn<|bP rfl nofun (λ_h=>?_)
  refine jy ?_;refine bQ Y<|ev (fK CW Y Y (pK.x (sx 29)))<|Jk Y Y Y aE5 (anu (((pK.mV 0 30).sel (sx 30)).mV 31 8) it hm hb hl hd hu hw) Y ?_
  rintro _ w28 ⟨aFy,aFz,aFA,aFB,aFC,aFD,aFE,aFF,aFG,aFH,aFI,aFJ,aFK,aFL,rfl,GU⟩;refine bX Y<|iP Y ?_
  exact nT (⟨aFy,aFz,aFA,aFB,aFC,aFD,aFE,aFF,aFG,aFH,aFI,aFJ,aFK,aFL,(C9 m (mX m s r aJ)),(jr m s r aJ),r,aJ,gm,(bR++qb m s r aJ),hs⟩:GC) (aJ8 hkd) Y (((GU.cU 9 30).mV 0 8).sel s8)
 ·refine bQ Y<|j6 g1 0 o9 pK (sx 29) Y<|ev (xE pK s0 Y Y nK iJ (by rw [hkd]; rfl))<|bX rfl<|aY<|bQ rfl<|ev (ze xI rfl)<|dn<|bP rfl nofun (λ_h=>?_)
  refine jy ?_;refine bQ Y<|ev (fK CW Y Y (pK.x (sx 29)))<|Jk Y Y Y asi (TU (((pK.mV 0 30).sel (sx 30)).mV 31 8) it hm hb hl hd hz2 hw) Y ?_
  rintro _ w29 ⟨aFM,aFN,aFO,aFP,aFQ,aFR,aFS,aFT,aFU,aFV,aAW,rfl,aFW,Ii⟩;refine bX Y<|iP Y ?_
  exact nT (⟨aFM,aFN,aFO,aFP,aFQ,aFR,A4,c4,aFS,aFT,A6,c6,aFU,aFV,((lC (⟨m,s,r,aJ,bR,kR hs⟩:PC) it).1.m),((lC (⟨m,s,r,aJ,bR,kR hs⟩:PC) it).1.s),r,aJ,gm,(lC (⟨m,s,r,aJ,bR,kR hs⟩:PC) it).1.bR,aAW⟩:GC) (ai5 aj) (asl (TV ⟨m,s,r,aJ,bR,kR hs⟩ it).1.symm (TV ⟨m,s,r,aJ,bR,kR hs⟩ it).2.symm aFW) (((Ii.cU 9 30).mV 0 8).sel s8)
 ·refine bQ Y<|j6 g1 0 o9 pK (sx 29) Y<|ev (xE pK s0 Y Y nK iJ (by rw [hkd]; rfl))<|bX rfl<|aY<|bQ rfl<|ev (ze xI rfl)<|dn<|bP rfl nofun (λ_h=>?_)
  refine jy ?_;refine bQ Y<|ev (fK CW Y Y (pK.x (sx 29)))<|Jk Y Y Y asi (TU (((pK.mV 0 30).sel (sx 30)).mV 31 8) it hm hb hl hd hz2 hw) Y ?_
  rintro _ w30 ⟨aFX,aFY,aFZ,aF0,aF1,aF2,aF3,aF4,aF5,aF6,aAX,rfl,aF7,Gz⟩;refine bX Y<|iP Y ?_
  exact nT (⟨aFX,aFY,aFZ,aF0,aF1,aF2,A4,c4,aF3,aF4,A6,c6,aF5,aF6,((lC (⟨m,s,r,aJ,bR,kR hs⟩:PC) it).1.m),((lC (⟨m,s,r,aJ,bR,kR hs⟩:PC) it).1.s),r,aJ,gm,(lC (⟨m,s,r,aJ,bR,kR hs⟩:PC) it).1.bR,aAX⟩:GC) (ai5 aj) (asl (TV ⟨m,s,r,aJ,bR,kR hs⟩ it).1.symm (TV ⟨m,s,r,aJ,bR,kR hs⟩ it).2.symm aF7) (((Gz.cU 9 30).mV 0 8).sel s8)
 ·refine bQ Y<|j6 g1 0 o9 pK (sx 29) Y<|ev (xE pK s0 Y Y nK iJ (by rw [hkd]; rfl))<|bX rfl<|aY<|bQ rfl<|ev (ze xI rfl)<|dn<|bP rfl nofun (λ_h=>?_)
  refine jy ?_;refine bQ Y<|ev (fK CW Y Y (pK.x (sx 29)))<|Jk Y Y Y asi (TU (((pK.mV 0 30).sel (sx 30)).mV 31 8) it hm hb hl hd hz2 hw) Y ?_
  rintro _ w31 ⟨aF8,aF9,aGa,aGb,aGc,aGd,aGe,aGf,aGg,aGh,aAY,rfl,aGi,NZ⟩;refine bX Y<|iP Y ?_
  exact nT (⟨aF8,aF9,aGa,aGb,aGc,aGd,A4,c4,aGe,aGf,A6,c6,aGg,aGh,((lC (⟨m,s,r,aJ,bR,kR hs⟩:PC) it).1.m),((lC (⟨m,s,r,aJ,bR,kR hs⟩:PC) it).1.s),r,aJ,gm,(lC (⟨m,s,r,aJ,bR,kR hs⟩:PC) it).1.bR,aAY⟩:GC) (ai5 aj) (asl (TV ⟨m,s,r,aJ,bR,kR hs⟩ it).1.symm (TV ⟨m,s,r,aJ,bR,kR hs⟩ it).2.symm aGi) (((NZ.cU 9 30).mV 0 8).sel s8)
 ·refine bQ Y<|j6 g1 0 o9 pK (sx 29) Y<|ev (xE pK s0 Y Y nK iJ (by rw [hkd]; rfl))<|bX rfl<|aY<|bQ rfl<|ev (ze xI rfl)<|dn<|bP rfl nofun (λ_h=>?_)
  refine jy ?_;refine bQ Y<|ev (fK CW Y Y (pK.x (sx 29)))<|Jk Y Y Y aE6 (anG (((pK.mV 0 30).sel (sx 30)).mV 31 8) it hm hu hb hr hz9 hN) Y ?_
  rintro _ w32 ⟨aGj,aGk,aGl,aGm,aGn,aGo,aAZ,rfl,aGp,Ph⟩;refine bX Y<|iP Y ?_
  exact nT (⟨aGj,aGk,aGl,aGm,aGn,aGo,A4,c4,A5,c5,A6,c6,A7,c7,((sF (⟨m,s,r,aJ,bR,kR hs⟩:PC) it).1.m),s,r,aJ,gm,bR,aAZ⟩:GC) (aFf hkd) (aAP (adG (⟨m,s,r,aJ,bR,kR hs⟩:PC) it).1.symm (adG (⟨m,s,r,aJ,bR,kR hs⟩:PC) it).2.1.symm (adG (⟨m,s,r,aJ,bR,kR hs⟩:PC) it).2.2.1.symm (adG (⟨m,s,r,aJ,bR,kR hs⟩:PC) it).2.2.2.symm aGp) (((Ph.cU 9 30).mV 0 8).sel s8)
 ·refine bQ Y<|j6 g1 0 o9 pK (sx 29) Y<|ev (xE (i:=8) pK s0 Y Y nK iJ (by rw [hkd]; rfl))<|bX rfl<|aY<|bQ rfl<|ev (ze xI rfl)<|dn<|bP rfl nofun (λ_h=>?_)
  refine jy ?_;refine bQ Y<|ev (fK CW Y Y (pK.x (sx 29)))<|gU Y (JH (fd:=46) (R:=DoR b S F iI (⟨m,s,r,aJ,bR,kR hs⟩:PC) it) ((((pK.rm (sx 29)).cU 0 25).sel s4).mV 1 12) it aE7 ?_ ?_ ?_) ?_
  ·exact λhg w9 K9=>nT (⟨A1,c1,A2,c2,A3,c3,A4,c4,A5,c5,A6,c6,A7,c7,m,s,r,aJ,gm,bR,hs⟩:GC) (JG aj (show dY it.A (kR hs)=none from by rw [jA,hg]; rfl)) rfl (K9.sel s8)
  ·exact λh hg hn hu w9 K9=>nT (⟨A1,c1,A2,c2,A3,c3,A4,c4,A5,c5,A6,c6,A7,c7,m,s,r,aJ,gm,bR,hs⟩:GC) (OZ aj (show dY it.A (kR hs)=some h.pl from by rw [jA,hg]; rfl) (by rw [hkd]; revert hu; show _->uZ 3=some (!h.up); cases h.up <;> decide)) rfl (K9.sel s8)
  ·intro h hg hun w9 K9;have hgo:=(Y3 (c:=(⟨m,s,r,aJ,bR,kR hs⟩:PC)) aj (show dY it.A (kR hs)=some h.pl from by rw [jA,hg]; rfl) (by rw [hkd]; revert hun; show _->¬ uZ 3=some (!h.up); cases h.up <;> decide)).trans (aFh hkd);refine(arN K9 it hb).mono ?_;rintro _ w8 ⟨B4,d4,rfl,K8⟩;exact nT (⟨A1,c1,A2,c2,A3,c3,B4,d4,A5,c5,A6,c6,A7,c7,m,⟨tX s.cZ it.A aJ,s.bI,s.bA⟩,r,aJ,gm,bR,hs⟩:GC) hgo Y (K8.sel s8)
  intro v9 w33 zG;refine bX Y<|iP Y ?_
  exact zG
 ·refine bQ Y<|j6 g1 0 o9 pK (sx 29) Y<|ev (xE (i:=9) pK s0 Y Y nK iJ (by rw [hkd]; rfl))<|bX rfl<|aY<|bQ rfl<|ev (ze xI rfl)<|dn<|bP rfl nofun (λ_h=>?_)
  refine jy ?_;refine bQ Y<|ev (fK CW Y Y (pK.x (sx 29)))<|gU Y (JH (fd:=47) (R:=DoR b S F iI (⟨m,s,r,aJ,bR,kR hs⟩:PC) it) ((((pK.cU 25 5).cU 0 21).sel s4).mV 1 12) it aE8 ?_ ?_ ?_) ?_
  ·exact λhg w9 K9=>nT (⟨A1,c1,A2,c2,A3,c3,A4,c4,A5,c5,A6,c6,A7,c7,m,s,r,aJ,gm,bR,hs⟩:GC) (JG aj (show dY it.A (kR hs)=none from by rw [jA,hg]; rfl)) rfl (K9.sel s8)
  ·exact λh hg hn hu w9 K9=>nT (⟨A1,c1,A2,c2,A3,c3,A4,c4,A5,c5,A6,c6,A7,c7,m,s,r,aJ,gm,bR,hs⟩:GC) (OZ aj (show dY it.A (kR hs)=some h.pl from by rw [jA,hg]; rfl) (by rw [hkd]; revert hu; show _->uZ 4=some (!h.up); cases h.up <;> decide)) rfl (K9.sel s8)
  ·intro h hg hun w9 K9;have hgo:=(Y3 (c:=(⟨m,s,r,aJ,bR,kR hs⟩:PC)) aj (show dY it.A (kR hs)=some h.pl from by rw [jA,hg]; rfl) (by rw [hkd]; revert hun; show _->¬ uZ 4=some (!h.up); cases h.up <;> decide)).trans (aFi hkd);obtain⟨gh,gs,Bg,A,c,up,bG,l,es⟩:=h;refine(ai2 K9 it hm hb hl hd hu hw hr hg (lI (hz9 _ _ hg) au)).mono ?_;rintro _ w8 ⟨B1,d1,B2,d2,B3,d3,B7,d7,rfl,K8⟩;exact nT (⟨B1,d1,B2,d2,B3,d3,A4,c4,A5,c5,A6,c6,B7,d7,(lU s aJ it.A m (j5 m.aA it.A (dK l))),s,r,aJ,gm,(bR++vD (dK l) (lT (lU s aJ it.A m (j5 m.aA it.A (dK l))).aA (dK l)) it.A (aJ+r.iD)),hs⟩:GC) hgo Y (K8.sel s8)
  intro v9 w34 zG;refine bX Y<|iP Y ?_
  exact zG
 ·refine bQ Y<|j6 g1 0 o9 pK (sx 29) Y<|ev (xE (i:=10) pK s0 Y Y nK iJ (by rw [hkd]; rfl))<|bX rfl<|aY<|bQ rfl<|ev (ze xI rfl)<|dn<|bP rfl nofun (λ_h=>?_)
  refine jy ?_;refine bQ Y<|ev (fK CW Y Y (pK.x (sx 29)))<|gU Y (JH (fd:=48) (R:=DoR b S F iI (⟨m,s,r,aJ,bR,kR hs⟩:PC) it) ((((pK.cU 21 9).cU 0 17).sel s4).mV 1 12) it aE9 ?_ ?_ ?_) ?_
  ·exact λhg w9 K9=>nT (⟨A1,c1,A2,c2,A3,c3,A4,c4,A5,c5,A6,c6,A7,c7,m,s,r,aJ,gm,bR,hs⟩:GC) (JG aj (show dY it.A (kR hs)=none from by rw [jA,hg]; rfl)) rfl (K9.sel s8)
  ·exact λh hg hn hu w9 K9=>nT (⟨A1,c1,A2,c2,A3,c3,A4,c4,A5,c5,A6,c6,A7,c7,m,s,r,aJ,gm,bR,hs⟩:GC) (OZ aj (show dY it.A (kR hs)=some h.pl from by rw [jA,hg]; rfl) (by rw [hkd]; revert hu; show _->uZ 9=some (!h.up); cases h.up <;> decide)) rfl (K9.sel s8)
  ·intro h hg hun w9 K9;have hgo:=(Y3 (c:=(⟨m,s,r,aJ,bR,kR hs⟩:PC)) aj (show dY it.A (kR hs)=some h.pl from by rw [jA,hg]; rfl) (by rw [hkd]; revert hun; show _->¬ uZ 9=some (!h.up); cases h.up <;> decide)).trans (aFj hkd);obtain⟨gh,gs,Bg,A,c,up,bG,l,es⟩:=h;refine(arJ (K9.xg s8 hg) it).mono ?_;rintro _ w8 ⟨rfl,K8⟩;exact nT (⟨A1,c1,A2,c2,A3,c3,A4,c4,A5,c5,A6,c6,A7,c7,m,s,r,aJ,gm,bR,(gK it.A ⟨gh,gs,Bg,A,c,false,bG,l,es⟩ hs)⟩:GC) hgo (by show(⟨m,s,r,aJ,bR,kR (gK it.A (⟨gh,gs,Bg,A,c,false,bG,l,es⟩:l6) hs)⟩:PC)=(⟨m,s,r,aJ,bR,gK it.A ⟨false,bG,l,LX es⟩ (kR hs)⟩:PC); rw [Aw]; rfl) (Jr hg K8)
  intro v9 w35 zG;refine bX Y<|iP Y ?_
  exact zG
 ·refine bQ Y<|j6 g1 0 o9 pK (sx 29) Y<|ev (xE (i:=11) pK s0 Y Y nK iJ (by rw [hkd]; rfl))<|bX rfl<|aY<|bQ rfl<|ev (ze xI rfl)<|dn<|bP rfl nofun (λ_h=>?_)
  refine jy ?_;refine bQ Y<|ev (fK CW Y Y (pK.x (sx 29)))<|gU Y (JH (fd:=49) (R:=DoR b S F iI (⟨m,s,r,aJ,bR,kR hs⟩:PC) it) ((((pK.cU 17 13).cU 0 13).sel s4).mV 1 12) it aFa ?_ ?_ ?_) ?_
  ·exact λhg w9 K9=>nT (⟨A1,c1,A2,c2,A3,c3,A4,c4,A5,c5,A6,c6,A7,c7,m,s,r,aJ,gm,bR,hs⟩:GC) (JG aj (show dY it.A (kR hs)=none from by rw [jA,hg]; rfl)) rfl (K9.sel s8)
  ·exact λh hg hn hu w9 K9=>nT (⟨A1,c1,A2,c2,A3,c3,A4,c4,A5,c5,A6,c6,A7,c7,m,s,r,aJ,gm,bR,hs⟩:GC) (OZ aj (show dY it.A (kR hs)=some h.pl from by rw [jA,hg]; rfl) (by rw [hkd]; revert hu; show _->uZ 10=some (!h.up); cases h.up <;> decide)) rfl (K9.sel s8)
  ·intro h hg hun w9 K9;have hgo:=(Y3 (c:=(⟨m,s,r,aJ,bR,kR hs⟩:PC)) aj (show dY it.A (kR hs)=some h.pl from by rw [jA,hg]; rfl) (by rw [hkd]; revert hun; show _->¬ uZ 10=some (!h.up); cases h.up <;> decide)).trans (aAQ hkd);obtain⟨gh,gs,Bg,A,c,up,bG,l,es⟩:=h;refine(arK (K9.xg s8 hg) it (lI (hz9 _ _ hg) au)).mono ?_;rintro _ w8 ⟨A9,c9,rfl,K8⟩;exact nT (⟨A1,c1,A2,c2,A3,c3,A4,c4,A5,c5,A6,c6,A7,c7,m,s,r,aJ,gm,bR,(gK it.A ⟨gh,gs,Bg,A9,c9,true,bG,(qJ l es l.length).1,(qJ l es l.length).2⟩ hs)⟩:GC) hgo (by show(⟨m,s,r,aJ,bR,kR (gK it.A (⟨gh,gs,Bg,A9,c9,true,bG,(qJ l es l.length).1,(qJ l es l.length).2⟩:l6) hs)⟩:PC)=(⟨m,s,r,aJ,bR,gK it.A ⟨true,bG,(ZR l (LX es)).1,(ZR l (LX es)).2⟩ (kR hs)⟩:PC); rw [Aw]; rw [aAw]; rfl) (Jr hg K8)
  intro v9 w36 zG;refine bX Y<|iP Y ?_
  exact zG
 ·refine bQ Y<|j6 g1 0 o9 pK (sx 29) Y<|ev (xE (i:=12) pK s0 Y Y nK iJ (by rw [hkd]; rfl))<|bX rfl<|aY<|bQ rfl<|ev (ze xI rfl)<|dn<|bP rfl nofun (λ_h=>?_)
  refine jy ?_;refine bQ Y<|ev (fK CW Y Y (pK.x (sx 29)))<|gU Y (JH (fd:=50) (R:=DoR b S F iI (⟨m,s,r,aJ,bR,kR hs⟩:PC) it) ((((pK.cU 13 17).cU 0 9).sel s4).mV 1 12) it aFb ?_ ?_ ?_) ?_
  ·exact λhg w9 K9=>nT (⟨A1,c1,A2,c2,A3,c3,A4,c4,A5,c5,A6,c6,A7,c7,m,s,r,aJ,gm,bR,hs⟩:GC) (JG aj (show dY it.A (kR hs)=none from by rw [jA,hg]; rfl)) rfl (K9.sel s8)
  ·exact λh hg hn hu w9 K9=>nT (⟨A1,c1,A2,c2,A3,c3,A4,c4,A5,c5,A6,c6,A7,c7,m,s,r,aJ,gm,bR,hs⟩:GC) (OZ aj (show dY it.A (kR hs)=some h.pl from by rw [jA,hg]; rfl) (by rw [hkd]; revert hu; show _->uZ 12=some (!h.up); cases h.up <;> decide)) rfl (K9.sel s8)
  ·intro h hg hun w9 K9;have hgo:=(Y3 (c:=(⟨m,s,r,aJ,bR,kR hs⟩:PC)) aj (show dY it.A (kR hs)=some h.pl from by rw [jA,hg]; rfl) (by rw [hkd]; revert hun; show _->¬ uZ 12=some (!h.up); cases h.up <;> decide)).trans (aAR hkd);obtain⟨gh,gs,Bg,A,c,up,bG,l,es⟩:=h;refine(anr (K9.xg s8 hg) it (lI (hz9 _ _ hg) au)).mono ?_;rintro _ w8 ⟨A9,c9,rfl,K8⟩;exact nT (⟨A1,c1,A2,c2,A3,c3,A4,c4,A5,c5,A6,c6,A7,c7,m,s,r,aJ,gm,bR,(gK it.A ⟨gh,gs,Bg,A9,c9,up,bG,(uj l es (EU l es).length).1,(uj l es (EU l es).length).2⟩ hs)⟩:GC) hgo (by show(⟨m,s,r,aJ,bR,kR (gK it.A (⟨gh,gs,Bg,A9,c9,up,bG,(uj l es (EU l es).length).1,(uj l es (EU l es).length).2⟩:l6) hs)⟩:PC)=(⟨m,s,r,aJ,bR,gK it.A ⟨up,bG,(ZT l (LX es)).1,(ZT l (LX es)).2⟩ (kR hs)⟩:PC); rw [Aw]; rw [aAx]; rfl) (Jr hg K8)
  intro v9 w37 zG;refine bX Y<|iP Y ?_
  exact zG
 ·refine bQ Y<|j6 g1 0 o9 pK (sx 29) Y<|ev (xE (i:=13) pK s0 Y Y nK iJ (by rw [hkd]; rfl))<|bX rfl<|aY<|bQ rfl<|ev (ze xI rfl)<|dn<|bP rfl nofun (λ_h=>?_)
  refine jy ?_;refine bQ Y<|ev (fK CW Y Y (pK.x (sx 29)))<|gU Y (JH (fd:=51) (R:=DoR b S F iI (⟨m,s,r,aJ,bR,kR hs⟩:PC) it) ((((pK.cU 9 21).cU 0 5).sel s4).mV 1 12) it aFc ?_ ?_ ?_) ?_
  ·exact λhg w9 K9=>nT (⟨A1,c1,A2,c2,A3,c3,A4,c4,A5,c5,A6,c6,A7,c7,m,s,r,aJ,gm,bR,hs⟩:GC) (JG aj (show dY it.A (kR hs)=none from by rw [jA,hg]; rfl)) rfl (K9.sel s8)
  ·exact λh hg hn hu w9 K9=>nT (⟨A1,c1,A2,c2,A3,c3,A4,c4,A5,c5,A6,c6,A7,c7,m,s,r,aJ,gm,bR,hs⟩:GC) (OZ aj (show dY it.A (kR hs)=some h.pl from by rw [jA,hg]; rfl) (by cases hn)) rfl (K9.sel s8)
  ·intro h hg hun w9 K9;have hgo:=(Y3 (c:=(⟨m,s,r,aJ,bR,kR hs⟩:PC)) aj (show dY it.A (kR hs)=some h.pl from by rw [jA,hg]; rfl) (by rw [hkd]; revert hun; show _->¬ uZ 13=some (!h.up); cases h.up <;> decide)).trans (aAS hkd);have hrd:=Nh (⟨it.B,false⟩:bT) h.es;rw [show h.pl.d=LX h.es from rfl,hrd] at hgo;obtain⟨gh,gs,Bg,A,c,up,bG,l,es⟩:=h;refine(ant (K9.xg s8 hg) it ((hz _ _ hg).2 _) hC).mono ?_;rintro _ w8 ⟨rfl,K8⟩;exact nT (⟨A1,c1,A2,c2,A3,c3,A4,c4,A5,c5,A6,c6,A7,c7,m,s,r,aJ,gm,bR,(gK it.A ⟨gh,gs,Bg,A,c,up,bG,l,QY it.B it.C es⟩ hs)⟩:GC) hgo (by show(⟨m,s,r,aJ,bR,kR (gK it.A (⟨gh,gs,Bg,A,c,up,bG,l,QY it.B it.C es⟩:l6) hs)⟩:PC)=(⟨m,s,r,aJ,bR,gK it.A ⟨up,bG,l,adf it.B it.C (LX es)⟩ (kR hs)⟩:PC); rw [Aw]; rw [<- aAv]; rfl) (Jr hg K8)
  intro v9 w38 zG;refine bX Y<|iP Y ?_
  exact zG
 ·refine bQ Y<|j6 g1 0 o9 pK (sx 29) Y<|ev (xE (i:=14) pK s0 Y Y nK iJ (by rw [hkd]; rfl))<|bX rfl<|aY<|bQ rfl<|ev (ze xI rfl)<|dn<|bP rfl nofun (λ_h=>?_)
  refine jy ?_;refine bQ Y<|ev (fK CW Y Y (pK.x (sx 29)))<|gU Y (JH (fd:=52) (R:=DoR b S F iI (⟨m,s,r,aJ,bR,kR hs⟩:PC) it) ((((pK.cU 5 25).rm s0).sel s4).mV 1 12) it aFd ?_ ?_ ?_) ?_
  ·exact λhg w9 K9=>nT (⟨A1,c1,A2,c2,A3,c3,A4,c4,A5,c5,A6,c6,A7,c7,m,s,r,aJ,gm,bR,hs⟩:GC) (JG aj (show dY it.A (kR hs)=none from by rw [jA,hg]; rfl)) rfl (K9.sel s8)
  ·exact λh hg hn hu w9 K9=>nT (⟨A1,c1,A2,c2,A3,c3,A4,c4,A5,c5,A6,c6,A7,c7,m,s,r,aJ,gm,bR,hs⟩:GC) (OZ aj (show dY it.A (kR hs)=some h.pl from by rw [jA,hg]; rfl) (by cases hn)) rfl (K9.sel s8)
  ·intro h hg hun w9 K9;have hgo:=(Y3 (c:=(⟨m,s,r,aJ,bR,kR hs⟩:PC)) aj (show dY it.A (kR hs)=some h.pl from by rw [jA,hg]; rfl) (by rw [hkd]; revert hun; show _->¬ uZ 14=some (!h.up); cases h.up <;> decide)).trans (aAT hkd);obtain⟨gh,gs,Bg,A,c,up,bG,l,es⟩:=h;refine(arL (K9.xg s8 hg) it).mono ?_;rintro _ w8 ⟨rfl,K8⟩;exact nT (⟨A1,c1,A2,c2,A3,c3,A4,c4,A5,c5,A6,c6,A7,c7,m,s,r,aJ,gm,bR,(gK it.A ⟨gh,gs,Bg,none,0,up,bG,[],[]⟩ hs)⟩:GC) hgo (by show(⟨m,s,r,aJ,bR,kR (gK it.A (⟨gh,gs,Bg,none,0,up,bG,[],[]⟩:l6) hs)⟩:PC)=(⟨m,s,r,aJ,bR,gK it.A ⟨up,bG,[],[]⟩ (kR hs)⟩:PC); rw [Aw]; rfl) (Jr hg K8)
  intro v9 w39 zG;refine bX Y<|iP Y ?_
  exact zG
 ·refine bQ Y<|j6 g1 0 o9 pK (sx 29) Y<|ev (Ev.aw1 pK s0 Y Y nK iJ awd (by have e0:(it.Kind == 0)=false:=(by simpa using (show it.Kind≠0 by omega)); have e1:(it.Kind == 1)=false:=(by simpa using (show it.Kind≠1 by omega)); have e2:(it.Kind == 2)=false:=(by simpa using (show it.Kind≠2 by omega)); have e3:(it.Kind == 3)=false:=(by simpa using (show it.Kind≠3 by omega)); have e4:(it.Kind == 4)=false:=(by simpa using (show it.Kind≠4 by omega)); have e5:(it.Kind == 5)=false:=(by simpa using (show it.Kind≠5 by omega)); have e6:(it.Kind == 6)=false:=(by simpa using (show it.Kind≠6 by omega)); have e7:(it.Kind == 7)=false:=(by simpa using (show it.Kind≠7 by omega)); have e8:(it.Kind == 8)=false:=(by simpa using (show it.Kind≠8 by omega)); have e9:(it.Kind == 9)=false:=(by simpa using (show it.Kind≠9 by omega)); have e10:(it.Kind == 10)=false:=(by simpa using (show it.Kind≠10 by omega)); have e11:(it.Kind == 11)=false:=(by simpa using (show it.Kind≠11 by omega)); have e12:(it.Kind == 12)=false:=(by simpa using (show it.Kind≠12 by omega)); have e13:(it.Kind == 13)=false:=(by simpa using (show it.Kind≠13 by omega)); have e14:(it.Kind == 14)=false:=(by simpa using (show it.Kind≠14 by omega)); simp [Instr.findNow,Instr.sameNow,e0,e1,e2,e3,e4,e5,e6,e7,e8,e9,e10,e11,e12,e13,e14]))<|bX rfl<|aY<|bQ rfl<|ev (Ev.aI5 xI rfl)<|dn<|bP rfl (λ_h=>?_) nofun
  refine iT Y<|wO Y ?_
  exact nT (⟨A1,c1,A2,c2,A3,c3,A4,c4,A5,c5,A6,c6,A7,c7,m,s,r,aJ,gm,bR,hs⟩:GC) (aFg hkd) Y (pK.cU 0 30)
end
section
variable {x y:aG}{κ ν:Type}{z dD all:Int}{c:PC}{m:dh}{hs:kN}{h:oZ}{fG:List (BitVec 8)}{k:Nat}
abbrev qB(x:aG):Int:=2*x.aD+Dw x.gH
theorem Ry(y x:aG):Kv y x<0↔qB y<qB x:=by
  rcases y with ⟨c1,v1,s1,t1,b1⟩; rcases x with ⟨c2,v2,s2,t2,b2⟩
  unfold Kv P7 bL qB Dw
  grind
theorem L8(y x:aG):Kv y x=0↔qB y=qB x:=by
  rcases y with ⟨c1,v1,s1,t1,b1⟩; rcases x with ⟨c2,v2,s2,t2,b2⟩
  unfold Kv P7 bL qB Dw
  grind
def UU(y x:aG):Prop:=qB y<qB x/\(y.aD=x.aD->y.aB<x.aB)
theorem aa1(h:qB x<qB y):x.aD<=y.aD:=by
  grind
theorem agJ{z:aG}(h1:UU x y)(h2:UU y z):UU x z:=by
  refine⟨by have:=h1.1; have:=h2.1; omega,λh=>?_⟩;have a:=aa1 h1.1; have b:=aa1 h2.1;have:=h1.2 aj; have:=h2.2 aj; omega
theorem asq(p:Option aG)(x:aG):(!acS p x&&!LQ p x)=true↔∀ y,p=some y->UU y x:=by
  cases p with
  | none=>simp [acS,LQ]
  | some y=>
    unfold acS LQ UU
    grind [Ry]
theorem aa2:∀(l:List aG)(p:Option aG),Og p l=true↔(∀ x∈l,Yt x=false)/\l.Pairwise UU/\∀ y,p=some y->∀ x∈l,UU y x
  | [],p=>by simp [Og]
  | a::l,p=>by
    have e:Og p (a::l)=((!Yt a)&&((!acS p a&&!LQ p a)&&Og (some a) l)):=by grind [Og]
    rw [e,bK,bK,asq,aa2 l (some a)]
    simp only [iR,forall_eq_or_imp,nW,Option.some.injEq,forall_eq',dZ]
    grind [agJ]
theorem CX{l:List aG}:QS l=true↔(∀ x∈l,Yt x=false)/\l.Pairwise UU:=by
  simp [QS,aa2]
theorem akI{l:List aG}(h:QS l=true):Up qB l:=(CX.1 h).2.imp λh=>h.1
theorem agK{l:List aG}(h:QS l=true):iN l=l:=by grind [iN]
section
variable {l:List aG}{c:Int}{t:Bool}
theorem get_of_mem{α:Type}{l:List α}{x:α}(h:x∈l):∃ k:Nat,l[k]? = some x:=by grind [List.mem_iff_getElem?]
theorem adI{α:Type}{key:α->Int}{l:List α}(h:Up key l){i j:Nat}{x y:α}(hx:l[i]? = some x)(hy:l[j]? = some y)(he:key x=key y):i=j:=by
  rcases abA i j with h1 | h1 | h1
  · have:=(Eh.1 h) i j (aM hx) (aM hy) h1
    grind
  · exact h1
  · have:=(Eh.1 h) j i (aM hy) (aM hx) h1
    grind
theorem axV(h:Up qB l)(x:aG):abr (λy=>Kv y x) l:=by
  intro i j a b hij ha hb hlt;rw [Ry] at hlt ⊢
  rcases Nat.lt_or_eq_of_le hij with h1 | h1
  · have:=(Eh.1 h) i j (aM ha) (aM hb) h1
    grind
  grind
theorem JI(h:Up qB l):RQ l c t=true↔∃ x∈l,x.aD=c/\x.gH=t:=by
  constructor
  · intro h1; obtain⟨x,hx,hz⟩:=FT h1
    grind [L8]
  · rintro⟨x,hx,h1,h2⟩
    obtain⟨k,hk,rfl⟩:=List.mem_iff_getElem.1 hx;have hz:Kv l[k] (QT c t)=0:=by grind [L8]
    have hl:low (λy=>Kv y (QT c t)) l=k:=by
      refine xB (Nat.le_of_lt hk) (λa x ha hx=>?_) (λa x ha hx=>?_)
      · have:=(Eh.1 h) a k (aM hx) hk ha
        rw [Ij (aM hx)] at hx; simp_all [Ry,L8]
      · rw [Ry,<- (L8 _ _).1 hz]
        rcases Nat.lt_or_eq_of_le ha with h3 | h3
        · have:=(Eh.1 h) k a hk (aM hx) h3
          grind
        grind
    simp_all [Jd,VD,axV,Ij,sO]
theorem TW(h:Up qB l)(hx:x∈l):CU l x.aD x.gH=some x:=by
  have h1:RQ l x.aD x.gH=true:=(JI h).2 (by grind);obtain⟨y,hy,hz⟩:=FT h1;have:=(L8 _ _).1 hz;rw [Ho h1 hy];have hu:=mQ h (bZ hy) hx (by rw [this]);rw [hu]
theorem aa3(h:Up qB l)(hn:∀ x∈l,¬ (x.aD=c/\x.gH=t)):CU l c t=none:=by
  simp_all [QV,Bw,JI]
theorem asr(h:Up qB l):(∀ x∈l.take (atR l c t),qB x<qB (QT c t))/\(∀ x∈l.drop (atR l c t),qB (QT c t)<=qB x):=by
  have e:atR l c t=low (λy=>Kv y (QT c t)) l:=VD (axV h _);rw [e]
  have e2:low (λy=>Kv y (QT c t)) l=low (λy=>bL (qB y) (qB (QT c t))) l:=by
    unfold low; refine List.countP_congr λx _=>?_
    simp only [bM]; rw [Ry]; unfold bL; split <;> simp_all
    grind
  rw [e2];exact⟨λx hx=>aaL h hx,λx hx=>aaM h hx⟩
theorem L9(h:Up qB l)(x y:aG):y∈Am l x↔y=x∨(y∈l/\qB y≠qB x):=by
  unfold Am
  by_cases h1:RQ l x.aD x.gH=true
  · rw [aS h1]
    obtain⟨z,hz,h2⟩:=FT h1;have hk:=(L8 _ _).1 h2;have hk':qB z=qB x:=hk
    constructor
    · grind [get_of_mem,bZ,adI]
    · rintro(rfl | ⟨hy,hne⟩)
      · grind [List.getElem?_set_self]
      · obtain⟨k,hk2⟩:=get_of_mem hy
        refine TD.2 ⟨k,?_⟩
        grind
  · rw [aP h1]
    have hn:∀ z∈l,qB z≠qB x:=λz hz he=>h1 ((JI h).2 (by grind))
    grind [List.take_append_drop]
theorem akJ(h:Up qB l)(x:aG):Up qB (Am l x):=by
  unfold Am
  by_cases h1:RQ l x.aD x.gH=true
  · rw [aS h1]
    obtain⟨z,hz,h2⟩:=FT h1;have hk:qB z=qB x:=(L8 _ _).1 h2
    have e:(l.set (atR l x.aD x.gH) x).map qB=l.map qB:=by
      rw [KT,<- hk];refine Gg λi=>?_;rw [ab3]; split
      · grind
      · rfl
    have:((l.set (atR l x.aD x.gH) x).map qB).Pairwise (λa b=>a<b):=by rw [e]; exact Ir.2 h
    exact Ir.1 this
  · rw [aP h1]
    have hs:=asr (c:=x.aD) (t:=x.gH) h;have hx:qB (QT x.aD x.gH)=qB x:=rfl;rw [hx] at hs;have hn:∀ z∈l,qB z≠qB x:=λz hz he=>h1 ((JI h).2 (by grind));refine zk.2 ⟨zk.2 ⟨h.sublist (List.take_sublist _ _),R4 _ _,λa ha b hb=>?_⟩,h.sublist (List.drop_sublist _ _),λa ha b hb=>?_⟩
    all_goals grind
theorem UW(x:aG):(Am l x).length=if RQ l x.aD x.gH=true then l.length else l.length+1:=by
  unfold Am; grind
end
def Kz(l:List aG):Prop:=QS l=true/\∀ x∈l,x.gH=false
theorem akK{l:List aG}(h1:∀ x∈l,Yt x=false)(h2:Up qB l)(h3:∀ x∈l,∀ y∈l,x.aD=y.aD->x.gH=false->y.gH=true->x.aB<y.aB):QS l=true:=by
  refine CX.2 ⟨h1,List.Pairwise.imp_of_mem (λ{a b} ha hb hab=>⟨hab,λhe=>?_⟩) h2⟩
  grind
section
variable {l:List aG}{c v sum bG:Int}{fG:List (BitVec 8)}{d:qL}
theorem Kz.up(h:Kz l):Up qB l:=akI h.1
theorem Kz.fair(h:Kz l):iN l=l:=agK h.1
theorem Kz.rest(h:Kz l):dK l=l:=by
  unfold dK; rw [h.fair]; exact Gm.2 λx hx=>by rw [h.2 x hx]; rfl
theorem Kz.sub(h:Kz l)(p:aG->Bool):Kz (l.filter p):=
  ⟨CX.2 ⟨λx hx=>(CX.1 h.1).1 x (by grind),(CX.1 h.1).2.sublist Yr⟩,λx hx=>h.2 x (by grind)⟩
theorem Kz.no(h:Kz l)(c:Int):RQ l c true=false:=Bw.2 λh1=>by
  obtain⟨x,hx,_,h2⟩:=(JI h.up).1 h1; rw [h.2 x hx] at h2; grind
theorem Nu(h:Kz l)(hz:(kS l x bG).2=0):NS x=true/\(∀ y∈l,y.aD=x.aD->y.aB<x.aB)/\(l.length:Int)<bG/\(kS l x bG).1=Am l ⟨x.aD,x.aB,x.Sum,true,false⟩:=by
  unfold kS at hz ⊢; rw [h.fair] at hz ⊢
  by_cases h1:(!NS x)=true
  · grind
  rw [aP h1] at hz ⊢
  by_cases h2:QU (CU l x.aD false) x.aB=true
  · grind
  rw [aP h2] at hz ⊢
  by_cases h3:QU (CU l x.aD true) x.aB=true
  · grind
  rw [aP h3] at hz ⊢
  by_cases h4:(!RQ l x.aD true&&decide (bG<=(l.length:Int)))=true
  · grind
  rw [aP h4];refine⟨by grind,λy hy he=>?_,?_,rfl⟩
  · have h5:=TW h.up hy
    rw [he,h.2 y hy] at h5; grind [QU]
  · rw [h.no] at h4; grind
theorem agL(h:Kz l)(h1:NS x=true)(h2:∀ y∈l,y.aD=x.aD->y.aB<x.aB)(h3:(l.length:Int)<bG):(kS l x bG).2=0:=by
  unfold kS; rw [h.fair,aP (by grind)]
  have h4:QU (CU l x.aD false) x.aB=false:=by
    by_cases hi:∃ y∈l,y.aD=x.aD
    · obtain⟨y,hy,he⟩:=hi
      have h5:=TW h.up hy;rw [he,h.2 y hy] at h5; grind [QU]
    · rw [aa3 h.up (by grind)]; rfl
  have h5:QU (CU l x.aD true) x.aB=false:=by rw [aa3 h.up (λy hy ⟨_,he⟩=>by rw [h.2 y hy] at he; grind)]; rfl
  rw [aP (by rw [h4]; decide),aP (by rw [h5]; decide),aP (by rw [h.no]; simp; omega)]
theorem Nv(h:Kz l):qX l bG c v sum fG=0↔fG.length<=64/\((iQ fG).toNat:Int)=sum/\(kS l ⟨c,v,sum,false,false⟩ bG).2=0:=by
  grind [qX,absurd,iQ]
theorem aA0(h:Kz l)(h1:NS ⟨c,v,sum,false,false⟩=true)(h2:∀ y∈l,y.aD=c->y.aB<v):QS (Am l ⟨c,v,sum,true,false⟩)=true:=by
  refine akK (λx hx=>?_) (akJ h.up _) (λx hx y hy he ht hu=>?_)
  · rcases(L9 h.up _ _).1 hx with rfl | ⟨hx,_⟩
    · grind [Yt,NS]
    · exact(CX.1 h.1).1 x hx
  · rcases(L9 h.up _ _).1 hx with rfl | ⟨hx,_⟩
    · grind
    · rcases(L9 h.up _ _).1 hy with rfl | ⟨hy,_⟩
      · grind
      · rw [h.2 y hy] at hu; grind
theorem Y4(h:Kz l)(h1:NS ⟨c,v,sum,false,false⟩=true)(h2:∀ y∈l,y.aD=c->y.aB<v) :
    ∃ l2,mW (Am l ⟨c,v,sum,true,false⟩) c v=(l2,0)/\Kz l2/\(∀ y,y∈l2↔y=⟨c,v,sum,false,false⟩∨(y∈l/\y.aD≠c))/\l2.length<=l.length+1:=by
  have hm:=aA0 h h1 h2;have hmem:∀ y,y∈Am l ⟨c,v,sum,true,false⟩↔y=⟨c,v,sum,true,false⟩∨(y∈l/\qB y≠qB ⟨c,v,sum,true,false⟩):=λy=>L9 h.up _ _
  have e1:(Am l ⟨c,v,sum,true,false⟩).length=l.length+1:=by
    rw [UW,aP]; intro h9; have:=h.no c; rw [show RQ l c true=true from h9] at this; exact Bool.noConfusion this
  revert hm hmem e1
  generalize Am l ⟨c,v,sum,true,false⟩=q
  intro hm hmem e1;have hu:=akI hm;have hx:(⟨c,v,sum,true,false⟩:aG)∈q:=by grind
  have hg:=TW hu hx
  dsimp only at hg
  have hi:RQ q c true=true:=by simp_all [JI]
  obtain⟨z,hz,h3⟩:=FT hi;have hzx:z=⟨c,v,sum,true,false⟩:=by grind [L8]
  have hz':q[atR q c true]? = some (⟨c,v,sum,true,false⟩:aG):=by grind
  have hcm:mW q c v=(Am (q.eraseIdx (atR q c true)) ⟨c,v,sum,false,false⟩,0):=by simp_all [mW,aqX,agK,aP,R5]
  refine⟨_,hcm,?_⟩;have hlt:=Yu hi
  clear hcm
  generalize hw:q.eraseIdx (atR q c true)=w
  have hwu:Up qB w:=by rw [<- hw]; exact hu.sublist (List.eraseIdx_sublist _ _)
  have hwm:∀ y,y∈w↔y∈l/\qB y≠qB ⟨c,v,sum,true,false⟩:=by grind [List.mem_eraseIdx_iff_getElem?,bZ,adI,get_of_mem]
  have hlm:∀ y,y∈Am w ⟨c,v,sum,false,false⟩↔y=⟨c,v,sum,false,false⟩∨(y∈l/\y.aD≠c):=by grind [L9]
  refine⟨⟨akK (λx hx=>?_) (akJ hwu _) (λx hx y hy he ht hu=>?_),λx hx=>?_⟩,hlm,?_⟩
  · rcases(hlm x).1 hx with rfl | ⟨hx,_⟩
    all_goals grind [Yt,CX]
  · rcases(hlm y).1 hy with rfl | ⟨hy,_⟩
    · grind
    · rw [h.2 y hy] at hu; grind
  · rcases(hlm x).1 hx with rfl | ⟨hx,_⟩
    · rfl
    · exact h.2 x hx
  grind [UW]
theorem adJ(h:Kz l):TL l bG c v sum fG=true↔fG.length<=64/\((iQ fG).toNat:Int)=sum/\NS ⟨c,v,sum,false,false⟩=true/\(∀ y∈l,y.aD=c->y.aB<v)/\(l.length:Int)<bG:=by
  unfold TL; rw [bK,bM,bM,Nv h]
  constructor
  · rintro⟨⟨h1,h2,h3⟩,_⟩
    have h4:=Nu h h3; grind
  · rintro⟨h1,h2,h3,h4,h5⟩
    have h6:=agL h h3 h4 h5;refine⟨⟨h1,h2,h6⟩,?_⟩;unfold Bj; rw [aP aj,aP (not_not_intro h2),aS h6,(Nu h h6).2.2.2]
    grind [Y4]
theorem akL(h:Kz l)(hb:TL l bG c v sum fG=false):Hy l bG c v sum fG=l/\tkD l bG c v sum fG d=d:=by
  have h0:¬ qX l bG c v sum fG=0:=by grind [Nv,Nu,adJ]
  unfold Hy tkD; rw [aP h0,aP h0];unfold Bj anf; grind [Nv]
theorem TY[DecidableEq κ](k:κ)(v:ν)(es:List (κ × ν)):dY k (gK k v es)=some v:=by
  unfold gK; split
  · rename_i h
    unfold dY at h ⊢;rw [List.find?_map]
    cases hf:es.find? (λp=>decide (p.1=k)) with
    | none=>grind
    | some p=>
      have h2:=List.find?_some hf; simp at h2
      have e:es.find? ((fun(p:κ × ν)=>decide (p.1=k)) ∘ λp=>if p.1=k then(k,v) else p)=some p:=by
        rw [<- hf]; congr 1; funext q; simp only [Function.comp_apply]; split
        · grind
        · rfl
      grind
  · rename_i h
    unfold dY at h ⊢
    grind
theorem Y5(k k2:bT)(b:List (BitVec 8))(d:qL):qA k2 (gK k b d)=if k2=k then b else qA k2 d:=by
  grind [qA,TY,FX]
theorem asu[DecidableEq κ](k k2:κ)(es:List (κ × ν)):dY k2 (oJ k es)=if k2=k then none else dY k2 es:=by
  grind [dY,oJ]
theorem agM(k k2:bT)(d:qL):qA k2 (oJ k d)=if k2=k then[] else qA k2 d:=by
  grind [qA,asu]
theorem adK(h:Kz l)(hb:TL l bG c v sum fG=true):Kz (Hy l bG c v sum fG)/\(∀ y,y∈Hy l bG c v sum fG↔y=⟨c,v,sum,false,false⟩∨(y∈l/\y.aD≠c))/\((Hy l bG c v sum fG).length:Int)<=bG/\
    (∀ k,qA k (tkD l bG c v sum fG d)=if k=⟨c,true⟩ then[] else if k=⟨c,false⟩ then fG else qA k d):=by
  obtain⟨h1,h2,h3,h4,h5⟩:=(adJ h).1 hb;have h6:=agL h h3 h4 h5;have h0:qX l bG c v sum fG=0:=(Nv h).2 ⟨h1,h2,h6⟩;obtain⟨l2,hc,hc1,hc2,hc3⟩:=Y4 h h3 h4
  have e1:Bj l bG c v sum fG=Am l ⟨c,v,sum,true,false⟩:=by
    unfold Bj; rw [aP aj,aP (not_not_intro h2),aS h6,(Nu h h6).2.2.2]
  have e2:Hy l bG c v sum fG=l2:=by grind [Hy,TJ]
  have e3:tkD l bG c v sum fG d=oJ ⟨c,true⟩ (gK ⟨c,false⟩ fG (gK ⟨c,true⟩ fG d)):=by
    unfold tkD; rw [aS h0,e1]; unfold avW; rw [hc,aS rfl]; unfold anf; rw [aS h0,Y5,aS rfl]
  rw [e2,e3];refine⟨hc1,hc2,aj,λk=>?_⟩
  simp_all [agM,Y5,aS,aP]
theorem adL(h:Kz l)(c:Int):Kz (Df l c)/\(∀ y,y∈Df l c↔y∈l/\y.aD≠c)/\(Df l c).length<=l.length/\∀ k:bT,qA k (YJ l c d)=qA k d∨(k=⟨c,false⟩/\qA k (YJ l c d)=[]):=by
  unfold Df YJ o7; rw [h.fair]
  by_cases h1:RQ l c false=true
  · rw [aS h1]; simp only [if_true]
    refine⟨h.sub _,λy=>?_,ni _ _,λk=>?_⟩
    · rw [jV]
      constructor
      · rintro⟨h2,h3⟩; rw [h.2 y h2] at h3; grind
      grind
    grind [agM]
  · rw [aP h1]; simp only [aP (show ¬ (5:Int)=0 by decide)]
    refine⟨h,λy=>⟨λhy=>⟨hy,λhe=>h1 ((JI h.up).2 ⟨y,hy,he,h.2 y hy⟩)⟩,λhy=>hy.1⟩,kJ _,λk=>.inl trivial⟩
theorem Y6(h:Kz l)(d:qL):ZR l d=(l,d):=by
  unfold ZR
  have:∀(q:List aG),(∀ x∈q,x.gH=false)->∀ s:List aG × qL,q.foldl ags s=s:=by
    intro q; induction q with
    | nil=>simp
    | cons a q ih=>
      grind [ags]
  exact this l h.2 (l,d)
theorem aa4(h:Kz l)(d:qL)(c:Int):(UO l d).find? (λp=>decide (p.1.aD=c))=(l.find? λx=>decide (x.aD=c)).map λx=>(x,!decide (((iQ (qA ⟨x.aD,false⟩ d)).toNat:Int)=x.Sum)):=by
  unfold UO; rw [h.rest,List.find?_map]; rfl
theorem axW(h:Kz l)(hz:(uD l d c).2.2=0):∃ x∈l,x.aD=c/\((iQ (qA ⟨c,false⟩ d)).toNat:Int)=x.Sum/\(uD l d c).1=qA ⟨c,false⟩ d/\(uD l d c).2.1=x.aB:=by
  unfold uD at hz ⊢; rw [aa4 h] at hz ⊢
  cases hf:l.find? (λy=>decide (y.aD=c)) with
  | none=>grind
  | some y=>
    grind
end
theorem nk{l:List aF}(h:kI l=true):Up aF.ID l:=by
  exact Ir.1 (D9 _ _ (kM.1 h).2.2)
theorem BZ{l:List aF}(h:kI l=true){j:Int}(hb:gZ l j=true):(aU l j).ID=j:=(xX h hb).2
theorem agN{l:List aF}(h:kI l=true):eD l=l:=by grind [eD]
theorem VY{l:List aF}(hl:kI l=true){id:Int}{f:aF->aF × Int}(hf:Good f)(he:(iC l id f).2=0) :
    gZ l id=true/\(f (aU l id)).2=0/\∀ y,y∈(iC l id f).1↔y=(f (aU l id)).1∨(y∈l/\y.ID≠id):=by
  by_cases hb:¬ gZ l id=true
  · rw [ahS (by simpa using hb)] at he; exact absurd (show(5:Int)=0 from he) au
  replace hb:=L6.1 hb;rw [abK hl hb] at he ⊢
  by_cases h0:¬ (f (aU l id)).2=0
  · rw [aP h0] at he; exact absurd he h0
  replace h0:=L6.1 h0;rw [aS h0];refine⟨hb,h0,λy=>?_⟩;have hg:=(xX hl hb).1; have hi:=(xX hl hb).2;have hid:(f (aU l id)).1.ID=id:=by rw [(hf _ ((kM.1 hl).1 _ (bZ hg)) h0).2]; exact hi
  show y∈l.set _ _↔_
  constructor
  · intro hy
    obtain⟨k,hk⟩:=get_of_mem hy;rw [ab3] at hk; split at hk
    · split at hk
      · injection hk with hk; exact .inl hk.symm
      · exact absurd hk av
    · rename_i hne
      refine .inr ⟨bZ hk,λh=>hne (adI (nk hl) hg hk (by rw [hi,h]))⟩
  · rintro(rfl | ⟨hy,hne⟩)
    · exact TD.2 ⟨_,by rw [rT (aM hg)]⟩
    · obtain⟨k,hk⟩:=get_of_mem hy
      refine TD.2 ⟨k,?_⟩;rw [Io]; exact hk;intro h; rw [<- h,hg] at hk; injection hk with hk; rw [<- hk] at hne; exact hne hi
inductive Y7 (m:dh) (x:fH) (l:List aF):Prop
  | same (h:l=m.aA)
  | new (hk:x.Kind=3) (h1:∀ c∈m.aA,c.ID≠x.A) (h2:1<=x.A/\x.A<=1048576) (h:∀ y,y∈l↔y=⟨x.A,1,x.B,[]⟩∨y∈m.aA)
  | write (c:aF) (hk:x.Kind=4) (hc:c∈m.aA) (hi:c.ID=x.A) (h:∀ y,y∈l↔y=⟨c.ID,c.aB+1,x.B,[]⟩∨(y∈m.aA/\y.ID≠x.A))
  | claim (c:aF) (H:List Int) (hk:x.Kind=5) (hc:c∈m.aA) (hi:c.ID=x.A) (hv:x.C=c.aB) (hs:jv m.aL x.B=true) (hn:x.B∉c.aC) (hH:∀ n,n∈H↔n=x.B∨n∈c.aC) (hl:H.length=c.aC.length+1)
      (h:∀ y,y∈l↔y=⟨c.ID,c.aB,c.Sum,H⟩∨(y∈m.aA/\y.ID≠x.A))
  | awf (c:aF) (H:List Int) (hk:x.Kind=6) (hc:c∈m.aA) (hi:c.ID=x.A) (hn:x.B∈c.aC) (hH:∀ n,n∈H↔n≠x.B/\n∈c.aC) (hl:H.length+1=c.aC.length)
      (h:∀ y,y∈l↔y=⟨c.ID,c.aB,c.Sum,H⟩∨(y∈m.aA/\y.ID≠x.A))
inductive asv (m:dh) (x:fH) (l:List aR):Prop
  | same (h:l=m.aL)
  | add (hk:x.Kind=1) (h1:∀ n∈m.aL,n.ID≠x.A) (h:∀ y,y∈l↔y=⟨x.A,x.B,x.C,0⟩∨y∈m.aL)
  | set (n:aR) (hk:x.Kind=2) (hn:n∈m.aL) (hi:n.ID=x.A) (hs:n.gq≠2) (hb:0<=x.B/\x.B<=2) (h:∀ y,y∈l↔y=⟨n.ID,n.mI,n.lD,x.B⟩∨(y∈m.aL/\y.ID≠x.A))
theorem VZ(h:¬ (z<0∨4294967295<z)):IntKind.u32.wrap z=z:=by
  show z % (2 ^ 32:Int)=z;omega
theorem akM{c:aF}(ho:oL c=true){n:Int}(hn:n∉c.aC):∀ x,x∈c.aC.take (low (fun(y:Int)=>bL y n) c.aC)++[n]++c.aC.drop (low (fun(y:Int)=>bL y n) c.aC)↔x=n∨x∈c.aC:=λx=>EL _
theorem E5{c:aF}(ho:oL c=true):c.aC.Pairwise (λx y=>x<y):=by
  grind [oL,D9]
theorem aa5{c:aF}(ho:oL c=true){n:Int}(hn:n∈c.aC):∀ x,x∈c.aC.take (low (fun(y:Int)=>bL y n) c.aC)++c.aC.drop (low (fun(y:Int)=>bL y n) c.aC+1)↔x≠n/\x∈c.aC:=λx=>by
  have hu:Up (fun(y:Int)=>y) c.aC:=E5 ho;obtain⟨z,hz,h1⟩:=qh ((sU hu n).2 ⟨n,hn,rfl⟩);have h1:z=n:=h1;subst h1;rw [<- R5,List.mem_eraseIdx_iff_getElem?]
  constructor
  · rintro⟨i,hi,hx⟩
    exact⟨λh=>hi (adI hu hx hz h),bZ hx⟩
  · rintro⟨h2,h3⟩
    obtain⟨i,hi⟩:=get_of_mem h3;exact⟨i,λh=>h2 (by rw [h] at hi; have hz':c.aC[low (fun(y:Int)=>bL y z) c.aC]? = some z:=hz; rw [hz'] at hi; injection hi with hi; exact hi.symm),hi⟩
theorem agO{c:aF}(ho:oL c=true){n:Int}(hn:n∈c.aC):(c.aC.take (low (fun(y:Int)=>bL y n) c.aC)++c.aC.drop (low (fun(y:Int)=>bL y n) c.aC+1)).length+1=c.aC.length:=by
  have hu:Up (fun(y:Int)=>y) c.aC:=E5 ho;obtain⟨z,hz,h1⟩:=qh ((sU hu n).2 ⟨n,hn,rfl⟩);have:=aM hz;rw [<- R5,List.length_eraseIdx_of_lt this];have:low (fun(y:Int)=>bL y n) c.aC<c.aC.length:=this;omega
theorem agP{l:List aR}(h:sj l=true){n:aR}(hx:∃ x∈l,x.ID=n.ID):(oM l n).2≠0:=by
  unfold oM; rw [wE h]
  split
  all_goals simp_all [aS,sU,rH]
theorem asw(hm:mG m=true)(x:fH)(h7:x.Kind≠7):Y7 m x (yt m x).2.1/\asv m x (yt m x).1:=by
  obtain⟨hn,hc,hs,hh⟩:=dV.1 hm;unfold yt
  by_cases h0:x.Kind=0
  · rw [aS h0]; exact⟨.same rfl,.same rfl⟩
  rw [aP h0]
  by_cases h1:x.Kind=1
  · rw [aS h1]
    refine⟨.same Y,?_⟩
    rcases OO hn ⟨x.A,x.B,x.C,0⟩ with h | ⟨h,hm',h2⟩
    · rw [aP h]; exact .same rfl
    · rw [aS h]
      refine .add h1 (λn hn' he=>?_) h2;exact agP hn ⟨n,hn',he⟩ h
  rw [aP h1]
  by_cases h2:x.Kind=2
  · rw [aS h2]
    refine⟨.same Y,?_⟩;show asv m x (if _ then _ else if _ then _ else _)
    split
    · exact .same Y
    rcases Yo hn x.A x.B with h | ⟨h,hm',hb,hf,hst,ha,hb2,hc2⟩
    · rw [aP h]; exact .same rfl
    · rw [aS h]
      have hat:=EM hn hf;refine .set (gX m.aL x.A) h2 hat.1 hat.2 hst hb λy=>⟨λhy=>hc2 y hy,?_⟩;rintro(rfl | ⟨h3,h4⟩)
      · exact ha
      · exact hb2 y h3 h4
  rw [aP h2]
  by_cases h3:x.Kind=3
  · rw [aS h3]
    refine⟨?_,.same Y⟩;show Y7 m x (uh dU m.aA x).1;unfold uh
    by_cases hr:x.B<0∨4294967295<x.B
    · rw [aS hr]; exact .same rfl
    rw [aP hr,VZ hr]
    rcases DI m.aA x.A x.B with h | ⟨ha,hb,hf,hlen,h⟩
    · rw [aP h.2]; exact .same rfl
    · rw [h,aS rfl]
      refine .new h3 (λc hc' he=>?_) ⟨ha,hb⟩ λy=>?_
      · have:=(CB hc).2 ⟨c,hc',he⟩; rw [hf] at this; exact absurd this au
      · rw [agN hc]; exact EL _
  rw [aP h3]
  by_cases h4:x.Kind=4
  · rw [aS h4]
    refine⟨?_,.same Y⟩;show Y7 m x (uh (λl id sum=>iC l id (eU sum)) m.aA x).1;unfold uh
    by_cases hr:x.B<0∨4294967295<x.B
    · rw [aS hr]; exact .same rfl
    rw [aP hr,VZ hr];show Y7 m x (if(iC m.aA x.A (eU x.B)).2=0 then(iC m.aA x.A (eU x.B)).1 else m.aA)
    by_cases he:¬ (iC m.aA x.A (eU x.B)).2=0
    · rw [aP he]; exact .same rfl
    replace he:=L6.1 he;rw [aS he];obtain⟨hb,hz,hmem⟩:=VY hc (yY x.B) he;have hin:=uO hc hb;have hw:=MS ((kM.1 hc).1 _ hin) hz;refine .write (aU m.aA x.A) h4 hin (BZ hc hb) λy=>?_;rw [hmem,hw.1]
  rw [aP h4]
  by_cases h5:x.Kind=5
  · rw [aS h5]
    refine⟨?_,.same Y⟩;show Y7 m x (if _ then if _ then _ else _ else _)
    by_cases hst:¬ jv m.aL x.B=true
    · rw [aP hst]; exact .same rfl
    replace hst:=L6.1 hst;rw [aS hst]
    by_cases he:¬ (lu m.aA x.A x.B x.C).2=0
    · rw [aP he]; exact .same rfl
    replace he:=L6.1 he;rw [aS he];unfold lu at he ⊢
    by_cases hr:x.B<1∨16<x.B
    · rw [aS hr] at he; exact absurd (show(1:Int)=0 from he) au
    rw [aP hr] at he ⊢;obtain⟨hb,hz,hmem⟩:=VY hc (Xq x.C aj aj) he;have hin:=uO hc hb;have ho:=(kM.1 hc).1 _ hin;have hw:=MV ho aj aj hz;refine .claim (aU m.aA x.A) _ h5 hin (BZ hc hb) hw.1 hst hw.2.1 (akM ho hw.2.1) ?_ λy=>?_
    · rw [jG,jG,aAO,iF,rR]; omega
    · rw [hmem,hw.2.2.1]
  rw [aP h5]
  by_cases h6:x.Kind=6
  · rw [aS h6]
    refine⟨?_,.same Y⟩;show Y7 m x (if _ then _ else _)
    by_cases he:¬ (iC m.aA x.A (jB x.B)).2=0
    · rw [aP he]; exact .same rfl
    replace he:=L6.1 he;rw [aS he];obtain⟨hb,hz,hmem⟩:=VY hc (PO x.B) he;have hin:=uO hc hb;have ho:=(kM.1 hc).1 _ hin;have hw:=FK ho hz;refine .awf (aU m.aA x.A) _ h6 hin (BZ hc hb) hw.1 (aa5 ho hw.1) (agO ho hw.1) λy=>?_;rw [hmem,hw.2.1]
  rw [aP h6,aP h7]; exact⟨.same rfl,.same rfl⟩
theorem yL(hm:mG m=true){x:fH}(h7:x.Kind≠7)(h0:x.Client=0):Y7 m x (tY m x).aA/\asv m x (tY m x).aL:=by
  unfold tY; split
  · exact⟨.same Y,.same Y⟩
  · unfold eH; rw [aP (by grind),aS h0]; exact asw hm x h7
structure OKl (l:List bf) (dD:Int):Prop where
  one:∀ x∈l,Ov x=true/\(sends l x.jM:Int)<=dD/\(takes l x.To:Int)<=dD
  dif:l.Pairwise λx y=>¬ (x.aD=y.aD/\x.To=y.To)
theorem Rz{l:List bf}{c t:Int}:(Bo l c t=-1/\∀ x∈l,¬ (x.aD=c/\x.To=t))∨∃(k:Nat)(x:bf),Bo l c t=(k:Int)/\l[k]? = some x/\(x.aD=c/\x.To=t)/\∀ y∈l.take k,¬ (y.aD=c/\y.To=t):=by
  rcases wm (fun(x:bf)=>decide (x.aD=c)&&decide (x.To=t)) l with ⟨h1,h2⟩ | ⟨k,x,h1,h2,h3,h4⟩
  · exact .inl ⟨h1,by grind⟩
  · exact .inr ⟨k,x,h1,h2,by simpa using h3,λy hy h=>by have:=h4 y hy; simp [h.1,h.2] at this⟩
theorem wM{l:List bf}:IY l dD all=true↔OKl l dD/\(l.length:Int)<=all:=by
  unfold IY;rw [bK,ahG,bM];refine and_congr ⟨λh=>⟨λx hx=>?_,?_⟩,λh i x hx=>?_⟩ Iff.rfl
  · obtain⟨i,hi⟩:=sZ hx
    grind [auO]
  · rw [Eh]
    intro i j hi hj hij he;have:=h j l[j] (Ij hj)
    simp only [auO,bK,bM] at this
    grind [Rz,List.mem_take_iff_getElem]
  · have hm:=h.one x (bZ hx)
    simp only [auO,bK,bM]
    refine⟨⟨⟨hm.1,?_⟩,hm.2.1⟩,hm.2.2⟩;have hd:=Eh.1 h.dif
    grind [Rz]
theorem OKl.fil{l:List bf}(h:OKl l dD)(p:bf->Bool):OKl (l.filter p) dD:=
  ⟨λx hx=>by
    have h1:=h.one x (by grind);have h2:sends (l.filter p) x.jM<=sends l x.jM:=Yr.countP_le;have h3:takes (l.filter p) x.To<=takes l x.To:=Yr.countP_le
    grind,h.dif.filter _⟩
theorem aa6{l:List bf}{x:bf}(h:p8 l x dD all=0):Ov x=true/\(∀ y∈l,¬ (y.aD=x.aD/\y.To=x.To))/\(l.length:Int)<all/\(sends l x.jM:Int)<dD/\(takes l x.To:Int)<dD:=by
  unfold p8 at h
  grind [Rz]
theorem OKl.snoc{l:List bf}{x:bf}(h:OKl l dD)(hs:p8 l x dD all=0):OKl (l++[x]) dD:=by
  obtain⟨h1,h2,_,h4,h5⟩:=aa6 hs;have es:∀ id,sends (l++[x]) id=sends l id+if x.jM=id then 1 else 0:=by simp [id,sends]
  have et:∀ id,takes (l++[x]) id=takes l id+if x.To=id then 1 else 0:=by simp [id,takes]
  refine⟨λy hy=>?_,zk.2 ⟨h.dif,R4 _ _,λy hy z hz=>by rw [oG.1 hz]; exact h2 y hy⟩⟩;rw [es,et]
  rcases kX.1 hy with hy | hy
  · have hm:=h.one y hy
    grind
  grind
theorem agQ{l:List bf}{c:aF}{fr nV u:Int}(h:IY l dD all=true):IY (yc l dD all c fr nV u) dD all=true:=by
  unfold yc
  split
  · rename_i hb
    have hs:p8 l (Ae c fr nV u) dD all=0:=iY hb;rw [wM] at h ⊢;refine⟨h.1.snoc hs,?_⟩;have:=(aa6 hs).2.2.1
    grind
  grind
theorem agR{x:Gv}{c d:aF}{hv:Int}:∀(f:Nat)(l:List bf)(o:List aK),IY l x.dD x.all=true->IY (Kt x c d hv f (l,o)).1 x.dD x.all=true
  | 0,_,_,h=>h
  | f+1,l,o,h=>by
    unfold Kt
    split
    · exact agR f _ _ (agQ h)
    · exact h
theorem Y8{x:Gv}:∀(M:List eG)(s:List bf × List aK),IY s.1 x.dD x.all=true->IY (qz x M s).1 x.dD x.all=true
  | [],_,h=>h
  | n::M,s,h=>Y8 M (Jb x s n) (agR 100 s.1 s.2 h)
theorem ai6(m:dh)(s:gG)(r:ARules)(aJ:Int)(h:IY s.bI r.l7 r.All=true):IY (jr m s r aJ).bI r.l7 r.All=true:=by
  unfold jr
  split
  · have h1:IY (fq s aJ).bI r.l7 r.All=true:=by
      rw [wM] at h ⊢;exact⟨h.1.fil _,by grind [Ed]⟩
    have h2:IY (tO m s r aJ).1 r.l7 r.All=true:=Y8 _ _ h1
    grind [IY,rdL,Qv,agQ]
  grind
structure HOk (h:oZ):Prop where
  l:Kz h.l
  n:(h.l.length:Int)<=h.bG
  r:h.bG<=16
  d:∀ k,(qA k h.d).length<=4
  w:∀ x∈h.l,(qA ⟨x.aD,false⟩ h.d).length=4
theorem oN[DecidableEq κ](k k2:κ)(v:ν)(es:List (κ × ν)):dY k2 (gK k v es)=if k2=k then some v else dY k2 es:=by
  grind [TY,FX]
def RA(hs:kN):Prop:=∀ z h,dY z hs=some h->HOk h
def NT(m:dh)(hs:kN):Prop:=∀ n∈m.aL,∃ h,dY n.ID hs=some h/\h.bG=n.lD
theorem RA.put(H:RA hs)(hh:HOk h):RA (gK z h hs):=λz2 h2 hg=>by
  rw [oN] at hg; split at hg
  · grind
  · exact H z2 h2 hg
theorem NT.put(H:NT m hs){h0:oZ}(hg:dY z hs=some h0)(hr:h.bG=h0.bG):NT m (gK z h hs):=λn hn=>by
  obtain⟨h1,h2,h3⟩:=H n hn
  grind [oN]
theorem HOk.take(H:HOk h)(c v sum:Int)(hd:fG.length=4):HOk ⟨h.up,h.bG,Hy h.l h.bG c v sum fG,tkD h.l h.bG c v sum fG h.d⟩:=by
  cases hb:TL h.l h.bG c v sum fG with
  | false=>obtain⟨h1,h2⟩:=akL H.l hb (d:=h.d); simp [*]
  | true=>
    obtain⟨h1,h2,h3,h4⟩:=adK H.l hb;refine⟨h1,h3,H.r,λk=>?_,λx hx=>?_⟩
    · show(qA k _).length<=4
      rw [h4]; split
      · decide
      · split
        · omega
        · exact H.d k
    · show(qA _ _).length=4
      rw [h4,aP av]
      rcases(h2 x).1 hx with rfl | ⟨hx,hc⟩
      · grind
      · rw [aP (by grind)]; exact H.w x hx
theorem HOk.rmv(H:HOk h)(c:Int):HOk ⟨h.up,h.bG,Df h.l c,YJ h.l c h.d⟩:=by
  obtain⟨h1,h2,h3,h4⟩:=adL H.l c;refine⟨h1,by have:=H.n; grind,H.r,λk=>?_,λx hx=>?_⟩
  · rcases h4 k with e | ⟨_,e⟩
    · show(qA k _).length<=4; rw [e]; exact H.d k
    grind
  · have hx':=(h2 x).1 hx
    rcases h4 ⟨x.aD,false⟩ with e | ⟨e,_⟩
    · show(qA _ _).length=4; rw [e]; exact H.w x hx'.1
    grind
theorem asy:∀(q:List Int){h:oZ},HOk h->HOk ⟨h.up,h.bG,(q.foldl aaS (h.l,h.d)).1,(q.foldl aaS (h.l,h.d)).2⟩
  | [],h,H=>⟨H.l,H.n,H.r,H.d,H.w⟩
  | c::q,h,H=>by
    have:=asy q (H.rmv c);exact this
theorem akO(c bit:Int)(d:qL)(k:bT):(qA k (adf c bit d)).length=(qA k d).length:=by
  grind [adf,avM,Y5,List.length_set]
theorem HOk.nil{up:Bool}{bG:Int}(h0:0<=bG)(h1:bG<=16):HOk ⟨up,bG,[],[]⟩:=
  ⟨⟨rfl,av⟩,h0,h1,λk=>by show([]:List (BitVec 8)).length<=4; decide,av⟩
theorem agS(r:Int):0<=J4 r/\J4 r<=16:=by grind [J4]
theorem asz{r:Int}(h:1<=r/\r<=16):J4 r=r:=by
  grind [J4]
structure Inv (c:PC) (k:Nat):Prop where
  hm:mG c.m=true
  hr:l5 c.r=true
  hb:c.s.cZ.length<=k
  hl:IY c.s.bI c.r.l7 c.r.All=true
  hd:c.s.bA.length<=32*k
  hu:0<=c.aJ/\c.aJ<=100*k
  hw:c.bR.length<=300*k
  hz:RA c.hs
  hN:NT c.m c.hs
theorem Inv.ok(H:Inv c k)(hk:k<=1000):Ok c:=by
  have hl:=(wM.1 H.hl).2; have hbd:=(oq H.hr).2.2.2.1
  exact⟨H.hm,H.hr,by have:=H.hb; omega,aj,by have:=H.hd; omega,by have:=H.hu; omega,by have:=H.hw; omega,
    λz h hg=>⟨by have:=(H.hz z h hg).n; have:=(H.hz z h hg).r; omega,λk=>by have:=(H.hz z h hg).d k; omega⟩,
    λn hn=>by obtain⟨h,hg,_⟩:=H.hN n hn; grind⟩
theorem Inv.Mc(H:Inv c k):c.s.bI.length<=64:=by
  have hl:=(wM.1 H.hl).2; have hbd:=(oq H.hr).2.2.2.1; omega
theorem Inv.mono{k2:Nat}(H:Inv c k)(h:k<=k2):Inv c k2:=
  ⟨H.hm,H.hr,by have:=H.hb; omega,H.hl,by have:=H.hd; omega,by have:=H.hu; omega,by have:=H.hw; omega,H.hz,H.hN⟩
theorem OKl.sub{l q:List bf}(h:OKl l dD)(hs:q.Sublist l):OKl q dD:=
  ⟨λx hx=>by
    have h1:=h.one x (hs.mem hx)
    grind [sends,takes],h.dif.sublist hs⟩
theorem anI{l q:List bf}(h:IY l dD all=true)(hs:q.Sublist l):IY q dD all=true:=by
  have h1:=wM.1 h;exact wM.2 ⟨h1.1.sub hs,by grind⟩
theorem aa7(l:List bf)(c t:Int):(zB l c t).Sublist l:=by
  unfold zB; split
  · simp
  · rw [<- R5]; grind
theorem Md(hm:mG m=true){x:fH}(h7:x.Kind≠7)(h0:x.Client=0)(h1:x.Kind≠1)(H:NT m hs):NT (tY m x) hs:=λn hn=>by
  rcases(yL hm h7 h0).2 with h | ⟨hk,_,_⟩ | ⟨n0,hk,hn0,hi,hs,hb,h⟩
  · rw [h] at hn; exact H n hn
  · omega
  · rcases(h n).1 hn with rfl | ⟨hn,_⟩
    · exact H n0 hn0
    · exact H n hn
theorem T9:∀(l:List fH){m:dh},mG m=true->(∀ x∈l,x.Kind≠7/\x.Client=0/\x.Kind≠1)->NT m hs->NT (C9 m l) hs
  | [],m,_,_,H=>H
  | x::l,m,hm,hl,H=>by
    have hx:=hl x (oo);exact T9 l (o8 hm x) (λy hy=>hl y (lS _ hy)) (Md hm hx.1 hx.2.1 hx.2.2 H)
theorem O5{s:gG}{aJ n:Int}:∀(l:List fH){m:dh},mG m=true->(∀ x∈l,x.Kind≠7/\x.Client=0/\x.Kind≠1)->NT m hs->NT (lU s aJ n m l) hs
  | [],m,_,_,H=>H
  | x::l,m,hm,hl,H=>by
    have hx:=hl x (oo);show NT (lU s aJ n (Hz s aJ n m x) l) hs;unfold Hz; split
    · exact O5 l (o8 hm x) (λy hy=>hl y (lS _ hy)) (Md hm hx.1 hx.2.1 hx.2.2 H)
    · exact O5 l hm (λy hy=>hl y (lS _ hy)) H
theorem anJ{s:gG}{r:ARules}{aJ:Int}:∀ x∈mX m s r aJ,x.Kind≠7/\x.Client=0/\x.Kind≠1:=by
  intro x hx; unfold mX at hx; split at hx
  · obtain⟨o,_,rfl⟩:=gB.1 hx; exact⟨by show(6:Int)≠7; decide,rfl,by show(6:Int)≠1; decide⟩
  grind
theorem asA{cs:List aF}{n:Int}{l:List aG}:∀ x∈j5 cs n l,x.Kind≠7/\x.Client=0/\x.Kind≠1:=by
  intro x hx; unfold j5 at hx; split at hx
  · obtain⟨c,_,hc⟩:=Ol.1 hx
    unfold recC at hc
    grind
  grind
theorem awg(H:Inv c k)(o:aK):Inv (kU c o) k:=by
  cases hf:dY o.jM c.hs with
  | none=>rw [YK hf]; exact H
  | some f=>
  cases hb:(!f.up||vW c.s c.aJ o.aD o.To) with
  | true=>rw [Rb hf hb]; exact H
  | false=>
  by_cases hr:¬ ((uD f.l f.d o.aD).2.2=0/\(uD f.l f.d o.aD).2.1=o.aB/\((iQ (uD f.l f.d o.aD).1).toNat:Int)=o.Sum)
  · rw [adg hf hr]; exact H
  replace hr:=L6.1 hr;have hF:=H.hz _ _ hf;obtain⟨x,hx,bN,_,lN,_⟩:=axW hF.l hr.1;have hd:(uD f.l f.d o.aD).1.length=4:=by rw [lN,<- bN]; exact hF.w x hx
  cases ht:dY o.To c.hs with
  | none=>
    have e:kU c o=c:=by unfold kU; rw [hf]; simp only; rw [aP (by rw [hb]; decide),aP (λh=>h hr),ht]
    rw [e]; exact H
  | some t=>
  have hT:=(H.hz _ _ ht).take o.aD (uD f.l f.d o.aD).2.1 o.Sum hd
  cases hk:TL t.l t.bG o.aD (uD f.l f.d o.aD).2.1 o.Sum (uD f.l f.d o.aD).1 with
  | false=>rw [YL hf hb hr ht hk]; exact⟨H.hm,H.hr,H.hb,H.hl,H.hd,H.hu,H.hw,H.hz.put hT,H.hN.put ht rfl⟩
  | true=>
    rw [Rf hf hb hr ht hk];refine⟨o8 H.hm _,H.hr,H.hb,?_,H.hd,H.hu,H.hw,H.hz.put hT,(Md H.hm (by show(5:Int)≠7; decide) rfl (by show(5:Int)≠1; decide) H.hN).put ht rfl⟩;show IY (if _ then _ else _) _ _=true
    split
    · exact anI H.hl (aa7 _ _ _)
    · exact H.hl
theorem awh(H:Inv c k)(o:aK):Inv (og c o) k:=by
  by_cases h0:o.Kind=0
  · simp_all [og,aS,awg]
  cases ht:dY o.To c.hs with
  | none=>grind [og]
  | some t=>
  cases hb:(dK t.l).any (ZU o) with
  | false=>grind [adh]
  | true=>rw [Ri h0 ht hb]; exact⟨H.hm,H.hr,H.hb,H.hl,H.hd,H.hu,H.hw,H.hz.put ((H.hz _ _ ht).rmv _),H.hN.put ht rfl⟩
theorem Nw(H:Inv c k){bR:List aK}(h:bR.length<=300*k):Inv { c with bR:=bR } k:=⟨H.hm,H.hr,H.hb,H.hl,H.hd,H.hu,h,H.hz,H.hN⟩
theorem awi(H:Inv c k)(it:AItem):Inv (lC c it).1 (k+1):=by
  have hw:=H.hw;unfold lC; split
  · exact H.mono aj
  · split
    · grind
    · split
      · exact Nw (H.mono aj) (by grind)
      · have hn:(c.bR.take it.A.toNat++c.bR.drop (it.A.toNat+1)).length<=300*k:=by grind
        show Inv (if _ then _ else _) _
        split
        · exact(awh (Nw H hn) _).mono aj
        · exact(Nw H hn).mono aj
theorem Ua{c v sum:Int}(hd:fG.length=4):∀(l:List Int){q:kN × List Int},RA q.1->NT m q.1->RA (l.foldl (vQ c v sum fG) q).1/\NT m (l.foldl (vQ c v sum fG) q).1
  | [],q,h1,h2=>⟨h1,h2⟩
  | z::l,q,h1,h2=>by
    rw [Gh]
    have:RA (vQ c v sum fG q z).1/\NT m (vQ c v sum fG q z).1:=by
      unfold vQ; split
      · exact⟨h1,h2⟩
      · rename_i h hg; exact⟨h1.put ((h1 _ _ hg).take c v sum hd),h2.put hg rfl⟩
    exact Ua hd l this.1 this.2
theorem asB{it:AItem}{v:Int}{l:List Int}:∀ x∈l.map (λz=>vX it.A z v),x.Kind≠7/\x.Client=0/\x.Kind≠1:=by
  simp
theorem Ub(m:dh)(it:AItem):(vY m it).Kind≠7/\(vY m it).Client=0/\(vY m it).Kind≠1:=by
  refine⟨?_,Y,?_⟩ <;> (show(if _ then(4:Int) else 3)≠_; grind)
theorem ai7{x:fH}(h:¬ (eH m x).2<0):(eH m x).1=tY m x:=by grind [tY]
theorem awj(H:Inv c k)(it:AItem):Inv (sF c it).1 k:=by
  have hd:(oh it.A it.B).length=4:=rfl;have hw:=Ub c.m it;unfold sF; split
  · exact H
  · rename_i hp
    have hh:=Ua hd (c:=it.A) (v:=(eH c.m (vY c.m it)).2) (sum:=Js it.A it.B) (m:=c.m) (YM c (eH c.m (vY c.m it)).1) (q:=(c.hs,[])) H.hz H.hN;have hh2:=Ua hd (c:=it.A) (v:=(eH c.m (vY c.m it)).2) (sum:=Js it.A it.B) (YM c (eH c.m (vY c.m it)).1) (q:=(c.hs,[])) H.hz (Md H.hm hw.1 hw.2.1 hw.2.2 H.hN)
    split
    · exact⟨H.hm,H.hr,H.hb,H.hl,H.hd,H.hu,H.hw,hh.1,hh.2⟩
    · have hN:NT (C9 (eH c.m (vY c.m it)).1 ((Jt c it).2.map λz=>vX it.A z (eH c.m (vY c.m it)).2)) (Jt c it).1:=by
        rw [ai7 hp]; exact T9 _ (o8 H.hm _) asB hh2.2
      exact⟨by show mG (C9 _ _)=true; rw [ai7 hp]; exact Rj (o8 H.hm _) _,H.hr,H.hb,H.hl,H.hd,H.hu,H.hw,hh2.1,hN⟩
theorem asC(l:List eY)(n aJ:Int):(tX l n aJ).length<=l.length+1:=by
  grind [tX,GY,List.length_set,List.length_append,List.length_singleton,List.length_take,List.length_drop]
theorem agT(hm:mG m=true)(s:gG)(r:ARules)(aJ:Int):(jr m s r aJ).bA.length<=s.bA.length+32:=by
  have h:=agw m s r aJ; have hs:=(uN (dV.1 hm).2.1).1;unfold jr; unfold mX at h
  split
  · rename_i hb; rw [aS hb,kF] at h
    show((fq s aJ).bA++uy m s r aJ).length<=_;have:(fq s aJ).bA.length<=s.bA.length:=ni _ _;rw [jG]; omega
  · omega
theorem Uc(m:dh)(s:gG)(r:ARules)(aJ:Int):(jr m s r aJ).cZ=s.cZ:=by unfold jr; split <;> rfl
theorem awk(H:Inv c k):Inv (uY c) (k+1):=by
  have hs:=(uN (dV.1 H.hm).2.1).1;refine⟨Rj H.hm _,H.hr,?_,ai6 _ _ _ _ H.hl,?_,by have:=H.hu; exact⟨this.1,by show c.aJ<=_; omega⟩,?_,H.hz,T9 _ H.hm anJ H.hN⟩
  · show(jr _ _ _ _).cZ.length<=_; rw [Uc]; have:=H.hb; omega
  · have:=agT H.hm c.s c.r c.aJ; have:=H.hd; show(jr _ _ _ _).bA.length<=_; omega
  · show(c.bR++qb _ _ _ _).length<=_
    have:=YP (m:=c.m) (r:=c.r) (aJ:=c.aJ) H.Mc; have:=H.hw
    grind
abbrev JJ(iE:dh)(je:AItem):=oM iE.aL ⟨je.A,je.B,je.C,0⟩
theorem asD(hm:mG m=true)(it:AItem) :
    (knE m (Ky it)=0/\(tY m (Ky it)).aA=m.aA/\(∀ y,y∈(tY m (Ky it)).aL↔y=⟨it.A,it.B,it.C,0⟩∨y∈m.aL)/\J9 ⟨it.A,it.B,it.C,0⟩=true/\∀ n∈m.aL,n.ID≠it.A)∨(knE m (Ky it)≠0/\tY m (Ky it)=m):=by
  have hn:=(dV.1 hm).1
  have e:eH m (Ky it)=(⟨if(JJ m it).2=0 then(JJ m it).1 else m.aL,m.aA,m.aT⟩,Gw (JJ m it).2 0):=by
    unfold eH; rw [aP (by grind),aS (by rfl)]; rfl
  unfold knE tY; rw [e]
  by_cases h0:(JJ m it).2=0
  · rcases OO hn ⟨it.A,it.B,it.C,0⟩ with h | ⟨h,hm',h2⟩
    · grind
    · left
      have e2:Gw (JJ m it).2 0=0:=by rw [h0]; rfl
      simp only; rw [e2,aS h0,aP au,aP au]
      grind [rH,agP]
  · right
    have e2:Gw (JJ m it).2 0<0:=by
      have:=(akf m (Ky it)).1;have e3:(yt m (Ky it)).2.2.1=(JJ m it).2:=rfl;rw [e3] at this;unfold Gw; rw [aS h0]; omega
    grind
theorem awl(H:Inv c k)(it:AItem):Inv (avX c it).1 k:=by
  have hN:NT (tY c.m (Ky it)) (if knE c.m (Ky it)=0 then gK it.A ⟨true,J4 it.C,[],[]⟩ c.hs else c.hs):=by
    rcases asD H.hm it with ⟨h0,_,h2,h3,h4⟩ | ⟨h0,h1⟩
    · rw [aS h0]
      intro n hn
      rcases(h2 n).1 hn with rfl | hn'
      · simp_all [J9,TY,bK,bM,asz]
      · obtain⟨h,hg,hr⟩:=H.hN n hn'
        grind [oN]
    · rw [aP h0,h1]; exact H.hN
  refine⟨o8 H.hm _,H.hr,H.hb,H.hl,H.hd,H.hu,H.hw,?_,hN⟩;show RA (if _ then _ else _)
  split
  · exact H.hz.put (.nil (agS _).1 (agS _).2)
  · exact H.hz
theorem awm(H:Inv c k)(it:AItem)(hg:dY it.A c.hs=some h):Inv (LY c it h) (k+1):=by
  refine⟨HY H.hm _,H.hr,by have:=H.hb; show c.s.cZ.length<=_; omega,H.hl,by have:=H.hd; show c.s.bA.length<=_; omega,by have:=H.hu; exact⟨this.1,by show c.aJ<=_; omega⟩,?_,H.hz,O5 _ H.hm asA H.hN⟩;show(c.bR++vD _ _ _ _).length<=_;have h1:(vD (dK h.l) (lT (lU c.s c.aJ it.A c.m (j5 c.m.aA it.A (dK h.l))).aA (dK h.l)) it.A (c.aJ+c.r.iD)).length<=h.l.length:=by grind [vD,List.length_map,Nat.le_trans,List.length_filter_le,Ee]
  have:=(H.hz _ _ hg).n; have:=(H.hz _ _ hg).r; have:=H.hw
  grind
theorem aA1(H:Inv c k){h2:oZ}(hg:dY z c.hs=some h)(hh:HOk h2)(hr:h2.bG=h.bG):Inv { c with hs:=gK z h2 c.hs } k:=
  ⟨H.hm,H.hr,H.hb,H.hl,H.hd,H.hu,H.hw,H.hz.put hh,H.hN.put hg hr⟩
theorem RB(H:Inv c k){h2:oZ}(hg:dY z c.hs=some h)(hh:HOk h2)(hr:h2.bG=h.bG):Inv { c with hs:=gK z h2 c.hs } (k+1):=(aA1 H hg hh hr).mono (abk k)
theorem aA2(H:Inv c k)(it:AItem)(hg:dY it.A c.hs=some h):Inv (J6 c it h).1 (k+1):=by
  have hh:=H.hz _ _ hg;unfold J6
  split
  · exact⟨H.hm,H.hr,by have:=asC c.s.cZ it.A c.aJ; have:=H.hb; show(tX _ _ _).length<=_; omega,H.hl,by have:=H.hd; show c.s.bA.length<=_; omega,by have:=H.hu; exact⟨this.1,by show c.aJ<=_; omega⟩,by have:=H.hw; show c.bR.length<=_; omega,H.hz,H.hN⟩
  split
  · grind [awm]
  split
  · exact RB H hg ⟨hh.l,hh.n,hh.r,hh.d,hh.w⟩ Y
  split
  · rw [Y6 hh.l]; exact RB H hg ⟨hh.l,hh.n,hh.r,hh.d,hh.w⟩ rfl
  split
  · exact RB H hg (asy _ hh) Y
  split
  · exact RB H hg ⟨hh.l,hh.n,hh.r,λk=>by show(qA _ (adf _ _ _)).length<=4; rw [akO]; exact hh.d k,λx hx=>by show(qA _ (adf _ _ _)).length=4; rw [akO]; exact hh.w x hx⟩ rfl
  · exact RB H hg (.nil (by have:=hh.n; omega) hh.r) rfl
theorem xJ(H:Inv c k)(it:AItem):Inv (oC c it).1 (k+1):=by
  unfold oC
  split
  · split
    · exact H.mono aj
    · have:=H.mono (abk k)
      refine⟨this.hm,this.hr,this.hb,this.hl,this.hd,?_,this.hw,this.hz,this.hN⟩;have:=H.hu; grind
  split
  · exact(awl H it).mono aj
  split
  · exact((⟨o8 H.hm _,H.hr,H.hb,H.hl,H.hd,H.hu,H.hw,H.hz,Md H.hm av Y av H.hN⟩:Inv { c with m:=tY c.m ⟨0,0,2,it.A,it.B,0⟩ } k)).mono aj
  split
  · exact awk H
  split
  · exact awi H it
  split
  · exact(awj H it).mono aj
  split
  · exact H.mono aj
  split
  · exact H.mono aj
  · rename_i h hg
    split
    · exact H.mono aj
    grind [aA2]
def Dj(c:PC)(l:List AItem):PC:=l.foldl (λc it=>(oC c it).1) c
theorem akP:∀(l:List AItem){c:PC}{k:Nat},Inv c k->Inv (Dj c l) (k+l.length)
  | [],c,k,H=>H
  | it::l,c,k,H=>by
    have:=akP l (xJ H it);rw [show k+(it::l).length=k+1+l.length by rw [oV]; omega]; exact this
theorem Ud(c:PC)(l:List AItem)(it:AItem):Dj c (l++[it])=(oC (Dj c l) it).1:=by simp [Dj]
def KC(r:ARules):PC:=⟨⟨[],[],[]⟩,⟨[],[],[]⟩,r,0,[],[]⟩
theorem axX{r:ARules}(h:l5 r=true):Inv (KC r) 0:=by
  have hbd:=(oq h).2.2.2.1;refine⟨aqP,h,kJ _,?_,kJ _,⟨Ls _,Ls _⟩,kJ _,λz h hg=>?_,λn hn=>?_⟩
  · refine wM.2 ⟨⟨by simp [absurd,KC],List.Pairwise.nil⟩,?_⟩
    show(0:Int)<=r.All; omega
  all_goals grind [absurd,KC,dY]
theorem aGq(c:PC)(o:aK):(kU c o).r=c.r:=by
  grind [kU]
theorem aGr(c:PC)(o:aK):(og c o).r=c.r:=by
  grind [og,aGq]
theorem agU(c:PC)(it:AItem):(oC c it).1.r=c.r:=by
  unfold oC
  split
  · grind
  split
  · rfl
  split
  · rfl
  split
  · rfl
  split
  · grind [lC,aGr]
  split
  · grind [sF]
  split
  · rfl
  split
  · rfl
  split
  · rfl
  · unfold J6
    split
    · rfl
    split
    · rfl
    grind
theorem asE:∀(l:List AItem)(c:PC),(Dj c l).r=c.r
  | [],c=>rfl
  | it::l,c=>(asE l (oC c it).1).trans (agU c it)
theorem RD{r:ARules}(hr:l5 r=true){l:List AItem}(hk:k<=l.length):Inv (Dj (KC r) (l.take k)) k:=by
  have:=akP (l.take k) (axX hr)
  grind
end
section
variable {b w:World}{S:Nat->Prop}{F:List lG}{iI:Nat}{G:GC}{jU:ah}{l:List AItem}
theorem awn:∀ w,(zeroValue 23).run prog w=.ok (.agg #[aI 0,aI 0,aI 0,aI 0,aI 0,aI 0]) w:=ay
theorem HZ(a0:Int)(a1:Int)(a2:Int)(a3:Int)(a4:Int)(a5:Int):prog.built 23 [(0,aI a0),(1,aI a1),(2,aI a2),(3,aI a3),(4,aI a4),(5,aI a5)]=some #[aI a0,aI a1,aI a2,aI a3,aI a4,aI a5]:=ak
theorem FZ(a0:Int)(a1:Int)(a2:Int)(a3:Int):prog.built 32 [(0,aI a0),(1,aI a1),(2,aI a2),(3,aI a3)]=some #[aI a0,aI a1,aI a2,aI a3]:=ak
theorem CY(a0:Int)(a1:Int):prog.built 32 [(0,aI a0),(1,aI a1)]=some #[aI a0,aI a1,aI 0,aI 0]:=ak
theorem Y9(a0:Int)(a1:Int)(a2:Int):prog.built 32 [(0,aI a0),(1,aI a1),(2,aI a2)]=some #[aI a0,aI a1,aI a2,aI 0]:=ak
theorem axY:bJ prog 28:=ay
def wN(g:Nat)(G:GC):lG:=ZO (G.rs g)
theorem E8(H0:Hp b S w (wN iI G::F))(it:AItem)(hok:Ok G.pl)(hC:qC it.C) :
    bO prog 11 #[gI iI,.agg #[aI it.Kind,aI it.A,aI it.B,aI it.C]] w λv w'=>∃(G1:GC),v=aI (oC G.pl it).2/\G1.pl=(oC G.pl it).1/\Hp b S w' (wN iI G1::F):=by
  refine(aAU H0.allOut it hok hC).mono ?_;rintro v w' ⟨G',rfl,h,K⟩;exact⟨G',Y,h,K.allIn⟩
theorem aA3(H0:Hp b S w (wN iI G::F))(bH:Int)  :
    bO prog 37 #[gI iI,aI bH] w λv w'=>v=.bool (wL G.pl.hs bH)/\Hp b S w' (wN iI G::F):=by
  obtain⟨A1,c1,A2,c2,A3,c3,A4,c4,A5,c5,A6,c6,A7,c7,m,s,r,aJ,gm,bR,hs⟩:=G;have H1:=H0.allOut;refine(arH (H1.mV 1 8) bH).mono ?_;rintro v w' ⟨rfl,K⟩;exact⟨Y,(ET (K.sel s8))⟩
theorem O6(H0:Hp b S w (wN iI G::F))(bH:Int)(hok:Ok G.pl) :
    bO prog 28 #[gI iI,aI bH] w λv w'=>∃(A0:ah)(c0:Nat),v=.slice A0 ((Kw G.pl.hs bH).length) c0/\Hp b S w' (aQ aZ 132 A0 c0 (Kw G.pl.hs bH)::wN iI G::F):=by
  obtain⟨A1,c1,A2,c2,A3,c3,A4,c4,A5,c5,A6,c6,A7,c7,m,s,r,aJ,gm,bR,hs⟩:=G;have H1:=H0.allOut;refine(ai1 (H1.mV 1 8) bH (λh hg=>lI (asj hok.hz _ _ hg).1 au)).mono ?_;rintro v w' ⟨A0,c0,rfl,K⟩;exact⟨A0,c0,Y,((ET ((K.mV 1 8).sel s9)).sel s1)⟩
theorem asF(H0:Hp b S w (wN iI G::F))(aN:Int)(hok:Ok G.pl) :
    bO prog 12 #[gI iI,aI aN] w λv w'=>∃(A0:ah)(c0:Nat),v=.tuple #[.slice A0 (((HV G.pl aN).1).length) c0,aI ((HV G.pl aN).2)]/\Hp b S w' (aQ gQ 5 A0 c0 ((HV G.pl aN).1)::wN iI G::F):=by
  obtain⟨A1,c1,A2,c2,A3,c3,A4,c4,A5,c5,A6,c6,A7,c7,m,s,r,aJ,gm,bR,hs⟩:=G;have H1:=H0.allOut;refine(asf (H1.mV 1 8) aN hok.hm (axU (asj hok.hz))).mono ?_;rintro v w' ⟨A0,c0,rfl,K⟩;exact⟨A0,c0,Y,((ET ((K.mV 1 8).sel s9)).sel s1)⟩
theorem agV(H0:Hp b S w (wN iI G::F)) (hok:Ok G.pl) :
    bO prog 18 #[gI iI] w λv w'=>∃(vT:ah)(vU:Nat)(zH:ah)(zI:Nat)(zJ:ah)(zK:Nat),v=.agg #[.slice vT G.pl.s.cZ.length vU,.slice zH G.pl.s.bI.length zI,.slice zJ G.pl.s.bA.length zK]/\Hp b S w' (aQ iK 107 vT vU G.pl.s.cZ::aQ dz 117 zH zI G.pl.s.bI::aQ bg 112 zJ zK G.pl.s.bA::wN iI G::F):=by
  obtain⟨A1,c1,A2,c2,A3,c3,A4,c4,A5,c5,A6,c6,A7,c7,m,s,r,aJ,gm,bR,hs⟩:=G;have H1:=H0.allOut;refine(asc (H1.mV 1 8) hok.hb (lI hok.hl au) (lI hok.hd au)).mono ?_;rintro v w' ⟨vT,vU,zH,zI,zJ,zK,rfl,K⟩;exact⟨vT,vU,zH,zI,zJ,zK,Y,((((ET ((K.mV 3 8).sel s11)).sel s3).sel s3).sel s3)⟩
theorem RF(H0:Hp b S w (wN iI G::F)) (hok:Ok G.pl) :
    bO prog 16 #[gI iI] w λv w'=>∃(vT:ah)(vU:Nat)(zH:ah)(zI:Nat)(zJ:ah)(zK:Nat),v=.agg #[.slice vT G.pl.m.aL.length vU,.slice zH G.pl.m.aA.length zI,.slice zJ G.pl.m.aT.length zK]/\Hp b S w' (dH bW vT vU G.pl.m.aL::dH bD zH zI G.pl.m.aA::dH dw zJ zK G.pl.m.aT::wN iI G::F):=by
  obtain⟨A1,c1,A2,c2,A3,c3,A4,c4,A5,c5,A6,c6,A7,c7,m,s,r,aJ,gm,bR,hs⟩:=G;have H1:=H0.allOut;refine(ash (H1.mV 1 8) hok.hm).mono ?_;rintro v w' ⟨vT,vU,zH,zI,zJ,zK,rfl,K⟩;exact⟨vT,vU,zH,zI,zJ,zK,Y,((((ET ((K.mV 3 8).sel s11)).sel s3).sel s3).sel s3)⟩
theorem akQ(H0:Hp b S w F)(r:ARules)(hr:l5 r=true) :
    bO prog 10 #[.agg #[aI r.kY,aI r.l7,aI r.All,aI r.jw,aI r.iD,aI r.eZ]] w λv w'=>∃(gc:Nat)(G1:GC),v=.tuple #[gI gc,aI 0]/\G1.pl=KC r/\Hp b S w' (wN gc G1::F):=by
  refine(asg H0 r hr).mono ?_;rintro v w' ⟨gc,gm,B1,d1,B2,d2,B3,d3,B4,d4,B5,d5,B6,d6,B7,d7,rfl,K⟩;exact⟨gc,⟨B1,d1,B2,d2,B3,d3,B4,d4,B5,d5,B6,d6,B7,d7,mE,sE,r,0,gm,[],[]⟩,Y,Y,ET (K.sel s8)⟩
def awo(xs:List (BitVec 8)):ByteArray:=(xs.map λb=>(b.toNat:Int)).foldl (λr n=>r.push (UInt8.ofNat n.toNat)) ByteArray.empty
section
open Go
variable {P:Program}{n:Cx}{l:List (Nat × Value)}{w:World}{x y:Operand}
theorem Ev.b2s{A:ah}{c:Nat}{xs:List (BitVec 8)}{t d e:TypeId}(h:Sl gQ S w A c xs)(hs:P.underlying t=some (.slice e))(he:P.underlying e=some (.int .u8))(hd:P.underlying d=some .string)(hx:gY l x=some (.slice A xs.length c)) :
    Ev P n l w (.convert t d x) (.string (awo xs)):=λo ac w' ho ha hw=>by
  unfold execOp; rw [ho]
  cases A with
  | none=>
    have hz:xs=[]:=qF (by have:=h.cap; have:=h.nil rfl; omega);subst hz
    simp only [ha.eval hx,Go.run_convert_bytes_string w' t d e none _ _ hs he hd,jO]
    simp [Conv.bytesToString,awo]
  | some a=>
    have hc:∀ j u,((xs.map λb=>(b.toNat:Int)).map (Value.int .u8))[j]? = some u->w.cell? (a.add j)=some u:=by
      intro j u hu;rw [OP,rQ] at hu
      cases hb:xs[j]? with
      | none=>rw [hb] at hu; cases hu
      | some b=>
        rw [hb] at hu;obtain⟨_,cs,h1,h2⟩:=h.rows j b hb;have h3:cs=[.int .u8 (b.toNat:Int)]:=h1;have:=h2 0 u (by rw [h3]; exact hu)
        simpa [gQ,Ty.flat,Ih] using this
    have hl:=ajs (P:=P) w' a _ (λj u hu=>hw.cell (hc j u hu))
    simp only [kF] at hl
    have h2:=Go.run_bytesToString w' a xs.length c (xs.map λb=>(b.toNat:Int)) hl
    simp [ha.eval hx,Go.run_convert_bytes_string w' t d e (some a) _ _ hs he hd,h2,awo]
theorem Ev.eqs{a b:ByteArray}{t ty:TypeId}(hx:gY l x=some (.string a))(hy:gY l y=some (.string b)):Ev P n l w (.binOp .eql t x y ty) (.bool (a.toList == b.toList)):=
  qW hx hy (eqGuard_at_string ..) λw=>by simp [binOp,Op.stringOp]
end
abbrev zB30x0z:=(⟨10,2,4,2,5,1⟩:ARules)
theorem asG (H0:Hp b S w F)  :
    bO prog 36 #[] w λv w'=>v=.agg #[aI (zB30x0z.kY),aI (zB30x0z.l7),aI (zB30x0z.All),aI (zB30x0z.jw),aI (zB30x0z.iD),aI (zB30x0z.eZ)]/\Hp b S w' F:=by
 refine rU func36 ntmps36 Y<|rg<|al awn Y H0 λg1 w1 K1=>dn<|rg<|ev (jX (cs:=[aI 10,aI 2,aI 4,aI 2,aI 5,aI 1]) Y (by apply HZ))<|sty rfl K1 s0 rfl λw2 K2=>dn<|jf (sW rfl ⟨_,_,rfl,⟨_,rfl,kK JZ rfl (K2.x s0)⟩,rfl⟩ ?_)
 have fT:(10:Int)=(zB30x0z.kY):=by first | with_reducible rfl | (simp; done) | omega
 have gu:(2:Int)=(zB30x0z.l7):=by first | with_reducible rfl | (simp; done) | omega
 have kC:(4:Int)=(zB30x0z.All):=by first | with_reducible rfl | (simp; done) | omega
 have nC:(2:Int)=(zB30x0z.jw):=by first | with_reducible rfl | (simp; done) | omega
 have rV:(5:Int)=(zB30x0z.iD):=by first | with_reducible rfl | (simp; done) | omega
 have xW:(1:Int)=(zB30x0z.eZ):=by first | with_reducible rfl | (simp; done) | omega
 exact⟨by rw [<- fT,<- gu,<- kC,<- nC,<- rV,<- xW] <;> rfl,(K2.rm s0)⟩
abbrev zB30x1z:=oC ((oC ((oC (KC zB30x0z) (⟨1,1,1,4⟩:AItem)).1) (⟨3,1,0,0⟩:AItem)).1) (⟨1,2,2,4⟩:AItem)
abbrev zB30x2z:=oC (zB30x1z.1) (⟨3,2,0,0⟩:AItem)
abbrev zB30x3z:=(⟨11,5,1,0⟩:AItem)
theorem agW (H0:Hp b S w F)  :
    bO prog 9 #[] w λv w'=>v=.bool true/\Hp b S w' F:=by
 refine rU func9 ntmps9 Y<|iT Y<|rg<|gU Y (asG H0 ) ?_
 rintro _ w1 ⟨rfl,K1⟩;refine gU Y (akQ K1 zB30x0z au) ?_;rintro _ w2 ⟨aOQ,aGs,rfl,aJ9,K2⟩;have hS2:aGs.pl=KC zB30x0z:=by rw [aJ9]
 have hI2:Inv aGs.pl 0:=by rw [hS2]; exact axX au
 skip
 refine mv Y<|xt Y Y<|xt Y Y<|jk Y<|bX Y<|aY<|bQ Y<|ev (rY Y Y)<|mv Y<|bE Y (bq Y) Y<|bE Y (Ev.amY underlying26 Y Y) Y<|ev (dS Y Y)<|dn<|bP Y nofun (λ_h=>?_)
 refine jy ?_;refine aY<|iT Y<|cB<|Rn 3 (RN.s ?_)
 refine aY<|bQ Y<|ev (u7 Y Y)<|dn<|bP Y (λ_h=>?_) nofun
 refine jy ?_;refine aY<|cB<|bQ Y<|mv Y<|mv Y<|ev (jX Y (by apply FZ))<|gU rfl (E8 K2 (⟨1,1,1,4⟩:AItem) (hI2.ok au) (by simp [qC])) ?_
 rintro _ w3 ⟨ZX,rfl,adN,K3⟩;have hI3:Inv ZX.pl 1:=by rw [adN]; exact xJ hI2 _
 have hS3:ZX.pl=(oC (KC zB30x0z) (⟨1,1,1,4⟩:AItem)).1:=by rw [adN,hS2]
 skip
 refine dn<|jC<|mv Y<|mv Y<|ev (jX Y (by apply CY))<|gU rfl (E8 K3 (⟨3,1,0,0⟩:AItem) (hI3.ok au) (by simp [qC])) ?_
 rintro _ w4 ⟨awp,rfl,awq,K4⟩;have hI4:Inv awp.pl 2:=by rw [awq]; exact xJ hI3 _
 have hS4:awp.pl=(oC ((oC (KC zB30x0z) (⟨1,1,1,4⟩:AItem)).1) (⟨3,1,0,0⟩:AItem)).1:=by rw [awq,hS3]
 skip
 refine jD<|iw (gy ?_)
 refine jC<|mv Y<|ev (dP Y Y)<|jk Y<|jD<|l8.rnd (RN.s ?_)
 refine aY<|bQ Y<|ev (u7 Y Y)<|dn<|bP Y (λ_h=>?_) nofun
 refine jy ?_;refine aY<|cB<|bQ Y<|mv Y<|mv Y<|ev (jX Y (by apply FZ))<|gU rfl (E8 K4 (⟨1,2,2,4⟩:AItem) (hI4.ok au) (by simp [qC])) ?_
 rintro _ w5 ⟨agX,rfl,ai8,K5⟩;have hI5:Inv agX.pl 3:=by rw [ai8]; exact xJ hI4 _
 have hS5:agX.pl=zB30x1z.1:=by rw [ai8,hS4]
 skip
 refine dn<|jC<|mv Y<|mv Y<|ev (jX Y (by apply CY))<|gU rfl (E8 K5 (⟨3,2,0,0⟩:AItem) (hI5.ok au) (by simp [qC])) ?_
 rintro _ w6 ⟨adO,rfl,agY,K6⟩;have hI6:Inv adO.pl 4:=by rw [agY]; exact xJ hI5 _
 have hS6:adO.pl=zB30x2z.1:=by rw [agY,hS5]
 skip
 refine jD<|iw (gy ?_)
 refine jC<|mv Y<|ev (dP Y Y)<|jk Y<|jD<|l8.rnd (RN.s ?_)
 refine aY<|bQ Y<|ev (u7 Y Y)<|dn<|bP Y nofun (λ_h=>?_)
 refine xq ?_;refine bQ Y<|ev (jX Y (by apply Y9))<|gU rfl (E8 K6 zB30x3z (hI6.ok au) (by simp [qC])) ?_
 rintro _ w7 ⟨asH,rfl,awr,K7⟩;have hI7:Inv asH.pl 5:=by rw [awr]; exact xJ hI6 _
 have hS7:asH.pl=(oC (zB30x2z.1) zB30x3z).1:=by rw [awr,hS6]
 skip
 refine bX Y<|bQ Y<|ev (jX Y (by apply CY))<|gU rfl (E8 K7 (⟨9,1,0,0⟩:AItem) (hI7.ok au) (by simp [qC])) ?_
 rintro _ w8 ⟨ai9,rfl,aGt,K8⟩;have hI8:Inv ai9.pl 6:=by rw [aGt]; exact xJ hI7 _
 have hS8:ai9.pl=(oC ((oC (zB30x2z.1) zB30x3z).1) (⟨9,1,0,0⟩:AItem)).1:=by rw [aGt,hS7]
 skip
 refine dn<|bQ Y<|gU Y (asF K8 5 (hI8.ok au)) ?_
 rintro _ w9 ⟨aqk,aql,rfl,K9⟩;refine mv Y<|xt Y Y<|xt Y Y<|jk Y<|bX Y<|bQ Y<|ev (iM Y Y) ?_
 have fT:(decide ((oC adO.pl zB30x3z).2=0):Bool)=true:=by rw [hS6]; decide +kernel
 refine gJ (t:=43) Y (aV Value.bool fT)<|mv Y<|bE Y (bq Y) Y<|bE Y (iM Y Y) Y ?_
 have gu:(decide ((HV ai9.pl 5).2=0):Bool)=true:=by rw [hS8]; decide +kernel
 refine gJ (t:=46) Y (aV Value.bool gu)<|ev (dM Y Y)<|mv Y<|bE Y (bq Y) Y ?_
 have H1:=K9.fz s0;refine bE Y (Ev.b2s (e:=5) (H1.s s0) ak ak ak Y) Y<|bE Y (Ev.eqs Y Y) Y ?_
 have kC:(((awo ((HV ai9.pl 5).1)).toList == (⟨#[5,0,1,0]⟩:ByteArray).toList):Bool)=true:=by rw [hS8]; decide +kernel
 refine gJ (t:=51) Y (aV Value.bool kC)<|ev (dM Y Y)<|mv Y<|bE Y (bq Y) Y<|oD Y Y Y Y axY (O6 ((H1.sel s0).sel s1) 1 (hI8.ok au)) Y ?_
 rintro _ Om ⟨Oa,Ob,rfl,K10⟩;refine bE Y (eX jK Y) Y<|bE Y (iM Y Y) Y ?_
 have nC:(decide ((((Kw ai9.pl.hs 1).length:Nat):Int)=1):Bool)=true:=by rw [hS8]; decide +kernel
 refine gJ (t:=57) Y (aV Value.bool nC)<|ev (dM Y Y)<|mv Y<|bE Y (bq Y) Y<|oD Y Y Y Y axY (O6 ((K10.sel s0).sel s1) 2 (hI8.ok au)) Y ?_
 rintro _ Va ⟨aj9,akb,rfl,vM⟩;refine bE Y (eX jK Y) Y<|bE Y (iM Y Y) Y ?_
 have rV:(decide ((((Kw ai9.pl.hs 2).length:Nat):Int)=1):Bool)=true:=by rw [hS8]; decide +kernel
 refine gJ (t:=63) Y (aV Value.bool rV)<|ev (dM Y Y)<|mv Y<|bE Y (bq Y) Y<|oD Y Y Y Y aEC (aA3 ((vM.sel s0).sel s1) 1) Y ?_
 rintro _ Vb ⟨rfl,vH⟩;refine bE Y (iG Y) Y ?_;have xW:((!(wL ai9.pl.hs 1)):Bool)=true:=by rw [hS8]; decide +kernel
 refine gJ (t:=68) Y (aV Value.bool xW)<|ev (dM Y Y)<|bX Y<|iP Y ?_
 exact⟨Y,(vH.cU 0 4)⟩
end
section
section
variable {P:Program}{n:Cx}{l l':List (Nat × Value)}{w w':World}{Q:Exit->Act->World->Prop}{K:Act->World->Prop}
end
end
section
section
variable {P:Program}{n:Cx}{l l':List (Nat × Value)}{w w':World}{Q:Exit->Act->World->Prop}{K:Act->World->Prop}{bY:Array Oper}{os:List Oper}
end
section
variable {P:Program}{n:Cx}{l l':List (Nat × Value)}{w w':World}{Q:Exit->Act->World->Prop}{K:Act->World->Prop}{bY:Array Oper}{os:List Oper}
end
section
variable {P:Program}{n:Cx}{l:List (Nat × Value)}{w:World}
end
section
variable {P:Program}{n:Cx}{l:List (Nat × Value)}{w:World}{Q:Exit->Act->World->Prop}{K:Act->World->Prop}{bY:Array Oper}{os:List Oper}{ty:TypeId}{pos:String}{mO:Array Edge}{d:Nat}
end
end
section
section
variable {P:Program}{n:Cx}{l l':List (Nat × Value)}{w w':World}{Q:Exit->Act->World->Prop}{K:Act->World->Prop}{bY:Array Oper}{S:World->Prop}{fuel:Nat}{aW:Array Bool}
end
end
section
section
variable {P:Program}{n:Cx}{l:List (Nat × Value)}{b w:World}{S:Nat->Prop}{rs rest:List lG}{Q:Exit->Act->World->Prop}{K:Act->World->Prop}{bY:Array Oper}{os:List Oper}{ty:TypeId}{pos:String}{mO:Array Edge}{d:Nat}
end
end
section
def Edge(l:List eG)(j:Nat):Prop:=∀ x y,l[(j - 1) / 2]? = some x->l[j]? = some y->Pj x y
end
section
def acN.wf(x:acN):Prop:=qC x.e/\qC x.n
end
section
def bT.wf(x:bT):Prop:=qC x.aN/\True
end
section
def Ia(report:List aG)(c:aF):Bool:=report.any (fun(x:aG)=>Ar x c)
theorem aja{zs:List Int}(h:zs.Pairwise (λx y=>x<=y)):(Lib.compact zs).Pairwise (λx y=>x<y)/\∀ x,x∈Lib.compact zs↔x∈zs:=by
  have hget:∀ j (hj:j<zs.length),zs.toArray[j]! = zs[j]:=by grind
  have hle:∀ i j,i<=j->(hj:j<zs.length)->zs[i]!<=zs[j]:=by grind [List.pairwise_iff_getElem]
  have key:∀ m,m<=zs.length->(Lib.compactUpTo zs.toArray m).Pairwise (λx y=>x<y)/\(∀ x,x∈Lib.compactUpTo zs.toArray m↔x∈zs.take m)/\∀ x∈Lib.compactUpTo zs.toArray m,0<m/\x<=zs[m - 1]!:=by
    intro m
    induction m with
    | zero=>simp [Lib.compactUpTo]
    | succ m ih=>
      intro hm;obtain⟨h1,h2,h3⟩:=ih aj;have hs:Lib.compactUpTo zs.toArray (m+1)=Lib.compactUpTo zs.toArray m++(if Lib.keeps zs.toArray m=true then[zs.toArray[m]!] else[]):=by grind [Lib.compactUpTo,List.range_succ]
      have ht:zs.take (m+1)=zs.take m++[zs[m]]:=by simp
      have hmm:zs[m+1 - 1]! = zs[m]:=by grind
      rw [hs,hget m aj,ht,hmm]
      by_cases hk:Lib.keeps zs.toArray m=true
      · rw [aS hk]
        simp only [Lib.keeps,bM] at hk
        refine⟨zk.2 ⟨h1,R4 _ _,λx hx y hy=>?_⟩,by grind,λx hx=>⟨aj,?_⟩⟩
        · rw [oG.1 hy]
          have h4:=h3 x hx;have h5:=hle (m - 1) m aj aj
          grind
        · rcases kX.1 hx with hx | hx
          · have h4:=h3 x hx
            have h5:=hle (m - 1) m aj aj;omega
          grind
      · rw [aP hk,zM]
        simp only [Lib.keeps,bM,not_or,ne_eq,Decidable.not_not] at hk
        obtain⟨hk1,hk2⟩:=hk;rw [hget m aj,hget (m - 1) aj] at hk2;refine⟨h1,λx=>?_,λx hx=>⟨aj,?_⟩⟩
        · rw [h2,kX,oG]
          constructor
          · grind
          · rintro(hx | hx)
            · exact hx
            · rw [hx,hk2]
              exact yS (show(zs.take m)[m - 1]? = some zs[m - 1] by rw [Xd aj,Ij aj])
        grind
  obtain⟨h1,h2,_⟩:=key zs.length (kJ _);exact⟨h1,λx=>by have:=h2 x; rwa [OB] at this⟩
end
section
theorem awt{b w:World}{S:Nat->Prop}{F:List lG}{iI:Nat}{A1 A2 A3 A4 A5 A6 A7:ah}{c1 c2 c3 c4 c5 c6 c7 gm:Nat}{m:dh}{s:gG}{r:ARules}{aJ:Int}{bR:List aK}{hs:kG}(H0:Hp b S w (GA iI A1 c1 A2 c2 A3 c3 A4 c4 A5 c5 A6 c6 A7 c7 m s r aJ gm bR::dH bW A1 c1 m.aL::dH bD A2 c2 m.aA::dH dw A3 c3 m.aT::dH iK A4 c4 s.cZ::dH dz A5 c5 s.bI::dH bg A6 c6 s.bA::aQ bg 112 A7 c7 bR::jL gm hs::F))  :
    bO prog 19 #[gI iI] w λv w'=>v=aI aJ/\Hp b S w' (GA iI A1 c1 A2 c2 A3 c3 A4 c4 A5 c5 A6 c6 A7 c7 m s r aJ gm bR::dH bW A1 c1 m.aL::dH bD A2 c2 m.aA::dH dw A3 c3 m.aT::dH iK A4 c4 s.cZ::dH dz A5 c5 s.bI::dH bg A6 c6 s.bA::aQ bg 112 A7 c7 bR::jL gm hs::F):=by
 refine rU func19 ntmps19 Y<|iT Y<|bQ Y<|ev (d9 Y)<|j6 iI 12 BX H0 s0 Y<|bX Y<|iP Y ?_
 exact⟨Y,H0⟩
theorem agZ{b w:World}{S:Nat->Prop}{F:List lG}{iI:Nat}{A1 A2 A3 A4 A5 A6 A7:ah}{c1 c2 c3 c4 c5 c6 c7 gm:Nat}{m:dh}{s:gG}{r:ARules}{aJ:Int}{bR:List aK}{hs:kG}(H0:Hp b S w (GA iI A1 c1 A2 c2 A3 c3 A4 c4 A5 c5 A6 c6 A7 c7 m s r aJ gm bR::dH bW A1 c1 m.aL::dH bD A2 c2 m.aA::dH dw A3 c3 m.aT::dH iK A4 c4 s.cZ::dH dz A5 c5 s.bI::dH bg A6 c6 s.bA::aQ bg 112 A7 c7 bR::jL gm hs::F))  :
    bO prog 26 #[gI iI] w λv w'=>v=aI ((bR.length:Nat):Int)/\Hp b S w' (GA iI A1 c1 A2 c2 A3 c3 A4 c4 A5 c5 A6 c6 A7 c7 m s r aJ gm bR::dH bW A1 c1 m.aL::dH bD A2 c2 m.aA::dH dw A3 c3 m.aT::dH iK A4 c4 s.cZ::dH dz A5 c5 s.bI::dH bg A6 c6 s.bA::aQ bg 112 A7 c7 bR::jL gm hs::F):=by
 refine rU func26 ntmps26 Y<|iT Y<|bQ Y<|ev (d9 Y)<|j6 iI 14 Az H0 s0 Y<|ev (eX lH Y)<|bX Y<|iP Y ?_
 exact⟨Y,H0⟩
end
section
section
variable {l:List aG}{c v sum bG:Int}{fG:List (BitVec 8)}{d:qL}
theorem Kz.nam(h:Kz l){x:aG}(hx:x∈l):NS x=true:=by
  have:=(CX.1 h.1).1 x hx; grind [Yt]
theorem Kz.inj(h:Kz l){x y:aG}(hx:x∈l)(hy:y∈l)(he:x.aD=y.aD):x=y:=
  mQ h.up hx hy (by unfold qB; rw [he,h.2 x hx,h.2 y hy])
theorem ajb(h:Kz l){x:aG}(hx:x∈l):l.find? (λy=>decide (y.aD=x.aD))=some x:=by
  cases hf:l.find? (λy=>decide (y.aD=x.aD)) with
  | none=>grind
  | some y=>have h1:=Xw hf; have h2:=List.find?_some hf; simp at h2; rw [h.inj h1 hx h2]
theorem aA4(h:Kz l){x:aG}(hx:x∈l)(hs:((iQ (qA ⟨x.aD,false⟩ d)).toNat:Int)=x.Sum):uD l d x.aD=(qA ⟨x.aD,false⟩ d,x.aB,0):=by
  simp_all [uD,aa4,ajb]
end
theorem RG{l:List aF}(h:kI l=true){x:aF}(hx:x∈l):aU l x.ID=x:=
  mQ (nk h) (by grind [uO,CB]) hx (by grind [BZ,CB])
theorem O7{hs:kN}{z:Int}:wL hs z=true->∃ h,dY z hs=some h/\h.up=true:=by
  unfold wL; grind
end
section
def nI(l q:List aF):Prop:=(∀ x∈l,∃ y∈q,y.ID=x.ID/\y.aB=x.aB/\y.Sum=x.Sum)/\∀ y∈q,∃ x∈l,y.ID=x.ID/\y.aB=x.aB/\y.Sum=x.Sum
theorem nI.rfl'(l:List aF):nI l l:=⟨by grind,by grind⟩
theorem nI.trans{a b c:List aF}(h1:nI a b)(h2:nI b c):nI a c:=
  ⟨λx hx=>by
    obtain⟨y,hy,a1,a2,a3⟩:=h1.1 x hx; obtain⟨z,hz,b1,b2,b3⟩:=h2.1 y hy
    grind,λz hz=>by
    obtain⟨y,hy,b1,b2,b3⟩:=h2.2 z hz; obtain⟨x,hx,a1,a2,a3⟩:=h1.2 y hy
    grind⟩
theorem aa8{l q:List aF}{c:aF}{H:List Int}{id:Int}(hc:c∈l)(hi:c.ID=id)(hu:∀ x∈l,x.ID=id->x=c)(h:∀ y,y∈q↔y=⟨c.ID,c.aB,c.Sum,H⟩∨(y∈l/\y.ID≠id)):nI l q:=
  ⟨λx hx=>by
    by_cases he:x.ID=id
    · simp_all
    grind,by grind⟩
theorem yA{m:dh}(hm:mG m=true){x:fH}(h0:x.Client=0)(hk:x.Kind=1∨x.Kind=2∨x.Kind=5∨x.Kind=6):nI m.aA (tY m x).aA:=by
  have hu:=nk (dV.1 hm).2.1
  rcases(yL hm aj h0).1 with h | ⟨hk',_,_,_⟩ | ⟨c,hk',_,_,_⟩ | ⟨c,H,_,hc,hi,_,_,_,_,_,h⟩ | ⟨c,H,_,hc,hi,_,_,_,h⟩
  · rw [h]; exact .rfl' _
  · omega
  · omega
  · exact aa8 hc hi (λx hx he=>mQ hu hx hc (he.trans hi.symm)) h
  · exact aa8 hc hi (λx hx he=>mQ hu hx hc (he.trans hi.symm)) h
theorem BO:∀(l:List fH){m:dh},mG m=true->(∀ x∈l,x.Client=0/\(x.Kind=1∨x.Kind=2∨x.Kind=5∨x.Kind=6))->nI m.aA (C9 m l).aA
  | [],m,_,_=>.rfl' _
  | x::l,m,hm,hl=>by
    have hx:=hl x (oo);exact(yA hm hx.1 hx.2).trans (BO l (o8 hm x) (λy hy=>hl y (lS _ hy)))
theorem E9{s:gG}{aJ n:Int}:∀(l:List fH){m:dh},mG m=true->(∀ x∈l,x.Client=0/\(x.Kind=1∨x.Kind=2∨x.Kind=5∨x.Kind=6))->nI m.aA (lU s aJ n m l).aA
  | [],m,_,_=>.rfl' _
  | x::l,m,hm,hl=>by
    have hx:=hl x (oo);show nI m.aA (lU s aJ n (Hz s aJ n m x) l).aA;unfold Hz; split
    · exact(yA hm hx.1 hx.2).trans (E9 l (o8 hm x) (λy hy=>hl y (lS _ hy)))
    · exact E9 l hm (λy hy=>hl y (lS _ hy))
theorem RH{m:dh}{s:gG}{r:ARules}{aJ:Int}:∀ x∈mX m s r aJ,x.Client=0/\(x.Kind=1∨x.Kind=2∨x.Kind=5∨x.Kind=6):=by
  intro x hx; unfold mX at hx; split at hx
  · obtain⟨o,_,rfl⟩:=gB.1 hx; exact⟨rfl,.inr (.inr (.inr rfl))⟩
  grind
theorem adP{cs:List aF}{n:Int}{l:List aG}:∀ x∈j5 cs n l,x.Client=0/\(x.Kind=1∨x.Kind=2∨x.Kind=5∨x.Kind=6):=by
  intro x hx; unfold j5 at hx; split at hx
  · obtain⟨c,_,hc⟩:=Ol.1 hx
    unfold recC at hc
    grind
  grind
theorem aA5{it:AItem}{v:Int}{l:List Int}:∀ x∈l.map (λz=>vX it.A z v),x.Client=0/\(x.Kind=1∨x.Kind=2∨x.Kind=5∨x.Kind=6):=by
  simp
theorem awu{m:dh}(hm:mG m=true){x:fH}(hk:x.Kind=3∨x.Kind=4)(h0:x.Client=0)(hp:¬ (eH m x).2<0) :
    (eH m x).1.aL=m.aL/\∃ v,(eH m x).2=v/\1<=v/\v<=1073741824/\(∀ y,y∈(eH m x).1.aA↔y=⟨x.A,v,x.B,[]⟩∨(y∈m.aA/\y.ID≠x.A))/\(1<=x.A/\x.A<=1048576)/\
      ((v=1/\∀ y∈m.aA,y.ID≠x.A)∨∃ c∈m.aA,c.ID=x.A/\v=c.aB+1):=by
  have hc:=(dV.1 hm).2.1;have hmay:=Jh hm x;have e:eH m x=tT m x:=by unfold eH; rw [aP (by rw [hm]; decide),aS h0]
  rw [e] at hp hmay ⊢;have he:=akf m x
  have hz:(yt m x).2.2.1=0:=by
    by_cases hz:(yt m x).2.2.1=0
    · exact hz
    · exfalso; apply hp; show Gw (yt m x).2.2.1 _<0; unfold Gw; rw [aS hz]; omega
  have hv:(tT m x).2=(yt m x).2.2.2:=by show Gw (yt m x).2.2.1 _=_; unfold Gw; rw [aP aj]
  have hcm:=(dV.1 hmay).2.1
  have key:∀(l:List aF)(v:Int),(yt m x).1=m.aL->(yt m x).2.1=l->(yt m x).2.2.2=(aU l x.A).aB->(∀ y,y∈l↔y=⟨x.A,v,x.B,[]⟩∨(y∈m.aA/\y.ID≠x.A))->(tT m x).2=v/\1<=v/\v<=1073741824:=by
    intro l v h1 h2 h3 h4;have hcl:kI l=true:=by rw [<- h2]; exact hcm
    have h5:(⟨x.A,v,x.B,[]⟩:aF)∈l:=(h4 _).2 (.inl rfl);have h6:=RG hcl h5;have h7:=(kM.1 hcl).1 _ h5;unfold oL at h7; simp at h7;refine⟨by rw [hv,h3]; exact aV aF.aB h6,h7.1.1,h7.1.2⟩
  rcases hk with hk | hk
  · have e1:yt m x=(m.aL,(uh dU m.aA x).1,(uh dU m.aA x).2.1,(uh dU m.aA x).2.2):=by
      unfold yt; rw [aP aj,aP aj,aP aj,aS hk]
    have hz':(uh dU m.aA x).2.1=0:=by rw [e1] at hz; exact hz
    have en:(tT m x).1.aL=m.aL:=by show(yt m x).1=_; rw [e1]
    by_cases hr:x.B<0∨4294967295<x.B
    · unfold uh at hz'; rw [aS hr] at hz'; exact absurd (show(1:Int)=0 from hz') au
    have ew:uh dU m.aA x=(if(dU m.aA x.A x.B).2=0 then(dU m.aA x.A x.B).1 else m.aA,(dU m.aA x.A x.B).2,(aU (if(dU m.aA x.A x.B).2=0 then(dU m.aA x.A x.B).1 else m.aA) x.A).aB):=by
      unfold uh; rw [aP hr,VZ hr]
    have hz2:(dU m.aA x.A x.B).2=0:=by rw [ew] at hz'; exact hz'
    rcases DI m.aA x.A x.B with h | ⟨ha,hb,hf,hlen,h⟩
    · exact absurd hz2 h.2
    have hno:∀ y∈m.aA,y.ID≠x.A:=λy hy he=>by
      have:=(CB hc).2 ⟨y,hy,he⟩; rw [hf] at this; exact absurd this au
    have hmem:∀ y,y∈(dU m.aA x.A x.B).1↔y=⟨x.A,1,x.B,[]⟩∨(y∈m.aA/\y.ID≠x.A):=by
      intro y; rw [h,agN hc]; refine(EL _).trans (or_congr Iff.rfl ⟨λh=>⟨h,hno y h⟩,λh=>h.1⟩)
    have e2:(yt m x).2.1=(dU m.aA x.A x.B).1:=by rw [e1,ew,aS hz2]
    have hk:=key _ 1 (by rw [e1]) e2 (by rw [e1,ew,aS hz2]) hmem;exact⟨en,1,hk.1,hk.2.1,hk.2.2,by show ∀ y,y∈(yt m x).2.1↔_; rw [e2]; exact hmem,⟨ha,hb⟩,.inl ⟨rfl,hno⟩⟩
  · have e1:yt m x=(m.aL,(uh (λl id sum=>iC l id (eU sum)) m.aA x).1,(uh (λl id sum=>iC l id (eU sum)) m.aA x).2.1,(uh (λl id sum=>iC l id (eU sum)) m.aA x).2.2):=by
      unfold yt; rw [aP aj,aP aj,aP aj,aP aj,aS hk]
    have hz':(uh (λl id sum=>iC l id (eU sum)) m.aA x).2.1=0:=by rw [e1] at hz; exact hz
    have en:(tT m x).1.aL=m.aL:=by show(yt m x).1=_; rw [e1]
    by_cases hr:x.B<0∨4294967295<x.B
    · unfold uh at hz'; rw [aS hr] at hz'; exact absurd (show(1:Int)=0 from hz') au
    have ew:uh (λl id sum=>iC l id (eU sum)) m.aA x=(if(iC m.aA x.A (eU x.B)).2=0 then(iC m.aA x.A (eU x.B)).1 else m.aA,(iC m.aA x.A (eU x.B)).2,(aU (if(iC m.aA x.A (eU x.B)).2=0 then(iC m.aA x.A (eU x.B)).1 else m.aA) x.A).aB):=by
      unfold uh; rw [aP hr,VZ hr]
    have hz2:(iC m.aA x.A (eU x.B)).2=0:=by rw [ew] at hz'; exact hz'
    obtain⟨hb,hz3,hmem⟩:=VY hc (yY x.B) hz2;have hin:=uO hc hb; have hid:=BZ hc hb;have hw:=MS ((kM.1 hc).1 _ hin) hz3;rw [hw.1,hid] at hmem;have e2:(yt m x).2.1=(iC m.aA x.A (eU x.B)).1:=by rw [e1,ew,aS hz2]
    have hk:=key _ ((aU m.aA x.A).aB+1) (by rw [e1]) e2 (by rw [e1,ew,aS hz2]) hmem
    have aKb:1<=x.A/\x.A<=1048576:=by
      have:=(BH _ _).1 (kM.1 hc).2.2;exact this.2 x.A (gB.2 ⟨_,hin,hid⟩)
    exact⟨en,_,hk.1,hk.2.1,hk.2.2,by show ∀ y,y∈(yt m x).2.1↔_; rw [e2]; exact hmem,aKb,.inr ⟨_,hin,hid,rfl⟩⟩
def asI(l:List aF)(z:Int):Option Int->Prop
  | none=>∀ x∈l,x.ID≠z
  | some n=>∃ x∈l,x.ID=z/\x.Sum=Js z n
theorem asI.same{l q:List aF}{z:Int}{o:Option Int}(h:asI l z o)(hs:nI l q):asI q z o:=by
  cases o with
  | none=>intro y hy he; obtain⟨x,hx,h1,_,_⟩:=hs.2 y hy; exact h x hx (by grind)
  | some n=>obtain⟨x,hx,h1,h2⟩:=h; obtain⟨y,hy,a1,_,a3⟩:=hs.1 x hx; exact⟨y,hy,a1.trans h1,a3.trans h2⟩
theorem anK{c:PC}{k:Nat}(H:Inv c k)(o:aK):nI c.m.aA (kU c o).m.aA:=by
  unfold kU
  split
  · exact .rfl' _
  split
  · exact .rfl' _
  split
  · exact .rfl' _
  split
  · exact .rfl' _
  split
  · exact .rfl' _
  · exact yA H.hm Y av
theorem anL{c:PC}{k:Nat}(H:Inv c k)(o:aK):nI c.m.aA (og c o).m.aA:=by
  unfold og
  split
  · exact anK H o
  split
  · exact .rfl' _
  split <;> exact .rfl' _
theorem anM{c:PC}{k:Nat}(H:Inv c k)(it:AItem):nI c.m.aA (lC c it).1.m.aA:=by
  unfold lC
  split
  · exact .rfl' _
  split
  · grind
  split
  · exact .rfl' _
  · show nI _ (if _ then _ else _:PC).m.aA
    split
    · exact anL (c:={ c with bR:=c.bR.take it.A.toNat++c.bR.drop (it.A.toNat+1) }) (k:=k) (Nw H (by have:=H.hw; grind)) _
    · exact .rfl' _
theorem asJ{c:PC}{k:Nat}(H:Inv c k)(it:AItem)(h:oZ):nI c.m.aA (J6 c it h).1.m.aA:=by
  unfold J6
  split
  · exact .rfl' _
  split
  · exact E9 _ H.hm adP
  split
  · exact .rfl' _
  split
  · exact .rfl' _
  split
  · exact .rfl' _
  split <;> exact .rfl' _
theorem ag0{c:PC}{k:Nat}(H:Inv c k)(it:AItem)(h11:it.Kind≠11):nI c.m.aA (oC c it).1.m.aA:=by
  unfold oC
  split
  · split <;> exact .rfl' _
  split
  · exact yA H.hm Y (.inl Y)
  split
  · exact yA H.hm Y av
  split
  · exact BO _ H.hm RH
  split
  · exact anM H it
  split
  · exact .rfl' _
  split
  · exact .rfl' _
  split
  · exact .rfl' _
  grind [asJ]
end
section
theorem akS{b w:World}{S:Nat->Prop}{F:List lG}{iI:Nat}{G:GC}(H0:Hp b S w (wN iI G::F))   :
    bO prog 19 #[gI iI] w λv w'=>v=aI G.pl.aJ/\Hp b S w' (wN iI G::F):=by
  obtain⟨A1,c1,A2,c2,A3,c3,A4,c4,A5,c5,A6,c6,A7,c7,m,s,r,aJ,gm,bR,hs⟩:=G;have H1:=H0.allOut;refine(awt (w:=w) (H1.mV 1 8) ).mono ?_;rintro v w' ⟨rfl,K⟩;exact⟨Y,(ET (L:=GC.rs (⟨A1,c1,A2,c2,A3,c3,A4,c4,A5,c5,A6,c6,A7,c7,m,s,r,aJ,gm,bR,hs⟩:GC) iI) (K.sel s8))⟩
theorem ag1{b w:World}{S:Nat->Prop}{F:List lG}{iI:Nat}{G:GC}(H0:Hp b S w (wN iI G::F))   :
    bO prog 26 #[gI iI] w λv w'=>v=aI ((G.pl.bR.length:Nat):Int)/\Hp b S w' (wN iI G::F):=by
  obtain⟨A1,c1,A2,c2,A3,c3,A4,c4,A5,c5,A6,c6,A7,c7,m,s,r,aJ,gm,bR,hs⟩:=G;have H1:=H0.allOut;refine(agZ (w:=w) (H1.mV 1 8) ).mono ?_;rintro v w' ⟨rfl,K⟩;exact⟨Y,(ET (L:=GC.rs (⟨A1,c1,A2,c2,A3,c3,A4,c4,A5,c5,A6,c6,A7,c7,m,s,r,aJ,gm,bR,hs⟩:GC) iI) (K.sel s8))⟩
end
end Go.Proofs.YtlhnnmlenkahlaaGreat
