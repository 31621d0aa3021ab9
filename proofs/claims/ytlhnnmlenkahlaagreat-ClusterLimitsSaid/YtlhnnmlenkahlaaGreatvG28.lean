/- Lemmas. -/
import Derived.Test.YtlhnnmlenkahlaaGreatvG27
set_option maxRecDepth 4000
set_option linter.all false
namespace Go.Proofs.YtlhnnmlenkahlaaGreat
open Go.RowKit Go.Proofs.Tryz
def mI:=@underlying87
def wh:=@underlying30
variable {c:PC}{it:AItem}{b w:World}{S:Nat->Prop}{F:List lC}{iT:Nat}{h:xO}
theorem aty:Size prog 32 4:=ay
theorem Aa:XY prog 32 4:=⟨λ_=>by kernel_rfl,aty⟩
theorem aAl:bI prog 39:=ay
theorem aAm:bI prog 40:=ay
theorem aAn:bI prog 41:=ay
theorem aAo:bI prog 42:=ay
theorem aoY:bI prog 43:=ay
theorem aAp:bI prog 44:=ay
theorem aAq:bI prog 46:=ay
theorem aAr:bI prog 47:=ay
theorem aAs:bI prog 48:=ay
theorem aAt:bI prog 49:=ay
theorem aAu:bI prog 50:=ay
theorem aAv:bI prog 51:=ay
theorem aAw:bI prog 52:=ay
theorem ar6:∀ w,(zeroValue 30).run prog w=.ok (.nilFunc) w:=ay
structure GC where
  A1:Option Addr
  c1:Nat
  A2:Option Addr
  c2:Nat
  A3:Option Addr
  c3:Nat
  A4:Option Addr
  c4:Nat
  A5:Option Addr
  c5:Nat
  A6:Option Addr
  c6:Nat
  A7:Option Addr
  c7:Nat
  m:dU
  s:iM
  r:ARules
  aN:Int
  gm:Nat
  dR:List aM
  hs:jV
def GC.pl(G:GC):PC:=⟨G.m,G.s,G.r,G.aN,G.dR,jR G.hs⟩
def GC.rs(G:GC)(iT:Nat):List lC:=[jF G.gm G.hs,Iu iT G.A1 G.c1 G.A2 G.c2 G.A3 G.c3 G.A4 G.c4 G.A5 G.c5 G.A6 G.c6 G.A7 G.c7 G.m G.s G.r G.aN G.gm G.dR,dP bX G.A1 G.c1 G.m.aY,dP bH G.A2 G.c2 G.m.aA,dP bZ G.A3 G.c3 G.m.aQ,dP iL G.A4 G.c4 G.s.dX,dP dB G.A5 G.c5 G.s.bY,dP bF G.A6 G.c6 G.s.dM,aR bF 112 G.A7 G.c7 G.dR]
instance Ap.g{iT:Nat}{F:List lC}{A1:ah}{c1:Nat}{A2:ah}{c2:Nat}{A3:ah}{c3:Nat}{A4:ah}{c4:Nat}{A5:ah}{c5:Nat}{A6:ah}{c6:Nat}{A7:ah}{c7:Nat}{m:dU}{s:iM}{r:ARules}{aN:Int}{gm:Nat}{dR:List aM}{hs:jV}:Ap (GC.rs ⟨A1,c1,A2,c2,A3,c3,A4,c4,A5,c5,A6,c6,A7,c7,m,s,r,aN,gm,dR,hs⟩ iT) F (jF gm hs::Iu iT A1 c1 A2 c2 A3 c3 A4 c4 A5 c5 A6 c6 A7 c7 m s r aN gm dR::dP bX A1 c1 m.aY::dP bH A2 c2 m.aA::dP bZ A3 c3 m.aQ::dP iL A4 c4 s.dX::dP dB A5 c5 s.bY::dP bF A6 c6 s.dM::aR bF 112 A7 c7 dR::F):=⟨rfl⟩
structure Ok (c:PC):Prop where
  hm:qz c.m=true
  hr:nM c.r=true
  hb:c.s.dX.length<=1000
  hl:c.s.bY.length<=64
  hd:c.s.dM.length<=50000
  hu:0<=c.aN/\c.aN<=549755813888
  hw:c.dR.length<=500000
  hz:∀ z h,fH z c.hs=some h->h.l.length<=900/\∀ k,(uo k h.d).length<=1000
  hN:∀ n∈c.m.aY,(fH n.ID c.hs).isSome=true
theorem aoZ{hs:jV}(h:∀ z h,fH z (jR hs)=some h->h.l.length<=900/\∀ k,(uo k h.d).length<=1000):∀ z h,fH z hs=some h->h.l.length<=900/\∀ k,(fU k h.es).2.2.length<=1000:=λz g hg=>by
  have h1:=h z g.pl (by rw [iW,hg]; rfl);exact⟨h1.1,λk=>by have:=h1.2 k; rwa [show g.pl.d=JX g.es from rfl,KL] at this⟩
theorem atz{hs:jV}(h:∀ z h,fH z hs=some h->h.l.length<=900/\∀ k,(fU k h.es).2.2.length<=1000):hSz hs:=λz g hg=>⟨lG (h z g hg).1 au,(h z g hg).2⟩
theorem aAx{m:dU}{hs:jV}(h:∀ n∈m.aY,(fH n.ID (jR hs)).isSome=true):∀ n∈m.aY,(fH n.ID hs).isSome=true:=λn hn=>by
  have:=h n hn
  rwa [iW,Option.isSome_map] at this
theorem ao0{r:ARules}{aN:Int}{hs:ru}(h1:r=c.r)(h2:aN=c.aN)(h3:hs=c.hs):(⟨c.m,c.s,r,aN,c.dR,hs⟩:PC)=c:=by subst h1 h2 h3; rfl
theorem awt{s:iM}{r:ARules}{aN:Int}{dR:List aM}{hs:ru}(h0:s=c.s)(h1:r=c.r)(h2:aN=c.aN)(h4:dR=c.dR)(h3:hs=c.hs):(⟨c.m,s,r,aN,dR,hs⟩:PC)=c:=by subst h0 h1 h2 h4 h3; rfl
theorem Rl(c:PC)(it:AItem):(mX c it).1.r=c.r/\(mX c it).1.aN=c.aN:=by
  unfold mX
  split
  · exact⟨Y,Y⟩
  · split
    · exact⟨Y,Y⟩
    · split
      · exact⟨Y,Y⟩
      · split
        · have h:=aij { c with dR:=c.dR.take it.A.toNat++c.dR.drop (it.A.toNat+1) }
          exact⟨(h _).2.2,(h _).2.1⟩
        · exact⟨Y,Y⟩
theorem abp(c:PC)(it:AItem):(vB c it).1.s=c.s/\(vB c it).1.r=c.r/\(vB c it).1.aN=c.aN/\(vB c it).1.dR=c.dR:=by
  unfold vB
  split
  · exact⟨Y,Y,Y,Y⟩
  · split <;> exact⟨rfl,rfl,rfl,rfl⟩
theorem aEQ(h:it.Kind=0):ES c it=({ c with aN:=if it.A<0∨100<it.A then c.aN else c.aN+it.A },if it.A<0∨100<it.A then 1 else 0):=by
  unfold ES; rw [aO h]; split <;> rfl
theorem aER(h:it.Kind=1):ES c it=av3 c it:=by unfold ES; rw [h]; rfl
theorem aES(h:it.Kind=2):ES c it=({ c with m:=AU c.m ⟨0,0,2,it.A,it.B,0⟩ },knE c.m ⟨0,0,2,it.A,it.B,0⟩):=by unfold ES; rw [h]; rfl
theorem aET(h:it.Kind=5):ES c it=(av4 c,0):=by unfold ES; rw [h]; rfl
theorem agO(h:it.Kind=6∨it.Kind=7∨it.Kind=8):ES c it=mX c it:=by
  unfold ES; rw [aK aj,aK aj,aK aj,aK aj,aO h]
theorem aAy(h:it.Kind=11):ES c it=vB c it:=by unfold ES; rw [h]; rfl
theorem aAz(h:it.Kind<0∨14<it.Kind):ES c it=(c,1):=by
  unfold ES; rw [aK aj,aK aj,aK aj,aK aj,aK aj,aK aj,aO h]
theorem ao1(h:it.Kind=3∨it.Kind=4∨it.Kind=9∨it.Kind=10∨it.Kind=12∨it.Kind=13∨it.Kind=14):ES c it=match fH it.A c.hs with
    | none=>(c,5)
    | some h=>if vZ it.Kind=some (!h.up) then(c,8) else YO c it h:=by
  unfold ES; rw [aK aj,aK aj,aK aj,aK aj,aK aj,aK aj,aK aj]; rfl
theorem Hy(h:it.Kind=3∨it.Kind=4∨it.Kind=9∨it.Kind=10∨it.Kind=12∨it.Kind=13∨it.Kind=14)(hg:fH it.A c.hs=none):ES c it=(c,5):=by rw [ao1 h,hg]
theorem Nh(h:it.Kind=3∨it.Kind=4∨it.Kind=9∨it.Kind=10∨it.Kind=12∨it.Kind=13∨it.Kind=14){g:xO}(hg:fH it.A c.hs=some g)(hn:vZ it.Kind=some (!g.up)):ES c it=(c,8):=by rw [ao1 h,hg]; exact aO hn
theorem WA(h:it.Kind=3∨it.Kind=4∨it.Kind=9∨it.Kind=10∨it.Kind=12∨it.Kind=13∨it.Kind=14){g:xO}(hg:fH it.A c.hs=some g)(hn:¬ vZ it.Kind=some (!g.up)):ES c it=YO c it g:=by rw [ao1 h,hg]; exact aK hn
theorem Ni{fd:FuncId}{pa qa:Array Value}{gv:Nat}(H0:Hp b S w F)(needs:Bool)(up:Bool) :
    bO prog 45 #[fP gv,.bool needs,.bool up,.func (.func fd) pa qa] w λv w'=>∃(ga gb gd ge:Nat),v=.func (.func 106) #[] #[fP ga,fP gb,fP gd,fP ge]/\Hp b S w' (dJ ga 26 [fP gv]::dJ gb 4 [.bool needs]::dJ gd 4 [.bool up]::dJ ge 86 [.func (.func fd) pa qa]::F):=by
 refine sF func45 ntmps45 Y<|rg<|bx Y Y H0 λg1 w1 K1=>bx Y Y K1 λg2 w2 K2=>bx Y Y K2 λg3 w3 K3=>bx Y Y K3 λg4 w4 K4=>bS Y<|rg<|ev (qC Y)<|bS Y<|iI Y ?_
 exact⟨g1,g2,g3,g4,Y,((((K4.sel s0).sel s1).sel s2).sel s3)⟩
abbrev abq(gJ:Nat)(iK:ah)(tF:Nat)(vP:ah)(DI:Nat)(OD:ah)(RU:Nat)(XC:ah)(y8z:Nat)(y9z:ah)(Pz:Nat)(PD:ah)(PE:Nat)(PG:ah)(PI:Nat)(BK:dU)(BL:iM)(aaV:ARules)(aaW:Int)(PK:Nat)(PL:List aM)(aaX:jV)(aaY:List lC):=Iu gJ iK tF vP DI OD RU XC y8z y9z Pz PD PE PG PI BK BL aaV aaW PK PL::dP bX iK tF BK.aY::dP bH vP DI BK.aA::dP bZ OD RU BK.aQ::dP iL XC y8z BL.dX::dP dB y9z Pz BL.bY::dP bF PD PE BL.dM::aR bF 112 PG PI PL::jF PK aaX::aaY
theorem Hz{fd:FuncId}{g4 g5 g6 g7:Nat}{needs up:Bool}{A1 A2 A3 A4 A5 A6 A7:ah}{c1 c2 c3 c4 c5 c6 c7 gm:Nat}{m:dU}{s:iM}{r:ARules}{aN:Int}{dR:List aM}{hs:jV}(H0:Hp b S w (dJ g4 26 [fP iT]::dJ g5 4 [.bool needs]::dJ g6 4 [.bool up]::dJ g7 86 [.func (.func fd) #[fP iT] #[]]::Iu iT A1 c1 A2 c2 A3 c3 A4 c4 A5 c5 A6 c6 A7 c7 m s r aN gm dR::dP bX A1 c1 m.aY::dP bH A2 c2 m.aA::dP bZ A3 c3 m.aQ::dP iL A4 c4 s.dX::dP dB A5 c5 s.bY::dP bF A6 c6 s.dM::aR bF 112 A7 c7 dR::jF gm hs::F))(it:AItem)(qd:bI prog fd){R:Value->World->Prop}
    (h5:fH it.A hs=none->∀ w',Hp b S w' (abq iT A1 c1 A2 c2 A3 c3 A4 c4 A5 c5 A6 c6 A7 c7 m s r aN gm dR hs F)->R (aD 5) w')
    (h8:∀ h,fH it.A hs=some h->needs=true->(h.up == up)=false->∀ w',Hp b S w' (abq iT A1 c1 A2 c2 A3 c3 A4 c4 A5 c5 A6 c6 A7 c7 m s r aN gm dR hs F)->R (aD 8) w')
    (hd:∀ h,fH it.A hs=some h->¬ (needs=true/\(h.up == up)=false)->∀ w',Hp b S w' (abq iT A1 c1 A2 c2 A3 c3 A4 c4 A5 c5 A6 c6 A7 c7 m s r aN gm dR hs F)->bO prog fd #[fP iT,.agg #[aD it.Kind,aD it.A,aD it.B,aD it.C],fP h.gh] w' R) :
    bO prog 106 #[.agg #[aD it.Kind,aD it.A,aD it.B,aD it.C],fP g4,fP g5,fP g6,fP g7] w R:=by
 refine sF func106 ntmps106 Y<|rg<|bx Y Y H0 λg1 w1 K1=>bS Y ?_
 rcases hg1:fH it.A hs with _ | ⟨TF,gs1,SF,Ah1,ch1,Sm,TG,l1,es1⟩
 ·refine qo ak ak<|bD (cu aoL Y (K1.x s1) Y) Y<|bD (dS Y) Y<|bD (eF (q:=⟨iT,13,none⟩) qQ Y Y) Y<|bD (cu RX Y (K1.x s5) Y) Y<|bD (eF (q:=⟨g1,1,none⟩) nI Y Y) Y<|bD (cu jG Y (K1.x s0) Y) Y<|bD (Ev.hN K1 s13 hg1 zZ vw rJ Y Y) Y<|bD (nP Y) Y<|qp λw2 e2=>?_
  have K2:=K1.grow e2;refine aZ<|cZ<|bQ Y<|ev (Ev.aj5 yN Y Y)<|bS Y<|bR Y (λ_h=>?_) nofun
  refine iY Y<|LA Y ?_
  exact h5 hg1 _ (K2.cU 0 5)
 ·refine qo ak ak<|bD (cu aoL Y (K1.x s1) Y) Y<|bD (dS Y) Y<|bD (eF (q:=⟨iT,13,none⟩) qQ Y Y) Y<|bD (cu RX Y (K1.x s5) Y) Y<|bD (eF (q:=⟨g1,1,none⟩) nI Y Y) Y<|bD (cu jG Y (K1.x s0) Y) Y<|bD (Ev.hS K1 s13 hg1 zZ vw rJ Y Y) Y<|bD (nP Y) Y<|qp λw3 e3=>?_
  have K3:=K1.grow e3;refine aZ<|cZ<|bQ Y<|ev (Ev.aj5 yN Y Y)<|bS Y<|bR Y nofun (λ_h=>?_)
  refine qo ak ak<|bD (cu agq Y (K3.x s2) Y) Y<|bD (bA Y) Y<|qy 7 27 (needs&&(!(Sm == up))) ?_ ?_
  ·cases ab4:needs with
   | true=>
    refine dV Y (bA Y) Y<|dV Y (dS Y) Y<|dV Y (eF (q:=⟨TF,1,none⟩) G8 Y Y) Y<|dV Y (cu agq Y (K3.AP s13 hg1) Y) Y<|dV Y (cu agq Y (K3.x s3) Y) Y<|dV Y (Ev.neb Qh Y Y) Y<|bD (dY Y Y) Y<|jJ Y
   | false=>
    refine dF Y Y Y<|dF Y Y Y<|dF Y Y Y<|dF Y Y Y<|dF Y Y Y<|dF Y Y Y<|bD (eG Y Y) Y<|jJ Y
  refine bD (nP Y) Y<|qp λw4 e4=>?_
  have K4:=K3.grow e4;refine bR Y (λhc18=>?_) (λhc18=>?_)
  ·refine iY Y<|LA Y ?_
   exact h8 _ hg1 (by revert hc18; cases needs <;> simp) (by revert hc18; cases needs <;> simp) _ (K4.cU 0 5)
  refine zF ?_;refine rg<|mK K4 s4 Y<|ev (dK Aa Y Y (K4.x s0))<|mv Y<|GR Y Y Y qd (hd _ hg1 (λh9=>by obtain⟨h10,h11⟩:=h9; simp_all) _ (K4.cU 0 5)) rfl ?_
  intro v9 w5 yT;refine bS Y<|iI Y ?_
  exact yT
theorem ar7(k:Int):k=0∨k=1∨k=2∨k=5∨k=6∨k=7∨k=8∨k=11∨k=3∨k=4∨k=9∨k=10∨k=12∨k=13∨k=14∨(k<0∨14<k):=aj
def DoR(b:World)(S:Nat->Prop)(F:List lC)(iT:Nat)(c:PC)(it:AItem)(v:Value)(w:World):Prop:=∃ G':GC,v=.int .i64 (ES c it).2/\G'.pl=(ES c it).1/\Hp b S w (G'.rs iT++F)
theorem DoR.mk{c':PC}{e:Int}(G':GC)(hd:ES c it=(c',e))(hp:G'.pl=c')(H:Hp b S w (G'.rs iT++F)):DoR b S F iT c it (aD e) w:=⟨G',by rw [hd],by rw [hd]; exact hp,H⟩
def ng:=@DoR.mk
theorem aAA(hk:it.Kind=3):YO c it h=({ c with s:=⟨ze c.s.dX it.A c.aN,c.s.bY,c.s.dM⟩ },0):=by unfold YO; rw [hk]; rfl
theorem aAB(hk:it.Kind=4):YO c it h=(av5 c it h,0):=by unfold YO; rw [hk]; rfl
theorem aAC(hk:it.Kind=9):YO c it h=({ c with hs:=gV it.A { h with up:=false } c.hs },0):=by unfold YO; rw [hk]; rfl
theorem awu(hk:it.Kind=10):YO c it h=({ c with hs:=gV it.A ⟨true,h.bJ,(XM h.l h.d).1,(XM h.l h.d).2⟩ c.hs },0):=by unfold YO; rw [hk]; rfl
theorem awv(hk:it.Kind=12):YO c it h=({ c with hs:=gV it.A ⟨h.up,h.bJ,(aef h.l h.d).1,(aef h.l h.d).2⟩ c.hs },0):=by unfold YO; rw [hk]; rfl
theorem aww(hk:it.Kind=13):YO c it h=({ c with hs:=gV it.A { h with d:=XL it.B it.C h.d } c.hs },if(uo ⟨it.B,false⟩ h.d).length=0 then 5 else 0):=by unfold YO; rw [hk]; rfl
theorem awx(hk:it.Kind=14):YO c it h=({ c with hs:=gV it.A ⟨h.up,h.bJ,[],[]⟩ c.hs },0):=by unfold YO; rw [hk]; rfl
set_option maxHeartbeats 20000000 in
theorem awy{G:GC}(H0:Hp b S w (G.rs iT++F))(it:AItem)(hok:Ok G.pl)(hC:uJ it.C) :
    bO prog 11 #[fP iT,.agg #[aD it.Kind,aD it.A,aD it.B,aD it.C]] w (DoR b S F iT G.pl it):=by
 obtain⟨A1,c1,A2,c2,A3,c3,A4,c4,A5,c5,A6,c6,A7,c7,m,s,r,aN,gm,dR,hs⟩:=G;have H1:Hp b S w (jF gm hs::Iu iT A1 c1 A2 c2 A3 c3 A4 c4 A5 c5 A6 c6 A7 c7 m s r aN gm dR::dP bX A1 c1 m.aY::dP bH A2 c2 m.aA::dP bZ A3 c3 m.aQ::dP iL A4 c4 s.dX::dP dB A5 c5 s.bY::dP bF A6 c6 s.dM::aR bF 112 A7 c7 dR::F):=H0;have hm:qz m=true:=hok.hm;have hr:nM r=true:=hok.hr;have hb:s.dX.length<=1000:=hok.hb;have hl:s.bY.length<=64:=hok.hl;have hd:s.dM.length<=50000:=hok.hd;have hu:0<=aN/\aN<=549755813888:=hok.hu;have hw:dR.length<=500000:=hok.hw;have hz:=aoZ hok.hz;have hz2:=atz hz;have hz9:∀ z h,fH z hs=some h->h.l.length<=900:=λz h hg=>(hz z h hg).1;have hN:=aAx hok.hN;refine sF func11 ntmps11 Y<|rg<|bx Y Y H1 λg1 w1 K1=>bS Y<|rg<|mkm K1 Y λg2 w2 K2=>mv Y<|ev (xF Y Y)<|ins K2 s0 Y Y Y mI iw Y λw3 K3=>mv Y<|ev (xF Y Y)<|ins K3 s0 Y Y Y mI iw Y λw4 K4=>mv Y<|ev (xF Y Y)<|ins K4 s0 Y Y Y mI iw Y λw5 K5=>mv Y<|ev (xF Y Y)<|ins K5 s0 Y Y Y mI iw Y λw6 K6=>mv Y<|ev (xF Y Y)<|ins K6 s0 Y Y Y mI iw Y λw7 K7=>mv Y<|ev (xF Y Y)<|ins K7 s0 Y Y Y mI iw Y λw8 K8=>mv Y<|ev (xF Y Y) ?_
 refine ins K8 s0 Y Y Y mI iw Y λw9 K9=>mv Y<|ev (xF Y Y)<|ins K9 s0 Y Y Y mI iw Y λNn K10=>mv Y<|mv Y<|ev (xF Y Y)<|gW Y (Ni K10 true true) ?_
 rintro _ RG ⟨aGo,aGp,aGq,aGr,rfl,tO⟩;refine ins tO s4 Y Y Y mI iw Y λQp rW=>mv Y<|mv Y<|ev (xF Y Y)<|gW Y (Ni rW true true) ?_
 rintro _ WO ⟨aGs,aGt,aGu,aGv,rfl,vC⟩;refine ins vC s4 Y Y Y mI iw Y λXv vo=>mv Y<|mv Y<|ev (xF Y Y)<|gW Y (Ni vo true true) ?_
 rintro _ Yg ⟨aGw,aGx,aGy,aGz,rfl,yX⟩;refine ins yX s4 Y Y Y mI iw Y λw16 Bv=>mv Y<|mv Y<|ev (xF Y Y)<|gW Y (Ni Bv true false) ?_
 rintro _ w17 ⟨aGA,aGB,aGC,aGD,rfl,xS⟩;refine ins xS s4 Y Y Y mI iw Y λw18 FR=>mv Y<|mv Y<|ev (xF Y Y)<|gW Y (Ni FR true true) ?_
 rintro _ w19 ⟨aGE,aGF,aGG,aGH,rfl,Bf⟩;refine ins Bf s4 Y Y Y mI iw Y λw20 DL=>mv Y<|mv Y<|ev (xF Y Y)<|gW Y (Ni DL false false) ?_
 rintro _ w21 ⟨aGI,aGJ,aGK,aGL,rfl,Gp⟩;refine ins Gp s4 Y Y Y mI iw Y λw22 Fa=>mv Y<|mv Y<|ev (xF Y Y)<|gW Y (Ni Fa false false) ?_
 rintro _ w23 ⟨aGM,aGN,aGO,aGP,rfl,Jk⟩;refine ins Jk s4 Y Y Y mI iw Y λw24 pG=>mv Y<|bS Y<|WP.keep' [(3,fP g1),(5,.map (some g2))] Y ?_
 rcases ar7 it.Kind with hkd | hkd | hkd | hkd | hkd | hkd | hkd | hkd | hkd | hkd | hkd | hkd | hkd | hkd | hkd | hkd
 ·refine bQ Y<|jD g1 0 pq pG (sx 29) Y<|ev (vU (i:=0) pG s0 Y Y mI iw (by rw [hkd]; rfl))<|bS rfl<|aZ<|bQ rfl<|ev (xE wh rfl)<|dn<|bR rfl nofun (λ_h=>?_)
  refine jh ?_;refine bQ Y<|ev (dK Aa Y Y (pG.x (sx 29)))<|GR Y Y Y aAl (aoq (m:=m) (s:=s) (r:=r) (((pG.mV 0 30).sel (sx 30)).mV 31 8) it hu) Y ?_
  rintro _ w25 ⟨rfl,FT⟩;refine bS Y<|iI Y ?_
  exact ng (⟨A1,c1,A2,c2,A3,c3,A4,c4,A5,c5,A6,c6,A7,c7,m,s,r,(if it.A<0∨100<it.A then aN else aN+it.A),gm,dR,hs⟩:GC) (aEQ hkd) Y (((FT.cU 9 30).mV 0 8).sel s8)
 ·refine bQ Y<|jD g1 0 pq pG (sx 29) Y<|ev (vU (i:=1) pG s0 Y Y mI iw (by rw [hkd]; rfl))<|bS rfl<|aZ<|bQ rfl<|ev (xE wh rfl)<|dn<|bR rfl nofun (λ_h=>?_)
  refine jh ?_;refine bQ Y<|ev (dK Aa Y Y (pG.x (sx 29)))<|GR Y Y Y aAm (arP (m:=m) (s:=s) (r:=r) (((pG.mV 0 30).sel (sx 30)).mV 31 8) it hm) Y ?_
  rintro _ w26 ⟨aAD,aAE,aAF,aAG,aAH,aAI,awz,rfl,aAJ,Np⟩;refine bS Y<|iI Y ?_
  exact ng (⟨aAD,aAE,aAF,aAG,aAH,aAI,A4,c4,A5,c5,A6,c6,A7,c7,(AU m (⟨0,0,1,it.A,it.B,it.C⟩:gD)),s,r,aN,gm,dR,awz⟩:GC) (aER hkd) (by show(⟨_,_,_,_,_,jR _⟩:PC)=_; rw [aAJ]; rfl) (((Np.cU 9 30).mV 0 8).sel s8)
 ·refine bQ Y<|jD g1 0 pq pG (sx 29) Y<|ev (vU (i:=2) pG s0 Y Y mI iw (by rw [hkd]; rfl))<|bS rfl<|aZ<|bQ rfl<|ev (xE wh rfl)<|dn<|bR rfl nofun (λ_h=>?_)
  refine jh ?_;refine bQ Y<|ev (dK Aa Y Y (pG.x (sx 29)))<|GR Y Y Y aAn (arO (m:=m) (s:=s) (r:=r) (((pG.mV 0 30).sel (sx 30)).mV 31 8) it hm) Y ?_
  rintro _ w27 ⟨aAK,aAL,aAM,aAN,aAO,aAP,rfl,N9⟩;refine bS Y<|iI Y ?_
  exact ng (⟨aAK,aAL,aAM,aAN,aAO,aAP,A4,c4,A5,c5,A6,c6,A7,c7,(AU m (⟨0,0,2,it.A,it.B,0⟩:gD)),s,r,aN,gm,dR,hs⟩:GC) (aES hkd) Y (((N9.cU 9 30).mV 0 8).sel s8)
 ·refine bQ Y<|jD g1 0 pq pG (sx 29) Y<|ev (vU (i:=3) pG s0 Y Y mI iw (by rw [hkd]; rfl))<|bS rfl<|aZ<|bQ rfl<|ev (xE wh rfl)<|dn<|bR rfl nofun (λ_h=>?_)
  refine jh ?_;refine bQ Y<|ev (dK Aa Y Y (pG.x (sx 29)))<|GR Y Y Y aAo (akz (m:=m) (s:=s) (r:=r) (((pG.mV 0 30).sel (sx 30)).mV 31 8) it hm hb hl hd hu hw) Y ?_
  rintro _ w28 ⟨aAQ,aAR,aAS,aAT,aAU,aAV,aAW,aAX,aAY,aAZ,aA0,aA1,aA2,aA3,rfl,Ig⟩;refine bS Y<|iI Y ?_
  exact ng (⟨aAQ,aAR,aAS,aAT,aAU,aAV,aAW,aAX,aAY,aAZ,aA0,aA1,aA2,aA3,(FU m (qN m s r aN)),(qh m s r aN),r,aN,gm,(dR++xY m s r aN),hs⟩:GC) (aET hkd) Y (((Ig.cU 9 30).mV 0 8).sel s8)
 ·refine bQ Y<|jD g1 0 pq pG (sx 29) Y<|ev (vU (i:=4) pG s0 Y Y mI iw (by rw [hkd]; rfl))<|bS rfl<|aZ<|bQ rfl<|ev (xE wh rfl)<|dn<|bR rfl nofun (λ_h=>?_)
  refine jh ?_;refine bQ Y<|ev (dK Aa Y Y (pG.x (sx 29)))<|GR Y Y Y aoY (Rk (m:=m) (s:=s) (r:=r) (((pG.mV 0 30).sel (sx 30)).mV 31 8) it hm hb hl hd hz2 hw) Y ?_
  rintro _ w29 ⟨aA4,aA5,aA6,aA7,aA8,aA9,aBa,aBb,aBd,aBe,awC,rfl,aBf,Ld⟩;refine bS Y<|iI Y ?_
  exact ng (⟨aA4,aA5,aA6,aA7,aA8,aA9,A4,c4,aBa,aBb,A6,c6,aBd,aBe,((mX (⟨m,s,r,aN,dR,jR hs⟩:PC) it).1.m),((mX (⟨m,s,r,aN,dR,jR hs⟩:PC) it).1.s),r,aN,gm,(mX (⟨m,s,r,aN,dR,jR hs⟩:PC) it).1.dR,awC⟩:GC) (agO aj) (ao0 (Rl ⟨m,s,r,aN,dR,jR hs⟩ it).1.symm (Rl ⟨m,s,r,aN,dR,jR hs⟩ it).2.symm aBf) (((Ld.cU 9 30).mV 0 8).sel s8)
 ·refine bQ Y<|jD g1 0 pq pG (sx 29) Y<|ev (vU (i:=5) pG s0 Y Y mI iw (by rw [hkd]; rfl))<|bS rfl<|aZ<|bQ rfl<|ev (xE wh rfl)<|dn<|bR rfl nofun (λ_h=>?_)
  refine jh ?_;refine bQ Y<|ev (dK Aa Y Y (pG.x (sx 29)))<|GR Y Y Y aoY (Rk (m:=m) (s:=s) (r:=r) (((pG.mV 0 30).sel (sx 30)).mV 31 8) it hm hb hl hd hz2 hw) Y ?_
  rintro _ w30 ⟨aBg,aBh,aBi,aBj,aBk,aBl,aBm,aBn,aBo,aBp,awD,rfl,aBq,LG⟩;refine bS Y<|iI Y ?_
  exact ng (⟨aBg,aBh,aBi,aBj,aBk,aBl,A4,c4,aBm,aBn,A6,c6,aBo,aBp,((mX (⟨m,s,r,aN,dR,jR hs⟩:PC) it).1.m),((mX (⟨m,s,r,aN,dR,jR hs⟩:PC) it).1.s),r,aN,gm,(mX (⟨m,s,r,aN,dR,jR hs⟩:PC) it).1.dR,awD⟩:GC) (agO aj) (ao0 (Rl ⟨m,s,r,aN,dR,jR hs⟩ it).1.symm (Rl ⟨m,s,r,aN,dR,jR hs⟩ it).2.symm aBq) (((LG.cU 9 30).mV 0 8).sel s8)
 ·refine bQ Y<|jD g1 0 pq pG (sx 29) Y<|ev (vU (i:=6) pG s0 Y Y mI iw (by rw [hkd]; rfl))<|bS rfl<|aZ<|bQ rfl<|ev (xE wh rfl)<|dn<|bR rfl nofun (λ_h=>?_)
  refine jh ?_;refine bQ Y<|ev (dK Aa Y Y (pG.x (sx 29)))<|GR Y Y Y aoY (Rk (m:=m) (s:=s) (r:=r) (((pG.mV 0 30).sel (sx 30)).mV 31 8) it hm hb hl hd hz2 hw) Y ?_
  rintro _ w31 ⟨aBr,aBs,aBt,aBu,aBv,aBw,aBx,aBy,aBz,aBA,awE,rfl,aBB,SG⟩;refine bS Y<|iI Y ?_
  exact ng (⟨aBr,aBs,aBt,aBu,aBv,aBw,A4,c4,aBx,aBy,A6,c6,aBz,aBA,((mX (⟨m,s,r,aN,dR,jR hs⟩:PC) it).1.m),((mX (⟨m,s,r,aN,dR,jR hs⟩:PC) it).1.s),r,aN,gm,(mX (⟨m,s,r,aN,dR,jR hs⟩:PC) it).1.dR,awE⟩:GC) (agO aj) (ao0 (Rl ⟨m,s,r,aN,dR,jR hs⟩ it).1.symm (Rl ⟨m,s,r,aN,dR,jR hs⟩ it).2.symm aBB) (((SG.cU 9 30).mV 0 8).sel s8)
 ·refine bQ Y<|jD g1 0 pq pG (sx 29) Y<|ev (vU (i:=7) pG s0 Y Y mI iw (by rw [hkd]; rfl))<|bS rfl<|aZ<|bQ rfl<|ev (xE wh rfl)<|dn<|bR rfl nofun (λ_h=>?_)
  refine jh ?_;refine bQ Y<|ev (dK Aa Y Y (pG.x (sx 29)))<|GR Y Y Y aAp (akK (m:=m) (s:=s) (r:=r) (((pG.mV 0 30).sel (sx 30)).mV 31 8) it hm hu hb hr hz9 hN) Y ?_
  rintro _ w32 ⟨aBC,aBD,aBE,aBF,aBG,aBH,awF,rfl,aBI,QD⟩;refine bS Y<|iI Y ?_
  exact ng (⟨aBC,aBD,aBE,aBF,aBG,aBH,A4,c4,A5,c5,A6,c6,A7,c7,((vB (⟨m,s,r,aN,dR,jR hs⟩:PC) it).1.m),s,r,aN,gm,dR,awF⟩:GC) (aAy hkd) (awt (abp (⟨m,s,r,aN,dR,jR hs⟩:PC) it).1.symm (abp (⟨m,s,r,aN,dR,jR hs⟩:PC) it).2.1.symm (abp (⟨m,s,r,aN,dR,jR hs⟩:PC) it).2.2.1.symm (abp (⟨m,s,r,aN,dR,jR hs⟩:PC) it).2.2.2.symm aBI) (((QD.cU 9 30).mV 0 8).sel s8)
 ·refine bQ Y<|jD g1 0 pq pG (sx 29) Y<|ev (vU (i:=8) pG s0 Y Y mI iw (by rw [hkd]; rfl))<|bS rfl<|aZ<|bQ rfl<|ev (xE wh rfl)<|dn<|bR rfl nofun (λ_h=>?_)
  refine jh ?_;refine bQ Y<|ev (dK Aa Y Y (pG.x (sx 29)))<|gW Y (Hz (fd:=46) (R:=DoR b S F iT (⟨m,s,r,aN,dR,jR hs⟩:PC) it) ((((pG.rm (sx 29)).cU 0 25).sel s4).mV 1 12) it aAq ?_ ?_ ?_) ?_
  ·exact λhg w9 K9=>ng (⟨A1,c1,A2,c2,A3,c3,A4,c4,A5,c5,A6,c6,A7,c7,m,s,r,aN,gm,dR,hs⟩:GC) (Hy aj (show fH it.A (jR hs)=none from by rw [iW,hg]; rfl)) rfl (K9.sel s8)
  ·exact λh hg hn hu w9 K9=>ng (⟨A1,c1,A2,c2,A3,c3,A4,c4,A5,c5,A6,c6,A7,c7,m,s,r,aN,gm,dR,hs⟩:GC) (Nh aj (show fH it.A (jR hs)=some h.pl from by rw [iW,hg]; rfl) (by rw [hkd]; revert hu; show _->vZ 3=some (!h.up); cases h.up <;> decide)) rfl (K9.sel s8)
  ·intro h hg hun w9 K9;have hgo:=(WA (c:=(⟨m,s,r,aN,dR,jR hs⟩:PC)) aj (show fH it.A (jR hs)=some h.pl from by rw [iW,hg]; rfl) (by rw [hkd]; revert hun; show _->¬ vZ 3=some (!h.up); cases h.up <;> decide)).trans (aAA hkd);refine(aov K9 it hb).mono ?_;rintro _ w8 ⟨B4,d4,rfl,K8⟩;exact ng (⟨A1,c1,A2,c2,A3,c3,B4,d4,A5,c5,A6,c6,A7,c7,m,⟨ze s.dX it.A aN,s.bY,s.dM⟩,r,aN,gm,dR,hs⟩:GC) hgo Y (K8.sel s8)
  intro v9 w33 yT;refine bS Y<|iI Y ?_
  exact yT
 ·refine bQ Y<|jD g1 0 pq pG (sx 29) Y<|ev (vU (i:=9) pG s0 Y Y mI iw (by rw [hkd]; rfl))<|bS rfl<|aZ<|bQ rfl<|ev (xE wh rfl)<|dn<|bR rfl nofun (λ_h=>?_)
  refine jh ?_;refine bQ Y<|ev (dK Aa Y Y (pG.x (sx 29)))<|gW Y (Hz (fd:=47) (R:=DoR b S F iT (⟨m,s,r,aN,dR,jR hs⟩:PC) it) ((((pG.cU 25 5).cU 0 21).sel s4).mV 1 12) it aAr ?_ ?_ ?_) ?_
  ·exact λhg w9 K9=>ng (⟨A1,c1,A2,c2,A3,c3,A4,c4,A5,c5,A6,c6,A7,c7,m,s,r,aN,gm,dR,hs⟩:GC) (Hy aj (show fH it.A (jR hs)=none from by rw [iW,hg]; rfl)) rfl (K9.sel s8)
  ·exact λh hg hn hu w9 K9=>ng (⟨A1,c1,A2,c2,A3,c3,A4,c4,A5,c5,A6,c6,A7,c7,m,s,r,aN,gm,dR,hs⟩:GC) (Nh aj (show fH it.A (jR hs)=some h.pl from by rw [iW,hg]; rfl) (by rw [hkd]; revert hu; show _->vZ 4=some (!h.up); cases h.up <;> decide)) rfl (K9.sel s8)
  ·intro h hg hun w9 K9;have hgo:=(WA (c:=(⟨m,s,r,aN,dR,jR hs⟩:PC)) aj (show fH it.A (jR hs)=some h.pl from by rw [iW,hg]; rfl) (by rw [hkd]; revert hun; show _->¬ vZ 4=some (!h.up); cases h.up <;> decide)).trans (aAB hkd);obtain⟨gh,gs,yR,A,c,up,bJ,l,es⟩:=h;refine(agJ K9 it hm hb hl hd hu hw hr hg (lG (hz9 _ _ hg) au)).mono ?_;rintro _ w8 ⟨B1,d1,B2,d2,B3,d3,B7,d7,rfl,K8⟩;exact ng (⟨B1,d1,B2,d2,B3,d3,A4,c4,A5,c5,A6,c6,B7,d7,(oG s aN it.A m (lS m.aA it.A (eT l))),s,r,aN,gm,(dR++y7 (eT l) (nX (oG s aN it.A m (lS m.aA it.A (eT l))).aA (eT l)) it.A (aN+r.jy)),hs⟩:GC) hgo Y (K8.sel s8)
  intro v9 w34 yT;refine bS Y<|iI Y ?_
  exact yT
 ·refine bQ Y<|jD g1 0 pq pG (sx 29) Y<|ev (vU (i:=10) pG s0 Y Y mI iw (by rw [hkd]; rfl))<|bS rfl<|aZ<|bQ rfl<|ev (xE wh rfl)<|dn<|bR rfl nofun (λ_h=>?_)
  refine jh ?_;refine bQ Y<|ev (dK Aa Y Y (pG.x (sx 29)))<|gW Y (Hz (fd:=48) (R:=DoR b S F iT (⟨m,s,r,aN,dR,jR hs⟩:PC) it) ((((pG.cU 21 9).cU 0 17).sel s4).mV 1 12) it aAs ?_ ?_ ?_) ?_
  ·exact λhg w9 K9=>ng (⟨A1,c1,A2,c2,A3,c3,A4,c4,A5,c5,A6,c6,A7,c7,m,s,r,aN,gm,dR,hs⟩:GC) (Hy aj (show fH it.A (jR hs)=none from by rw [iW,hg]; rfl)) rfl (K9.sel s8)
  ·exact λh hg hn hu w9 K9=>ng (⟨A1,c1,A2,c2,A3,c3,A4,c4,A5,c5,A6,c6,A7,c7,m,s,r,aN,gm,dR,hs⟩:GC) (Nh aj (show fH it.A (jR hs)=some h.pl from by rw [iW,hg]; rfl) (by rw [hkd]; revert hu; show _->vZ 9=some (!h.up); cases h.up <;> decide)) rfl (K9.sel s8)
  ·intro h hg hun w9 K9;have hgo:=(WA (c:=(⟨m,s,r,aN,dR,jR hs⟩:PC)) aj (show fH it.A (jR hs)=some h.pl from by rw [iW,hg]; rfl) (by rw [hkd]; revert hun; show _->¬ vZ 9=some (!h.up); cases h.up <;> decide)).trans (aAC hkd);obtain⟨gh,gs,yR,A,c,up,bJ,l,es⟩:=h;refine(aor (K9.uO s8 hg) it).mono ?_;rintro _ w8 ⟨rfl,K8⟩;exact ng (⟨A1,c1,A2,c2,A3,c3,A4,c4,A5,c5,A6,c6,A7,c7,m,s,r,aN,gm,dR,(gV it.A ⟨gh,gs,yR,A,c,false,bJ,l,es⟩ hs)⟩:GC) hgo (by show(⟨m,s,r,aN,dR,jR (gV it.A (⟨gh,gs,yR,A,c,false,bJ,l,es⟩:kS) hs)⟩:PC)=(⟨m,s,r,aN,dR,gV it.A ⟨false,bJ,l,JX es⟩ (jR hs)⟩:PC); rw [yO]; rfl) (G7 hg K8)
  intro v9 w35 yT;refine bS Y<|iI Y ?_
  exact yT
 ·refine bQ Y<|jD g1 0 pq pG (sx 29) Y<|ev (vU (i:=11) pG s0 Y Y mI iw (by rw [hkd]; rfl))<|bS rfl<|aZ<|bQ rfl<|ev (xE wh rfl)<|dn<|bR rfl nofun (λ_h=>?_)
  refine jh ?_;refine bQ Y<|ev (dK Aa Y Y (pG.x (sx 29)))<|gW Y (Hz (fd:=49) (R:=DoR b S F iT (⟨m,s,r,aN,dR,jR hs⟩:PC) it) ((((pG.cU 17 13).cU 0 13).sel s4).mV 1 12) it aAt ?_ ?_ ?_) ?_
  ·exact λhg w9 K9=>ng (⟨A1,c1,A2,c2,A3,c3,A4,c4,A5,c5,A6,c6,A7,c7,m,s,r,aN,gm,dR,hs⟩:GC) (Hy aj (show fH it.A (jR hs)=none from by rw [iW,hg]; rfl)) rfl (K9.sel s8)
  ·exact λh hg hn hu w9 K9=>ng (⟨A1,c1,A2,c2,A3,c3,A4,c4,A5,c5,A6,c6,A7,c7,m,s,r,aN,gm,dR,hs⟩:GC) (Nh aj (show fH it.A (jR hs)=some h.pl from by rw [iW,hg]; rfl) (by rw [hkd]; revert hu; show _->vZ 10=some (!h.up); cases h.up <;> decide)) rfl (K9.sel s8)
  ·intro h hg hun w9 K9;have hgo:=(WA (c:=(⟨m,s,r,aN,dR,jR hs⟩:PC)) aj (show fH it.A (jR hs)=some h.pl from by rw [iW,hg]; rfl) (by rw [hkd]; revert hun; show _->¬ vZ 10=some (!h.up); cases h.up <;> decide)).trans (awu hkd);obtain⟨gh,gs,yR,A,c,up,bJ,l,es⟩:=h;refine(aos (K9.uO s8 hg) it (lG (hz9 _ _ hg) au)).mono ?_;rintro _ w8 ⟨A9,c9,rfl,K8⟩;exact ng (⟨A1,c1,A2,c2,A3,c3,A4,c4,A5,c5,A6,c6,A7,c7,m,s,r,aN,gm,dR,(gV it.A ⟨gh,gs,yR,A9,c9,true,bJ,(pX l es l.length).1,(pX l es l.length).2⟩ hs)⟩:GC) hgo (by show(⟨m,s,r,aN,dR,jR (gV it.A (⟨gh,gs,yR,A9,c9,true,bJ,(pX l es l.length).1,(pX l es l.length).2⟩:kS) hs)⟩:PC)=(⟨m,s,r,aN,dR,gV it.A ⟨true,bJ,(XM l (JX es)).1,(XM l (JX es)).2⟩ (jR hs)⟩:PC); rw [yO]; rw [av1]; rfl) (G7 hg K8)
  intro v9 w36 yT;refine bS Y<|iI Y ?_
  exact yT
 ·refine bQ Y<|jD g1 0 pq pG (sx 29) Y<|ev (vU (i:=12) pG s0 Y Y mI iw (by rw [hkd]; rfl))<|bS rfl<|aZ<|bQ rfl<|ev (xE wh rfl)<|dn<|bR rfl nofun (λ_h=>?_)
  refine jh ?_;refine bQ Y<|ev (dK Aa Y Y (pG.x (sx 29)))<|gW Y (Hz (fd:=50) (R:=DoR b S F iT (⟨m,s,r,aN,dR,jR hs⟩:PC) it) ((((pG.cU 13 17).cU 0 9).sel s4).mV 1 12) it aAu ?_ ?_ ?_) ?_
  ·exact λhg w9 K9=>ng (⟨A1,c1,A2,c2,A3,c3,A4,c4,A5,c5,A6,c6,A7,c7,m,s,r,aN,gm,dR,hs⟩:GC) (Hy aj (show fH it.A (jR hs)=none from by rw [iW,hg]; rfl)) rfl (K9.sel s8)
  ·exact λh hg hn hu w9 K9=>ng (⟨A1,c1,A2,c2,A3,c3,A4,c4,A5,c5,A6,c6,A7,c7,m,s,r,aN,gm,dR,hs⟩:GC) (Nh aj (show fH it.A (jR hs)=some h.pl from by rw [iW,hg]; rfl) (by rw [hkd]; revert hu; show _->vZ 12=some (!h.up); cases h.up <;> decide)) rfl (K9.sel s8)
  ·intro h hg hun w9 K9;have hgo:=(WA (c:=(⟨m,s,r,aN,dR,jR hs⟩:PC)) aj (show fH it.A (jR hs)=some h.pl from by rw [iW,hg]; rfl) (by rw [hkd]; revert hun; show _->¬ vZ 12=some (!h.up); cases h.up <;> decide)).trans (awv hkd);obtain⟨gh,gs,yR,A,c,up,bJ,l,es⟩:=h;refine(akx (K9.uO s8 hg) it (lG (hz9 _ _ hg) au)).mono ?_;rintro _ w8 ⟨A9,c9,rfl,K8⟩;exact ng (⟨A1,c1,A2,c2,A3,c3,A4,c4,A5,c5,A6,c6,A7,c7,m,s,r,aN,gm,dR,(gV it.A ⟨gh,gs,yR,A9,c9,up,bJ,(sH l es (Dt l es).length).1,(sH l es (Dt l es).length).2⟩ hs)⟩:GC) hgo (by show(⟨m,s,r,aN,dR,jR (gV it.A (⟨gh,gs,yR,A9,c9,up,bJ,(sH l es (Dt l es).length).1,(sH l es (Dt l es).length).2⟩:kS) hs)⟩:PC)=(⟨m,s,r,aN,dR,gV it.A ⟨up,bJ,(aef l (JX es)).1,(aef l (JX es)).2⟩ (jR hs)⟩:PC); rw [yO]; rw [av2]; rfl) (G7 hg K8)
  intro v9 w37 yT;refine bS Y<|iI Y ?_
  exact yT
 ·refine bQ Y<|jD g1 0 pq pG (sx 29) Y<|ev (vU (i:=13) pG s0 Y Y mI iw (by rw [hkd]; rfl))<|bS rfl<|aZ<|bQ rfl<|ev (xE wh rfl)<|dn<|bR rfl nofun (λ_h=>?_)
  refine jh ?_;refine bQ Y<|ev (dK Aa Y Y (pG.x (sx 29)))<|gW Y (Hz (fd:=51) (R:=DoR b S F iT (⟨m,s,r,aN,dR,jR hs⟩:PC) it) ((((pG.cU 9 21).cU 0 5).sel s4).mV 1 12) it aAv ?_ ?_ ?_) ?_
  ·exact λhg w9 K9=>ng (⟨A1,c1,A2,c2,A3,c3,A4,c4,A5,c5,A6,c6,A7,c7,m,s,r,aN,gm,dR,hs⟩:GC) (Hy aj (show fH it.A (jR hs)=none from by rw [iW,hg]; rfl)) rfl (K9.sel s8)
  ·exact λh hg hn hu w9 K9=>ng (⟨A1,c1,A2,c2,A3,c3,A4,c4,A5,c5,A6,c6,A7,c7,m,s,r,aN,gm,dR,hs⟩:GC) (Nh aj (show fH it.A (jR hs)=some h.pl from by rw [iW,hg]; rfl) (by cases hn)) rfl (K9.sel s8)
  ·intro h hg hun w9 K9;have hgo:=(WA (c:=(⟨m,s,r,aN,dR,jR hs⟩:PC)) aj (show fH it.A (jR hs)=some h.pl from by rw [iW,hg]; rfl) (by rw [hkd]; revert hun; show _->¬ vZ 13=some (!h.up); cases h.up <;> decide)).trans (aww hkd);have hrd:=KL (⟨it.B,false⟩:bV) h.es;rw [show h.pl.d=JX h.es from rfl,hrd] at hgo;obtain⟨gh,gs,yR,A,c,up,bJ,l,es⟩:=h;refine(aky (K9.uO s8 hg) it ((hz _ _ hg).2 _) hC).mono ?_;rintro _ w8 ⟨rfl,K8⟩;exact ng (⟨A1,c1,A2,c2,A3,c3,A4,c4,A5,c5,A6,c6,A7,c7,m,s,r,aN,gm,dR,(gV it.A ⟨gh,gs,yR,A,c,up,bJ,l,O9 it.B it.C es⟩ hs)⟩:GC) hgo (by show(⟨m,s,r,aN,dR,jR (gV it.A (⟨gh,gs,yR,A,c,up,bJ,l,O9 it.B it.C es⟩:kS) hs)⟩:PC)=(⟨m,s,r,aN,dR,gV it.A ⟨up,bJ,l,XL it.B it.C (JX es)⟩ (jR hs)⟩:PC); rw [yO]; rw [<- av0]; rfl) (G7 hg K8)
  intro v9 w38 yT;refine bS Y<|iI Y ?_
  exact yT
 ·refine bQ Y<|jD g1 0 pq pG (sx 29) Y<|ev (vU (i:=14) pG s0 Y Y mI iw (by rw [hkd]; rfl))<|bS rfl<|aZ<|bQ rfl<|ev (xE wh rfl)<|dn<|bR rfl nofun (λ_h=>?_)
  refine jh ?_;refine bQ Y<|ev (dK Aa Y Y (pG.x (sx 29)))<|gW Y (Hz (fd:=52) (R:=DoR b S F iT (⟨m,s,r,aN,dR,jR hs⟩:PC) it) ((((pG.cU 5 25).rm s0).sel s4).mV 1 12) it aAw ?_ ?_ ?_) ?_
  ·exact λhg w9 K9=>ng (⟨A1,c1,A2,c2,A3,c3,A4,c4,A5,c5,A6,c6,A7,c7,m,s,r,aN,gm,dR,hs⟩:GC) (Hy aj (show fH it.A (jR hs)=none from by rw [iW,hg]; rfl)) rfl (K9.sel s8)
  ·exact λh hg hn hu w9 K9=>ng (⟨A1,c1,A2,c2,A3,c3,A4,c4,A5,c5,A6,c6,A7,c7,m,s,r,aN,gm,dR,hs⟩:GC) (Nh aj (show fH it.A (jR hs)=some h.pl from by rw [iW,hg]; rfl) (by cases hn)) rfl (K9.sel s8)
  ·intro h hg hun w9 K9;have hgo:=(WA (c:=(⟨m,s,r,aN,dR,jR hs⟩:PC)) aj (show fH it.A (jR hs)=some h.pl from by rw [iW,hg]; rfl) (by rw [hkd]; revert hun; show _->¬ vZ 14=some (!h.up); cases h.up <;> decide)).trans (awx hkd);obtain⟨gh,gs,yR,A,c,up,bJ,l,es⟩:=h;refine(aot (K9.uO s8 hg) it).mono ?_;rintro _ w8 ⟨rfl,K8⟩;exact ng (⟨A1,c1,A2,c2,A3,c3,A4,c4,A5,c5,A6,c6,A7,c7,m,s,r,aN,gm,dR,(gV it.A ⟨gh,gs,yR,none,0,up,bJ,[],[]⟩ hs)⟩:GC) hgo (by show(⟨m,s,r,aN,dR,jR (gV it.A (⟨gh,gs,yR,none,0,up,bJ,[],[]⟩:kS) hs)⟩:PC)=(⟨m,s,r,aN,dR,gV it.A ⟨up,bJ,[],[]⟩ (jR hs)⟩:PC); rw [yO]; rfl) (G7 hg K8)
  intro v9 w39 yT;refine bS Y<|iI Y ?_
  exact yT
 ·refine bQ Y<|jD g1 0 pq pG (sx 29) Y<|ev (Ev.asD pG s0 Y Y mI iw ar6 (by have e0:(it.Kind == 0)=false:=(by simpa using (show it.Kind≠0 by omega)); have e1:(it.Kind == 1)=false:=(by simpa using (show it.Kind≠1 by omega)); have e2:(it.Kind == 2)=false:=(by simpa using (show it.Kind≠2 by omega)); have e3:(it.Kind == 3)=false:=(by simpa using (show it.Kind≠3 by omega)); have e4:(it.Kind == 4)=false:=(by simpa using (show it.Kind≠4 by omega)); have e5:(it.Kind == 5)=false:=(by simpa using (show it.Kind≠5 by omega)); have e6:(it.Kind == 6)=false:=(by simpa using (show it.Kind≠6 by omega)); have e7:(it.Kind == 7)=false:=(by simpa using (show it.Kind≠7 by omega)); have e8:(it.Kind == 8)=false:=(by simpa using (show it.Kind≠8 by omega)); have e9:(it.Kind == 9)=false:=(by simpa using (show it.Kind≠9 by omega)); have e10:(it.Kind == 10)=false:=(by simpa using (show it.Kind≠10 by omega)); have e11:(it.Kind == 11)=false:=(by simpa using (show it.Kind≠11 by omega)); have e12:(it.Kind == 12)=false:=(by simpa using (show it.Kind≠12 by omega)); have e13:(it.Kind == 13)=false:=(by simpa using (show it.Kind≠13 by omega)); have e14:(it.Kind == 14)=false:=(by simpa using (show it.Kind≠14 by omega)); simp [Instr.findNow,Instr.sameNow,e0,e1,e2,e3,e4,e5,e6,e7,e8,e9,e10,e11,e12,e13,e14]))<|bS rfl<|aZ<|bQ rfl<|ev (Ev.aDT wh rfl)<|dn<|bR rfl (λ_h=>?_) nofun
  refine iY Y<|vG Y ?_
  exact ng (⟨A1,c1,A2,c2,A3,c3,A4,c4,A5,c5,A6,c6,A7,c7,m,s,r,aN,gm,dR,hs⟩:GC) (aAz hkd) Y (pG.cU 0 30)
end Go.Proofs.YtlhnnmlenkahlaaGreat
