/- Lemmas. -/
import Derived.Test.YtlhnnmlenkahlaaGreatrG27
set_option maxRecDepth 4000
set_option linter.all false
namespace Go.Proofs.YtlhnnmlenkahlaaGreat
open Go.RowKit Go.Proofs.Tryz
def nN:=@underlying87
def xH:=@underlying30
variable {c:PC}{it:AItem}{b w:World}{S:Nat->Prop}{F:List lH}{je:Nat}{h:rG}
theorem OL:Size prog 32 4:=ay
theorem Ar:Agg prog 32 4:=⟨λ_=>by kernel_rfl,OL⟩
theorem aEp:bF prog 39:=ay
theorem aEq:bF prog 40:=ay
theorem aEr:bF prog 41:=ay
theorem aEs:bF prog 42:=ay
theorem asL:bF prog 43:=ay
theorem aEt:bF prog 44:=ay
theorem aEu:bF prog 46:=ay
theorem aEv:bF prog 47:=ay
theorem aEw:bF prog 48:=ay
theorem aEx:bF prog 49:=ay
theorem aEy:bF prog 50:=ay
theorem aEz:bF prog 51:=ay
theorem aEA:bF prog 52:=ay
theorem awq:∀ w,(zeroValue 30).run prog w=.ok (.nilFunc) w:=ay
structure GC where
  A1:Option Addr
  c1:Nat
  A2:Option Addr
  c2:Nat
  A3:Option Addr
  c3:Nat
  A4:Option Addr
  c4:Nat
  A5:Option Addr
  c5:Nat
  A6:Option Addr
  c6:Nat
  A7:Option Addr
  c7:Nat
  m:dF
  s:iF
  r:ARules
  aN:Int
  gm:Nat
  eD:List aM
  hs:kK
def GC.pl(G:GC):PC:=⟨G.m,G.s,G.r,G.aN,G.eD,kH G.hs⟩
def GC.rs(G:GC)(je:Nat):List lH:=[jP G.gm G.hs,Iq je G.A1 G.c1 G.A2 G.c2 G.A3 G.c3 G.A4 G.c4 G.A5 G.c5 G.A6 G.c6 G.A7 G.c7 G.m G.s G.r G.aN G.gm G.eD,dP cZ G.A1 G.c1 G.m.aT,dP bJ G.A2 G.c2 G.m.aA,dP bX G.A3 G.c3 G.m.aP,dP iO G.A4 G.c4 G.s.eF,dP dJ G.A5 G.c5 G.s.bY,dP bG G.A6 G.c6 G.s.bL,aS bG 112 G.A7 G.c7 G.eD]
instance Ap.g{je:Nat}{F:List lH}{A1:ah}{c1:Nat}{A2:ah}{c2:Nat}{A3:ah}{c3:Nat}{A4:ah}{c4:Nat}{A5:ah}{c5:Nat}{A6:ah}{c6:Nat}{A7:ah}{c7:Nat}{m:dF}{s:iF}{r:ARules}{aN:Int}{gm:Nat}{eD:List aM}{hs:kK}:Ap (GC.rs ⟨A1,c1,A2,c2,A3,c3,A4,c4,A5,c5,A6,c6,A7,c7,m,s,r,aN,gm,eD,hs⟩ je) F (jP gm hs::Iq je A1 c1 A2 c2 A3 c3 A4 c4 A5 c5 A6 c6 A7 c7 m s r aN gm eD::dP cZ A1 c1 m.aT::dP bJ A2 c2 m.aA::dP bX A3 c3 m.aP::dP iO A4 c4 s.eF::dP dJ A5 c5 s.bY::dP bG A6 c6 s.bL::aS bG 112 A7 c7 eD::F):=⟨rfl⟩
structure Ok (c:PC):Prop where
  hm:mD c.m=true
  hr:lY c.r=true
  hb:c.s.eF.length<=1000
  hl:c.s.bY.length<=64
  hd:c.s.bL.length<=50000
  hu:0<=c.aN/\c.aN<=549755813888
  hw:c.eD.length<=500000
  hz:∀ z h,fI z c.hs=some h->h.l.length<=900/\∀ k,(sU k h.d).length<=1000
  hN:∀ n∈c.m.aT,(fI n.ID c.hs).isSome=true
theorem asM{hs:kK}(h:∀ z h,fI z (kH hs)=some h->h.l.length<=900/\∀ k,(sU k h.d).length<=1000):∀ z h,fI z hs=some h->h.l.length<=900/\∀ k,(gL k h.es).2.2.length<=1000:=λz g hg=>by
  have h1:=h z g.pl (by rw [jI,hg]; rfl);exact⟨h1.1,λk=>by have:=h1.2 k; rwa [show g.pl.d=MR g.es from rfl,NS] at this⟩
theorem ax4{hs:kK}(h:∀ z h,fI z hs=some h->h.l.length<=900/\∀ k,(gL k h.es).2.2.length<=1000):hSz hs:=λz g hg=>⟨lV (h z g hg).1 au,(h z g hg).2⟩
theorem aEB{m:dF}{hs:kK}(h:∀ n∈m.aT,(fI n.ID (kH hs)).isSome=true):∀ n∈m.aT,(fI n.ID hs).isSome=true:=λn hn=>by
  have:=h n hn
  rwa [jI,Option.isSome_map] at this
theorem asN{r:ARules}{aN:Int}{hs:lq}(h1:r=c.r)(h2:aN=c.aN)(h3:hs=c.hs):(⟨c.m,c.s,r,aN,c.eD,hs⟩:PC)=c:=by subst h1 h2 h3; rfl
theorem aAO{s:iF}{r:ARules}{aN:Int}{eD:List aM}{hs:lq}(h0:s=c.s)(h1:r=c.r)(h2:aN=c.aN)(h4:eD=c.eD)(h3:hs=c.hs):(⟨c.m,s,r,aN,eD,hs⟩:PC)=c:=by subst h0 h1 h2 h4 h3; rfl
theorem Ui(c:PC)(it:AItem):(mO c it).1.r=c.r/\(mO c it).1.aN=c.aN:=by
  unfold mO
  split
  · exact⟨Y,Y⟩
  · split
    · exact⟨Y,Y⟩
    · split
      · exact⟨Y,Y⟩
      · split
        · have h:=alc { c with eD:=c.eD.take it.A.toNat++c.eD.drop (it.A.toNat+1) }
          exact⟨(h _).2.2,(h _).2.1⟩
        · exact⟨Y,Y⟩
theorem ad7(c:PC)(it:AItem):(rC c it).1.s=c.s/\(rC c it).1.r=c.r/\(rC c it).1.aN=c.aN/\(rC c it).1.eD=c.eD:=by
  unfold rC
  split
  · exact⟨Y,Y,Y,Y⟩
  · split <;> exact⟨rfl,rfl,rfl,rfl⟩
theorem aIM(h:it.Kind=0):AU c it=({ c with aN:=if it.A<0∨100<it.A then c.aN else c.aN+it.A },if it.A<0∨100<it.A then 1 else 0):=by
  unfold AU; rw [aO h]; split <;> rfl
theorem aIN(h:it.Kind=1):AU c it=av5 c it:=by unfold AU; rw [h]; rfl
theorem aIO(h:it.Kind=2):AU c it=({ c with m:=uD c.m ⟨0,0,2,it.A,it.B,0⟩ },knE c.m ⟨0,0,2,it.A,it.B,0⟩):=by unfold AU; rw [h]; rfl
theorem aIP(h:it.Kind=5):AU c it=(YP c,0):=by unfold AU; rw [h]; rfl
theorem ajD(h:it.Kind=6∨it.Kind=7∨it.Kind=8):AU c it=mO c it:=by
  unfold AU; rw [aK aj,aK aj,aK aj,aK aj,aO h]
theorem aEC(h:it.Kind=11):AU c it=rC c it:=by unfold AU; rw [h]; rfl
theorem aED(h:it.Kind<0∨14<it.Kind):AU c it=(c,1):=by
  unfold AU; rw [aK aj,aK aj,aK aj,aK aj,aK aj,aK aj,aO h]
theorem asO(h:it.Kind=3∨it.Kind=4∨it.Kind=9∨it.Kind=10∨it.Kind=12∨it.Kind=13∨it.Kind=14):AU c it=match fI it.A c.hs with
    | none=>(c,5)
    | some h=>if xG it.Kind=some (!h.up) then(c,8) else U0 c it h:=by
  unfold AU; rw [aK aj,aK aj,aK aj,aK aj,aK aj,aK aj,aK aj]; rfl
theorem JU(h:it.Kind=3∨it.Kind=4∨it.Kind=9∨it.Kind=10∨it.Kind=12∨it.Kind=13∨it.Kind=14)(hg:fI it.A c.hs=none):AU c it=(c,5):=by rw [asO h,hg]
theorem PS(h:it.Kind=3∨it.Kind=4∨it.Kind=9∨it.Kind=10∨it.Kind=12∨it.Kind=13∨it.Kind=14){g:rG}(hg:fI it.A c.hs=some g)(hn:xG it.Kind=some (!g.up)):AU c it=(c,8):=by rw [asO h,hg]; exact aO hn
theorem YZ(h:it.Kind=3∨it.Kind=4∨it.Kind=9∨it.Kind=10∨it.Kind=12∨it.Kind=13∨it.Kind=14){g:rG}(hg:fI it.A c.hs=some g)(hn:¬ xG it.Kind=some (!g.up)):AU c it=U0 c it g:=by rw [asO h,hg]; exact aK hn
theorem PU{fd:FuncId}{pa qa:Array Value}{gv:Nat}(H0:Hp b S w F)(needs:Bool)(up:Bool) :
    bS prog 45 #[gD gv,.bool needs,.bool up,.func (.func fd) pa qa] w λv w'=>∃(ga gb gd ge:Nat),v=.func (.func 106) #[] #[gD ga,gD gb,gD gd,gD ge]/\Hp b S w' (dY ga 26 [gD gv]::dY gb 4 [.bool needs]::dY gd 4 [.bool up]::dY ge 86 [.func (.func fd) pa qa]::F):=by
 refine sV func45 ntmps45 Y<|rg<|bx Y Y H0 λg1 w1 K1=>bx Y Y K1 λg2 w2 K2=>bx Y Y K2 λg3 w3 K3=>bx Y Y K3 λg4 w4 K4=>bU Y<|rg<|ev (rW Y)<|bU Y<|jc Y ?_
 exact⟨g1,g2,g3,g4,Y,((((K4.sel s0).sel s1).sel s2).sel s3)⟩
abbrev ad8(iD:Nat)(ji:ah)(uS:Nat)(wV:ah)(ES:Nat)(Q0:ah)(UO:Nat)(y7z:ah)(y8z:Nat)(y9z:ah)(RV:Nat)(RX:ah)(RY:Nat)(RZ:ah)(R3:Nat)(Dz:dF)(DC:iF)(adG:ARules)(adH:Int)(R4:Nat)(R5:List aM)(adI:kK)(adJ:List lH):=Iq iD ji uS wV ES Q0 UO y7z y8z y9z RV RX RY RZ R3 Dz DC adG adH R4 R5::dP cZ ji uS Dz.aT::dP bJ wV ES Dz.aA::dP bX Q0 UO Dz.aP::dP iO y7z y8z DC.eF::dP dJ y9z RV DC.bY::dP bG RX RY DC.bL::aS bG 112 RZ R3 R5::jP R4 adI::adJ
theorem JV{fd:FuncId}{g4 g5 g6 g7:Nat}{needs up:Bool}{A1 A2 A3 A4 A5 A6 A7:ah}{c1 c2 c3 c4 c5 c6 c7 gm:Nat}{m:dF}{s:iF}{r:ARules}{aN:Int}{eD:List aM}{hs:kK}(H0:Hp b S w (dY g4 26 [gD je]::dY g5 4 [.bool needs]::dY g6 4 [.bool up]::dY g7 86 [.func (.func fd) #[gD je] #[]]::Iq je A1 c1 A2 c2 A3 c3 A4 c4 A5 c5 A6 c6 A7 c7 m s r aN gm eD::dP cZ A1 c1 m.aT::dP bJ A2 c2 m.aA::dP bX A3 c3 m.aP::dP iO A4 c4 s.eF::dP dJ A5 c5 s.bY::dP bG A6 c6 s.bL::aS bG 112 A7 c7 eD::jP gm hs::F))(it:AItem)(qd:bF prog fd){R:Value->World->Prop}
    (h5:fI it.A hs=none->∀ w',Hp b S w' (ad8 je A1 c1 A2 c2 A3 c3 A4 c4 A5 c5 A6 c6 A7 c7 m s r aN gm eD hs F)->R (aF 5) w')
    (h8:∀ h,fI it.A hs=some h->needs=true->(h.up == up)=false->∀ w',Hp b S w' (ad8 je A1 c1 A2 c2 A3 c3 A4 c4 A5 c5 A6 c6 A7 c7 m s r aN gm eD hs F)->R (aF 8) w')
    (hd:∀ h,fI it.A hs=some h->¬ (needs=true/\(h.up == up)=false)->∀ w',Hp b S w' (ad8 je A1 c1 A2 c2 A3 c3 A4 c4 A5 c5 A6 c6 A7 c7 m s r aN gm eD hs F)->bS prog fd #[gD je,.agg #[aF it.Kind,aF it.A,aF it.B,aF it.C],gD h.gh] w' R) :
    bS prog 106 #[.agg #[aF it.Kind,aF it.A,aF it.B,aF it.C],gD g4,gD g5,gD g6,gD g7] w R:=by
 refine sV func106 ntmps106 Y<|rg<|bx Y Y H0 λg1 w1 K1=>bU Y ?_
 rcases hg1:fI it.A hs with _ | ⟨Zz,gs1,Xt,Ah1,ch1,VT,YQ,l1,es1⟩
 ·refine qo ak ak<|bA (dx asy Y (K1.x s1) Y) Y<|bA (eX Y) Y<|bA (dW (q:=⟨je,13,none⟩) uW Y Y) Y<|bA (dx U1 Y (K1.x s5) Y) Y<|bA (dW (q:=⟨g1,1,none⟩) nV Y Y) Y<|bA (dx jD Y (K1.x s0) Y) Y<|bA (Ev.hN K1 s13 hg1 EJ yZ vO Y Y) Y<|bA (om Y) Y<|qp λw2 e2=>?_
  have K2:=K1.grow e2;refine aW<|cB<|bQ Y<|ev (Ev.agA CQ Y Y)<|bU Y<|bK Y (λ_h=>?_) nofun
  refine iZ Y<|Ox Y ?_
  exact h5 hg1 _ (K2.cU 0 5)
 ·refine qo ak ak<|bA (dx asy Y (K1.x s1) Y) Y<|bA (eX Y) Y<|bA (dW (q:=⟨je,13,none⟩) uW Y Y) Y<|bA (dx U1 Y (K1.x s5) Y) Y<|bA (dW (q:=⟨g1,1,none⟩) nV Y Y) Y<|bA (dx jD Y (K1.x s0) Y) Y<|bA (Ev.hS K1 s13 hg1 EJ yZ vO Y Y) Y<|bA (om Y) Y<|qp λw3 e3=>?_
  have K3:=K1.grow e3;refine aW<|cB<|bQ Y<|ev (Ev.agA CQ Y Y)<|bU Y<|bK Y nofun (λ_h=>?_)
  refine qo ak ak<|bA (dx ajg Y (K3.x s2) Y) Y<|bA (bf Y) Y<|rJ 7 27 (needs&&(!(VT == up))) ?_ ?_
  ·cases ab6:needs with
   | true=>
    refine eT Y (bf Y) Y<|eT Y (eX Y) Y<|eT Y (dW (q:=⟨Zz,1,none⟩) JD Y Y) Y<|eT Y (dx ajg Y (K3.EK s13 hg1) Y) Y<|eT Y (dx ajg Y (K3.x s3) Y) Y<|eT Y (Ev.neb SS Y Y) Y<|bA (dH Y Y) Y<|j3 Y
   | false=>
    refine dZ Y Y Y<|dZ Y Y Y<|dZ Y Y Y<|dZ Y Y Y<|dZ Y Y Y<|dZ Y Y Y<|bA (dL Y Y) Y<|j3 Y
  refine bA (om Y) Y<|qp λw4 e4=>?_
  have K4:=K3.grow e4;refine bK Y (λhc18=>?_) (λhc18=>?_)
  ·refine iZ Y<|Ox Y ?_
   exact h8 _ hg1 (by revert hc18; cases needs <;> simp) (by revert hc18; cases needs <;> simp) _ (K4.cU 0 5)
  refine xQ ?_;refine rg<|nO K4 s4 Y<|ev (dU Ar Y Y (K4.x s0))<|mv Y<|Jv Y Y Y qd (hd _ hg1 (λh9=>by obtain⟨h10,h11⟩:=h9; simp_all) _ (K4.cU 0 5)) rfl ?_
  intro v9 w5 AJ;refine bU Y<|jc Y ?_
  exact AJ
theorem awr(k:Int):k=0∨k=1∨k=2∨k=5∨k=6∨k=7∨k=8∨k=11∨k=3∨k=4∨k=9∨k=10∨k=12∨k=13∨k=14∨(k<0∨14<k):=aj
def DoR(b:World)(S:Nat->Prop)(F:List lH)(je:Nat)(c:PC)(it:AItem)(v:Value)(w:World):Prop:=∃ G':GC,v=.int .i64 (AU c it).2/\G'.pl=(AU c it).1/\Hp b S w (G'.rs je++F)
theorem DoR.mk{c':PC}{e:Int}(G':GC)(hd:AU c it=(c',e))(hp:G'.pl=c')(H:Hp b S w (G'.rs je++F)):DoR b S F je c it (aF e) w:=⟨G',by rw [hd],by rw [hd]; exact hp,H⟩
def og:=@DoR.mk
theorem aEE(hk:it.Kind=3):U0 c it h=({ c with s:=⟨Bh c.s.eF it.A c.aN,c.s.bY,c.s.bL⟩ },0):=by unfold U0; rw [hk]; rfl
theorem aEF(hk:it.Kind=4):U0 c it h=(av6 c it h,0):=by unfold U0; rw [hk]; rfl
theorem aEG(hk:it.Kind=9):U0 c it h=({ c with hs:=iy it.A { h with up:=false } c.hs },0):=by unfold U0; rw [hk]; rfl
theorem aAP(hk:it.Kind=10):U0 c it h=({ c with hs:=iy it.A ⟨true,h.bM,(aap h.l h.d).1,(aap h.l h.d).2⟩ c.hs },0):=by unfold U0; rw [hk]; rfl
theorem aAQ(hk:it.Kind=12):U0 c it h=({ c with hs:=iy it.A ⟨h.up,h.bM,(aaq h.l h.d).1,(aaq h.l h.d).2⟩ c.hs },0):=by unfold U0; rw [hk]; rfl
theorem aAR(hk:it.Kind=13):U0 c it h=({ c with hs:=iy it.A { h with d:=aao it.B it.C h.d } c.hs },if(sU ⟨it.B,false⟩ h.d).length=0 then 5 else 0):=by unfold U0; rw [hk]; rfl
theorem aAS(hk:it.Kind=14):U0 c it h=({ c with hs:=iy it.A ⟨h.up,h.bM,[],[]⟩ c.hs },0):=by unfold U0; rw [hk]; rfl
set_option maxHeartbeats 20000000 in
theorem aAT{G:GC}(H0:Hp b S w (G.rs je++F))(it:AItem)(hok:Ok G.pl)(hC:qm it.C) :
    bS prog 11 #[gD je,.agg #[aF it.Kind,aF it.A,aF it.B,aF it.C]] w (DoR b S F je G.pl it):=by
 obtain⟨A1,c1,A2,c2,A3,c3,A4,c4,A5,c5,A6,c6,A7,c7,m,s,r,aN,gm,eD,hs⟩:=G;have H1:Hp b S w (jP gm hs::Iq je A1 c1 A2 c2 A3 c3 A4 c4 A5 c5 A6 c6 A7 c7 m s r aN gm eD::dP cZ A1 c1 m.aT::dP bJ A2 c2 m.aA::dP bX A3 c3 m.aP::dP iO A4 c4 s.eF::dP dJ A5 c5 s.bY::dP bG A6 c6 s.bL::aS bG 112 A7 c7 eD::F):=H0;have hm:mD m=true:=hok.hm;have hr:lY r=true:=hok.hr;have hb:s.eF.length<=1000:=hok.hb;have hl:s.bY.length<=64:=hok.hl;have hd:s.bL.length<=50000:=hok.hd;have hu:0<=aN/\aN<=549755813888:=hok.hu;have hw:eD.length<=500000:=hok.hw;have hz:=asM hok.hz;have hz2:=ax4 hz;have hz9:∀ z h,fI z hs=some h->h.l.length<=900:=λz h hg=>(hz z h hg).1;have hN:=aEB hok.hN;refine sV func11 ntmps11 Y<|rg<|bx Y Y H1 λg1 w1 K1=>bU Y<|rg<|mkm K1 Y λg2 w2 K2=>mv Y<|ev (yY Y Y)<|ins K2 s0 Y Y Y nN iQ Y λw3 K3=>mv Y<|ev (yY Y Y)<|ins K3 s0 Y Y Y nN iQ Y λw4 K4=>mv Y<|ev (yY Y Y)<|ins K4 s0 Y Y Y nN iQ Y λw5 K5=>mv Y<|ev (yY Y Y)<|ins K5 s0 Y Y Y nN iQ Y λw6 K6=>mv Y<|ev (yY Y Y)<|ins K6 s0 Y Y Y nN iQ Y λw7 K7=>mv Y<|ev (yY Y Y)<|ins K7 s0 Y Y Y nN iQ Y λw8 K8=>mv Y<|ev (yY Y Y) ?_
 refine ins K8 s0 Y Y Y nN iQ Y λw9 K9=>mv Y<|ev (yY Y Y)<|ins K9 s0 Y Y Y nN iQ Y λOz K10=>mv Y<|mv Y<|ev (yY Y Y)<|gX Y (PU K10 true true) ?_
 rintro _ Ti ⟨aKB,aKC,aKD,aKE,rfl,tZ⟩;refine ins tZ s4 Y Y Y nN iQ Y λSm sJ=>mv Y<|mv Y<|ev (yY Y Y)<|gX Y (PU sJ true true) ?_
 rintro _ Xu ⟨aKF,aKG,aKH,aKI,rfl,wz⟩;refine ins wz s4 Y Y Y nN iQ Y λZ0 wB=>mv Y<|mv Y<|ev (yY Y Y)<|gX Y (PU wB true true) ?_
 rintro _ Z4 ⟨aKJ,aKK,aKL,aKM,rfl,zB⟩;refine ins zB s4 Y Y Y nN iQ Y λw16 BR=>mv Y<|mv Y<|ev (yY Y Y)<|gX Y (PU BR true false) ?_
 rintro _ w17 ⟨aKN,aKO,aKP,aKQ,rfl,yB⟩;refine ins yB s4 Y Y Y nN iQ Y λw18 ET=>mv Y<|mv Y<|ev (yY Y Y)<|gX Y (PU ET true true) ?_
 rintro _ w19 ⟨aKR,aKS,aKT,aKU,rfl,Cc⟩;refine ins Cc s4 Y Y Y nN iQ Y λw20 C8=>mv Y<|mv Y<|ev (yY Y Y)<|gX Y (PU C8 false false) ?_
 rintro _ w21 ⟨aKV,aKW,aKX,aKY,rfl,FH⟩;refine ins FH s4 Y Y Y nN iQ Y λw22 EU=>mv Y<|mv Y<|ev (yY Y Y)<|gX Y (PU EU false false) ?_
 rintro _ w23 ⟨aKZ,aK0,aK1,aK2,rfl,KA⟩;refine ins KA s4 Y Y Y nN iQ Y λw24 qB=>mv Y<|bU Y<|OQ [(3,gD g1),(5,.map (some g2))] Y ?_
 rcases awr it.Kind with hkd | hkd | hkd | hkd | hkd | hkd | hkd | hkd | hkd | hkd | hkd | hkd | hkd | hkd | hkd | hkd
 ·refine bQ Y<|jT g1 0 oD qB (sx 29) Y<|ev (xw (i:=0) qB s0 Y Y nN iQ (by rw [hkd]; rfl))<|bU rfl<|aW<|bQ rfl<|ev (yX xH rfl)<|dn<|bK rfl nofun (λ_h=>?_)
  refine jm ?_;refine bQ Y<|ev (dU Ar Y Y (qB.x (sx 29)))<|Jv Y Y Y aEp (ar7 (m:=m) (s:=s) (r:=r) (((qB.mV 0 30).sel (sx 30)).mV 31 8) it hu) Y ?_
  rintro _ w25 ⟨rfl,FI⟩;refine bU Y<|jc Y ?_
  exact og (⟨A1,c1,A2,c2,A3,c3,A4,c4,A5,c5,A6,c6,A7,c7,m,s,r,(if it.A<0∨100<it.A then aN else aN+it.A),gm,eD,hs⟩:GC) (aIM hkd) Y (((FI.cU 9 30).mV 0 8).sel s8)
 ·refine bQ Y<|jT g1 0 oD qB (sx 29) Y<|ev (xw (i:=1) qB s0 Y Y nN iQ (by rw [hkd]; rfl))<|bU rfl<|aW<|bQ rfl<|ev (yX xH rfl)<|dn<|bK rfl nofun (λ_h=>?_)
  refine jm ?_;refine bQ Y<|ev (dU Ar Y Y (qB.x (sx 29)))<|Jv Y Y Y aEq (av8 (m:=m) (s:=s) (r:=r) (((qB.mV 0 30).sel (sx 30)).mV 31 8) it hm) Y ?_
  rintro _ w26 ⟨aEH,aEI,aEJ,aEK,aEL,aEM,aAU,rfl,aEN,Nw⟩;refine bU Y<|jc Y ?_
  exact og (⟨aEH,aEI,aEJ,aEK,aEL,aEM,A4,c4,A5,c5,A6,c6,A7,c7,(uD m (⟨0,0,1,it.A,it.B,it.C⟩:fV)),s,r,aN,gm,eD,aAU⟩:GC) (aIN hkd) (by show(⟨_,_,_,_,_,kH _⟩:PC)=_; rw [aEN]; rfl) (((Nw.cU 9 30).mV 0 8).sel s8)
 ·refine bQ Y<|jT g1 0 oD qB (sx 29) Y<|ev (xw (i:=2) qB s0 Y Y nN iQ (by rw [hkd]; rfl))<|bU rfl<|aW<|bQ rfl<|ev (yX xH rfl)<|dn<|bK rfl nofun (λ_h=>?_)
  refine jm ?_;refine bQ Y<|ev (dU Ar Y Y (qB.x (sx 29)))<|Jv Y Y Y aEr (av7 (m:=m) (s:=s) (r:=r) (((qB.mV 0 30).sel (sx 30)).mV 31 8) it hm) Y ?_
  rintro _ w27 ⟨aEO,aEP,aEQ,aER,aES,aET,rfl,OB⟩;refine bU Y<|jc Y ?_
  exact og (⟨aEO,aEP,aEQ,aER,aES,aET,A4,c4,A5,c5,A6,c6,A7,c7,(uD m (⟨0,0,2,it.A,it.B,0⟩:fV)),s,r,aN,gm,eD,hs⟩:GC) (aIO hkd) Y (((OB.cU 9 30).mV 0 8).sel s8)
 ·refine bQ Y<|jT g1 0 oD qB (sx 29) Y<|ev (xw (i:=3) qB s0 Y Y nN iQ (by rw [hkd]; rfl))<|bU rfl<|aW<|bQ rfl<|ev (yX xH rfl)<|dn<|bK rfl nofun (λ_h=>?_)
  refine jm ?_;refine bQ Y<|ev (dU Ar Y Y (qB.x (sx 29)))<|Jv Y Y Y aEs (anX (m:=m) (s:=s) (r:=r) (((qB.mV 0 30).sel (sx 30)).mV 31 8) it hm hb hl hd hu hw) Y ?_
  rintro _ w28 ⟨aEU,aEV,aEW,aEX,aEY,aEZ,aE0,aE1,aE2,aE3,aE4,aE5,aE6,aE7,rfl,FJ⟩;refine bU Y<|jc Y ?_
  exact og (⟨aEU,aEV,aEW,aEX,aEY,aEZ,aE0,aE1,aE2,aE3,aE4,aE5,aE6,aE7,(AP m (nY m s r aN)),(mZ m s r aN),r,aN,gm,(eD++xF m s r aN),hs⟩:GC) (aIP hkd) Y (((FJ.cU 9 30).mV 0 8).sel s8)
 ·refine bQ Y<|jT g1 0 oD qB (sx 29) Y<|ev (xw (i:=4) qB s0 Y Y nN iQ (by rw [hkd]; rfl))<|bU rfl<|aW<|bQ rfl<|ev (yX xH rfl)<|dn<|bK rfl nofun (λ_h=>?_)
  refine jm ?_;refine bQ Y<|ev (dU Ar Y Y (qB.x (sx 29)))<|Jv Y Y Y asL (Uh (m:=m) (s:=s) (r:=r) (((qB.mV 0 30).sel (sx 30)).mV 31 8) it hm hb hl hd hz2 hw) Y ?_
  rintro _ w29 ⟨aE8,aE9,aFa,aFb,aFc,aFd,aFe,aFf,aFg,aFh,aAV,rfl,aFi,Lx⟩;refine bU Y<|jc Y ?_
  exact og (⟨aE8,aE9,aFa,aFb,aFc,aFd,A4,c4,aFe,aFf,A6,c6,aFg,aFh,((mO (⟨m,s,r,aN,eD,kH hs⟩:PC) it).1.m),((mO (⟨m,s,r,aN,eD,kH hs⟩:PC) it).1.s),r,aN,gm,(mO (⟨m,s,r,aN,eD,kH hs⟩:PC) it).1.eD,aAV⟩:GC) (ajD aj) (asN (Ui ⟨m,s,r,aN,eD,kH hs⟩ it).1.symm (Ui ⟨m,s,r,aN,eD,kH hs⟩ it).2.symm aFi) (((Lx.cU 9 30).mV 0 8).sel s8)
 ·refine bQ Y<|jT g1 0 oD qB (sx 29) Y<|ev (xw (i:=5) qB s0 Y Y nN iQ (by rw [hkd]; rfl))<|bU rfl<|aW<|bQ rfl<|ev (yX xH rfl)<|dn<|bK rfl nofun (λ_h=>?_)
  refine jm ?_;refine bQ Y<|ev (dU Ar Y Y (qB.x (sx 29)))<|Jv Y Y Y asL (Uh (m:=m) (s:=s) (r:=r) (((qB.mV 0 30).sel (sx 30)).mV 31 8) it hm hb hl hd hz2 hw) Y ?_
  rintro _ w30 ⟨aFj,aFk,aFl,aFm,aFo,aFp,aFq,aFr,aFs,aFt,aAW,rfl,aFu,KC⟩;refine bU Y<|jc Y ?_
  exact og (⟨aFj,aFk,aFl,aFm,aFo,aFp,A4,c4,aFq,aFr,A6,c6,aFs,aFt,((mO (⟨m,s,r,aN,eD,kH hs⟩:PC) it).1.m),((mO (⟨m,s,r,aN,eD,kH hs⟩:PC) it).1.s),r,aN,gm,(mO (⟨m,s,r,aN,eD,kH hs⟩:PC) it).1.eD,aAW⟩:GC) (ajD aj) (asN (Ui ⟨m,s,r,aN,eD,kH hs⟩ it).1.symm (Ui ⟨m,s,r,aN,eD,kH hs⟩ it).2.symm aFu) (((KC.cU 9 30).mV 0 8).sel s8)
 ·refine bQ Y<|jT g1 0 oD qB (sx 29) Y<|ev (xw (i:=6) qB s0 Y Y nN iQ (by rw [hkd]; rfl))<|bU rfl<|aW<|bQ rfl<|ev (yX xH rfl)<|dn<|bK rfl nofun (λ_h=>?_)
  refine jm ?_;refine bQ Y<|ev (dU Ar Y Y (qB.x (sx 29)))<|Jv Y Y Y asL (Uh (m:=m) (s:=s) (r:=r) (((qB.mV 0 30).sel (sx 30)).mV 31 8) it hm hb hl hd hz2 hw) Y ?_
  rintro _ w31 ⟨aFv,aFw,aFx,aFy,aFz,aFA,aFB,aFC,aFD,aFE,aAX,rfl,aFF,QC⟩;refine bU Y<|jc Y ?_
  exact og (⟨aFv,aFw,aFx,aFy,aFz,aFA,A4,c4,aFB,aFC,A6,c6,aFD,aFE,((mO (⟨m,s,r,aN,eD,kH hs⟩:PC) it).1.m),((mO (⟨m,s,r,aN,eD,kH hs⟩:PC) it).1.s),r,aN,gm,(mO (⟨m,s,r,aN,eD,kH hs⟩:PC) it).1.eD,aAX⟩:GC) (ajD aj) (asN (Ui ⟨m,s,r,aN,eD,kH hs⟩ it).1.symm (Ui ⟨m,s,r,aN,eD,kH hs⟩ it).2.symm aFF) (((QC.cU 9 30).mV 0 8).sel s8)
 ·refine bQ Y<|jT g1 0 oD qB (sx 29) Y<|ev (xw (i:=7) qB s0 Y Y nN iQ (by rw [hkd]; rfl))<|bU rfl<|aW<|bQ rfl<|ev (yX xH rfl)<|dn<|bK rfl nofun (λ_h=>?_)
  refine jm ?_;refine bQ Y<|ev (dU Ar Y Y (qB.x (sx 29)))<|Jv Y Y Y aEt (an8 (m:=m) (s:=s) (r:=r) (((qB.mV 0 30).sel (sx 30)).mV 31 8) it hm hu hb hr hz9 hN) Y ?_
  rintro _ w32 ⟨aFG,aFH,aFI,aFJ,aFK,aFL,aAY,rfl,aFM,OC⟩;refine bU Y<|jc Y ?_
  exact og (⟨aFG,aFH,aFI,aFJ,aFK,aFL,A4,c4,A5,c5,A6,c6,A7,c7,((rC (⟨m,s,r,aN,eD,kH hs⟩:PC) it).1.m),s,r,aN,gm,eD,aAY⟩:GC) (aEC hkd) (aAO (ad7 (⟨m,s,r,aN,eD,kH hs⟩:PC) it).1.symm (ad7 (⟨m,s,r,aN,eD,kH hs⟩:PC) it).2.1.symm (ad7 (⟨m,s,r,aN,eD,kH hs⟩:PC) it).2.2.1.symm (ad7 (⟨m,s,r,aN,eD,kH hs⟩:PC) it).2.2.2.symm aFM) (((OC.cU 9 30).mV 0 8).sel s8)
 ·refine bQ Y<|jT g1 0 oD qB (sx 29) Y<|ev (xw (i:=8) qB s0 Y Y nN iQ (by rw [hkd]; rfl))<|bU rfl<|aW<|bQ rfl<|ev (yX xH rfl)<|dn<|bK rfl nofun (λ_h=>?_)
  refine jm ?_;refine bQ Y<|ev (dU Ar Y Y (qB.x (sx 29)))<|gX Y (JV (fd:=46) (R:=DoR b S F je (⟨m,s,r,aN,eD,kH hs⟩:PC) it) ((((qB.rm (sx 29)).cU 0 25).sel s4).mV 1 12) it aEu ?_ ?_ ?_) ?_
  ·exact λhg w9 K9=>og (⟨A1,c1,A2,c2,A3,c3,A4,c4,A5,c5,A6,c6,A7,c7,m,s,r,aN,gm,eD,hs⟩:GC) (JU aj (show fI it.A (kH hs)=none from by rw [jI,hg]; rfl)) rfl (K9.sel s8)
  ·exact λh hg hn hu w9 K9=>og (⟨A1,c1,A2,c2,A3,c3,A4,c4,A5,c5,A6,c6,A7,c7,m,s,r,aN,gm,eD,hs⟩:GC) (PS aj (show fI it.A (kH hs)=some h.pl from by rw [jI,hg]; rfl) (by rw [hkd]; revert hu; show _->xG 3=some (!h.up); cases h.up <;> decide)) rfl (K9.sel s8)
  ·intro h hg hun w9 K9;have hgo:=(YZ (c:=(⟨m,s,r,aN,eD,kH hs⟩:PC)) aj (show fI it.A (kH hs)=some h.pl from by rw [jI,hg]; rfl) (by rw [hkd]; revert hun; show _->¬ xG 3=some (!h.up); cases h.up <;> decide)).trans (aEE hkd);refine(asc K9 it hb).mono ?_;rintro _ w8 ⟨B4,d4,rfl,K8⟩;exact og (⟨A1,c1,A2,c2,A3,c3,B4,d4,A5,c5,A6,c6,A7,c7,m,⟨Bh s.eF it.A aN,s.bY,s.bL⟩,r,aN,gm,eD,hs⟩:GC) hgo Y (K8.sel s8)
  intro v9 w33 AJ;refine bU Y<|jc Y ?_
  exact AJ
 ·refine bQ Y<|jT g1 0 oD qB (sx 29) Y<|ev (xw (i:=9) qB s0 Y Y nN iQ (by rw [hkd]; rfl))<|bU rfl<|aW<|bQ rfl<|ev (yX xH rfl)<|dn<|bK rfl nofun (λ_h=>?_)
  refine jm ?_;refine bQ Y<|ev (dU Ar Y Y (qB.x (sx 29)))<|gX Y (JV (fd:=47) (R:=DoR b S F je (⟨m,s,r,aN,eD,kH hs⟩:PC) it) ((((qB.cU 25 5).cU 0 21).sel s4).mV 1 12) it aEv ?_ ?_ ?_) ?_
  ·exact λhg w9 K9=>og (⟨A1,c1,A2,c2,A3,c3,A4,c4,A5,c5,A6,c6,A7,c7,m,s,r,aN,gm,eD,hs⟩:GC) (JU aj (show fI it.A (kH hs)=none from by rw [jI,hg]; rfl)) rfl (K9.sel s8)
  ·exact λh hg hn hu w9 K9=>og (⟨A1,c1,A2,c2,A3,c3,A4,c4,A5,c5,A6,c6,A7,c7,m,s,r,aN,gm,eD,hs⟩:GC) (PS aj (show fI it.A (kH hs)=some h.pl from by rw [jI,hg]; rfl) (by rw [hkd]; revert hu; show _->xG 4=some (!h.up); cases h.up <;> decide)) rfl (K9.sel s8)
  ·intro h hg hun w9 K9;have hgo:=(YZ (c:=(⟨m,s,r,aN,eD,kH hs⟩:PC)) aj (show fI it.A (kH hs)=some h.pl from by rw [jI,hg]; rfl) (by rw [hkd]; revert hun; show _->¬ xG 4=some (!h.up); cases h.up <;> decide)).trans (aEF hkd);obtain⟨gh,gs,Ao,A,c,up,bM,l,es⟩:=h;refine(ajA K9 it hm hb hl hd hu hw hr hg (lV (hz9 _ _ hg) au)).mono ?_;rintro _ w8 ⟨B1,d1,B2,d2,B3,d3,B7,d7,rfl,K8⟩;exact og (⟨B1,d1,B2,d2,B3,d3,A4,c4,A5,c5,A6,c6,B7,d7,(mW s aN it.A m (lg m.aA it.A (eY l))),s,r,aN,gm,(eD++zJ (eY l) (nM (mW s aN it.A m (lg m.aA it.A (eY l))).aA (eY l)) it.A (aN+r.jr)),hs⟩:GC) hgo Y (K8.sel s8)
  intro v9 w34 AJ;refine bU Y<|jc Y ?_
  exact AJ
 ·refine bQ Y<|jT g1 0 oD qB (sx 29) Y<|ev (xw (i:=10) qB s0 Y Y nN iQ (by rw [hkd]; rfl))<|bU rfl<|aW<|bQ rfl<|ev (yX xH rfl)<|dn<|bK rfl nofun (λ_h=>?_)
  refine jm ?_;refine bQ Y<|ev (dU Ar Y Y (qB.x (sx 29)))<|gX Y (JV (fd:=48) (R:=DoR b S F je (⟨m,s,r,aN,eD,kH hs⟩:PC) it) ((((qB.cU 21 9).cU 0 17).sel s4).mV 1 12) it aEw ?_ ?_ ?_) ?_
  ·exact λhg w9 K9=>og (⟨A1,c1,A2,c2,A3,c3,A4,c4,A5,c5,A6,c6,A7,c7,m,s,r,aN,gm,eD,hs⟩:GC) (JU aj (show fI it.A (kH hs)=none from by rw [jI,hg]; rfl)) rfl (K9.sel s8)
  ·exact λh hg hn hu w9 K9=>og (⟨A1,c1,A2,c2,A3,c3,A4,c4,A5,c5,A6,c6,A7,c7,m,s,r,aN,gm,eD,hs⟩:GC) (PS aj (show fI it.A (kH hs)=some h.pl from by rw [jI,hg]; rfl) (by rw [hkd]; revert hu; show _->xG 9=some (!h.up); cases h.up <;> decide)) rfl (K9.sel s8)
  ·intro h hg hun w9 K9;have hgo:=(YZ (c:=(⟨m,s,r,aN,eD,kH hs⟩:PC)) aj (show fI it.A (kH hs)=some h.pl from by rw [jI,hg]; rfl) (by rw [hkd]; revert hun; show _->¬ xG 9=some (!h.up); cases h.up <;> decide)).trans (aEG hkd);obtain⟨gh,gs,Ao,A,c,up,bM,l,es⟩:=h;refine(ar8 (K9.wO s8 hg) it).mono ?_;rintro _ w8 ⟨rfl,K8⟩;exact og (⟨A1,c1,A2,c2,A3,c3,A4,c4,A5,c5,A6,c6,A7,c7,m,s,r,aN,gm,eD,(iy it.A ⟨gh,gs,Ao,A,c,false,bM,l,es⟩ hs)⟩:GC) hgo (by show(⟨m,s,r,aN,eD,kH (iy it.A (⟨gh,gs,Ao,A,c,false,bM,l,es⟩:lZ) hs)⟩:PC)=(⟨m,s,r,aN,eD,iy it.A ⟨false,bM,l,MR es⟩ (kH hs)⟩:PC); rw [Aj]; rfl) (JC hg K8)
  intro v9 w35 AJ;refine bU Y<|jc Y ?_
  exact AJ
 ·refine bQ Y<|jT g1 0 oD qB (sx 29) Y<|ev (xw (i:=11) qB s0 Y Y nN iQ (by rw [hkd]; rfl))<|bU rfl<|aW<|bQ rfl<|ev (yX xH rfl)<|dn<|bK rfl nofun (λ_h=>?_)
  refine jm ?_;refine bQ Y<|ev (dU Ar Y Y (qB.x (sx 29)))<|gX Y (JV (fd:=49) (R:=DoR b S F je (⟨m,s,r,aN,eD,kH hs⟩:PC) it) ((((qB.cU 17 13).cU 0 13).sel s4).mV 1 12) it aEx ?_ ?_ ?_) ?_
  ·exact λhg w9 K9=>og (⟨A1,c1,A2,c2,A3,c3,A4,c4,A5,c5,A6,c6,A7,c7,m,s,r,aN,gm,eD,hs⟩:GC) (JU aj (show fI it.A (kH hs)=none from by rw [jI,hg]; rfl)) rfl (K9.sel s8)
  ·exact λh hg hn hu w9 K9=>og (⟨A1,c1,A2,c2,A3,c3,A4,c4,A5,c5,A6,c6,A7,c7,m,s,r,aN,gm,eD,hs⟩:GC) (PS aj (show fI it.A (kH hs)=some h.pl from by rw [jI,hg]; rfl) (by rw [hkd]; revert hu; show _->xG 10=some (!h.up); cases h.up <;> decide)) rfl (K9.sel s8)
  ·intro h hg hun w9 K9;have hgo:=(YZ (c:=(⟨m,s,r,aN,eD,kH hs⟩:PC)) aj (show fI it.A (kH hs)=some h.pl from by rw [jI,hg]; rfl) (by rw [hkd]; revert hun; show _->¬ xG 10=some (!h.up); cases h.up <;> decide)).trans (aAP hkd);obtain⟨gh,gs,Ao,A,c,up,bM,l,es⟩:=h;refine(ar9 (K9.wO s8 hg) it (lV (hz9 _ _ hg) au)).mono ?_;rintro _ w8 ⟨A9,c9,rfl,K8⟩;exact og (⟨A1,c1,A2,c2,A3,c3,A4,c4,A5,c5,A6,c6,A7,c7,m,s,r,aN,gm,eD,(iy it.A ⟨gh,gs,Ao,A9,c9,true,bM,(qP l es l.length).1,(qP l es l.length).2⟩ hs)⟩:GC) hgo (by show(⟨m,s,r,aN,eD,kH (iy it.A (⟨gh,gs,Ao,A9,c9,true,bM,(qP l es l.length).1,(qP l es l.length).2⟩:lZ) hs)⟩:PC)=(⟨m,s,r,aN,eD,iy it.A ⟨true,bM,(aap l (MR es)).1,(aap l (MR es)).2⟩ (kH hs)⟩:PC); rw [Aj]; rw [aAp]; rfl) (JC hg K8)
  intro v9 w36 AJ;refine bU Y<|jc Y ?_
  exact AJ
 ·refine bQ Y<|jT g1 0 oD qB (sx 29) Y<|ev (xw (i:=12) qB s0 Y Y nN iQ (by rw [hkd]; rfl))<|bU rfl<|aW<|bQ rfl<|ev (yX xH rfl)<|dn<|bK rfl nofun (λ_h=>?_)
  refine jm ?_;refine bQ Y<|ev (dU Ar Y Y (qB.x (sx 29)))<|gX Y (JV (fd:=50) (R:=DoR b S F je (⟨m,s,r,aN,eD,kH hs⟩:PC) it) ((((qB.cU 13 17).cU 0 9).sel s4).mV 1 12) it aEy ?_ ?_ ?_) ?_
  ·exact λhg w9 K9=>og (⟨A1,c1,A2,c2,A3,c3,A4,c4,A5,c5,A6,c6,A7,c7,m,s,r,aN,gm,eD,hs⟩:GC) (JU aj (show fI it.A (kH hs)=none from by rw [jI,hg]; rfl)) rfl (K9.sel s8)
  ·exact λh hg hn hu w9 K9=>og (⟨A1,c1,A2,c2,A3,c3,A4,c4,A5,c5,A6,c6,A7,c7,m,s,r,aN,gm,eD,hs⟩:GC) (PS aj (show fI it.A (kH hs)=some h.pl from by rw [jI,hg]; rfl) (by rw [hkd]; revert hu; show _->xG 12=some (!h.up); cases h.up <;> decide)) rfl (K9.sel s8)
  ·intro h hg hun w9 K9;have hgo:=(YZ (c:=(⟨m,s,r,aN,eD,kH hs⟩:PC)) aj (show fI it.A (kH hs)=some h.pl from by rw [jI,hg]; rfl) (by rw [hkd]; revert hun; show _->¬ xG 12=some (!h.up); cases h.up <;> decide)).trans (aAQ hkd);obtain⟨gh,gs,Ao,A,c,up,bM,l,es⟩:=h;refine(anV (K9.wO s8 hg) it (lV (hz9 _ _ hg) au)).mono ?_;rintro _ w8 ⟨A9,c9,rfl,K8⟩;exact og (⟨A1,c1,A2,c2,A3,c3,A4,c4,A5,c5,A6,c6,A7,c7,m,s,r,aN,gm,eD,(iy it.A ⟨gh,gs,Ao,A9,c9,up,bM,(uz l es (EG l es).length).1,(uz l es (EG l es).length).2⟩ hs)⟩:GC) hgo (by show(⟨m,s,r,aN,eD,kH (iy it.A (⟨gh,gs,Ao,A9,c9,up,bM,(uz l es (EG l es).length).1,(uz l es (EG l es).length).2⟩:lZ) hs)⟩:PC)=(⟨m,s,r,aN,eD,iy it.A ⟨up,bM,(aaq l (MR es)).1,(aaq l (MR es)).2⟩ (kH hs)⟩:PC); rw [Aj]; rw [aAq]; rfl) (JC hg K8)
  intro v9 w37 AJ;refine bU Y<|jc Y ?_
  exact AJ
 ·refine bQ Y<|jT g1 0 oD qB (sx 29) Y<|ev (xw (i:=13) qB s0 Y Y nN iQ (by rw [hkd]; rfl))<|bU rfl<|aW<|bQ rfl<|ev (yX xH rfl)<|dn<|bK rfl nofun (λ_h=>?_)
  refine jm ?_;refine bQ Y<|ev (dU Ar Y Y (qB.x (sx 29)))<|gX Y (JV (fd:=51) (R:=DoR b S F je (⟨m,s,r,aN,eD,kH hs⟩:PC) it) ((((qB.cU 9 21).cU 0 5).sel s4).mV 1 12) it aEz ?_ ?_ ?_) ?_
  ·exact λhg w9 K9=>og (⟨A1,c1,A2,c2,A3,c3,A4,c4,A5,c5,A6,c6,A7,c7,m,s,r,aN,gm,eD,hs⟩:GC) (JU aj (show fI it.A (kH hs)=none from by rw [jI,hg]; rfl)) rfl (K9.sel s8)
  ·exact λh hg hn hu w9 K9=>og (⟨A1,c1,A2,c2,A3,c3,A4,c4,A5,c5,A6,c6,A7,c7,m,s,r,aN,gm,eD,hs⟩:GC) (PS aj (show fI it.A (kH hs)=some h.pl from by rw [jI,hg]; rfl) (by cases hn)) rfl (K9.sel s8)
  ·intro h hg hun w9 K9;have hgo:=(YZ (c:=(⟨m,s,r,aN,eD,kH hs⟩:PC)) aj (show fI it.A (kH hs)=some h.pl from by rw [jI,hg]; rfl) (by rw [hkd]; revert hun; show _->¬ xG 13=some (!h.up); cases h.up <;> decide)).trans (aAR hkd);have hrd:=NS (⟨it.B,false⟩:bZ) h.es;rw [show h.pl.d=MR h.es from rfl,hrd] at hgo;obtain⟨gh,gs,Ao,A,c,up,bM,l,es⟩:=h;refine(anW (K9.wO s8 hg) it ((hz _ _ hg).2 _) hC).mono ?_;rintro _ w8 ⟨rfl,K8⟩;exact og (⟨A1,c1,A2,c2,A3,c3,A4,c4,A5,c5,A6,c6,A7,c7,m,s,r,aN,gm,eD,(iy it.A ⟨gh,gs,Ao,A,c,up,bM,l,RG it.B it.C es⟩ hs)⟩:GC) hgo (by show(⟨m,s,r,aN,eD,kH (iy it.A (⟨gh,gs,Ao,A,c,up,bM,l,RG it.B it.C es⟩:lZ) hs)⟩:PC)=(⟨m,s,r,aN,eD,iy it.A ⟨up,bM,l,aao it.B it.C (MR es)⟩ (kH hs)⟩:PC); rw [Aj]; rw [<- aAo]; rfl) (JC hg K8)
  intro v9 w38 AJ;refine bU Y<|jc Y ?_
  exact AJ
 ·refine bQ Y<|jT g1 0 oD qB (sx 29) Y<|ev (xw (i:=14) qB s0 Y Y nN iQ (by rw [hkd]; rfl))<|bU rfl<|aW<|bQ rfl<|ev (yX xH rfl)<|dn<|bK rfl nofun (λ_h=>?_)
  refine jm ?_;refine bQ Y<|ev (dU Ar Y Y (qB.x (sx 29)))<|gX Y (JV (fd:=52) (R:=DoR b S F je (⟨m,s,r,aN,eD,kH hs⟩:PC) it) ((((qB.cU 5 25).rm s0).sel s4).mV 1 12) it aEA ?_ ?_ ?_) ?_
  ·exact λhg w9 K9=>og (⟨A1,c1,A2,c2,A3,c3,A4,c4,A5,c5,A6,c6,A7,c7,m,s,r,aN,gm,eD,hs⟩:GC) (JU aj (show fI it.A (kH hs)=none from by rw [jI,hg]; rfl)) rfl (K9.sel s8)
  ·exact λh hg hn hu w9 K9=>og (⟨A1,c1,A2,c2,A3,c3,A4,c4,A5,c5,A6,c6,A7,c7,m,s,r,aN,gm,eD,hs⟩:GC) (PS aj (show fI it.A (kH hs)=some h.pl from by rw [jI,hg]; rfl) (by cases hn)) rfl (K9.sel s8)
  ·intro h hg hun w9 K9;have hgo:=(YZ (c:=(⟨m,s,r,aN,eD,kH hs⟩:PC)) aj (show fI it.A (kH hs)=some h.pl from by rw [jI,hg]; rfl) (by rw [hkd]; revert hun; show _->¬ xG 14=some (!h.up); cases h.up <;> decide)).trans (aAS hkd);obtain⟨gh,gs,Ao,A,c,up,bM,l,es⟩:=h;refine(asa (K9.wO s8 hg) it).mono ?_;rintro _ w8 ⟨rfl,K8⟩;exact og (⟨A1,c1,A2,c2,A3,c3,A4,c4,A5,c5,A6,c6,A7,c7,m,s,r,aN,gm,eD,(iy it.A ⟨gh,gs,Ao,none,0,up,bM,[],[]⟩ hs)⟩:GC) hgo (by show(⟨m,s,r,aN,eD,kH (iy it.A (⟨gh,gs,Ao,none,0,up,bM,[],[]⟩:lZ) hs)⟩:PC)=(⟨m,s,r,aN,eD,iy it.A ⟨up,bM,[],[]⟩ (kH hs)⟩:PC); rw [Aj]; rfl) (JC hg K8)
  intro v9 w39 AJ;refine bU Y<|jc Y ?_
  exact AJ
 ·refine bQ Y<|jT g1 0 oD qB (sx 29) Y<|ev (Ev.axc qB s0 Y Y nN iQ awq (by have e0:(it.Kind == 0)=false:=(by simpa using (show it.Kind≠0 by omega)); have e1:(it.Kind == 1)=false:=(by simpa using (show it.Kind≠1 by omega)); have e2:(it.Kind == 2)=false:=(by simpa using (show it.Kind≠2 by omega)); have e3:(it.Kind == 3)=false:=(by simpa using (show it.Kind≠3 by omega)); have e4:(it.Kind == 4)=false:=(by simpa using (show it.Kind≠4 by omega)); have e5:(it.Kind == 5)=false:=(by simpa using (show it.Kind≠5 by omega)); have e6:(it.Kind == 6)=false:=(by simpa using (show it.Kind≠6 by omega)); have e7:(it.Kind == 7)=false:=(by simpa using (show it.Kind≠7 by omega)); have e8:(it.Kind == 8)=false:=(by simpa using (show it.Kind≠8 by omega)); have e9:(it.Kind == 9)=false:=(by simpa using (show it.Kind≠9 by omega)); have e10:(it.Kind == 10)=false:=(by simpa using (show it.Kind≠10 by omega)); have e11:(it.Kind == 11)=false:=(by simpa using (show it.Kind≠11 by omega)); have e12:(it.Kind == 12)=false:=(by simpa using (show it.Kind≠12 by omega)); have e13:(it.Kind == 13)=false:=(by simpa using (show it.Kind≠13 by omega)); have e14:(it.Kind == 14)=false:=(by simpa using (show it.Kind≠14 by omega)); simp [Instr.findNow,Instr.sameNow,e0,e1,e2,e3,e4,e5,e6,e7,e8,e9,e10,e11,e12,e13,e14]))<|bU rfl<|aW<|bQ rfl<|ev (Ev.aHS xH rfl)<|dn<|bK rfl (λ_h=>?_) nofun
  refine iZ Y<|uX Y ?_
  exact og (⟨A1,c1,A2,c2,A3,c3,A4,c4,A5,c5,A6,c6,A7,c7,m,s,r,aN,gm,eD,hs⟩:GC) (aED hkd) Y (qB.cU 0 30)
end Go.Proofs.YtlhnnmlenkahlaaGreat
