/- Lemmas. -/
import Derived.Test.YtlhnnmlenkahlaaGreatrG13
set_option maxRecDepth 4000
set_option linter.all false
namespace Go.Proofs.YtlhnnmlenkahlaaGreat
open Go.RowKit Go.Proofs.Tryz
variable {c d:aH}{l:List aH}{ls:List bD}{ni:Int}{a b:Bool}{S0:Nat->Prop}
structure Jh where
  ds:List aM
  ns:List aV
  ks:List aH
  aG:List Int
  dG:List aH
  dV:Int
  all:Int
  bW:Int
  u:Int
def acT(aG:List Int)(c:aH):List Int:=c.aD.filter fun(x9:Int)=>!(!(aG.contains x9))
def Yc(x:Jh)(c:aH)(ls:List bD):List Int:=([c.aD,jX ls c.ID,kG x.ds c.ID]:List (List Int)).flatten
def Kr(x:Jh)(c:aH)(ls:List bD):Option aV:=tL x.ns x.aG (jZ x.ks x.ns ls) (Yc x c ls) x.ns
def LY(x:Jh)(d:aH)(ls:List bD):Int:=C9 ls (acT x.aG d) x.dV
def zu(x:Jh)(c d:aH)(ls:List bD):Bool:=((Kr x c ls).isSome&&J8 ls (acT x.aG d) x.dV)&&Kq ls x.dV x.all c (LY x d ls) (Bv (Kr x c ls)) x.u
def QZ(x:Jh)(c d:aH)(have_:Int):Nat->List bD × List aM->List bD × List aM
  | 0,s=>s
  | f+1,s=>if have_+((jX s.1 c.ID).length:Int)<x.bW/\zu x c d s.1=true then QZ x c d have_ f (BU s.1 x.dV x.all c (LY x d s.1) (Bv (Kr x c s.1)) x.u,Df s.1 s.2 x.dV x.all c (LY x d s.1) (Bv (Kr x c s.1)) x.u) else s
def aae(x:Jh)(s:List bD × List aM)(n:fA):List bD × List aM:=QZ x (aU x.ks n.aC) (aU x.dG n.aC) n.Have 100 s
def sQ(x:Jh)(M:List fA)(s:List bD × List aM):List bD × List aM:=M.foldl (aae x) s
theorem ava{x:Jh}{h:Int}{f:Nat}{l:List bD}{o:List aM}(hf:0<f)(h1:h+((jX l c.ID).length:Int)<x.bW)(h2:zu x c d l=true):QZ x c d h (f - 1) (BU l x.dV x.all c (LY x d l) (Bv (Kr x c l)) x.u,Df l o x.dV x.all c (LY x d l) (Bv (Kr x c l)) x.u)=QZ x c d h f (l,o):=by
  cases f with
  | zero=>omega
  | succ f=>symm; exact aO ⟨h1,h2⟩
theorem NA{x:Jh}{h:Int}{l:List bD}{o:List aM}(hn:¬ (h+((jX l c.ID).length:Int)<x.bW/\zu x c d l=true)):∀ f,QZ x c d h f (l,o)=(l,o)
  | 0=>rfl
  | f+1=>aK hn
theorem LZ{dV all:Int}{fr u:Int}(h:Kq ls dV all c fr ni u=true):(jX (BU ls dV all c fr ni u) c.ID).length=(jX ls c.ID).length+1/\(BU ls dV all c fr ni u).length=ls.length+1/\∀ os,(Df ls os dV all c fr ni u).length=os.length+1:=by
  have e:BU ls dV all c fr ni u=ls++[FP c fr ni u]:=aO h;refine⟨?_,by rw [e]; simp,λos=>by unfold Df; rw [aO h]; simp⟩;rw [e]; unfold jX; rw [vX]; simp
theorem afR{dV all:Int}{fr u:Int}(h:Kq ls dV all c fr ni u=true):(ls.length:Int)<all:=by
  have h1:pO ls (FP c fr ni u) dV all=0:=gW h;unfold pO at h1
  split at h1
  · cases h1
  · split at h1
    · cases h1
    · split at h1
      · cases h1
      · rename_i h3; simp only [not_or] at h3; omega
theorem L6{dV all:Int}{fr u:Int}(h:Kq ls dV all c fr ni u=false):BU ls dV all c fr ni u=ls/\∀ os,Df ls os dV all c fr ni u=os:=
  ⟨aK (by rw [h]; decide),λos=>aK (by rw [h]; decide)⟩
theorem acU{c:Bool}(h:(!a)=true):((a&&b)&&c)=false:=by cases a <;> simp_all
theorem acV{c:Bool}(h:(!b)=true):((a&&b)&&c)=false:=by cases b <;> simp_all
theorem acW{c:Bool}(h:c=false):((a&&b)&&c)=false:=by cases c <;> simp_all
theorem aCN{c:Bool}(h:(!c)=false):c=true:=by cases c <;> simp_all
theorem Kt{c:Bool}(h:(!c)=true):c=false:=by cases c <;> simp_all
theorem azx{c:Bool}(h1:(!a)=false)(h2:(!b)=false)(h3:c=true):((a&&b)&&c)=true:=by cases a <;> cases b <;> simp_all
theorem aa2{m:Nat}(h:∀ x∈l,x.aD.length<=m)(id:Int):(aU l id).aD.length<=m:=by
  unfold aU; split
  · rename_i c e
    split
    · exact h c (by have:=bT e; unfold d9 at this; split at this; exact this; simp at this)
    · simp
  · simp
theorem NC{x:Jh}{M:List fA}{k:Nat}{n:fA}{s:List bD × List aM}(hn:M[k]? = some n):sQ x (M.take (k+1)) s=aae x (sQ x (M.take k) s) n:=by
  unfold sQ; rw [fD hn,yU]; rfl
theorem ai5:l9 prog 193:=ay
theorem azy:bF prog 239:=ay
theorem acX(a0:ah)(a0n a0c:Nat)(a1:ah)(a1n a1c:Nat)(a2:ah)(a2n a2c:Nat):∀ w,(Instr.buildSlice 336 3 (List.toArray [(0,.slice a0 a0n a0c),(1,.slice a1 a1n a1c),(2,.slice a2 a2n a2c)])).run prog w=.ok (.slice (some ⟨w.heap.size,0,none⟩) 3 3) (w.alloc (.cells (List.toArray [.slice a0 a0n a0c,.slice a1 a1n a1c,.slice a2 a2n a2c]) 55)):=ay
theorem azz:bF prog 243:=ay
abbrev uT(iD:List Int)(ji:Int):=!(iD.contains ji)
theorem aqz(w:World)(id:Int){g_d g_r:Nat}{v0 v1 v2 v3 v4 v5 v6 v7 v8 v9 v10 v11 v12 v14 v15 v16:Value}{AV:ah}{cV:Nat}{aG:List Int}(h_d:Bx w g_d 193 [gD g_r])(h_r:Bx w g_r 195 [v0,v1,v2,v3,v4,v5,v6,v7,v8,v9,v10,v11,v12,.slice AV aG.length cV,v14,v15,v16])(aHw:Sl dQ S0 w AV cV aG) :
    bS prog 239 #[aF id,gD g_d] w λv w'=>v=.bool (uT aG id)/\Hp w S0 w' []:=by
 refine kP S0 func239 ntmps239 Y λH0=>iZ Y<|rg<|ev (dx ai5 Y (h_d.ext H0.ext) Y)<|ev (eX Y)<|yA g_r 13 Ho Y<|ev (dx Bf Y (h_r.ext H0.ext) Y)<|mv Y<|mU H0 Y (kJ _ (H0.a aHw).any id) λw1 K1=>ev (iB Y)<|bU Y<|jc Y ?_
 exact⟨Y,K1⟩
abbrev iW(iD:List aM)(ji:List aV)(uS:List aH)(wV:List Int)(ES:List aH)(Q0 UO y7z y8z y9z:Int):=(⟨iD,ji,uS,wV,ES,Q0,UO,y7z,y8z+y9z⟩:Jh)
set_option maxHeartbeats 4000000 in
theorem avb{b w:World}{S:Nat->Prop}{F:List lH}{g:Nat}{v0 v5 v6 v11 v16:Value}{AL:ah}{cL:Nat}{AD:ah}{cD:Nat}{ds:List aM}{AO:ah}{cO:Nat}{os:List aM}{AN:ah}{cN:Nat}{ns:List aV}{AK:ah}{cK:Nat}{ks:List aH}{AV:ah}{cV:Nat}{aG:List Int}{AS:ah}{cS:Nat}{dG:List aH}{dV all bW eZ aN:Int}{AQ:ah}{cQ:Nat}{needs:List fA}(H0:Hp b S w (dY g 195 [v0,.slice AL ls.length cL,.slice AD ds.length cD,.slice AN ns.length cN,.slice AK ks.length cK,v5,v6,aF dV,aF all,aF bW,aF eZ,v11,aF aN,.slice AV aG.length cV,.slice AS dG.length cS,.slice AO os.length cO,v16]::aS dJ 117 AL cL ls::aS bG 112 AD cD ds::aS bG 112 AO cO os::dP cZ AN cN ns::dP bJ AK cK ks::dP dQ AV cV aG::dP bJ AS cS dG::dP pX AQ cQ needs::F))(hl:ls.length<=64)(hd:ds.length<=100000)(ho:os.length<=1000)(hn:ns.length<=1000)(hc:ks.length<=1000)(hs:dG.length<=1000)(hkk:∀ x∈ks,x.aD.length<=1000)(hh:∀ x∈dG,x.aD.length<=1000)(he:0<=dV/\dV<=64/\all<=64/\bW<=8)(hq:∀ x∈needs,0<=x.Have/\x.Have<=1000)(hnl:needs.length<=100000)(hu:-1099511627776<=aN/\aN<=4398046511104/\-1099511627776<=eZ/\eZ<=1099511627776) :
    bS prog 155 #[gD g,.slice AQ needs.length cQ] w λv w'=>v=.tuple #[]/\∃ AL' cL' AO' cO',Hp b S w' (dY g 195 [v0,.slice AL' (((sQ (iW ds ns ks aG dG dV all bW aN eZ) needs (ls,os)).1).length) cL',.slice AD ds.length cD,.slice AN ns.length cN,.slice AK ks.length cK,v5,v6,aF dV,aF all,aF bW,aF eZ,v11,aF aN,.slice AV aG.length cV,.slice AS dG.length cS,.slice AO' (((sQ (iW ds ns ks aG dG dV all bW aN eZ) needs (ls,os)).2).length) cO',v16]::aS dJ 117 AL' cL' ((sQ (iW ds ns ks aG dG dV all bW aN eZ) needs (ls,os)).1)::aS bG 112 AD cD ds::aS bG 112 AO' cO' ((sQ (iW ds ns ks aG dG dV all bW aN eZ) needs (ls,os)).2)::dP cZ AN cN ns::dP bJ AK cK ks::dP dQ AV cV aG::dP bJ AS cS dG::dP pX AQ cQ needs::F):=by
 refine sV func155 ntmps155 Y<|rg<|bx Y Y H0 λg1 w1 K1=>dn<|WP.sc<|aW (WP.lab (gG ?_))
 refine bQ Y<|ev (eU qC Y)<|mv Y<|dn<|cB ?_
 have eO:(ls:List bD)=(sQ (iW ds ns ks aG dG dV all bW aN eZ) (needs.take 0) (ls,os)).1:=by rfl
 rw [eO] at K1;have fQ:(os:List aM)=(sQ (iW ds ns ks aG dG dV all bW aN eZ) (needs.take 0) (ls,os)).2:=by rfl
 rw [fQ] at K1;refine pK (λmJ lJ wJ=>∃(k:Nat)(A1:ah)(c1:Nat)(VD:ah)(c15:Nat),lJ=[(2,gD g1),(16,.slice AQ needs.length cQ),(17,aF ((needs.length:Nat):Int)),(18,aF ((k:Nat):Int))]/\mJ=needs.length - k/\k<=needs.length/\((sQ (iW ds ns ks aG dG dV all bW aN eZ) (needs.take k) (ls,os)).2.length+ls.length=os.length+(sQ (iW ds ns ks aG dG dV all bW aN eZ) (needs.take k) (ls,os)).1.length/\(sQ (iW ds ns ks aG dG dV all bW aN eZ) (needs.take k) (ls,os)).1.length<=64)/\Hp b S wJ (aS dJ 117 A1 c1 ((sQ (iW ds ns ks aG dG dV all bW aN eZ) (needs.take k) (ls,os)).1)::aS bG 112 VD c15 ((sQ (iW ds ns ks aG dG dV all bW aN eZ) (needs.take k) (ls,os)).2)::dY g 195 [v0,.slice A1 (((sQ (iW ds ns ks aG dG dV all bW aN eZ) (needs.take k) (ls,os)).1).length) c1,.slice AD ds.length cD,.slice AN ns.length cN,.slice AK ks.length cK,v5,v6,aF dV,aF all,aF bW,aF eZ,v11,aF aN,.slice AV aG.length cV,.slice AS dG.length cS,.slice VD (((sQ (iW ds ns ks aG dG dV all bW aN eZ) (needs.take k) (ls,os)).2).length) c15,v16]::dY g1 193 [gD g]::aS bG 112 AD cD ds::dP cZ AN cN ns::dP bJ AK cK ks::dP dQ AV cV aG::dP bJ AS cS dG::dP pX AQ cQ needs::F)) ⟨0,AL,cL,AO,cO,Y,Y,fJ _,by exact⟨Nat.add_comm _ _▸rfl,hl⟩,((((K1.sel s3).sel s1).sel s2).mV 3 2)⟩ rfl ?_;rintro _ _ w2 ⟨k,A1,c1,VD,c15,rfl,rfl,hk,hlo,K2⟩;refine rg<|ev (fC Y Y)<|dn<|pQ Y (λhc19=>?_) (λhc19=>?_)
 ·refine jm ?_;refine aW<|cB<|rg ?_
  obtain⟨x1,bP⟩:=bC (xs:=needs) (i:=k) aj;refine ev (cu (i:=k) qC qN Y Y Y (aJ bP) ((K2.s s9).some_ bP))<|ev (gI qD Y Y ((K2.s s9).fE bP))<|al BS Y K2 λg2 w3 K3=>sty Y K3 s0 Y λw4 K4=>dn<|He K4 (λ_ K=>K) (λl0 rk lJ wJ=>∃(tN:Nat)(jR:ah)(jO:Nat),lJ=(6,gD tN)::l0/\Hp b S wJ (dY tN 59 [aF ((aU ks x1.aC).ID),aF ((aU ks x1.aC).aB),gK ((aU ks x1.aC).Sum),.slice jR (((aU ks x1.aC).aD).length) jO]::dP dQ jR jO ((aU ks x1.aC).aD)::rk)) (λhns H1=>?_) ?_
  ·refine Ci 0 s4 Y H1<|SX 1 g 3 Ew Y H1<|ng 3 4 g 4 jE s3 Y H1<|ng 5 6 g2 0 QS s0 Y H1<|Jn H1 (λl0 rk lJ wJ=>∃(g3:Nat)(Gv:ah)(Gw:Nat),lJ=(6,gD g3)::(32,.bool (gY ks x1.aC))::l0/\Hp b S wJ (dY g3 59 [aF ((aU ks x1.aC).ID),aF ((aU ks x1.aC).aB),gK ((aU ks x1.aC).Sum),.slice Gv (((aU ks x1.aC).aD).length) Gw]::dP dQ Gv Gw ((aU ks x1.aC).aD)::rk)) 1 8191 ?_ λhS1=>?_
   ·rintro _ Ti ⟨g3,Gv,Gw,rfl,tZ⟩;have k6:=(tZ.cU 0 2);refine xI 13 Y Y k6<|Dn ⟨g3,Gv,Gw,Y,tZ⟩ Y
   refine O2 7 11 Y Y ?_ ?_
   ·refine gX Y (find_ok _ (H1.s s7) x1.aC aj (λx hx=>by first | (have:=hkk x hx; omega) | (have:=hh x hx; omega))) ?_;rintro _ Sm ⟨ND,NG,rfl,h12⟩;have sJ:=H1.c1 h12;have aqA:=(sJ.s s0).bH;have k7:=(sJ.rm s0);refine aQ k7<|kX 8 Y Y k7<|zL 9 Y (vs:=[.agg #[aF ((aU ks x1.aC).ID),aF ((aU ks x1.aC).aB),gK ((aU ks x1.aC).Sum),.slice ND (((aU ks x1.aC).aD).length) NG],.bool (gY ks x1.aC)]) Y Y k7<|zL 10 Y (vs:=[.agg #[aF ((aU ks x1.aC).ID),aF ((aU ks x1.aC).aB),gK ((aU ks x1.aC).Sum),.slice ND (((aU ks x1.aC).aD).length) NG],.bool (gY ks x1.aC)]) Y Y k7<|O1 11 Y<|al lU Y sJ λg5 Xu wz=>?_
    have k8:=(wz.cU 0 2);refine aQ k8<|O1 12 Y<|sty Y wz s0 Y λZ0 wB=>?_
    have k9:=(wB.cU 0 2);exact Kj hS1 k9 ⟨g5,ND,NG,Y,wB⟩ Y
   ·refine al lU Y H1 λg6 Z4 zB=>?_;have k10:=(zB.rm s0);refine aQ k10<|O1 7 Y<|gX Y (find_ok _ (zB.s s8) x1.aC aj (λx hx=>by first | (have:=hkk x hx; omega) | (have:=hh x hx; omega))) ?_
    rintro _ w16 ⟨acY,acZ,rfl,h16⟩;have BR:=zB.c1 h16;have aqB:=(BR.s s0).bH;have k11:=(BR.cU 0 2);refine aQ k11<|kX 8 Y Y k11<|zL 9 Y (vs:=[.agg #[aF ((aU ks x1.aC).ID),aF ((aU ks x1.aC).aB),gK ((aU ks x1.aC).Sum),.slice acY (((aU ks x1.aC).aD).length) acZ],.bool (gY ks x1.aC)]) Y Y k11<|zL 10 Y (vs:=[.agg #[aF ((aU ks x1.aC).ID),aF ((aU ks x1.aC).aB),gK ((aU ks x1.aC).Sum),.slice acY (((aU ks x1.aC).aD).length) acZ],.bool (gY ks x1.aC)]) Y Y k11<|O1 12 Y<|sty Y BR s1 Y λw17 yB=>?_
    have k12:=(yB.cU 0 2);exact Kj hS1 k12 ⟨g6,acY,acZ,Y,yB⟩ Y
  rintro _ w18 ⟨tN,jR,jO,rfl,ET⟩;refine He ET (λ_ K=>K) (λl0 rk lJ wJ=>∃(gj2:Nat)(ql:ah)(cj2:Nat),lJ=(8,gD gj2)::l0/\Hp b S wJ (dY gj2 59 [aF ((aU dG x1.aC).ID),aF ((aU dG x1.aC).aB),gK ((aU dG x1.aC).Sum),.slice ql (((aU dG x1.aC).aD).length) cj2]::aS dQ 3 ql cj2 ((aU dG x1.aC).aD)::rk)) (λhns H2=>?_) ?_
  ·refine Ci 0 s6 Y H2<|SX 1 g 14 LV Y H2<|Ci 3 s5 Y H2<|ng 4 5 g2 0 QS s2 Y H2<|Jn H2 (λl0 rk lJ wJ=>∃(g7:Nat)(VE:ah)(VF:Nat),lJ=(8,gD g7)::(42,.bool (gY dG x1.aC))::l0/\Hp b S wJ (dY g7 59 [aF ((aU dG x1.aC).ID),aF ((aU dG x1.aC).aB),gK ((aU dG x1.aC).Sum),.slice VE (((aU dG x1.aC).aD).length) VF]::aS dQ 3 VE VF ((aU dG x1.aC).aD)::rk)) 1 4095 ?_ λhS2=>?_
   ·rintro _ w25 ⟨g7,VE,VF,rfl,FI⟩;have k18:=(FI.cU 0 2);refine xI 12 Y Y k18<|Dn ⟨g7,VE,VF,Y,FI⟩ Y
   refine O2 6 10 Y Y ?_ ?_
   ·refine gX Y (afN _ (H2.s s11).any x1.aC aj (λx hx=>by first | (have:=hkk x hx; omega) | (have:=hh x hx; omega))) ?_;rintro _ w26 ⟨Je,Jg,rfl,h26⟩;have Nw:=H2.f1 h26;have aqC:=(Nw.o s0).bH;have k19:=(Nw.rm s0);refine aQ k19<|kX 7 Y Y k19<|zL 8 Y (vs:=[.agg #[aF ((aU dG x1.aC).ID),aF ((aU dG x1.aC).aB),gK ((aU dG x1.aC).Sum),.slice Je (((aU dG x1.aC).aD).length) Jg],.bool (gY dG x1.aC)]) Y Y k19<|zL 9 Y (vs:=[.agg #[aF ((aU dG x1.aC).ID),aF ((aU dG x1.aC).aB),gK ((aU dG x1.aC).Sum),.slice Je (((aU dG x1.aC).aD).length) Jg],.bool (gY dG x1.aC)]) Y Y k19<|O1 10 Y<|al lU Y Nw λg9 w27 OB=>?_
    have k20:=(OB.cU 0 2);refine aQ k20<|O1 11 Y<|sty Y OB s0 Y λw28 FJ=>?_
    have k21:=(FJ.cU 0 2);exact Kj hS2 k21 ⟨g9,Je,Jg,Y,FJ⟩ Y
   ·refine al lU Y H2 λg10 w29 Lx=>?_;have k22:=(Lx.rm s0);refine aQ k22<|O1 6 Y<|gX Y (afN _ (Lx.s s12).any x1.aC aj (λx hx=>by first | (have:=hkk x hx; omega) | (have:=hh x hx; omega))) ?_
    rintro _ w30 ⟨Q5,Q7,rfl,h30⟩;have KC:=Lx.f1 h30;have aqD:=(KC.o s0).bH;have k23:=(KC.cU 0 2);refine aQ k23<|kX 7 Y Y k23<|zL 8 Y (vs:=[.agg #[aF ((aU dG x1.aC).ID),aF ((aU dG x1.aC).aB),gK ((aU dG x1.aC).Sum),.slice Q5 (((aU dG x1.aC).aD).length) Q7],.bool (gY dG x1.aC)]) Y Y k23<|zL 9 Y (vs:=[.agg #[aF ((aU dG x1.aC).ID),aF ((aU dG x1.aC).aB),gK ((aU dG x1.aC).Sum),.slice Q5 (((aU dG x1.aC).aD).length) Q7],.bool (gY dG x1.aC)]) Y Y k23<|O1 11 Y<|sty Y KC s1 Y λw31 QC=>?_
    have k24:=(QC.cU 0 2);exact Kj hS2 k24 ⟨g10,Q5,Q7,Y,QC⟩ Y
  rintro _ w32 ⟨gj2,ql,cj2,rfl,OC⟩;have aMT:=aa2 hkk x1.aC;have aMU:=aa2 hh x1.aC;have hqx:=hq _ (bT bP);refine rg<|jT gj2 3 j5 OC s0 Y<|ev (rW Y)<|gX Y (oW (kd:=[gD g1]) (OC.sel s1) azy (λx9=>!(aG.contains x9)) (λw9 ys x9 hl9 K9=>(aqz (S0:=Any) w9 x9 (K9.x s8) (K9.x s7) (K9.s s12).any).mono (by rintro _ w8 ⟨rfl,K8⟩; exact⟨rfl,K8.ext⟩)) aj) ?_
  rintro _ w33 ⟨rfl,Xy⟩;refine bU Y<|cB<|pK (λmJ lJ wJ=>∃(A1:ah)(c1:Nat)(VD:ah)(c15:Nat)(l:List bD)(o:List aM)(f:Nat),lJ=[(2,gD g1),(5,gD g2),(6,gD tN),(10,.slice ql ((((aU dG x1.aC).aD).filter λx9=>!(uT aG x9)).length) cj2),(16,.slice AQ needs.length cQ),(17,aF ((needs.length:Nat):Int)),(18,aF ((k:Nat):Int))]/\mJ=f+1/\(o.length+ls.length=os.length+l.length/\l.length<=64)/\(QZ (iW ds ns ks aG dG dV all bW aN eZ) (aU ks x1.aC) (aU dG x1.aC) x1.Have f (l,o)=aae (iW ds ns ks aG dG dV all bW aN eZ) (sQ (iW ds ns ks aG dG dV all bW aN eZ) (needs.take k) (ls,os)) x1)/\(bW - x1.Have - ((jX l (aU ks x1.aC).ID).length:Int)<(f:Int))/\Hp b S wJ (aS dJ 117 A1 c1 l::aS bG 112 VD c15 o::dY g 195 [v0,.slice A1 l.length c1,.slice AD ds.length cD,.slice AN ns.length cN,.slice AK ks.length cK,v5,v6,aF dV,aF all,aF bW,aF eZ,v11,aF aN,.slice AV aG.length cV,.slice AS dG.length cS,.slice VD o.length c15,v16]::aS dQ 3 ql cj2 (((aU dG x1.aC).aD).filter λx9=>!(uT aG x9))::dY gj2 59 [aF ((aU dG x1.aC).ID),aF ((aU dG x1.aC).aB),gK ((aU dG x1.aC).Sum),.slice ql (((aU dG x1.aC).aD).length) cj2]::dY tN 59 [aF ((aU ks x1.aC).ID),aF ((aU ks x1.aC).aB),gK ((aU ks x1.aC).Sum),.slice jR (((aU ks x1.aC).aD).length) jO]::dP dQ jR jO ((aU ks x1.aC).aD)::dY g2 242 [aF x1.aC,aF x1.Have,aF x1.Live]::dY g1 193 [gD g]::aS bG 112 AD cD ds::dP cZ AN cN ns::dP bJ AK cK ks::dP dQ AV cV aG::dP bJ AS cS dG::dP pX AQ cQ needs::F)) ⟨A1,c1,VD,c15,((sQ (iW ds ns ks aG dG dV all bW aN eZ) (needs.take k) (ls,os)).1),((sQ (iW ds ns ks aG dG dV all bW aN eZ) (needs.take k) (ls,os)).2),100,Y,Y,by exact hlo,by rfl,by have:=hq _ (bT bP); omega,((Xy.mV 0 5).mV 5 3)⟩ rfl ?_
  rintro _ _ w34 ⟨A1,c1,VD,c15,l,o,f,rfl,rfl,hlo2,hrep,hff,K34⟩;refine aW ?_;have hcl:=afK l (aU ks x1.aC).ID;refine He K34 (λ_ K=>K) (λl0 rk lJ wJ=>lJ=(60,.bool (decide (x1.Have+(((jX l ((aU ks x1.aC).ID)).length:Nat):Int)<bW)))::l0/\Hp b S wJ rk) (λhns H3=>?_) ?_
  ·refine ng 0 1 g2 1 QO s7 Y H3<|Ci 2 s8 Y H3<|ng 3 4 tN 0 pq s5 Y H3<|Ci 8 s8 Y H3<|SX 9 g 6 BX Y H3<|ng 11 12 g 9 QV s2 Y H3<|O1 5 Y<|gX Y (TS ((H3.mV 0 2).sel s2) aj ((aU ks x1.aC).ID)) ?_
   rintro _ w35 ⟨Oj,Ol,rfl,K35⟩;have k25:=(((K35.rm s0).sel s0).mV 1 2);refine aQ k25<|lD 6 Y (λ_ _=>eU fB Y) k25<|lD 7 Y (λ_ _=>dO Y Y) k25<|lD 13 Y (λ_ _=>fC Y Y) k25<|Dn ⟨Y,(((K35.rm s0).sel s0).mV 1 2)⟩ Y
  rintro _ w36 ⟨rfl,Zl⟩;refine mQ Y (λaqE=>?_) (λaqE=>?_)
  ·refine jm ?_;refine cB ?_;have hgl:=Nz ds (aU ks x1.aC).ID;refine He Zl (λ_ K=>K) (λl0 rk lJ wJ=>∃(CF:ah)(CG:Nat),lJ=(11,.slice CF (((([((aU ks x1.aC).aD),(jX l ((aU ks x1.aC).ID)),(kG ds ((aU ks x1.aC).ID))]:List (List Int))).flatten).length) CG)::l0/\Hp b S wJ (aS dQ 3 CF CG ((([((aU ks x1.aC).aD),(jX l ((aU ks x1.aC).ID)),(kG ds ((aU ks x1.aC).ID))]:List (List Int))).flatten)::rk)) (λhns H4=>?_) ?_
   ·refine ng 0 1 tN 3 j5 s5 Y H4<|Ci 2 s8 Y H4<|ng 3 4 tN 0 pq s5 Y H4<|Ci 6 s8 Y H4<|SX 7 g 0 sF Y H4<|ng 9 10 g 2 yD s2 Y H4<|ng 11 12 tN 0 pq s5 Y H4<|O1 5 Y<|gX Y (TS ((H4.mV 0 2).sel s2) aj ((aU ks x1.aC).ID)) ?_
    rintro _ w37 ⟨Ac2,cc2,rfl,K37⟩;have k26:=(((K37.rm s0).sel s0).mV 1 2);refine aQ k26<|O1 13 Y<|gX Y (afJ _ (K37.o s10) ((aU ks x1.aC).ID) aj) ?_
    rintro _ w38 ⟨Q8,Q9,rfl,h38⟩;have K38:=K37.f1 h38;have aHz:=(K38.o s0).bH;have k27:=(((K38.cU 0 2).sel s0).mV 1 2);refine aQ k27<|O1 14 Y ?_
    have H5:=K38.fz s1;have H6:=H5.fz s1;refine bsn (τ:=(Ty.list dQ)) (xs:=([((aU ks x1.aC).aD),(jX l ((aU ks x1.aC).ID)),(kG ds ((aU ks x1.aC).ID))]:List (List Int))) (vs:=[(0,.slice jR (((aU ks x1.aC).aD).length) jO),(1,.slice Ac2 ((jX l ((aU ks x1.aC).ID)).length) cc2),(2,.slice Q8 ((kG ds ((aU ks x1.aC).ID)).length) Q9)]) (css:=[[.slice jR (((aU ks x1.aC).aD).length) jO],[.slice Ac2 ((jX l ((aU ks x1.aC).ID)).length) cc2],[.slice Q8 ((kG ds ((aU ks x1.aC).ID)).length) Q9]]) Y (by intro _; apply acX) rfl rfl H6 (λ_ e=>⟨⟨_,_,rfl,(H6.s s8).ext e⟩,⟨_,_,rfl,(H6.s s1).ext e⟩,⟨_,_,rfl,(H6.s s0).ext e⟩,trivial⟩) λg11 w39 K39=>?_;have k28:=(((K39.cU 0 3).sel s0).mV 1 2);refine aQ k28<|O1 15 Y<|gX Y (acS _ (K39.o s0) (by simp only [CV,List.flatten_nil,yN,jd]; omega)) ?_
    rintro _ w40 ⟨aqF,aqG,rfl,h40⟩;have K40:=K39.f1 h40;have k29:=(((K40.cU 0 4).sel s0).mV 1 2);refine aQ k29<|xI 16 Y Y k29<|Dn ⟨aqF,aqG,Y,(((K40.cU 1 3).sel s1).mV 1 3)⟩ Y
   rintro _ w41 ⟨CF,CG,rfl,K41⟩;refine He K41 (λ_ K=>K) (λl0 rk lJ wJ=>lJ=(12,aF (Bv (tL ns aG (jZ ks ns l) ((([((aU ks x1.aC).aD),(jX l ((aU ks x1.aC).ID)),(kG ds ((aU ks x1.aC).ID))]:List (List Int))).flatten) ns)))::(13,.bool ((tL ns aG (jZ ks ns l) ((([((aU ks x1.aC).aD),(jX l ((aU ks x1.aC).ID)),(kG ds ((aU ks x1.aC).ID))]:List (List Int))).flatten) ns).isSome))::l0/\Hp b S wJ rk) (λhns H7=>?_) ?_
   ·refine Ci 0 s9 Y H7<|SX 1 g 3 Ew Y H7<|ng 3 4 g 3 pY s3 Y H7<|Ci 5 s9 Y H7<|SX 6 g 13 Ho Y H7<|Ci 8 s3 Y H7<|Ci 9 s9 Y H7<|kX 11 Y Y H7<|O1 10 Y<|gX Y (aa0 ((((((H7.mV 4 7).sel s9).sel s8).mV 11 2).sel s11).sel s12) aj aj aj) ?_
    rintro _ w42 ⟨Ad1,cd1,rfl,K42⟩;have k30:=(((((((K42.rm s0).mV 2 2).mV 6 7).sel s9).sel s12).sel s11).sel s12);refine aQ k30<|O1 12 Y<|mU K42 Y (aaQ _ (K42.s s3).any (K42.s s14).any (K42.o s0) (K42.o s5) aj (λx hx=>((aaZ _ _ _).1 x hx).1)) λw43 K43=>?_
    have k31:=(((((((K43.rm s0).mV 2 2).mV 6 7).sel s9).sel s12).sel s11).sel s12);refine aQ k31<|kX 13 Y Y k31<|lD 14 Y (λ_ _=>wS (vs:=[aF (Bv (tL ns aG (jZ ks ns l) ((([((aU ks x1.aC).aD),(jX l ((aU ks x1.aC).ID)),(kG ds ((aU ks x1.aC).ID))]:List (List Int))).flatten) ns)),.bool ((tL ns aG (jZ ks ns l) ((([((aU ks x1.aC).aD),(jX l ((aU ks x1.aC).ID)),(kG ds ((aU ks x1.aC).ID))]:List (List Int))).flatten) ns).isSome)]) Y Y) k31<|lD 15 Y (λ_ _=>wS (vs:=[aF (Bv (tL ns aG (jZ ks ns l) ((([((aU ks x1.aC).aD),(jX l ((aU ks x1.aC).ID)),(kG ds ((aU ks x1.aC).ID))]:List (List Int))).flatten) ns)),.bool ((tL ns aG (jZ ks ns l) ((([((aU ks x1.aC).aD),(jX l ((aU ks x1.aC).ID)),(kG ds ((aU ks x1.aC).ID))]:List (List Int))).flatten) ns).isSome)]) Y Y) k31<|xI 16 Y Y k31<|xI 17 Y Y k31<|Dn ⟨Y,(((((((K43.rm s0).mV 2 2).mV 6 7).sel s9).sel s12).sel s11).sel s12)⟩ Y
   rintro _ w44 ⟨rfl,K44⟩;refine qo ak ak<|bA (dx ai5 Y (K44.x s9) Y) Y<|bA (eX Y) Y<|bA (dW (q:=⟨g,0,none⟩) sF Y Y) Y<|bA (dW (q:=⟨g,1,none⟩) yC Y Y) Y<|bA (dx aqm Y (K44.x s3) Y) Y<|bA (bf Y) Y<|bA (dx ai5 Y (K44.x s9) Y) Y<|bA (eX Y) Y<|bA (dW (q:=⟨g,6,none⟩) BX Y Y) Y<|bA (dW (q:=⟨g,7,none⟩) acH Y Y) Y<|bA (dx jD Y (K44.x s3) Y) Y<|Fv (v:=.tuple #[aF (C9 l (((aU dG x1.aC).aD).filter λx9=>!(uT aG x9)) dV),.bool (J8 l (((aU dG x1.aC).aD).filter λx9=>!(uT aG x9)) dV)]) Y Y Y azz (λwq eq=>(amQ wq ((K44.o s1).ext eq) ((K44.o s4).ext eq) dV aj aj aj).mono (by rintro _ _ ⟨rfl,fQ⟩; exact⟨rfl,fQ.ext⟩)) rfl<|bA (bf rfl) rfl<|bA (wS (vs:=[aF (C9 l (((aU dG x1.aC).aD).filter λx9=>!(uT aG x9)) dV),.bool (J8 l (((aU dG x1.aC).aD).filter λx9=>!(uT aG x9)) dV)]) rfl rfl) rfl<|bA (wS (vs:=[aF (C9 l (((aU dG x1.aC).aD).filter λx9=>!(uT aG x9)) dV),.bool (J8 l (((aU dG x1.aC).aD).filter λx9=>!(uT aG x9)) dV)]) rfl rfl) rfl<|bA (om rfl) rfl<|bA (om rfl) rfl<|qp λw45 e45=>?_
   have K45:=K44.grow e45;refine bQ Y<|ev (iB Y)<|mv Y ?_
   cases afS:(!((tL ns aG (jZ ks ns l) ((([((aU ks x1.aC).aD),(jX l ((aU ks x1.aC).ID)),(kG ds ((aU ks x1.aC).ID))]:List (List Int))).flatten) ns).isSome)) with
   | true=>
    refine dN<|dN<|ev (dH Y Y)<|mv Y<|dN<|dN<|dN<|dN<|dN<|dN<|ev (dH Y Y)<|dn<|bK Y (λ_h=>?_) nofun
    refine qJ (Ou Y (lu (Ou Y (rE (gG ?_)))));have hnx:(sQ (iW ds ns ks aG dG dV all bW aN eZ) (needs.take (k+1)) (ls,os))=(l,o):=by rw [NC bP,<- hrep]; exact NA (x:=(iW ds ns ks aG dG dV all bW aN eZ)) (by first | (rintro⟨hg1,hg⟩; exact absurd hg1 aqE) | (rintro⟨_,hg⟩; first | (rw [show zu (iW ds ns ks aG dG dV all bW aN eZ) (aU ks x1.aC) (aU dG x1.aC) l=false from acU afS] at hg; cases hg) | (rw [show zu (iW ds ns ks aG dG dV all bW aN eZ) (aU ks x1.aC) (aU dG x1.aC) l=false from acV afT] at hg; cases hg) | (rw [show zu (iW ds ns ks aG dG dV all bW aN eZ) (aU ks x1.aC) (aU dG x1.aC) l=false from acW (Kt FQ)] at hg; cases hg))) f
    refine jy<|ev (dO Y Y)<|mv Y<|jA ?_
    have jW:(l:List bD)=(sQ (iW ds ns ks aG dG dV all bW aN eZ) (needs.take (k+1)) (ls,os)).1:=by first | (rw [hnx]; done) | (rw [hnx]; exact(L6 (Kt FQ)).1)
    rw [jW] at K45;have mH:(o:List aM)=(sQ (iW ds ns ks aG dG dV all bW aN eZ) (needs.take (k+1)) (ls,os)).2:=by first | (rw [hnx]; done) | (rw [hnx]; exact(L6 (Kt FQ)).2 _)
    rw [mH] at K45;exact dI ⟨(k+1),A1,c1,VD,c15,Y,Y,aj,by rw [hnx]; exact hlo2,((K45.cU 4 5).rm s0)⟩ rfl aj
   | false=>
    refine bn Y (bf Y) Y<|bn Y (iB Y) Y<|ev (dL Y Y)<|mv Y ?_
    cases afT:(!(J8 l (((aU dG x1.aC).aD).filter λx9=>!(uT aG x9)) dV)) with
    | true=>
     refine dN<|dN<|dN<|dN<|dN<|dN<|ev (dH Y Y)<|dn<|bK Y (λ_h=>?_) nofun
     refine qJ (Ou Y (lu (Ou Y (rE (gG ?_)))));have hnx:(sQ (iW ds ns ks aG dG dV all bW aN eZ) (needs.take (k+1)) (ls,os))=(l,o):=by rw [NC bP,<- hrep]; exact NA (x:=(iW ds ns ks aG dG dV all bW aN eZ)) (by first | (rintro⟨hg1,hg⟩; exact absurd hg1 aqE) | (rintro⟨_,hg⟩; first | (rw [show zu (iW ds ns ks aG dG dV all bW aN eZ) (aU ks x1.aC) (aU dG x1.aC) l=false from acU afS] at hg; cases hg) | (rw [show zu (iW ds ns ks aG dG dV all bW aN eZ) (aU ks x1.aC) (aU dG x1.aC) l=false from acV afT] at hg; cases hg) | (rw [show zu (iW ds ns ks aG dG dV all bW aN eZ) (aU ks x1.aC) (aU dG x1.aC) l=false from acW (Kt FQ)] at hg; cases hg))) f
     refine jy<|ev (dO Y Y)<|mv Y<|jA ?_
     have rR:(l:List bD)=(sQ (iW ds ns ks aG dG dV all bW aN eZ) (needs.take (k+1)) (ls,os)).1:=by first | (rw [hnx]; done) | (rw [hnx]; exact(L6 (Kt FQ)).1)
     rw [rR] at K45;have wM:(o:List aM)=(sQ (iW ds ns ks aG dG dV all bW aN eZ) (needs.take (k+1)) (ls,os)).2:=by first | (rw [hnx]; done) | (rw [hnx]; exact(L6 (Kt FQ)).2 _)
     rw [wM] at K45;exact dI ⟨(k+1),A1,c1,VD,c15,Y,Y,aj,by rw [hnx]; exact hlo2,((K45.cU 4 5).rm s0)⟩ rfl aj
    | false=>
     refine gby K45 s9 Y<|bn Y (dU qw Y Y (K45.x s6)) Y<|bn Y (bf Y) Y<|bn Y (bf Y) Y<|oh Y Y Y Y azr (X9 (((K45.sel s0).mV 1 2).sel s3) (aU ks x1.aC) (C9 l (((aU dG x1.aC).aD).filter λx9=>!(uT aG x9)) dV) (Bv (tL ns aG (jZ ks ns l) ((([((aU ks x1.aC).aD),(jX l ((aU ks x1.aC).ID)),(kG ds ((aU ks x1.aC).ID))]:List (List Int))).flatten) ns)) aj aj aj) Y ?_
     rintro _ w46 ⟨rfl,Ae1,ce1,Af1,cf1,K46⟩;refine bn Y (iB Y) Y<|ev (dL Y Y)<|dn<|bK Y (λFQ=>?_) (λFQ=>?_)
     ·refine qJ (Ou Y (lu (Ou Y (rE (gG ?_)))));have hnx:(sQ (iW ds ns ks aG dG dV all bW aN eZ) (needs.take (k+1)) (ls,os))=(l,o):=by rw [NC bP,<- hrep]; exact NA (x:=(iW ds ns ks aG dG dV all bW aN eZ)) (by first | (rintro⟨hg1,hg⟩; exact absurd hg1 aqE) | (rintro⟨_,hg⟩; first | (rw [show zu (iW ds ns ks aG dG dV all bW aN eZ) (aU ks x1.aC) (aU dG x1.aC) l=false from acU afS] at hg; cases hg) | (rw [show zu (iW ds ns ks aG dG dV all bW aN eZ) (aU ks x1.aC) (aU dG x1.aC) l=false from acV afT] at hg; cases hg) | (rw [show zu (iW ds ns ks aG dG dV all bW aN eZ) (aU ks x1.aC) (aU dG x1.aC) l=false from acW (Kt FQ)] at hg; cases hg))) f
      refine jy<|ev (dO Y Y)<|mv Y<|jA ?_
      have zk:((BU l dV all (aU ks x1.aC) (C9 l (((aU dG x1.aC).aD).filter λx9=>!(uT aG x9)) dV) (Bv (tL ns aG (jZ ks ns l) ((([((aU ks x1.aC).aD),(jX l ((aU ks x1.aC).ID)),(kG ds ((aU ks x1.aC).ID))]:List (List Int))).flatten) ns)) (aN+eZ)):List bD)=(sQ (iW ds ns ks aG dG dV all bW aN eZ) (needs.take (k+1)) (ls,os)).1:=by first | (rw [hnx]; done) | (rw [hnx]; exact(L6 (Kt FQ)).1)
      rw [zk] at K46;have hq8:((Df l o dV all (aU ks x1.aC) (C9 l (((aU dG x1.aC).aD).filter λx9=>!(uT aG x9)) dV) (Bv (tL ns aG (jZ ks ns l) ((([((aU ks x1.aC).aD),(jX l ((aU ks x1.aC).ID)),(kG ds ((aU ks x1.aC).ID))]:List (List Int))).flatten) ns)) (aN+eZ)):List aM)=(sQ (iW ds ns ks aG dG dV all bW aN eZ) (needs.take (k+1)) (ls,os)).2:=by first | (rw [hnx]; done) | (rw [hnx]; exact(L6 (Kt FQ)).2 _)
      rw [hq8] at K46;exact dI ⟨(k+1),Ae1,ce1,Af1,cf1,Y,Y,aj,by rw [hnx]; exact hlo2,(((K46.cU 3 6).sel s0).mV 1 2)⟩ rfl aj
     have avc:=aCN FQ;have hgo:zu (iW ds ns ks aG dG dV all bW aN eZ) (aU ks x1.aC) (aU dG x1.aC) l=true:=azx afS afT avc;have aHB:x1.Have+((jX l (aU ks x1.aC).ID).length:Int)<bW:=aj;refine ze (iE ?_);exact dI ⟨Ae1,ce1,Af1,cf1,(BU l dV all (aU ks x1.aC) (C9 l (((aU dG x1.aC).aD).filter λx9=>!(uT aG x9)) dV) (Bv (tL ns aG (jZ ks ns l) ((([((aU ks x1.aC).aD),(jX l ((aU ks x1.aC).ID)),(kG ds ((aU ks x1.aC).ID))]:List (List Int))).flatten) ns)) (aN+eZ)),(Df l o dV all (aU ks x1.aC) (C9 l (((aU dG x1.aC).aD).filter λx9=>!(uT aG x9)) dV) (Bv (tL ns aG (jZ ks ns l) ((([((aU ks x1.aC).aD),(jX l ((aU ks x1.aC).ID)),(kG ds ((aU ks x1.aC).ID))]:List (List Int))).flatten) ns)) (aN+eZ)),(f - 1),Y,Y,by have hcb:=LZ avc; have hca:=afR avc; rw [hcb.2.1,hcb.2.2]; omega,by exact(ava (x:=(iW ds ns ks aG dG dV all bW aN eZ)) aj aHB hgo).trans hrep,by have hcb:=LZ avc; rw [hcb.1]; omega,(((K46.rm s3).sel s0).mV 1 2)⟩ rfl aj
  refine qJ (lu (lu (rE (iE (gG ?_)))));have hnx:(sQ (iW ds ns ks aG dG dV all bW aN eZ) (needs.take (k+1)) (ls,os))=(l,o):=by rw [NC bP,<- hrep]; exact NA (x:=(iW ds ns ks aG dG dV all bW aN eZ)) (by first | (rintro⟨hg1,hg⟩; exact absurd hg1 aqE) | (rintro⟨_,hg⟩; first | (rw [show zu (iW ds ns ks aG dG dV all bW aN eZ) (aU ks x1.aC) (aU dG x1.aC) l=false from acU afS] at hg; cases hg) | (rw [show zu (iW ds ns ks aG dG dV all bW aN eZ) (aU ks x1.aC) (aU dG x1.aC) l=false from acV afT] at hg; cases hg) | (rw [show zu (iW ds ns ks aG dG dV all bW aN eZ) (aU ks x1.aC) (aU dG x1.aC) l=false from acW (Kt FQ)] at hg; cases hg))) f
  refine jy<|ev (dO Y Y)<|mv Y<|jA ?_
  have AJ:(l:List bD)=(sQ (iW ds ns ks aG dG dV all bW aN eZ) (needs.take (k+1)) (ls,os)).1:=by first | (rw [hnx]; done) | (rw [hnx]; exact(L6 (Kt FQ)).1)
  rw [AJ] at Zl;have r9:(o:List aM)=(sQ (iW ds ns ks aG dG dV all bW aN eZ) (needs.take (k+1)) (ls,os)).2:=by first | (rw [hnx]; done) | (rw [hnx]; exact(L6 (Kt FQ)).2 _)
  rw [r9] at Zl;exact dI ⟨(k+1),A1,c1,VD,c15,Y,Y,aj,by rw [hnx]; exact hlo2,(Zl.cU 3 5)⟩ rfl aj
 refine qJ (lu (lu (rE (l8.aum (rU (zA Y ?_))))));have hfk:needs.take k=needs:=iH aj;rw [hfk] at K2;have H8:=(K2.rm s3);exact⟨Y,_,_,_,_,((((H8.sel s1).sel s3).sel s2).sel s3)⟩
def Ey(s:iF)(r:ARules)(aN:Int):List Int:=(LJ (dS s aN).eF aN r.jV).map fK.Node
def Ji(m:dF)(s:iF)(aN:Int):List aH:=zq m.aA (dS s aN).bL
def rdN(m:dF)(s:iF)(r:ARules)(aN:Int):List fA:=Gu (Ji m s aN) m.aT (Ey s r aN) r.nE
abbrev rdX(m:dF)(s:iF)(r:ARules)(aN:Int):Jh:=⟨(dS s aN).bL,m.aT,m.aA,Ey s r aN,Ji m s aN,r.lQ,r.All,r.nE,aN+r.jr⟩
def CJ(m:dF)(s:iF)(r:ARules)(aN:Int):List bD × List aM:=sQ (rdX m s r aN) (rdN m s r aN) ((dS s aN).bY,[])
def AZ(m:dF)(s:iF)(r:ARules)(aN:Int):List aM:=xY (CJ m s r aN).1 m.aA m.aT (Ey s r aN) r.nE (aN+r.jr) (Ji m s aN)
def rdQ(m:dF)(s:iF)(r:ARules)(aN:Int):Bool:=(decide (((rdN m s r aN).length:Int)=0)&&decide (((CJ m s r aN).1.length:Int)=0))&&decide ((((dS s aN).bL++AZ m s r aN).length:Int)=0)
def rdL(m:dF)(s:iF)(r:ARules)(aN:Int):List bD:=if rdQ m s r aN=true then TT (CJ m s r aN).1 m.aA (Ji m s aN) m.aT (Ey s r aN) r.eP r.lQ r.All (aN+r.jr) else(CJ m s r aN).1
def rdO(m:dF)(s:iF)(r:ARules)(aN:Int):List aM:=if rdQ m s r aN=true then Vg (CJ m s r aN).1 ((CJ m s r aN).2++AZ m s r aN) m.aA (Ji m s aN) m.aT (Ey s r aN) r.eP r.lQ r.All (aN+r.jr) else(CJ m s r aN).2++AZ m s r aN
def rdB(m:dF)(r:ARules):Bool:=lY r&&kR m.aA
def mZ(m:dF)(s:iF)(r:ARules)(aN:Int):iF:=if rdB m r=true then⟨(dS s aN).eF,rdL m s r aN,(dS s aN).bL++AZ m s r aN⟩ else s
def xF(m:dF)(s:iF)(r:ARules)(aN:Int):List aM:=if rdB m r=true then rdO m s r aN else[]
def nY(m:dF)(s:iF)(r:ARules)(aN:Int):List fV:=if rdB m r=true then(AZ m s r aN).map wC else[]
theorem ac1(h:qx c=true):c.aD.length<=16:=by
  rcases IG _ _ (rT h).2.2 with h1 | h1
  · rw [h1]; simp
  · omega
theorem afU(ds:List aM)(c:aH):(qz ds c).aD.length<=c.aD.length:=mR _ _
theorem afV{x:Jh}{c d:aH}{h:Int}(ha:x.all<=64):∀(f:Nat)(l:List bD)(o:List aM),l.length<=64->(QZ x c d h f (l,o)).1.length<=64/\(QZ x c d h f (l,o)).2.length+l.length=o.length+(QZ x c d h f (l,o)).1.length
  | 0,l,o,hl=>⟨hl,by show o.length+l.length=o.length+l.length; rfl⟩
  | f+1,l,o,hl=>by
    unfold QZ
    split
    · rename_i hc
      have hg:Kq l x.dV x.all c (LY x d l) (Bv (Kr x c l)) x.u=true:=by
        have:=hc.2; unfold zu at this; simp only [bN] at this; exact this.2
      have h1:=LZ hg;have h2:=afR hg;have ih:=afV (c:=c) (d:=d) (h:=h) ha f (BU l x.dV x.all c (LY x d l) (Bv (Kr x c l)) x.u) (Df l o x.dV x.all c (LY x d l) (Bv (Kr x c l)) x.u) (by rw [h1.2.1]; omega);rw [h1.2.1,h1.2.2] at ih;have key:∀ r:List bD × List aM,r.2.length+(l.length+1)=o.length+1+r.1.length->r.2.length+l.length=o.length+r.1.length:=by intro r h; omega
      exact⟨ih.1,key _ ih.2⟩
    · exact⟨hl,Y⟩
theorem Yd{x:Jh}(ha:x.all<=64):∀(M:List fA)(s:List bD × List aM),s.1.length<=64->(sQ x M s).1.length<=64/\(sQ x M s).2.length+s.1.length=s.2.length+(sQ x M s).1.length
  | [],s,hs=>⟨hs,rfl⟩
  | n::M,s,hs=>by
    have h1:=afV (c:=aU x.ks n.aC) (d:=aU x.dG n.aC) (h:=n.Have) ha 100 s.1 s.2 hs;have h2:=Yd ha M (aae x s n) h1.1;refine⟨h2.1,?_⟩;have h3:(aae x s n).2.length+s.1.length=s.2.length+(aae x s n).1.length:=h1.2;have h4:=h2.2;show(sQ x M (aae x s n)).2.length+s.1.length=s.2.length+(sQ x M (aae x s n)).1.length;omega
theorem vE(s:iF)(aN:Int):(dS s aN).bY.length<=s.bY.length/\(dS s aN).bL.length<=s.bL.length:=⟨mR _ _,mR _ _⟩
theorem azB{m:dF}(hm:kR m.aA=true)(s:iF)(r:ARules)(aN:Int):∀ x∈rdN m s r aN,0<=x.Have/\x.Have<=1000:=by
  intro x hx;obtain⟨c,hc,_,rfl⟩:=X7.1 hx;obtain⟨c0,h0,rfl⟩:=gQ.1 hc;have h1:=ac1 ((kF.1 hm).1 c0 h0);have h2:=afU (dS s aN).bL c0;have h3:(jH (qz (dS s aN).bL c0) m.aT (Ey s r aN)).length<=(qz (dS s aN).bL c0).aD.length:=lV (mR _ _) (mR _ _)
  simp only [OH]; omega
theorem ac2(hm:kR l=true)(k:Nat)(hk:16<=k):∀ x∈l,x.aD.length<=k:=λx hx=>by have:=ac1 ((kF.1 hm).1 x hx); omega
theorem VG(hm:kR l=true)(ds:List aM)(k:Nat)(hk:16<=k):∀ x∈zq l ds,x.aD.length<=k:=λx hx=>by
  obtain⟨c,hc,rfl⟩:=gQ.1 hx;have:=ac1 ((kF.1 hm).1 c hc); have:=afU ds c; omega
theorem Hq(l:List aH)(ds:List aM):(zq l ds).length=l.length:=jY ..
theorem Bw{r:ARules}(h:lY r=true):(1<=r.jV/\r.jV<=1048576)/\(1<=r.jr/\r.jr<=1048576)/\(1<=r.lQ/\r.lQ<=64)/\(1<=r.All/\r.All<=64)/\(1<=r.nE/\r.nE<=8)/\1<=r.eP/\r.eP<=16:=by
  simp only [lY,qy,bN,bO] at h; omega
theorem aCS:Size prog 23 6:=ay
theorem Hr:Agg prog 23 6:=⟨λ_=>by kernel_rfl,aCS⟩
theorem L8(a0:ah)(a0n a0c:Nat)(a1:ah)(a1n a1c:Nat)(a2:ah)(a2n a2c:Nat):prog.built 51 [(0,.slice a0 a0n a0c),(1,.slice a1 a1n a1c),(2,.slice a2 a2n a2c)]=some #[.slice a0 a0n a0c,.slice a1 a1n a1c,.slice a2 a2n a2c]:=ak
theorem aqH:Size prog 45 3:=ay
theorem sG:Agg prog 45 3:=⟨λ_=>by kernel_rfl,aqH⟩
theorem aKa:bF prog 17:=ay
theorem Pn(XW:ah)(UK UL:Nat)(afW:ah)(afX afY:Nat)(afZ:ah)(af0 af2:Nat)(aCT:ah)(axH axI:Nat)(aCU:ah)(axJ axK:Nat)(aCV:ah)(axL axM:Nat)(aCW:Int)(aCX:Int)(aCY:Int)(aCZ:Int)(aC0:Int)(aC1:Int)(a3:Int):prog.built 195 [(0,.agg #[.slice XW UK UL,.slice afW afX afY,.slice afZ af0 af2]),(1,.agg #[.slice aCT axH axI,.slice aCU axJ axK,.slice aCV axL axM]),(2,.agg #[aF aCW,aF aCX,aF aCY,aF aCZ,aF aC0,aF aC1]),(3,aF a3)]=some #[.slice XW UK UL,.slice afW afX afY,.slice afZ af0 af2,.slice aCT axH axI,.slice aCU axJ axK,.slice aCV axL axM,aF aCW,aF aCX,aF aCY,aF aCZ,aF aC0,aF aC1,aF a3,.slice none 0 0,.slice none 0 0,.slice none 0 0,.slice none 0 0]:=ak
set_option maxHeartbeats 2000000 in
theorem af3(w:World)(m:dF){vR:ah}{vJ:Nat}(Jj:Sl cZ S0 w vR vJ m.aT){vk:ah}{uU:Nat}(KE:Sl bJ S0 w vk uU m.aA){uh:ah}{tq:Nat}(Rb:Sl bX S0 w uh tq m.aP)(s:iF){acJ:ah}{acK:Nat}(au2:Sl iO S0 w acJ acK s.eF){acL:ah}{acM:Nat}(au3:Sl dJ S0 w acL acM s.bY){acN:ah}{acO:Nat}(au4:Sl bG S0 w acN acO s.bL)(r:ARules)(aN:Int)(hb:s.eF.length<=1000)(hl:s.bY.length<=64)(hd:s.bL.length<=50000)(hn:m.aT.length<=1000)(hc:m.aA.length<=1000)(hu:0<=aN/\aN<=1099511627776) :
    bS prog 89 #[.agg #[.slice vR m.aT.length vJ,.slice vk m.aA.length uU,.slice uh m.aP.length tq],.agg #[.slice acJ s.eF.length acK,.slice acL s.bY.length acM,.slice acN s.bL.length acO],.agg #[aF r.jV,aF r.lQ,aF r.All,aF r.nE,aF r.jr,aF r.eP],aF aN] w λv w'=>∃(vP:ah)(vQ:Nat)(zC:ah)(zD:Nat)(zF:ah)(zG:Nat)(A1:ah)(c1:Nat)(A2:ah)(c2:Nat),v=.tuple #[.agg #[.slice vP (((mZ m s r aN).eF).length) vQ,.slice zC (((mZ m s r aN).bY).length) zD,.slice zF (((mZ m s r aN).bL).length) zG],.slice A1 ((xF m s r aN).length) c1,.slice A2 ((nY m s r aN).length) c2]/\Hp w S0 w' [aS iO 107 vP vQ ((mZ m s r aN).eF),aS dJ 117 zC zD ((mZ m s r aN).bY),aS bG 112 zF zG ((mZ m s r aN).bL),aS bG 112 A1 c1 (xF m s r aN),aS AY 120 A2 c2 (nY m s r aN)]:=by
 refine kP S0 func89 ntmps89 Y λH0=>rg<|bx Y Y H0 λg1 w1 K1=>bx Y Y K1 λg2 w2 K2=>bx Y Y K2 λg3 w3 K3=>al FL Y K3 λg4 w4 K4=>iI Y<|bU Y<|aW<|rg<|ev (dU Hr Y Y (K4.x s1))<|mU K4 Y (acI (S0:=Any) _ r) λw5 K5=>ev (iB Y)<|mv Y<|oG 5 21 ((!(lY r))||(!(kR m.aA))) ?_ ?_
 ·cases Vd:(!(lY r)) with
  | true=>
   refine dN<|dN<|dN<|dN<|ev (dH Y Y)<|jh Y (pI _)
  | false=>
   refine wL g1 1 jE K5 s3 Y<|oh Y Y Y Y apb (Nq _ (K5.a KE).any aj) Y ?_
   rintro _ w6 ⟨rfl,h6⟩;refine bn Y (iB Y) Y<|ev (dL Y Y)<|jh Y h6.ext
 intro w7 e7;have K7:=K5.grow e7;refine dn<|bK Y (λhc21=>?_) (λhc21=>?_)
 ·have hrb:rdB m r=false:=by unfold rdB; revert hc21; cases lY r <;> cases kR m.aA <;> simp
  refine He K7 (λ_ K=>(K.rm s0)) (λl0 rk lJ wJ=>∃(jR:ah)(jO:Nat)(ql:ah)(cj2:Nat)(wF:ah)(vM:Nat),lJ=l0/\Hp w S0 wJ (dY g4 51 [.slice wF s.eF.length vM,.slice ql s.bY.length cj2,.slice jR s.bL.length jO]::aS bG 112 jR jO s.bL::aS dJ 117 ql cj2 s.bY::aS iO 107 wF vM s.eF::rk)) (λhns H1=>?_) ?_
  ·have k1:=(H1.rm s0);refine ng 0 1 g2 0 FM s1 Y k1<|ng 3 4 g2 1 yC s1 Y k1<|ng 6 7 g2 2 yD s1 Y k1<|O1 2 Y<|gX Y (Dt _ (H1.a au2).any aj) ?_
   rintro _ w8 ⟨EZ,E5,rfl,h8⟩;have K8:=H1.f1 h8;have k2:=(K8.cU 0 2);refine aQ k2<|O1 5 Y<|gX Y (BG _ (K8.a au3).any aj) ?_
   rintro _ w9 ⟨avd,ave,rfl,h9⟩;have K9:=K8.f1 h9;have k3:=(K9.cU 0 3);refine aQ k3<|O1 8 Y<|gX Y (BH _ (K9.a au4).any aj) ?_
   rintro _ Oz ⟨LK,LP,rfl,h10⟩;have K10:=K9.f1 h10;have k4:=(K10.cU 0 4);refine aQ k4<|lD 9 Y (λ_ _=>iY (vs:=[(0,.slice EZ s.eF.length E5),(1,.slice avd s.bY.length ave),(2,.slice LK s.bL.length LP)]) (cs:=[.slice EZ s.eF.length E5,.slice avd s.bY.length ave,.slice LK s.bL.length LP]) Y (by apply L8)) k4<|O1 10 rfl<|sty rfl K10 s3 rfl λTi tZ=>?_
   have k5:=(tZ.cU 0 4);refine aQ k5<|xI 11 Y Y k5<|xI 12 Y Y k5<|Dn ⟨LK,LP,avd,ave,EZ,E5,Y,tZ⟩ Y
  rintro _ Sm ⟨jR,jO,ql,cj2,wF,vM,rfl,sJ⟩;refine jf (fT (qA Y ⟨_,_,Y,⟨_,Y,jL (cs:=[.slice wF s.eF.length vM,.slice ql s.bY.length cj2,.slice jR s.bL.length jO]) Ko Y (sJ.x s0)⟩,⟨_,_,Y,Y,⟨_,_,Y,Y,Y⟩⟩⟩ ?_));have eO:((⟨s.eF,s.bY,s.bL⟩:iF):iF)=(mZ m s r aN):=by unfold mZ; rw [aK (by rw [hrb]; decide)]
  have fQ:(s.eF:List fK)=((mZ m s r aN).eF):=by rw [<- eO]
  have jW:(s.bY:List bD)=((mZ m s r aN).bY):=by rw [<- eO]
  have mH:(s.bL:List aM)=((mZ m s r aN).bL):=by rw [<- eO]
  have H2:=sJ.nil bG 112;have rR:(([]:List aM):List aM)=(xF m s r aN):=by unfold xF; rw [aK (by rw [hrb]; decide)]
  have H3:=(rR▸H2:Hp w S0 Sm (aS bG 112 none 0 (xF m s r aN)::[dY g4 51 [.slice wF s.eF.length vM,.slice ql s.bY.length cj2,.slice jR s.bL.length jO],aS bG 112 jR jO s.bL,aS dJ 117 ql cj2 s.bY,aS iO 107 wF vM s.eF,dY g3 23 [aF r.jV,aF r.lQ,aF r.All,aF r.nE,aF r.jr,aF r.eP],dY g2 51 [.slice acJ s.eF.length acK,.slice acL s.bY.length acM,.slice acN s.bL.length acO],dY g1 45 [.slice vR m.aT.length vJ,.slice vk m.aA.length uU,.slice uh m.aP.length tq]]));have H4:=H3.nil AY 120;have wM:(([]:List fV):List fV)=(nY m s r aN):=by unfold nY; rw [aK (by rw [hrb]; decide)]
  have H5:=(wM▸H4:Hp w S0 Sm (aS AY 120 none 0 (nY m s r aN)::[aS bG 112 none 0 (xF m s r aN),dY g4 51 [.slice wF s.eF.length vM,.slice ql s.bY.length cj2,.slice jR s.bL.length jO],aS bG 112 jR jO s.bL,aS dJ 117 ql cj2 s.bY,aS iO 107 wF vM s.eF,dY g3 23 [aF r.jV,aF r.lQ,aF r.All,aF r.nE,aF r.jr,aF r.eP],dY g2 51 [.slice acJ s.eF.length acK,.slice acL s.bY.length acM,.slice acN s.bL.length acO],dY g1 45 [.slice vR m.aT.length vJ,.slice vk m.aA.length uU,.slice uh m.aP.length tq]]));exact⟨wF,vM,ql,cj2,jR,jO,none,0,none,0,by first | (rw [fQ,jW,mH,<- rR,<- wM] <;> rfl) | (rw [fQ,jW,mH,<- rR,<- wM] <;> rfl),by rw [<- fQ,<- jW,<- mH]; exact(((((((H5.cU 6 3).rm s2).sel s0).sel s1).sel s2).sel s3).sel s4)⟩
 have hrb:lY r=true/\kR m.aA=true:=by revert hc21; cases lY r <;> cases kR m.aA <;> simp
 refine jm ?_;refine He K7 (λ_ K=>K) (λl0 rk lJ wJ=>∃(tN:Nat)(CF:ah)(CG:Nat)(Aj5:ah)(cj5:Nat)(Aj6:ah)(cj6:Nat),lJ=(11,gD tN)::l0/\Hp w S0 wJ (dY tN 195 [.slice CF (((dS s aN).eF).length) CG,.slice Aj5 (((dS s aN).bY).length) cj5,.slice Aj6 (((dS s aN).bL).length) cj6,.slice vR m.aT.length vJ,.slice vk m.aA.length uU,.slice uh m.aP.length tq,aF r.jV,aF r.lQ,aF r.All,aF r.nE,aF r.jr,aF r.eP,aF aN,.slice none 0 0,.slice none 0 0,.slice none 0 0,.slice none 0 0]::aS iO 107 CF CG ((dS s aN).eF)::aS dJ 117 Aj5 cj5 ((dS s aN).bY)::aS bG 112 Aj6 cj6 ((dS s aN).bL)::rk)) (λhns H6=>?_) ?_
 ·refine lD 0 Y (λ_ hK=>dU Ko Y Y (hK.x s2)) H6<|kX 1 Y Y H6<|lD 3 Y (λ_ hK=>dU sG Y Y (hK.x s3)) H6<|lD 4 Y (λ_ hK=>dU Hr Y Y (hK.x s1)) H6<|kX 5 Y Y H6<|O1 2 Y<|gX Y (LQ _ s (H6.a au2).any (H6.a au3).any (H6.a au4).any aN aj aj aj) ?_
  rintro _ Xu ⟨p8,p9,yG,yH,yI,yJ,rfl,h13⟩;have wz:=H6.f3 h13;have k6:=(wz.cU 0 3);refine aQ k6<|lD 6 Y (λ_ _=>iY (vs:=[(0,.agg #[.slice p8 (((dS s aN).eF).length) p9,.slice yG (((dS s aN).bY).length) yH,.slice yI (((dS s aN).bL).length) yJ]),(1,.agg #[.slice vR m.aT.length vJ,.slice vk m.aA.length uU,.slice uh m.aP.length tq]),(2,.agg #[aF r.jV,aF r.lQ,aF r.All,aF r.nE,aF r.jr,aF r.eP]),(3,aF aN)]) (cs:=[.slice p8 (((dS s aN).eF).length) p9,.slice yG (((dS s aN).bY).length) yH,.slice yI (((dS s aN).bL).length) yJ,.slice vR m.aT.length vJ,.slice vk m.aA.length uU,.slice uh m.aP.length tq,aF r.jV,aF r.lQ,aF r.All,aF r.nE,aF r.jr,aF r.eP,aF aN,.slice none 0 0,.slice none 0 0,.slice none 0 0,.slice none 0 0]) Y (by apply Pn)) k6<|O1 7 rfl<|bx rfl rfl wz λg5 Z0 wB=>?_
  have k7:=(wB.cU 0 4);refine aQ k7<|xI 8 Y Y k7<|Dn ⟨g5,p8,p9,yG,yH,yI,yJ,Y,wB⟩ Y
 rintro _ Z4 ⟨tN,CF,CG,Aj5,cj5,Aj6,cj6,rfl,zB⟩;refine He zB (λ_ K=>(K.rm s0)) (λl0 rk lJ wJ=>∃(Aj7:ah)(cj7:Nat),lJ=l0/\Hp w S0 wJ (dY tN 195 [.slice CF (((dS s aN).eF).length) CG,.slice Aj5 (((dS s aN).bY).length) cj5,.slice Aj6 (((dS s aN).bL).length) cj6,.slice vR m.aT.length vJ,.slice vk m.aA.length uU,.slice uh m.aP.length tq,aF r.jV,aF r.lQ,aF r.All,aF r.nE,aF r.jr,aF r.eP,aF aN,.slice Aj7 ((Ey s r aN).length) cj7,.slice none 0 0,.slice none 0 0,.slice none 0 0]::aS dQ 3 Aj7 cj7 (Ey s r aN)::rk)) (λhns H7=>?_) ?_
 ·have k8:=(H7.rm s0);refine kX 0 Y Y k8<|uw 1 tN 0 sF Y k8<|Np 4 tN 0 FM Y k8<|kX 6 Y Y k8<|ng 7 8 g3 0 acG s4 Y k8<|O1 5 Y<|nO H7 s0 Y<|aQ k8<|O1 9 Y<|gX Y (OG _ (H7.o s1) aN r.jV (lV hb au)) ?_
  rintro _ w16 ⟨LC,LD,rfl,h16⟩;have BR:=H7.f1 h16;have aqB:=(BR.o s0).bH;have k9:=(BR.cU 0 2);refine aQ k9<|SX 10 tN 13 Ho Y k9<|O1 12 Y<|xP Y BR s1 Y λw17 yB=>?_
  have k10:=(yB.cU 0 2);refine aQ k10<|Dn ⟨LC,LD,Y,yB⟩ Y
 rintro _ w18 ⟨Aj7,cj7,rfl,ET⟩;refine He ET (λ_ K=>(K.rm s0)) (λl0 rk lJ wJ=>∃(Aj8:ah)(cj8:Nat),lJ=l0/\Hp w S0 wJ (dY tN 195 [.slice CF (((dS s aN).eF).length) CG,.slice Aj5 (((dS s aN).bY).length) cj5,.slice Aj6 (((dS s aN).bL).length) cj6,.slice vR m.aT.length vJ,.slice vk m.aA.length uU,.slice uh m.aP.length tq,aF r.jV,aF r.lQ,aF r.All,aF r.nE,aF r.jr,aF r.eP,aF aN,.slice Aj7 ((Ey s r aN).length) cj7,.slice Aj8 ((Ji m s aN).length) cj8,.slice none 0 0,.slice none 0 0]::aS bJ 59 Aj8 cj8 (Ji m s aN)::rk)) (λhns H8=>?_) ?_
 ·have k11:=(H8.rm s0);refine kX 0 Y Y k11<|ng 1 2 g1 1 jE s7 Y k11<|uw 3 tN 0 sF Y k11<|Np 6 tN 2 yD Y k11<|O1 7 Y<|nO H8 s0 Y<|aQ k11<|O1 8 Y<|gX Y (aqr _ (H8.a KE) (H8.o s4) aj (by have:=(vE s aN).2; omega) (ac2 hrb.2 _ au)) ?_
  rintro _ w19 ⟨aqI,aqJ,rfl,h19⟩;have Cc:=H8.c1 h19;have aHC:=(Cc.o s0).bH;have k12:=(Cc.cU 0 2);refine aQ k12<|SX 9 tN 14 LV Y k12<|O1 11 Y<|xP Y Cc s1 Y λw20 C8=>?_
  have k13:=(C8.cU 0 2);refine aQ k13<|Dn ⟨aqI,aqJ,Y,C8⟩ Y
 rintro _ w21 ⟨Aj8,cj8,rfl,FH⟩;refine He FH (λ_ K=>K) (λl0 rk lJ wJ=>∃(Aj9:ah)(cj9:Nat),lJ=(12,.slice Aj9 ((rdN m s r aN).length) cj9)::l0/\Hp w S0 wJ (aS pX 242 Aj9 cj9 (rdN m s r aN)::rk)) (λhns H9=>?_) ?_
 ·refine uw 0 tN 14 LV Y H9<|Ci 3 s0 Y H9<|ng 4 5 g1 0 pY s9 Y H9<|uw 6 tN 13 Ho Y H9<|Ci 9 s0 Y H9<|ng 10 11 g3 3 QV s7 Y H9<|O1 12 Y<|gX Y (aqb _ (H9.o s1) (H9.a Jj).any (H9.o s2) r.nE (by have:=Hq m.aA (dS s aN).bL; show(zq m.aA (dS s aN).bL).length<=_; omega) (VG hrb.2 _ _ au) aj) ?_
  rintro _ w22 ⟨afB,afC,rfl,h22⟩;have EU:=H9.f1 h22;have aqg:=(EU.o s0).bH;have k14:=(EU.rm s0);refine aQ k14<|xI 13 Y Y k14<|Dn ⟨afB,afC,Y,EU⟩ Y
 rintro _ w23 ⟨Aj9,cj9,rfl,KA⟩;have H10:=KA.fz s3;have H11:=H10.fz s3;have H12:=H11.fz s2;have H13:=H12.push (H12.a Jj);have H14:=H13.push (H13.a KE);have H15:=H14.nil bG 112;have H16:=H15.nil AY 120;have hmay:lY r=true/\kR m.aA=true:=hrb;have hbd:=Bw hmay.1;have hpl:=vE s aN;have hsl:(Ji m s aN).length=m.aA.length:=Hq _ _;have hnl:(rdN m s r aN).length<=(Ji m s aN).length:=aiY _ _ _ _;have hrl:=Yd (x:=rdX m s r aN) hbd.2.2.2.1.2 (rdN m s r aN) ((dS s aN).bY,[]) (lV hpl.1 hl);have aC3:(CJ m s r aN).1.length<=64:=hrl.1;have hrl2:(CJ m s r aN).2.length<=64:=by have h2:=hrl.2; have h3:(CJ m s r aN).1.length<=64:=hrl.1; simp only [rH] at h2; show(sQ (rdX m s r aN) (rdN m s r aN) ((dS s aN).bY,[])).2.length<=64; have h4:(sQ (rdX m s r aN) (rdN m s r aN) ((dS s aN).bY,[])).1.length<=64:=hrl.1; omega
 have htl:(AZ m s r aN).length<=(Ji m s aN).length:=LW _ _ _ _ _ _ _;have hcl:=(kF.1 hmay.2).2.1;have hol:((CJ m s r aN).2++AZ m s r aN).length<=100000:=by rw [jd]; omega
 refine bQ Y<|mv Y<|gX Y (avb (os:=[]) (AO:=none) (cO:=0) ((((((((H16.sel s8).sel s1).sel s5).sel s6).sel s7).sel s6).mV 6 2).mV 8 3) aj aj av aj aj aj (ac2 hmay.2 _ au) (VG hmay.2 _ _ au) aj (azB hmay.2 s r aN) aj aj) ?_
 rintro _ w24 ⟨rfl,Ag1,cg1,Ag2,cg2,qB⟩;refine dn<|bQ Y<|gX Y (anc (cs:=[]) (AC:=none) (cC:=0) ((qB.mV 4 5).mV 5 5) (lV aC3 au) aj (lV hrl2 au) av aj aj aj (VG hmay.2 _ _ au) aj) ?_
 rintro _ w25 ⟨rfl,Ag3,cg3,Ag4,cg4,Ag5,cg5,FI⟩;refine dn<|aW<|bQ Y<|ev (eU qC Y)<|ev (iA Y Y)<|mv Y<|iP 8 92 ((decide ((((rdN m s r aN).length:Nat):Int)=0))&&(decide (((((CJ m s r aN).1).length:Nat):Int)=0))) ?_ ?_
 ·cases aMY:decide ((((rdN m s r aN).length:Nat):Int)=0) with
  | true=>
   refine bn Y (bf Y) Y<|bn Y (eX Y) Y<|gfy tN 0 sF Y<|wL tN 1 yC FI s0 Y<|bn Y (eU oI Y) Y<|bn Y (iA Y Y) Y<|ev (dH Y Y)<|dM Y
  | false=>
   refine dN<|dN<|dN<|dN<|dN<|dN<|dN<|ev (dL Y Y)<|dM Y
 refine mv Y<|iP 8 101 (((decide ((((rdN m s r aN).length:Nat):Int)=0))&&(decide (((((CJ m s r aN).1).length:Nat):Int)=0)))&&(decide (((((dS s aN).bL++AZ m s r aN).length:Nat):Int)=0))) ?_ ?_
 ·cases aHD:((decide ((((rdN m s r aN).length:Nat):Int)=0))&&(decide (((((CJ m s r aN).1).length:Nat):Int)=0))) with
  | true=>
   have aC4:=aHD
   try simp only [bN,eH,bO,bV] at aC4
   refine bn Y (bf Y) Y<|bn Y (eX Y) Y<|gfy tN 0 sF Y<|wL tN 2 yD FI s0 Y<|bn Y (eU kY Y) Y<|bn Y (iA Y Y) Y<|ev (dH Y Y)<|dM Y
  | false=>
   refine dN<|dN<|dN<|dN<|dN<|dN<|dN<|ev (dL Y Y)<|dM Y
 refine dn<|bK Y (λhc101=>?_) (λhc101=>?_)
 ·refine jy<|mv Y<|gX Y (au7 (((FI.sel s4).sel s3).mV 2 7) (lV aC3 au) hol aj aj aj (ac2 hmay.2 _ au) (VG hmay.2 _ _ au) aj) ?_
  rintro _ w26 ⟨rfl,Ae1,ce1,Af1,cf1,Nw⟩;refine jA<|gG ?_
  refine He Nw (λ_ K=>(K.rm s11)) (λl0 rk lJ wJ=>lJ=(9,.slice Af1 ((Vg (CJ m s r aN).1 ((CJ m s r aN).2++AZ m s r aN) m.aA (Ji m s aN) m.aT (Ey s r aN) r.eP r.lQ r.All (aN+r.jr)).length) cf1)::(10,.slice Ag5 (((AZ m s r aN).map wC).length) cg5)::l0/\Hp w S0 wJ [dY g4 51 [.slice CF (((dS s aN).eF).length) CG,.slice Ae1 ((TT (CJ m s r aN).1 m.aA (Ji m s aN) m.aT (Ey s r aN) r.eP r.lQ r.All (aN+r.jr)).length) ce1,.slice Ag3 (((dS s aN).bL++AZ m s r aN).length) cg3],dY tN 195 [.slice CF (((dS s aN).eF).length) CG,.slice Ae1 ((TT (CJ m s r aN).1 m.aA (Ji m s aN) m.aT (Ey s r aN) r.eP r.lQ r.All (aN+r.jr)).length) ce1,.slice Ag3 (((dS s aN).bL++AZ m s r aN).length) cg3,.slice vR m.aT.length vJ,.slice vk m.aA.length uU,.slice uh m.aP.length tq,aF r.jV,aF r.lQ,aF r.All,aF r.nE,aF r.jr,aF r.eP,aF aN,.slice Aj7 ((Ey s r aN).length) cj7,.slice Aj8 ((Ji m s aN).length) cj8,.slice Af1 ((Vg (CJ m s r aN).1 ((CJ m s r aN).2++AZ m s r aN) m.aA (Ji m s aN) m.aT (Ey s r aN) r.eP r.lQ r.All (aN+r.jr)).length) cf1,.slice Ag5 (((AZ m s r aN).map wC).length) cg5],aS dJ 117 Ae1 ce1 (TT (CJ m s r aN).1 m.aA (Ji m s aN) m.aT (Ey s r aN) r.eP r.lQ r.All (aN+r.jr)),aS bG 112 Af1 cf1 (Vg (CJ m s r aN).1 ((CJ m s r aN).2++AZ m s r aN) m.aA (Ji m s aN) m.aT (Ey s r aN) r.eP r.lQ r.All (aN+r.jr)),dP cZ vR vJ m.aT,dP bJ vk uU m.aA,dP dQ Aj7 cj7 (Ey s r aN),dP bJ Aj8 cj8 (Ji m s aN),aS bG 112 Ag3 cg3 ((dS s aN).bL++AZ m s r aN),aS AY 120 Ag5 cg5 ((AZ m s r aN).map wC),dP pX Aj9 cj9 (rdN m s r aN),aS iO 107 CF CG ((dS s aN).eF),dY g3 23 [aF r.jV,aF r.lQ,aF r.All,aF r.nE,aF r.jr,aF r.eP],dY g2 51 [.slice acJ s.eF.length acK,.slice acL s.bY.length acM,.slice acN s.bL.length acO],dY g1 45 [.slice vR m.aT.length vJ,.slice vk m.aA.length uU,.slice uh m.aP.length tq]]) (λhns H17=>?_) ?_
  ·have k15:=(H17.rm s11);refine uw 0 tN 0 sF Y k15<|lD 3 Y (λ_ hK=>D6 (cs':=[.slice CF (((dS s aN).eF).length) CG,.slice Ae1 ((TT (CJ m s r aN).1 m.aA (Ji m s aN) m.aT (Ey s r aN) r.eP r.lQ r.All (aN+r.jr)).length) ce1,.slice Ag3 (((dS s aN).bL++AZ m s r aN).length) cg3]) Ko Y Y (hK.x s0) Y) k15<|uw 4 tN 15 Hl Y k15<|Ci 7 s0 Y k15<|uw 8 tN 16 QY Y k15<|Ci 11 s0 Y k15<|O1 12 Y<|sty Y H17 s11 Y λw27 OB=>?_
   have k16:=(OB.rm s0);refine aQ k16<|xI 13 Y Y k16<|xI 14 Y Y k16<|Dn ⟨Y,OB⟩ Y
  rintro _ w28 ⟨rfl,FJ⟩;refine jf (qA Y ⟨_,_,Y,⟨_,Y,jL (cs:=[.slice CF (((dS s aN).eF).length) CG,.slice Ae1 ((TT (CJ m s r aN).1 m.aA (Ji m s aN) m.aT (Ey s r aN) r.eP r.lQ r.All (aN+r.jr)).length) ce1,.slice Ag3 (((dS s aN).bL++AZ m s r aN).length) cg3]) Ko Y (FJ.x s0)⟩,⟨_,_,Y,Y,⟨_,_,Y,Y,Y⟩⟩⟩ ?_);have ai6:rdB m r=true:=by unfold rdB; rw [hmay.1,hmay.2]; rfl
  have hrq:rdQ m s r aN=true:=by unfold rdQ; first | exact hc101 | (simpa using hc101)
  have zk:((⟨(dS s aN).eF,(TT (CJ m s r aN).1 m.aA (Ji m s aN) m.aT (Ey s r aN) r.eP r.lQ r.All (aN+r.jr)),((dS s aN).bL++AZ m s r aN)⟩:iF):iF)=(mZ m s r aN):=by unfold mZ rdL; rw [aO ai6,aO hrq]
  have hq8:((dS s aN).eF:List fK)=((mZ m s r aN).eF):=by rw [<- zk]
  have AJ:((TT (CJ m s r aN).1 m.aA (Ji m s aN) m.aT (Ey s r aN) r.eP r.lQ r.All (aN+r.jr)):List bD)=((mZ m s r aN).bY):=by rw [<- zk]
  have r9:(((dS s aN).bL++AZ m s r aN):List aM)=((mZ m s r aN).bL):=by rw [<- zk]
  have hq11:((Vg (CJ m s r aN).1 ((CJ m s r aN).2++AZ m s r aN) m.aA (Ji m s aN) m.aT (Ey s r aN) r.eP r.lQ r.All (aN+r.jr)):List aM)=(xF m s r aN):=by unfold xF rdO; rw [aO ai6,aO hrq]
  rw [hq11] at FJ;have hq12:(((AZ m s r aN).map wC):List fV)=(nY m s r aN):=by unfold nY; rw [aO ai6]
  rw [hq12] at FJ;exact⟨CF,CG,Ae1,ce1,Ag3,cg3,Af1,cf1,Ag5,cg5,by first | (rw [hq11,hq12,hq8,AJ,r9] <;> rfl) | (rw [hq8,AJ,r9,hq11,hq12] <;> rfl),by rw [<- hq8,<- AJ,<- r9]; exact((((((((FJ.cU 12 3).rm s10).cU 4 4).cU 0 2).sel s3).sel s2).mV 2 2).sel s4)⟩
 refine jm ?_;refine He FI (λ_ K=>(K.rm s11)) (λl0 rk lJ wJ=>lJ=(9,.slice Ag4 (((CJ m s r aN).2++AZ m s r aN).length) cg4)::(10,.slice Ag5 (((AZ m s r aN).map wC).length) cg5)::l0/\Hp w S0 wJ [dY g4 51 [.slice CF (((dS s aN).eF).length) CG,.slice Ag1 (((CJ m s r aN).1).length) cg1,.slice Ag3 (((dS s aN).bL++AZ m s r aN).length) cg3],dY tN 195 [.slice CF (((dS s aN).eF).length) CG,.slice Ag1 (((CJ m s r aN).1).length) cg1,.slice Ag3 (((dS s aN).bL++AZ m s r aN).length) cg3,.slice vR m.aT.length vJ,.slice vk m.aA.length uU,.slice uh m.aP.length tq,aF r.jV,aF r.lQ,aF r.All,aF r.nE,aF r.jr,aF r.eP,aF aN,.slice Aj7 ((Ey s r aN).length) cj7,.slice Aj8 ((Ji m s aN).length) cj8,.slice Ag4 (((CJ m s r aN).2++AZ m s r aN).length) cg4,.slice Ag5 (((AZ m s r aN).map wC).length) cg5],aS dJ 117 Ag1 cg1 ((CJ m s r aN).1),aS bG 112 Ag3 cg3 ((dS s aN).bL++AZ m s r aN),aS bG 112 Ag4 cg4 ((CJ m s r aN).2++AZ m s r aN),aS AY 120 Ag5 cg5 ((AZ m s r aN).map wC),dP cZ vR vJ m.aT,dP bJ vk uU m.aA,dP dQ Aj7 cj7 (Ey s r aN),dP bJ Aj8 cj8 (Ji m s aN),dP pX Aj9 cj9 (rdN m s r aN),aS iO 107 CF CG ((dS s aN).eF),dY g3 23 [aF r.jV,aF r.lQ,aF r.All,aF r.nE,aF r.jr,aF r.eP],dY g2 51 [.slice acJ s.eF.length acK,.slice acL s.bY.length acM,.slice acN s.bL.length acO],dY g1 45 [.slice vR m.aT.length vJ,.slice vk m.aA.length uU,.slice uh m.aP.length tq]]) (λhns H18=>?_) ?_
 ·have k17:=(H18.rm s11);refine uw 0 tN 0 sF Y k17<|lD 3 Y (λ_ hK=>D6 (cs':=[.slice CF (((dS s aN).eF).length) CG,.slice Ag1 (((CJ m s r aN).1).length) cg1,.slice Ag3 (((dS s aN).bL++AZ m s r aN).length) cg3]) Ko Y Y (hK.x s0) Y) k17<|uw 4 tN 15 Hl Y k17<|Ci 7 s0 Y k17<|uw 8 tN 16 QY Y k17<|Ci 11 s0 Y k17<|O1 12 Y<|sty Y H18 s11 Y λw29 Lx=>?_
  have k18:=(Lx.rm s0);refine aQ k18<|xI 13 Y Y k18<|xI 14 Y Y k18<|Dn ⟨Y,Lx⟩ Y
 rintro _ w30 ⟨rfl,KC⟩;refine jf (qA Y ⟨_,_,Y,⟨_,Y,jL (cs:=[.slice CF (((dS s aN).eF).length) CG,.slice Ag1 (((CJ m s r aN).1).length) cg1,.slice Ag3 (((dS s aN).bL++AZ m s r aN).length) cg3]) Ko Y (KC.x s0)⟩,⟨_,_,Y,Y,⟨_,_,Y,Y,Y⟩⟩⟩ ?_);have ai6:rdB m r=true:=by unfold rdB; rw [hmay.1,hmay.2]; rfl
 have hrq:rdQ m s r aN=false:=by unfold rdQ; first | exact hc101 | (simpa using hc101)
 have TG:((⟨(dS s aN).eF,(CJ m s r aN).1,((dS s aN).bL++AZ m s r aN)⟩:iF):iF)=(mZ m s r aN):=by unfold mZ rdL; rw [aO ai6,aK (by rw [hrq]; decide)]
 have TH:((dS s aN).eF:List fK)=((mZ m s r aN).eF):=by rw [<- TG]
 have Z5:((CJ m s r aN).1:List bD)=((mZ m s r aN).bY):=by rw [<- TG]
 have Xv:(((dS s aN).bL++AZ m s r aN):List aM)=((mZ m s r aN).bL):=by rw [<- TG]
 have Xw:(((CJ m s r aN).2++AZ m s r aN):List aM)=(xF m s r aN):=by unfold xF rdO; rw [aO ai6,aK (by rw [hrq]; decide)]
 rw [Xw] at KC;have Xx:(((AZ m s r aN).map wC):List fV)=(nY m s r aN):=by unfold nY; rw [aO ai6]
 rw [Xx] at KC;exact⟨CF,CG,Ag1,cg1,Ag3,cg3,Ag4,cg4,Ag5,cg5,by first | (rw [Xw,Xx,TH,Z5,Xv] <;> rfl) | (rw [TH,Z5,Xv,Xw,Xx] <;> rfl),by rw [<- TH,<- Z5,<- Xv]; exact(((((KC.cU 12 3).cU 6 5).cU 0 2).mV 0 4).sel s4)⟩
end Go.Proofs.YtlhnnmlenkahlaaGreat
