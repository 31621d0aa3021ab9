/- Lemmas. -/
import Derived.Test.YtlhnnmlenkahlaaGreatvG13
set_option maxRecDepth 4000
set_option linter.all false
namespace Go.Proofs.YtlhnnmlenkahlaaGreat
open Go.RowKit Go.Proofs.Tryz
variable {c d:aI}{l:List aI}{ls:List bB}{l6:Int}{a b:Bool}{S0:Nat->Prop}
structure Lj where
  ds:List aM
  ns:List aW
  ks:List aI
  aG:List Int
  dh:List aI
  dD:Int
  all:Int
  bW:Int
  u:Int
def am1(aG:List Int)(c:aI):List Int:=c.aF.filter fun(x9:Int)=>!(!(aG.contains x9))
def au6(x:Lj)(c:aI)(ls:List bB):List Int:=([c.aF,jM ls c.ID,sN x.ds c.ID]:List (List Int)).flatten
def OC(x:Lj)(c:aI)(ls:List bB):Option aW:=sD x.ns x.aG (jS x.ks x.ns ls) (au6 x c ls) x.ns
def RS(x:Lj)(d:aI)(ls:List bB):Int:=D5 ls (am1 x.aG d) x.dD
def zV(x:Lj)(c d:aI)(ls:List bB):Bool:=((OC x c ls).isSome&&LH ls (am1 x.aG d) x.dD)&&Ik ls x.dD x.all c (RS x d ls) (zR (OC x c ls)) x.u
def R8(x:Lj)(c d:aI)(have_:Int):Nat->List bB × List aM->List bB × List aM
  | 0,s=>s
  | f+1,s=>if have_+((jM s.1 c.ID).length:Int)<x.bW/\zV x c d s.1=true then R8 x c d have_ f (zT s.1 x.dD x.all c (RS x d s.1) (zR (OC x c s.1)) x.u,Ea s.1 s.2 x.dD x.all c (RS x d s.1) (zR (OC x c s.1)) x.u) else s
def aac(x:Lj)(s:List bB × List aM)(n:eP):List bB × List aM:=R8 x (aV x.ks n.aB) (aV x.dh n.aB) n.Have 100 s
def rA(x:Lj)(M:List eP)(s:List bB × List aM):List bB × List aM:=M.foldl (aac x) s
theorem aqK{x:Lj}{h:Int}{f:Nat}{l:List bB}{o:List aM}(hf:0<f)(h1:h+((jM l c.ID).length:Int)<x.bW)(h2:zV x c d l=true):R8 x c d h (f - 1) (zT l x.dD x.all c (RS x d l) (zR (OC x c l)) x.u,Ea l o x.dD x.all c (RS x d l) (zR (OC x c l)) x.u)=R8 x c d h f (l,o):=by
  cases f with
  | zero=>omega
  | succ f=>symm; exact aO ⟨h1,h2⟩
theorem Kw{x:Lj}{h:Int}{l:List bB}{o:List aM}(hn:¬ (h+((jM l c.ID).length:Int)<x.bW/\zV x c d l=true)):∀ f,R8 x c d h f (l,o)=(l,o)
  | 0=>rfl
  | f+1=>aK hn
theorem Jz{dD all:Int}{fr u:Int}(h:Ik ls dD all c fr l6 u=true):(jM (zT ls dD all c fr l6 u) c.ID).length=(jM ls c.ID).length+1/\(zT ls dD all c fr l6 u).length=ls.length+1/\∀ os,(Ea ls os dD all c fr l6 u).length=os.length+1:=by
  have e:zT ls dD all c fr l6 u=ls++[D9 c fr l6 u]:=aO h;refine⟨?_,by rw [e]; simp,λos=>by unfold Ea; rw [aO h]; simp⟩;rw [e]; unfold jM; rw [yg]; simp
theorem ac9{dD all:Int}{fr u:Int}(h:Ik ls dD all c fr l6 u=true):(ls.length:Int)<all:=by
  have h1:oD ls (D9 c fr l6 u) dD all=0:=jC h;unfold oD at h1
  split at h1
  · cases h1
  · split at h1
    · cases h1
    · split at h1
      · cases h1
      · rename_i h3; simp only [not_or] at h3; omega
theorem JA{dD all:Int}{fr u:Int}(h:Ik ls dD all c fr l6 u=false):zT ls dD all c fr l6 u=ls/\∀ os,Ea ls os dD all c fr l6 u=os:=
  ⟨aK (by rw [h]; decide),λos=>aK (by rw [h]; decide)⟩
theorem aad{c:Bool}(h:(!a)=true):((a&&b)&&c)=false:=by cases a <;> simp_all
theorem aae{c:Bool}(h:(!b)=true):((a&&b)&&c)=false:=by cases b <;> simp_all
theorem aaf{c:Bool}(h:c=false):((a&&b)&&c)=false:=by cases c <;> simp_all
theorem ayA{c:Bool}(h:(!c)=false):c=true:=by cases c <;> simp_all
theorem Il{c:Bool}(h:(!c)=true):c=false:=by cases c <;> simp_all
theorem au7{c:Bool}(h1:(!a)=false)(h2:(!b)=false)(h3:c=true):((a&&b)&&c)=true:=by cases a <;> cases b <;> simp_all
theorem Yx{m:Nat}(h:∀ x∈l,x.aF.length<=m)(id:Int):(aV l id).aF.length<=m:=by
  unfold aV; split
  · rename_i c e
    split
    · exact h c (by have:=dA e; unfold dG at this; split at this; exact this; simp at this)
    · simp
  · simp
theorem Ky{x:Lj}{M:List eP}{k:Nat}{n:eP}{s:List bB × List aM}(hn:M[k]? = some n):rA x (M.take (k+1)) s=aac x (rA x (M.take k) s) n:=by
  unfold rA; rw [fI hn,xD]; rfl
theorem agb:kW prog 193:=ay
theorem au8:bI prog 239:=ay
theorem aag(a0:ah)(a0n a0c:Nat)(a1:ah)(a1n a1c:Nat)(a2:ah)(a2n a2c:Nat):∀ w,(Instr.buildSlice 336 3 (List.toArray [(0,.slice a0 a0n a0c),(1,.slice a1 a1n a1c),(2,.slice a2 a2n a2c)])).run prog w=.ok (.slice (some ⟨w.heap.size,0,none⟩) 3 3) (w.alloc (.cells (List.toArray [.slice a0 a0n a0c,.slice a1 a1n a1c,.slice a2 a2n a2c]) 55)):=ay
theorem au9:bI prog 243:=ay
abbrev tH(gJ:List Int)(iK:Int):=!(gJ.contains iK)
theorem am2(w:World)(id:Int){g_d g_r:Nat}{v0 v1 v2 v3 v4 v5 v6 v7 v8 v9 v10 v11 v12 v14 v15 v16:Value}{AV:ah}{cV:Nat}{aG:List Int}(h_d:Bx w g_d 193 [fP g_r])(h_r:Bx w g_r 195 [v0,v1,v2,v3,v4,v5,v6,v7,v8,v9,v10,v11,v12,.slice AV aG.length cV,v14,v15,v16])(aDv:Sl dL S0 w AV cV aG) :
    bO prog 239 #[aD id,fP g_d] w λv w'=>v=.bool (tH aG id)/\Hp w S0 w' []:=by
 refine j4 S0 func239 ntmps239 Y λH0=>iY Y<|rg<|ev (cu agb Y (h_d.ext H0.ext) Y)<|ev (dS Y)<|wC g_r 13 Fv Y<|ev (cu CQ Y (h_r.ext H0.ext) Y)<|mv Y<|lF H0 Y (jT _ (H0.a aDv).any id) λw1 K1=>ev (gZ Y)<|bS Y<|iI Y ?_
 exact⟨Y,K1⟩
abbrev iC(gJ:List aM)(iK:List aW)(tF:List aI)(vP:List Int)(DI:List aI)(OD RU XC y8z y9z:Int):=(⟨gJ,iK,tF,vP,DI,OD,RU,XC,y8z+y9z⟩:Lj)
set_option maxHeartbeats 4000000 in
theorem aqL{b w:World}{S:Nat->Prop}{F:List lC}{g:Nat}{v0 v5 v6 v11 v16:Value}{AL:ah}{cL:Nat}{AD:ah}{cD:Nat}{ds:List aM}{AO:ah}{cO:Nat}{os:List aM}{AN:ah}{cN:Nat}{ns:List aW}{AK:ah}{cK:Nat}{ks:List aI}{AV:ah}{cV:Nat}{aG:List Int}{AS:ah}{cS:Nat}{dh:List aI}{dD all bW eH aN:Int}{AQ:ah}{cQ:Nat}{needs:List eP}(H0:Hp b S w (dJ g 195 [v0,.slice AL ls.length cL,.slice AD ds.length cD,.slice AN ns.length cN,.slice AK ks.length cK,v5,v6,aD dD,aD all,aD bW,aD eH,v11,aD aN,.slice AV aG.length cV,.slice AS dh.length cS,.slice AO os.length cO,v16]::aR dB 117 AL cL ls::aR bF 112 AD cD ds::aR bF 112 AO cO os::dP bX AN cN ns::dP bH AK cK ks::dP dL AV cV aG::dP bH AS cS dh::dP oK AQ cQ needs::F))(hl:ls.length<=64)(hd:ds.length<=100000)(ho:os.length<=1000)(hn:ns.length<=1000)(hc:ks.length<=1000)(hs:dh.length<=1000)(hkk:∀ x∈ks,x.aF.length<=1000)(hh:∀ x∈dh,x.aF.length<=1000)(he:0<=dD/\dD<=64/\all<=64/\bW<=8)(hq:∀ x∈needs,0<=x.Have/\x.Have<=1000)(hnl:needs.length<=100000)(hu:-1099511627776<=aN/\aN<=4398046511104/\-1099511627776<=eH/\eH<=1099511627776) :
    bO prog 155 #[fP g,.slice AQ needs.length cQ] w λv w'=>v=.tuple #[]/\∃ AL' cL' AO' cO',Hp b S w' (dJ g 195 [v0,.slice AL' (((rA (iC ds ns ks aG dh dD all bW aN eH) needs (ls,os)).1).length) cL',.slice AD ds.length cD,.slice AN ns.length cN,.slice AK ks.length cK,v5,v6,aD dD,aD all,aD bW,aD eH,v11,aD aN,.slice AV aG.length cV,.slice AS dh.length cS,.slice AO' (((rA (iC ds ns ks aG dh dD all bW aN eH) needs (ls,os)).2).length) cO',v16]::aR dB 117 AL' cL' ((rA (iC ds ns ks aG dh dD all bW aN eH) needs (ls,os)).1)::aR bF 112 AD cD ds::aR bF 112 AO' cO' ((rA (iC ds ns ks aG dh dD all bW aN eH) needs (ls,os)).2)::dP bX AN cN ns::dP bH AK cK ks::dP dL AV cV aG::dP bH AS cS dh::dP oK AQ cQ needs::F):=by
 refine sF func155 ntmps155 Y<|rg<|bx Y Y H0 λg1 w1 K1=>dn<|WP.sc<|aZ (WP.lab (gB ?_))
 refine bQ Y<|ev (eY oZ Y)<|mv Y<|dn<|cZ ?_
 have d9:(ls:List bB)=(rA (iC ds ns ks aG dh dD all bW aN eH) (needs.take 0) (ls,os)).1:=by rfl
 rw [d9] at K1;have fG:(os:List aM)=(rA (iC ds ns ks aG dh dD all bW aN eH) (needs.take 0) (ls,os)).2:=by rfl
 rw [fG] at K1;refine rR (λmJ lJ wJ=>∃(k:Nat)(A1:ah)(c1:Nat)(SX:ah)(c15:Nat),lJ=[(2,fP g1),(16,.slice AQ needs.length cQ),(17,aD ((needs.length:Nat):Int)),(18,aD ((k:Nat):Int))]/\mJ=needs.length - k/\k<=needs.length/\((rA (iC ds ns ks aG dh dD all bW aN eH) (needs.take k) (ls,os)).2.length+ls.length=os.length+(rA (iC ds ns ks aG dh dD all bW aN eH) (needs.take k) (ls,os)).1.length/\(rA (iC ds ns ks aG dh dD all bW aN eH) (needs.take k) (ls,os)).1.length<=64)/\Hp b S wJ (aR dB 117 A1 c1 ((rA (iC ds ns ks aG dh dD all bW aN eH) (needs.take k) (ls,os)).1)::aR bF 112 SX c15 ((rA (iC ds ns ks aG dh dD all bW aN eH) (needs.take k) (ls,os)).2)::dJ g 195 [v0,.slice A1 (((rA (iC ds ns ks aG dh dD all bW aN eH) (needs.take k) (ls,os)).1).length) c1,.slice AD ds.length cD,.slice AN ns.length cN,.slice AK ks.length cK,v5,v6,aD dD,aD all,aD bW,aD eH,v11,aD aN,.slice AV aG.length cV,.slice AS dh.length cS,.slice SX (((rA (iC ds ns ks aG dh dD all bW aN eH) (needs.take k) (ls,os)).2).length) c15,v16]::dJ g1 193 [fP g]::aR bF 112 AD cD ds::dP bX AN cN ns::dP bH AK cK ks::dP dL AV cV aG::dP bH AS cS dh::dP oK AQ cQ needs::F)) ⟨0,AL,cL,AO,cO,Y,Y,fK _,by exact⟨Nat.add_comm _ _▸rfl,hl⟩,((((K1.sel s3).sel s1).sel s2).mV 3 2)⟩ rfl ?_;rintro _ _ w2 ⟨k,A1,c1,SX,c15,rfl,rfl,hk,hlo,K2⟩;refine rg<|ev (fB Y Y)<|dn<|oC Y (λhc19=>?_) (λhc19=>?_)
 ·refine jh ?_;refine aZ<|cZ<|rg ?_
  obtain⟨x1,bP⟩:=bC (xs:=needs) (i:=k) aj;refine ev (eU (i:=k) oZ pV Y Y Y (aJ bP) ((K2.s s9).some_ bP))<|ev (fV o7 Y Y ((K2.s s9).eX bP))<|al zS Y K2 λg2 w3 K3=>sty Y K3 s0 Y λw4 K4=>dn<|He K4 (λ_ K=>K) (λl0 rk lJ wJ=>∃(rH:Nat)(jE:ah)(jB:Nat),lJ=(6,fP rH)::l0/\Hp b S wJ (dJ rH 59 [aD ((aV ks x1.aB).ID),aD ((aV ks x1.aB).aC),fT ((aV ks x1.aB).Sum),.slice jE (((aV ks x1.aB).aF).length) jB]::dP dL jE jB ((aV ks x1.aB).aF)::rk)) (λhns H1=>?_) ?_
  ·refine Ai 0 s4 Y H1<|Qk 1 g 3 Dk Y H1<|mD 3 4 g 4 kE s3 Y H1<|mD 5 6 g2 0 Oo s0 Y H1<|Jn H1 (λl0 rk lJ wJ=>∃(g3:Nat)(Vz:ah)(VA:Nat),lJ=(6,fP g3)::(32,.bool (gU ks x1.aB))::l0/\Hp b S wJ (dJ g3 59 [aD ((aV ks x1.aB).ID),aD ((aV ks x1.aB).aC),fT ((aV ks x1.aB).Sum),.slice Vz (((aV ks x1.aB).aF).length) VA]::dP dL Vz VA ((aV ks x1.aB).aF)::rk)) 1 8191 ?_ λhS1=>?_
   ·rintro _ RG ⟨g3,Vz,VA,rfl,tO⟩;have k6:=(tO.cU 0 2);refine xJ 13 Y Y k6<|Dn ⟨g3,Vz,VA,Y,tO⟩ Y
   refine O2 7 11 Y Y ?_ ?_
   ·refine gW Y (find_ok _ (H1.s s7) x1.aB aj (λx hx=>by first | (have:=hkk x hx; omega) | (have:=hh x hx; omega))) ?_;rintro _ Qp ⟨aah,aai,rfl,h12⟩;have rW:=H1.c1 h12;have aDw:=(rW.s s0).bN;have k7:=(rW.rm s0);refine aP k7<|kT 8 Y Y k7<|yj 9 Y (vs:=[.agg #[aD ((aV ks x1.aB).ID),aD ((aV ks x1.aB).aC),fT ((aV ks x1.aB).Sum),.slice aah (((aV ks x1.aB).aF).length) aai],.bool (gU ks x1.aB)]) Y Y k7<|yj 10 Y (vs:=[.agg #[aD ((aV ks x1.aB).ID),aD ((aV ks x1.aB).aC),fT ((aV ks x1.aB).Sum),.slice aah (((aV ks x1.aB).aF).length) aai],.bool (gU ks x1.aB)]) Y Y k7<|O1 11 Y<|al kZ Y rW λg5 WO vC=>?_
    have k8:=(vC.cU 0 2);refine aP k8<|O1 12 Y<|sty Y vC s0 Y λXv vo=>?_
    have k9:=(vo.cU 0 2);exact Kj hS1 k9 ⟨g5,aah,aai,Y,vo⟩ Y
   ·refine al kZ Y H1 λg6 Yg yX=>?_;have k10:=(yX.rm s0);refine aP k10<|O1 7 Y<|gW Y (find_ok _ (yX.s s8) x1.aB aj (λx hx=>by first | (have:=hkk x hx; omega) | (have:=hh x hx; omega))) ?_
    rintro _ w16 ⟨aaj,aak,rfl,h16⟩;have Bv:=yX.c1 h16;have ava:=(Bv.s s0).bN;have k11:=(Bv.cU 0 2);refine aP k11<|kT 8 Y Y k11<|yj 9 Y (vs:=[.agg #[aD ((aV ks x1.aB).ID),aD ((aV ks x1.aB).aC),fT ((aV ks x1.aB).Sum),.slice aaj (((aV ks x1.aB).aF).length) aak],.bool (gU ks x1.aB)]) Y Y k11<|yj 10 Y (vs:=[.agg #[aD ((aV ks x1.aB).ID),aD ((aV ks x1.aB).aC),fT ((aV ks x1.aB).Sum),.slice aaj (((aV ks x1.aB).aF).length) aak],.bool (gU ks x1.aB)]) Y Y k11<|O1 12 Y<|sty Y Bv s1 Y λw17 xS=>?_
    have k12:=(xS.cU 0 2);exact Kj hS1 k12 ⟨g6,aaj,aak,Y,xS⟩ Y
  rintro _ w18 ⟨rH,jE,jB,rfl,FR⟩;refine He FR (λ_ K=>K) (λl0 rk lJ wJ=>∃(gj2:Nat)(oQ:ah)(cj2:Nat),lJ=(8,fP gj2)::l0/\Hp b S wJ (dJ gj2 59 [aD ((aV dh x1.aB).ID),aD ((aV dh x1.aB).aC),fT ((aV dh x1.aB).Sum),.slice oQ (((aV dh x1.aB).aF).length) cj2]::aR dL 3 oQ cj2 ((aV dh x1.aB).aF)::rk)) (λhns H2=>?_) ?_
  ·refine Ai 0 s6 Y H2<|Qk 1 g 14 Jv Y H2<|Ai 3 s5 Y H2<|mD 4 5 g2 0 Oo s2 Y H2<|Jn H2 (λl0 rk lJ wJ=>∃(g7:Nat)(SY:ah)(S9:Nat),lJ=(8,fP g7)::(42,.bool (gU dh x1.aB))::l0/\Hp b S wJ (dJ g7 59 [aD ((aV dh x1.aB).ID),aD ((aV dh x1.aB).aC),fT ((aV dh x1.aB).Sum),.slice SY (((aV dh x1.aB).aF).length) S9]::aR dL 3 SY S9 ((aV dh x1.aB).aF)::rk)) 1 4095 ?_ λhS2=>?_
   ·rintro _ w25 ⟨g7,SY,S9,rfl,FT⟩;have k18:=(FT.cU 0 2);refine xJ 12 Y Y k18<|Dn ⟨g7,SY,S9,Y,FT⟩ Y
   refine O2 6 10 Y Y ?_ ?_
   ·refine gW Y (ac5 _ (H2.s s11).any x1.aB aj (λx hx=>by first | (have:=hkk x hx; omega) | (have:=hh x hx; omega))) ?_;rintro _ w26 ⟨Gz,GA,rfl,h26⟩;have Np:=H2.f1 h26;have avb:=(Np.o s0).bN;have k19:=(Np.rm s0);refine aP k19<|kT 7 Y Y k19<|yj 8 Y (vs:=[.agg #[aD ((aV dh x1.aB).ID),aD ((aV dh x1.aB).aC),fT ((aV dh x1.aB).Sum),.slice Gz (((aV dh x1.aB).aF).length) GA],.bool (gU dh x1.aB)]) Y Y k19<|yj 9 Y (vs:=[.agg #[aD ((aV dh x1.aB).ID),aD ((aV dh x1.aB).aC),fT ((aV dh x1.aB).Sum),.slice Gz (((aV dh x1.aB).aF).length) GA],.bool (gU dh x1.aB)]) Y Y k19<|O1 10 Y<|al kZ Y Np λg9 w27 N9=>?_
    have k20:=(N9.cU 0 2);refine aP k20<|O1 11 Y<|sty Y N9 s0 Y λw28 Ig=>?_
    have k21:=(Ig.cU 0 2);exact Kj hS2 k21 ⟨g9,Gz,GA,Y,Ig⟩ Y
   ·refine al kZ Y H2 λg10 w29 Ld=>?_;have k22:=(Ld.rm s0);refine aP k22<|O1 6 Y<|gW Y (ac5 _ (Ld.s s12).any x1.aB aj (λx hx=>by first | (have:=hkk x hx; omega) | (have:=hh x hx; omega))) ?_
    rintro _ w30 ⟨aal,aam,rfl,h30⟩;have LG:=Ld.f1 h30;have avc:=(LG.o s0).bN;have k23:=(LG.cU 0 2);refine aP k23<|kT 7 Y Y k23<|yj 8 Y (vs:=[.agg #[aD ((aV dh x1.aB).ID),aD ((aV dh x1.aB).aC),fT ((aV dh x1.aB).Sum),.slice aal (((aV dh x1.aB).aF).length) aam],.bool (gU dh x1.aB)]) Y Y k23<|yj 9 Y (vs:=[.agg #[aD ((aV dh x1.aB).ID),aD ((aV dh x1.aB).aC),fT ((aV dh x1.aB).Sum),.slice aal (((aV dh x1.aB).aF).length) aam],.bool (gU dh x1.aB)]) Y Y k23<|O1 11 Y<|sty Y LG s1 Y λw31 SG=>?_
    have k24:=(SG.cU 0 2);exact Kj hS2 k24 ⟨g10,aal,aam,Y,SG⟩ Y
  rintro _ w32 ⟨gj2,oQ,cj2,rfl,QD⟩;have aIn:=Yx hkk x1.aB;have aIo:=Yx hh x1.aB;have hqx:=hq _ (dA bP);refine rg<|jD gj2 3 kD QD s0 Y<|ev (qC Y)<|gW Y (nV (kd:=[fP g1]) (QD.sel s1) au8 (λx9=>!(aG.contains x9)) (λw9 ys x9 hl9 K9=>(am2 (S0:=Any) w9 x9 (K9.x s8) (K9.x s7) (K9.s s12).any).mono (by rintro _ w8 ⟨rfl,K8⟩; exact⟨rfl,K8.ext⟩)) aj) ?_
  rintro _ w33 ⟨rfl,Xx⟩;refine bS Y<|cZ<|rR (λmJ lJ wJ=>∃(A1:ah)(c1:Nat)(SX:ah)(c15:Nat)(l:List bB)(o:List aM)(f:Nat),lJ=[(2,fP g1),(5,fP g2),(6,fP rH),(10,.slice oQ ((((aV dh x1.aB).aF).filter λx9=>!(tH aG x9)).length) cj2),(16,.slice AQ needs.length cQ),(17,aD ((needs.length:Nat):Int)),(18,aD ((k:Nat):Int))]/\mJ=f+1/\(o.length+ls.length=os.length+l.length/\l.length<=64)/\(R8 (iC ds ns ks aG dh dD all bW aN eH) (aV ks x1.aB) (aV dh x1.aB) x1.Have f (l,o)=aac (iC ds ns ks aG dh dD all bW aN eH) (rA (iC ds ns ks aG dh dD all bW aN eH) (needs.take k) (ls,os)) x1)/\(bW - x1.Have - ((jM l (aV ks x1.aB).ID).length:Int)<(f:Int))/\Hp b S wJ (aR dB 117 A1 c1 l::aR bF 112 SX c15 o::dJ g 195 [v0,.slice A1 l.length c1,.slice AD ds.length cD,.slice AN ns.length cN,.slice AK ks.length cK,v5,v6,aD dD,aD all,aD bW,aD eH,v11,aD aN,.slice AV aG.length cV,.slice AS dh.length cS,.slice SX o.length c15,v16]::aR dL 3 oQ cj2 (((aV dh x1.aB).aF).filter λx9=>!(tH aG x9))::dJ gj2 59 [aD ((aV dh x1.aB).ID),aD ((aV dh x1.aB).aC),fT ((aV dh x1.aB).Sum),.slice oQ (((aV dh x1.aB).aF).length) cj2]::dJ rH 59 [aD ((aV ks x1.aB).ID),aD ((aV ks x1.aB).aC),fT ((aV ks x1.aB).Sum),.slice jE (((aV ks x1.aB).aF).length) jB]::dP dL jE jB ((aV ks x1.aB).aF)::dJ g2 242 [aD x1.aB,aD x1.Have,aD x1.Live]::dJ g1 193 [fP g]::aR bF 112 AD cD ds::dP bX AN cN ns::dP bH AK cK ks::dP dL AV cV aG::dP bH AS cS dh::dP oK AQ cQ needs::F)) ⟨A1,c1,SX,c15,((rA (iC ds ns ks aG dh dD all bW aN eH) (needs.take k) (ls,os)).1),((rA (iC ds ns ks aG dh dD all bW aN eH) (needs.take k) (ls,os)).2),100,Y,Y,by exact hlo,by rfl,by have:=hq _ (dA bP); omega,((Xx.mV 0 5).mV 5 3)⟩ rfl ?_
  rintro _ _ w34 ⟨A1,c1,SX,c15,l,o,f,rfl,rfl,hlo2,hrep,hff,K34⟩;refine aZ ?_;have hcl:=ac1 l (aV ks x1.aB).ID;refine He K34 (λ_ K=>K) (λl0 rk lJ wJ=>lJ=(60,.bool (decide (x1.Have+(((jM l ((aV ks x1.aB).ID)).length:Nat):Int)<bW)))::l0/\Hp b S wJ rk) (λhns H3=>?_) ?_
  ·refine mD 0 1 g2 1 Om s7 Y H3<|Ai 2 s8 Y H3<|mD 3 4 rH 0 qH s5 Y H3<|Ai 8 s8 Y H3<|Qk 9 g 6 zU Y H3<|mD 11 12 g 9 Ov s2 Y H3<|O1 5 Y<|gW Y (QS ((H3.mV 0 2).sel s2) aj ((aV ks x1.aB).ID)) ?_
   rintro _ w35 ⟨Le,Lh,rfl,K35⟩;have k25:=(((K35.rm s0).sel s0).mV 1 2);refine aP k25<|lH 6 Y (λ_ _=>eY fq Y) k25<|lH 7 Y (λ_ _=>dW Y Y) k25<|lH 13 Y (λ_ _=>fB Y Y) k25<|Dn ⟨Y,(((K35.rm s0).sel s0).mV 1 2)⟩ Y
  rintro _ w36 ⟨rfl,K36⟩;refine kX Y (λagc=>?_) (λagc=>?_)
  ·refine jh ?_;refine cZ ?_;have hgl:=ajL ds (aV ks x1.aB).ID;refine He K36 (λ_ K=>K) (λl0 rk lJ wJ=>∃(Au:ah)(Aw:Nat),lJ=(11,.slice Au (((([((aV ks x1.aB).aF),(jM l ((aV ks x1.aB).ID)),(sN ds ((aV ks x1.aB).ID))]:List (List Int))).flatten).length) Aw)::l0/\Hp b S wJ (aR dL 3 Au Aw ((([((aV ks x1.aB).aF),(jM l ((aV ks x1.aB).ID)),(sN ds ((aV ks x1.aB).ID))]:List (List Int))).flatten)::rk)) (λhns H4=>?_) ?_
   ·refine mD 0 1 rH 3 kD s5 Y H4<|Ai 2 s8 Y H4<|mD 3 4 rH 0 qH s5 Y H4<|Ai 6 s8 Y H4<|Qk 7 g 0 qM Y H4<|mD 9 10 g 2 Bz s2 Y H4<|mD 11 12 rH 0 qH s5 Y H4<|O1 5 Y<|gW Y (QS ((H4.mV 0 2).sel s2) aj ((aV ks x1.aB).ID)) ?_
    rintro _ w37 ⟨Ac2,cc2,rfl,K37⟩;have k26:=(((K37.rm s0).sel s0).mV 1 2);refine aP k26<|O1 13 Y<|gW Y (acZ _ (K37.o s10) ((aV ks x1.aB).ID) aj) ?_
    rintro _ w38 ⟨OE,OG,rfl,h38⟩;have K38:=K37.f1 h38;have aDz:=(K38.o s0).bN;have k27:=(((K38.cU 0 2).sel s0).mV 1 2);refine aP k27<|O1 14 Y ?_
    have H5:=K38.fz s1;have H6:=H5.fz s1;refine bsn (τ:=(Ty.list dL)) (xs:=([((aV ks x1.aB).aF),(jM l ((aV ks x1.aB).ID)),(sN ds ((aV ks x1.aB).ID))]:List (List Int))) (vs:=[(0,.slice jE (((aV ks x1.aB).aF).length) jB),(1,.slice Ac2 ((jM l ((aV ks x1.aB).ID)).length) cc2),(2,.slice OE ((sN ds ((aV ks x1.aB).ID)).length) OG)]) (css:=[[.slice jE (((aV ks x1.aB).aF).length) jB],[.slice Ac2 ((jM l ((aV ks x1.aB).ID)).length) cc2],[.slice OE ((sN ds ((aV ks x1.aB).ID)).length) OG]]) Y (by intro _; apply aag) rfl rfl H6 (λ_ e=>⟨⟨_,_,rfl,(H6.s s8).ext e⟩,⟨_,_,rfl,(H6.s s1).ext e⟩,⟨_,_,rfl,(H6.s s0).ext e⟩,trivial⟩) λg11 w39 K39=>?_;have k28:=(((K39.cU 0 3).sel s0).mV 1 2);refine aP k28<|O1 15 Y<|gW Y (Z9 _ (K39.o s0) (by simp only [BU,List.flatten_nil,Ad,iO]; omega)) ?_
    rintro _ w40 ⟨am3,am4,rfl,h40⟩;have K40:=K39.f1 h40;have k29:=(((K40.cU 0 4).sel s0).mV 1 2);refine aP k29<|xJ 16 Y Y k29<|Dn ⟨am3,am4,Y,(((K40.cU 1 3).sel s1).mV 1 3)⟩ Y
   rintro _ w41 ⟨Au,Aw,rfl,K41⟩;refine He K41 (λ_ K=>K) (λl0 rk lJ wJ=>lJ=(12,aD (zR (sD ns aG (jS ks ns l) ((([((aV ks x1.aB).aF),(jM l ((aV ks x1.aB).ID)),(sN ds ((aV ks x1.aB).ID))]:List (List Int))).flatten) ns)))::(13,.bool ((sD ns aG (jS ks ns l) ((([((aV ks x1.aB).aF),(jM l ((aV ks x1.aB).ID)),(sN ds ((aV ks x1.aB).ID))]:List (List Int))).flatten) ns).isSome))::l0/\Hp b S wJ rk) (λhns H7=>?_) ?_
   ·refine Ai 0 s9 Y H7<|Qk 1 g 3 Dk Y H7<|mD 3 4 g 3 nD s3 Y H7<|Ai 5 s9 Y H7<|Qk 6 g 13 Fv Y H7<|Ai 8 s3 Y H7<|Ai 9 s9 Y H7<|kT 11 Y Y H7<|O1 10 Y<|gW Y (Yv ((((((H7.mV 4 7).sel s9).sel s8).mV 11 2).sel s11).sel s12) aj aj aj) ?_
    rintro _ w42 ⟨Ad1,cd1,rfl,K42⟩;have k30:=(((((((K42.rm s0).mV 2 2).mV 6 7).sel s9).sel s12).sel s11).sel s12);refine aP k30<|O1 12 Y<|lF K42 Y (Yj _ (K42.s s3).any (K42.s s14).any (K42.o s0) (K42.o s5) aj (λx hx=>((Yu _ _ _).1 x hx).1)) λw43 K43=>?_
    have k31:=(((((((K43.rm s0).mV 2 2).mV 6 7).sel s9).sel s12).sel s11).sel s12);refine aP k31<|kT 13 Y Y k31<|lH 14 Y (λ_ _=>vN (vs:=[aD (zR (sD ns aG (jS ks ns l) ((([((aV ks x1.aB).aF),(jM l ((aV ks x1.aB).ID)),(sN ds ((aV ks x1.aB).ID))]:List (List Int))).flatten) ns)),.bool ((sD ns aG (jS ks ns l) ((([((aV ks x1.aB).aF),(jM l ((aV ks x1.aB).ID)),(sN ds ((aV ks x1.aB).ID))]:List (List Int))).flatten) ns).isSome)]) Y Y) k31<|lH 15 Y (λ_ _=>vN (vs:=[aD (zR (sD ns aG (jS ks ns l) ((([((aV ks x1.aB).aF),(jM l ((aV ks x1.aB).ID)),(sN ds ((aV ks x1.aB).ID))]:List (List Int))).flatten) ns)),.bool ((sD ns aG (jS ks ns l) ((([((aV ks x1.aB).aF),(jM l ((aV ks x1.aB).ID)),(sN ds ((aV ks x1.aB).ID))]:List (List Int))).flatten) ns).isSome)]) Y Y) k31<|xJ 16 Y Y k31<|xJ 17 Y Y k31<|Dn ⟨Y,(((((((K43.rm s0).mV 2 2).mV 6 7).sel s9).sel s12).sel s11).sel s12)⟩ Y
   rintro _ w44 ⟨rfl,K44⟩;refine qo ak ak<|bD (cu agb Y (K44.x s9) Y) Y<|bD (dS Y) Y<|bD (eF (q:=⟨g,0,none⟩) qM Y Y) Y<|bD (eF (q:=⟨g,1,none⟩) wS Y Y) Y<|bD (cu ahw Y (K44.x s3) Y) Y<|bD (bA Y) Y<|bD (cu agb Y (K44.x s9) Y) Y<|bD (dS Y) Y<|bD (eF (q:=⟨g,6,none⟩) zU Y Y) Y<|bD (eF (q:=⟨g,7,none⟩) SS Y Y) Y<|bD (cu jG Y (K44.x s3) Y) Y<|IU (v:=.tuple #[aD (D5 l (((aV dh x1.aB).aF).filter λx9=>!(tH aG x9)) dD),.bool (LH l (((aV dh x1.aB).aF).filter λx9=>!(tH aG x9)) dD)]) Y Y Y au9 (λwq eq=>(ajq wq ((K44.o s1).ext eq) ((K44.o s4).ext eq) dD aj aj aj).mono (by rintro _ _ ⟨rfl,fG⟩; exact⟨rfl,fG.ext⟩)) rfl<|bD (bA rfl) rfl<|bD (vN (vs:=[aD (D5 l (((aV dh x1.aB).aF).filter λx9=>!(tH aG x9)) dD),.bool (LH l (((aV dh x1.aB).aF).filter λx9=>!(tH aG x9)) dD)]) rfl rfl) rfl<|bD (vN (vs:=[aD (D5 l (((aV dh x1.aB).aF).filter λx9=>!(tH aG x9)) dD),.bool (LH l (((aV dh x1.aB).aF).filter λx9=>!(tH aG x9)) dD)]) rfl rfl) rfl<|bD (nP rfl) rfl<|bD (nP rfl) rfl<|qp λw45 e45=>?_
   have K45:=K44.grow e45;refine bQ Y<|ev (gZ Y)<|mv Y ?_
   cases ada:(!((sD ns aG (jS ks ns l) ((([((aV ks x1.aB).aF),(jM l ((aV ks x1.aB).ID)),(sN ds ((aV ks x1.aB).ID))]:List (List Int))).flatten) ns).isSome)) with
   | true=>
    refine eB<|eB<|ev (dY Y Y)<|mv Y<|eB<|eB<|eB<|eB<|eB<|eB<|ev (dY Y Y)<|dn<|bR Y (λ_h=>?_) nofun
    refine uU (Lu Y (oz (Lu Y (vK (gB ?_)))));have hnx:(rA (iC ds ns ks aG dh dD all bW aN eH) (needs.take (k+1)) (ls,os))=(l,o):=by rw [Ky bP,<- hrep]; exact Kw (x:=(iC ds ns ks aG dh dD all bW aN eH)) (by first | (rintro⟨hg1,hg⟩; exact absurd hg1 agc) | (rintro⟨_,hg⟩; first | (rw [show zV (iC ds ns ks aG dh dD all bW aN eH) (aV ks x1.aB) (aV dh x1.aB) l=false from aad ada] at hg; cases hg) | (rw [show zV (iC ds ns ks aG dh dD all bW aN eH) (aV ks x1.aB) (aV dh x1.aB) l=false from aae adb] at hg; cases hg) | (rw [show zV (iC ds ns ks aG dh dD all bW aN eH) (aV ks x1.aB) (aV dh x1.aB) l=false from aaf (Il Ed)] at hg; cases hg))) f
    refine jr<|ev (dW Y Y)<|mv Y<|jv ?_
    have jQ:(l:List bB)=(rA (iC ds ns ks aG dh dD all bW aN eH) (needs.take (k+1)) (ls,os)).1:=by first | (rw [hnx]; done) | (rw [hnx]; exact(JA (Il Ed)).1)
    rw [jQ] at K45;have lV:(o:List aM)=(rA (iC ds ns ks aG dh dD all bW aN eH) (needs.take (k+1)) (ls,os)).2:=by first | (rw [hnx]; done) | (rw [hnx]; exact(JA (Il Ed)).2 _)
    rw [lV] at K45;exact dQ ⟨(k+1),A1,c1,SX,c15,Y,Y,aj,by rw [hnx]; exact hlo2,((K45.cU 4 5).rm s0)⟩ rfl aj
   | false=>
    refine bG Y (bA Y) Y<|bG Y (gZ Y) Y<|ev (eG Y Y)<|mv Y ?_
    cases adb:(!(LH l (((aV dh x1.aB).aF).filter λx9=>!(tH aG x9)) dD)) with
    | true=>
     refine eB<|eB<|eB<|eB<|eB<|eB<|ev (dY Y Y)<|dn<|bR Y (λ_h=>?_) nofun
     refine uU (Lu Y (oz (Lu Y (vK (gB ?_)))));have hnx:(rA (iC ds ns ks aG dh dD all bW aN eH) (needs.take (k+1)) (ls,os))=(l,o):=by rw [Ky bP,<- hrep]; exact Kw (x:=(iC ds ns ks aG dh dD all bW aN eH)) (by first | (rintro⟨hg1,hg⟩; exact absurd hg1 agc) | (rintro⟨_,hg⟩; first | (rw [show zV (iC ds ns ks aG dh dD all bW aN eH) (aV ks x1.aB) (aV dh x1.aB) l=false from aad ada] at hg; cases hg) | (rw [show zV (iC ds ns ks aG dh dD all bW aN eH) (aV ks x1.aB) (aV dh x1.aB) l=false from aae adb] at hg; cases hg) | (rw [show zV (iC ds ns ks aG dh dD all bW aN eH) (aV ks x1.aB) (aV dh x1.aB) l=false from aaf (Il Ed)] at hg; cases hg))) f
     refine jr<|ev (dW Y Y)<|mv Y<|jv ?_
     have qU:(l:List bB)=(rA (iC ds ns ks aG dh dD all bW aN eH) (needs.take (k+1)) (ls,os)).1:=by first | (rw [hnx]; done) | (rw [hnx]; exact(JA (Il Ed)).1)
     rw [qU] at K45;have vY:(o:List aM)=(rA (iC ds ns ks aG dh dD all bW aN eH) (needs.take (k+1)) (ls,os)).2:=by first | (rw [hnx]; done) | (rw [hnx]; exact(JA (Il Ed)).2 _)
     rw [vY] at K45;exact dQ ⟨(k+1),A1,c1,SX,c15,Y,Y,aj,by rw [hnx]; exact hlo2,((K45.cU 4 5).rm s0)⟩ rfl aj
    | false=>
     refine gby K45 s9 Y<|bG Y (dK pU Y Y (K45.x s6)) Y<|bG Y (bA Y) Y<|bG Y (bA Y) Y<|nu Y Y Y Y au2 (Vw (((K45.sel s0).mV 1 2).sel s3) (aV ks x1.aB) (D5 l (((aV dh x1.aB).aF).filter λx9=>!(tH aG x9)) dD) (zR (sD ns aG (jS ks ns l) ((([((aV ks x1.aB).aF),(jM l ((aV ks x1.aB).ID)),(sN ds ((aV ks x1.aB).ID))]:List (List Int))).flatten) ns)) aj aj aj) Y ?_
     rintro _ w46 ⟨rfl,Ae1,ce1,Af1,cf1,K46⟩;refine bG Y (gZ Y) Y<|ev (eG Y Y)<|dn<|bR Y (λEd=>?_) (λEd=>?_)
     ·refine uU (Lu Y (oz (Lu Y (vK (gB ?_)))));have hnx:(rA (iC ds ns ks aG dh dD all bW aN eH) (needs.take (k+1)) (ls,os))=(l,o):=by rw [Ky bP,<- hrep]; exact Kw (x:=(iC ds ns ks aG dh dD all bW aN eH)) (by first | (rintro⟨hg1,hg⟩; exact absurd hg1 agc) | (rintro⟨_,hg⟩; first | (rw [show zV (iC ds ns ks aG dh dD all bW aN eH) (aV ks x1.aB) (aV dh x1.aB) l=false from aad ada] at hg; cases hg) | (rw [show zV (iC ds ns ks aG dh dD all bW aN eH) (aV ks x1.aB) (aV dh x1.aB) l=false from aae adb] at hg; cases hg) | (rw [show zV (iC ds ns ks aG dh dD all bW aN eH) (aV ks x1.aB) (aV dh x1.aB) l=false from aaf (Il Ed)] at hg; cases hg))) f
      refine jr<|ev (dW Y Y)<|mv Y<|jv ?_
      have xZ:((zT l dD all (aV ks x1.aB) (D5 l (((aV dh x1.aB).aF).filter λx9=>!(tH aG x9)) dD) (zR (sD ns aG (jS ks ns l) ((([((aV ks x1.aB).aF),(jM l ((aV ks x1.aB).ID)),(sN ds ((aV ks x1.aB).ID))]:List (List Int))).flatten) ns)) (aN+eH)):List bB)=(rA (iC ds ns ks aG dh dD all bW aN eH) (needs.take (k+1)) (ls,os)).1:=by first | (rw [hnx]; done) | (rw [hnx]; exact(JA (Il Ed)).1)
      rw [xZ] at K46;have hq8:((Ea l o dD all (aV ks x1.aB) (D5 l (((aV dh x1.aB).aF).filter λx9=>!(tH aG x9)) dD) (zR (sD ns aG (jS ks ns l) ((([((aV ks x1.aB).aF),(jM l ((aV ks x1.aB).ID)),(sN ds ((aV ks x1.aB).ID))]:List (List Int))).flatten) ns)) (aN+eH)):List aM)=(rA (iC ds ns ks aG dh dD all bW aN eH) (needs.take (k+1)) (ls,os)).2:=by first | (rw [hnx]; done) | (rw [hnx]; exact(JA (Il Ed)).2 _)
      rw [hq8] at K46;exact dQ ⟨(k+1),Ae1,ce1,Af1,cf1,Y,Y,aj,by rw [hnx]; exact hlo2,(((K46.cU 3 6).sel s0).mV 1 2)⟩ rfl aj
     have aqM:=ayA Ed;have hgo:zV (iC ds ns ks aG dh dD all bW aN eH) (aV ks x1.aB) (aV dh x1.aB) l=true:=au7 ada adb aqM;have aDB:x1.Have+((jM l (aV ks x1.aB).ID).length:Int)<bW:=aj;refine xH (ig ?_);exact dQ ⟨Ae1,ce1,Af1,cf1,(zT l dD all (aV ks x1.aB) (D5 l (((aV dh x1.aB).aF).filter λx9=>!(tH aG x9)) dD) (zR (sD ns aG (jS ks ns l) ((([((aV ks x1.aB).aF),(jM l ((aV ks x1.aB).ID)),(sN ds ((aV ks x1.aB).ID))]:List (List Int))).flatten) ns)) (aN+eH)),(Ea l o dD all (aV ks x1.aB) (D5 l (((aV dh x1.aB).aF).filter λx9=>!(tH aG x9)) dD) (zR (sD ns aG (jS ks ns l) ((([((aV ks x1.aB).aF),(jM l ((aV ks x1.aB).ID)),(sN ds ((aV ks x1.aB).ID))]:List (List Int))).flatten) ns)) (aN+eH)),(f - 1),Y,Y,by have hcb:=Jz aqM; have hca:=ac9 aqM; rw [hcb.2.1,hcb.2.2]; omega,by exact(aqK (x:=(iC ds ns ks aG dh dD all bW aN eH)) aj aDB hgo).trans hrep,by have hcb:=Jz aqM; rw [hcb.1]; omega,(((K46.rm s3).sel s0).mV 1 2)⟩ rfl aj
  refine uU (oz (oz (vK (ig (gB ?_)))));have hnx:(rA (iC ds ns ks aG dh dD all bW aN eH) (needs.take (k+1)) (ls,os))=(l,o):=by rw [Ky bP,<- hrep]; exact Kw (x:=(iC ds ns ks aG dh dD all bW aN eH)) (by first | (rintro⟨hg1,hg⟩; exact absurd hg1 agc) | (rintro⟨_,hg⟩; first | (rw [show zV (iC ds ns ks aG dh dD all bW aN eH) (aV ks x1.aB) (aV dh x1.aB) l=false from aad ada] at hg; cases hg) | (rw [show zV (iC ds ns ks aG dh dD all bW aN eH) (aV ks x1.aB) (aV dh x1.aB) l=false from aae adb] at hg; cases hg) | (rw [show zV (iC ds ns ks aG dh dD all bW aN eH) (aV ks x1.aB) (aV dh x1.aB) l=false from aaf (Il Ed)] at hg; cases hg))) f
  refine jr<|ev (dW Y Y)<|mv Y<|jv ?_
  have yT:(l:List bB)=(rA (iC ds ns ks aG dh dD all bW aN eH) (needs.take (k+1)) (ls,os)).1:=by first | (rw [hnx]; done) | (rw [hnx]; exact(JA (Il Ed)).1)
  rw [yT] at K36;have qI:(o:List aM)=(rA (iC ds ns ks aG dh dD all bW aN eH) (needs.take (k+1)) (ls,os)).2:=by first | (rw [hnx]; done) | (rw [hnx]; exact(JA (Il Ed)).2 _)
  rw [qI] at K36;exact dQ ⟨(k+1),A1,c1,SX,c15,Y,Y,aj,by rw [hnx]; exact hlo2,(K36.cU 3 5)⟩ rfl aj
 refine uU (oz (oz (vK (kV.apX (qA (zD Y ?_))))));have hfk:needs.take k=needs:=iD aj;rw [hfk] at K2;have H8:=(K2.rm s3);exact⟨Y,_,_,_,_,((((H8.sel s1).sel s3).sel s2).sel s3)⟩
def R9(s:iM)(r:ARules)(aN:Int):List Int:=(Ju (gY s aN).dX aN r.ku).map eZ.Node
def OH(m:dU)(s:iM)(aN:Int):List aI:=RQ m.aA (gY s aN).dM
def rdN(m:dU)(s:iM)(r:ARules)(aN:Int):List eP:=EL (OH m s aN) m.aY (R9 s r aN) r.qj
abbrev rdX(m:dU)(s:iM)(r:ARules)(aN:Int):Lj:=⟨(gY s aN).dM,m.aY,m.aA,R9 s r aN,OH m s aN,r.l5,r.All,r.qj,aN+r.jy⟩
def DN(m:dU)(s:iM)(r:ARules)(aN:Int):List bB × List aM:=rA (rdX m s r aN) (rdN m s r aN) ((gY s aN).bY,[])
def Fz(m:dU)(s:iM)(r:ARules)(aN:Int):List aM:=yB (DN m s r aN).1 m.aA m.aY (R9 s r aN) r.qj (aN+r.jy) (OH m s aN)
def rdQ(m:dU)(s:iM)(r:ARules)(aN:Int):Bool:=(decide (((rdN m s r aN).length:Int)=0)&&decide (((DN m s r aN).1.length:Int)=0))&&decide ((((gY s aN).dM++Fz m s r aN).length:Int)=0)
def rdL(m:dU)(s:iM)(r:ARules)(aN:Int):List bB:=if rdQ m s r aN=true then QT (DN m s r aN).1 m.aA (OH m s aN) m.aY (R9 s r aN) r.fA r.l5 r.All (aN+r.jy) else(DN m s r aN).1
def rdO(m:dU)(s:iM)(r:ARules)(aN:Int):List aM:=if rdQ m s r aN=true then Vx (DN m s r aN).1 ((DN m s r aN).2++Fz m s r aN) m.aA (OH m s aN) m.aY (R9 s r aN) r.fA r.l5 r.All (aN+r.jy) else(DN m s r aN).2++Fz m s r aN
def rdB(m:dU)(r:ARules):Bool:=nM r&&lY m.aA
def qh(m:dU)(s:iM)(r:ARules)(aN:Int):iM:=if rdB m r=true then⟨(gY s aN).dX,rdL m s r aN,(gY s aN).dM++Fz m s r aN⟩ else s
def xY(m:dU)(s:iM)(r:ARules)(aN:Int):List aM:=if rdB m r=true then rdO m s r aN else[]
def qN(m:dU)(s:iM)(r:ARules)(aN:Int):List gD:=if rdB m r=true then(Fz m s r aN).map za else[]
theorem aan(h:pF c=true):c.aF.length<=16:=by
  rcases F8 _ _ (rV h).2.2 with h1 | h1
  · rw [h1]; simp
  · omega
theorem ade(ds:List aM)(c:aI):(RP ds c).aF.length<=c.aF.length:=lX _ _
theorem adf{x:Lj}{c d:aI}{h:Int}(ha:x.all<=64):∀(f:Nat)(l:List bB)(o:List aM),l.length<=64->(R8 x c d h f (l,o)).1.length<=64/\(R8 x c d h f (l,o)).2.length+l.length=o.length+(R8 x c d h f (l,o)).1.length
  | 0,l,o,hl=>⟨hl,by show o.length+l.length=o.length+l.length; rfl⟩
  | f+1,l,o,hl=>by
    unfold R8
    split
    · rename_i hc
      have hg:Ik l x.dD x.all c (RS x d l) (zR (OC x c l)) x.u=true:=by
        have:=hc.2; unfold zV at this; simp only [bK] at this; exact this.2
      have h1:=Jz hg;have h2:=ac9 hg;have ih:=adf (c:=c) (d:=d) (h:=h) ha f (zT l x.dD x.all c (RS x d l) (zR (OC x c l)) x.u) (Ea l o x.dD x.all c (RS x d l) (zR (OC x c l)) x.u) (by rw [h1.2.1]; omega);rw [h1.2.1,h1.2.2] at ih;have key:∀ r:List bB × List aM,r.2.length+(l.length+1)=o.length+1+r.1.length->r.2.length+l.length=o.length+r.1.length:=by intro r h; omega
      exact⟨ih.1,key _ ih.2⟩
    · exact⟨hl,Y⟩
theorem VB{x:Lj}(ha:x.all<=64):∀(M:List eP)(s:List bB × List aM),s.1.length<=64->(rA x M s).1.length<=64/\(rA x M s).2.length+s.1.length=s.2.length+(rA x M s).1.length
  | [],s,hs=>⟨hs,rfl⟩
  | n::M,s,hs=>by
    have h1:=adf (c:=aV x.ks n.aB) (d:=aV x.dh n.aB) (h:=n.Have) ha 100 s.1 s.2 hs;have h2:=VB ha M (aac x s n) h1.1;refine⟨h2.1,?_⟩;have h3:(aac x s n).2.length+s.1.length=s.2.length+(aac x s n).1.length:=h1.2;have h4:=h2.2;show(rA x M (aac x s n)).2.length+s.1.length=s.2.length+(rA x M (aac x s n)).1.length;omega
theorem Kz(s:iM)(aN:Int):(gY s aN).bY.length<=s.bY.length/\(gY s aN).dM.length<=s.dM.length:=⟨lX _ _,lX _ _⟩
theorem avd{m:dU}(hm:lY m.aA=true)(s:iM)(r:ARules)(aN:Int):∀ x∈rdN m s r aN,0<=x.Have/\x.Have<=1000:=by
  intro x hx;obtain⟨c,hc,_,rfl⟩:=afZ.1 hx;obtain⟨c0,h0,rfl⟩:=jI.1 hc;have h1:=aan ((mQ.1 hm).1 c0 h0);have h2:=ade (gY s aN).dM c0;have h3:(j3 (RP (gY s aN).dM c0) m.aY (R9 s r aN)).length<=(RP (gY s aN).dM c0).aF.length:=lG (lX _ _) (lX _ _)
  simp only [RL]; omega
theorem aao(hm:lY l=true)(k:Nat)(hk:16<=k):∀ x∈l,x.aF.length<=k:=λx hx=>by have:=aan ((mQ.1 hm).1 x hx); omega
theorem Tc(hm:lY l=true)(ds:List aM)(k:Nat)(hk:16<=k):∀ x∈RQ l ds,x.aF.length<=k:=λx hx=>by
  obtain⟨c,hc,rfl⟩:=jI.1 hx;have:=aan ((mQ.1 hm).1 c hc); have:=ade ds c; omega
theorem KA(l:List aI)(ds:List aM):(RQ l ds).length=l.length:=jN ..
theorem zA{r:ARules}(h:nM r=true):(1<=r.ku/\r.ku<=1048576)/\(1<=r.jy/\r.jy<=1048576)/\(1<=r.l5/\r.l5<=64)/\(1<=r.All/\r.All<=64)/\(1<=r.qj/\r.qj<=8)/\1<=r.fA/\r.fA<=16:=by
  simp only [nM,oV,bK,bL] at h; omega
theorem ayE:Size prog 23 6:=ay
theorem OI:XY prog 23 6:=⟨λ_=>by kernel_rfl,ayE⟩
theorem JB(a0:ah)(a0n a0c:Nat)(a1:ah)(a1n a1c:Nat)(a2:ah)(a2n a2c:Nat):prog.built 51 [(0,.slice a0 a0n a0c),(1,.slice a1 a1n a1c),(2,.slice a2 a2n a2c)]=some #[.slice a0 a0n a0c,.slice a1 a1n a1c,.slice a2 a2n a2c]:=ak
theorem am5:Size prog 45 3:=ay
theorem qO:XY prog 45 3:=⟨λ_=>by kernel_rfl,am5⟩
theorem MP(Vl:ah)(RI RJ:Nat)(adg:ah)(adh adi:Nat)(adk:ah)(adl adn:Nat)(ayF:ah)(atc atd:Nat)(ayG:ah)(ate atf:Nat)(ayH:ah)(atg ath:Nat)(ayI:Int)(ayJ:Int)(ayK:Int)(ayL:Int)(ayM:Int)(ayN:Int)(a3:Int):prog.built 195 [(0,.agg #[.slice Vl RI RJ,.slice adg adh adi,.slice adk adl adn]),(1,.agg #[.slice ayF atc atd,.slice ayG ate atf,.slice ayH atg ath]),(2,.agg #[aD ayI,aD ayJ,aD ayK,aD ayL,aD ayM,aD ayN]),(3,aD a3)]=some #[.slice Vl RI RJ,.slice adg adh adi,.slice adk adl adn,.slice ayF atc atd,.slice ayG ate atf,.slice ayH atg ath,aD ayI,aD ayJ,aD ayK,aD ayL,aD ayM,aD ayN,aD a3,.slice none 0 0,.slice none 0 0,.slice none 0 0,.slice none 0 0]:=ak
set_option maxHeartbeats 2000000 in
theorem ado(w:World)(m:dU){uS:ah}{uG:Nat}(GD:Sl bX S0 w uS uG m.aY){tZ:ah}{tJ:Nat}(IB:Sl bH S0 w tZ tJ m.aA){r9:ah}{rC:Nat}(OJ:Sl bZ S0 w r9 rC m.aQ)(s:iM){ZW:ah}{ZX:Nat}(aqC:Sl iL S0 w ZW ZX s.dX){ZY:ah}{Z0:Nat}(aqD:Sl dB S0 w ZY Z0 s.bY){Z4:ah}{Z5:Nat}(aqE:Sl bF S0 w Z4 Z5 s.dM)(r:ARules)(aN:Int)(hb:s.dX.length<=1000)(hl:s.bY.length<=64)(hd:s.dM.length<=50000)(hn:m.aY.length<=1000)(hc:m.aA.length<=1000)(hu:0<=aN/\aN<=1099511627776) :
    bO prog 89 #[.agg #[.slice uS m.aY.length uG,.slice tZ m.aA.length tJ,.slice r9 m.aQ.length rC],.agg #[.slice ZW s.dX.length ZX,.slice ZY s.bY.length Z0,.slice Z4 s.dM.length Z5],.agg #[aD r.ku,aD r.l5,aD r.All,aD r.qj,aD r.jy,aD r.fA],aD aN] w λv w'=>∃(uP:ah)(uQ:Nat)(xU:ah)(xV:Nat)(xW:ah)(xX:Nat)(A1:ah)(c1:Nat)(A2:ah)(c2:Nat),v=.tuple #[.agg #[.slice uP (((qh m s r aN).dX).length) uQ,.slice xU (((qh m s r aN).bY).length) xV,.slice xW (((qh m s r aN).dM).length) xX],.slice A1 ((xY m s r aN).length) c1,.slice A2 ((qN m s r aN).length) c2]/\Hp w S0 w' [aR iL 107 uP uQ ((qh m s r aN).dX),aR dB 117 xU xV ((qh m s r aN).bY),aR bF 112 xW xX ((qh m s r aN).dM),aR bF 112 A1 c1 (xY m s r aN),aR yY 120 A2 c2 (qN m s r aN)]:=by
 refine j4 S0 func89 ntmps89 Y λH0=>rg<|bx Y Y H0 λg1 w1 K1=>bx Y Y K1 λg2 w2 K2=>bx Y Y K2 λg3 w3 K3=>al Ox Y K3 λg4 w4 K4=>iA Y<|bS Y<|aZ<|rg<|ev (dK OI Y Y (K4.x s1))<|lF K4 Y (ZV (S0:=Any) _ r) λw5 K5=>ev (gZ Y)<|mv Y<|nA 5 21 ((!(nM r))||(!(lY m.aA))) ?_ ?_
 ·cases UN:(!(nM r)) with
  | true=>
   refine eB<|eB<|eB<|eB<|ev (dY Y Y)<|iH Y (om _)
  | false=>
   refine wP g1 1 kE K5 s3 Y<|nu Y Y Y Y alD (Kr _ (K5.a IB).any aj) Y ?_
   rintro _ w6 ⟨rfl,h6⟩;refine bG Y (gZ Y) Y<|ev (eG Y Y)<|iH Y h6.ext
 intro w7 e7;have K7:=K5.grow e7;refine dn<|bR Y (λhc21=>?_) (λhc21=>?_)
 ·have hrb:rdB m r=false:=by unfold rdB; revert hc21; cases nM r <;> cases lY m.aA <;> simp
  refine He K7 (λ_ K=>(K.rm s0)) (λl0 rk lJ wJ=>∃(jE:ah)(jB:Nat)(oQ:ah)(cj2:Nat)(wm:ah)(vD:Nat),lJ=l0/\Hp w S0 wJ (dJ g4 51 [.slice wm s.dX.length vD,.slice oQ s.bY.length cj2,.slice jE s.dM.length jB]::aR bF 112 jE jB s.dM::aR dB 117 oQ cj2 s.bY::aR iL 107 wm vD s.dX::rk)) (λhns H1=>?_) ?_
  ·have k1:=(H1.rm s0);refine mD 0 1 g2 0 D7 s1 Y k1<|mD 3 4 g2 1 wS s1 Y k1<|mD 6 7 g2 2 Bz s1 Y k1<|O1 2 Y<|gW Y (Bw _ (H1.a aqC).any aj) ?_
   rintro _ w8 ⟨E8,E9,rfl,h8⟩;have K8:=H1.f1 h8;have k2:=(K8.cU 0 2);refine aP k2<|O1 5 Y<|gW Y (zH _ (K8.a aqD).any aj) ?_
   rintro _ w9 ⟨aqN,aqO,rfl,h9⟩;have K9:=K8.f1 h9;have k3:=(K9.cU 0 3);refine aP k3<|O1 8 Y<|gW Y (zI _ (K9.a aqE).any aj) ?_
   rintro _ Nn ⟨LQ,LU,rfl,h10⟩;have K10:=K9.f1 h10;have k4:=(K10.cU 0 4);refine aP k4<|lH 9 Y (λ_ _=>iE (vs:=[(0,.slice E8 s.dX.length E9),(1,.slice aqN s.bY.length aqO),(2,.slice LQ s.dM.length LU)]) (cs:=[.slice E8 s.dX.length E9,.slice aqN s.bY.length aqO,.slice LQ s.dM.length LU]) Y (by apply JB)) k4<|O1 10 rfl<|sty rfl K10 s3 rfl λRG tO=>?_
   have k5:=(tO.cU 0 4);refine aP k5<|xJ 11 Y Y k5<|xJ 12 Y Y k5<|Dn ⟨LQ,LU,aqN,aqO,E8,E9,Y,tO⟩ Y
  rintro _ Qp ⟨jE,jB,oQ,cj2,wm,vD,rfl,rW⟩;refine je (gL (oW Y ⟨_,_,Y,⟨_,Y,jm (cs:=[.slice wm s.dX.length vD,.slice oQ s.bY.length cj2,.slice jE s.dM.length jB]) Ij Y (rW.x s0)⟩,⟨_,_,Y,Y,⟨_,_,Y,Y,Y⟩⟩⟩ ?_));have d9:((⟨s.dX,s.bY,s.dM⟩:iM):iM)=(qh m s r aN):=by unfold qh; rw [aK (by rw [hrb]; decide)]
  have fG:(s.dX:List eZ)=((qh m s r aN).dX):=by rw [<- d9]
  have jQ:(s.bY:List bB)=((qh m s r aN).bY):=by rw [<- d9]
  have lV:(s.dM:List aM)=((qh m s r aN).dM):=by rw [<- d9]
  have H2:=rW.nil bF 112;have qU:(([]:List aM):List aM)=(xY m s r aN):=by unfold xY; rw [aK (by rw [hrb]; decide)]
  have H3:=(qU▸H2:Hp w S0 Qp (aR bF 112 none 0 (xY m s r aN)::[dJ g4 51 [.slice wm s.dX.length vD,.slice oQ s.bY.length cj2,.slice jE s.dM.length jB],aR bF 112 jE jB s.dM,aR dB 117 oQ cj2 s.bY,aR iL 107 wm vD s.dX,dJ g3 23 [aD r.ku,aD r.l5,aD r.All,aD r.qj,aD r.jy,aD r.fA],dJ g2 51 [.slice ZW s.dX.length ZX,.slice ZY s.bY.length Z0,.slice Z4 s.dM.length Z5],dJ g1 45 [.slice uS m.aY.length uG,.slice tZ m.aA.length tJ,.slice r9 m.aQ.length rC]]));have H4:=H3.nil yY 120;have vY:(([]:List gD):List gD)=(qN m s r aN):=by unfold qN; rw [aK (by rw [hrb]; decide)]
  have H5:=(vY▸H4:Hp w S0 Qp (aR yY 120 none 0 (qN m s r aN)::[aR bF 112 none 0 (xY m s r aN),dJ g4 51 [.slice wm s.dX.length vD,.slice oQ s.bY.length cj2,.slice jE s.dM.length jB],aR bF 112 jE jB s.dM,aR dB 117 oQ cj2 s.bY,aR iL 107 wm vD s.dX,dJ g3 23 [aD r.ku,aD r.l5,aD r.All,aD r.qj,aD r.jy,aD r.fA],dJ g2 51 [.slice ZW s.dX.length ZX,.slice ZY s.bY.length Z0,.slice Z4 s.dM.length Z5],dJ g1 45 [.slice uS m.aY.length uG,.slice tZ m.aA.length tJ,.slice r9 m.aQ.length rC]]));exact⟨wm,vD,oQ,cj2,jE,jB,none,0,none,0,by first | (rw [fG,jQ,lV,<- qU,<- vY] <;> rfl) | (rw [fG,jQ,lV,<- qU,<- vY] <;> rfl),by rw [<- fG,<- jQ,<- lV]; exact(((((((H5.cU 6 3).rm s2).sel s0).sel s1).sel s2).sel s3).sel s4)⟩
 have hrb:nM r=true/\lY m.aA=true:=by revert hc21; cases nM r <;> cases lY m.aA <;> simp
 refine jh ?_;refine He K7 (λ_ K=>K) (λl0 rk lJ wJ=>∃(rH:Nat)(Au:ah)(Aw:Nat)(Aj5:ah)(cj5:Nat)(Aj6:ah)(cj6:Nat),lJ=(11,fP rH)::l0/\Hp w S0 wJ (dJ rH 195 [.slice Au (((gY s aN).dX).length) Aw,.slice Aj5 (((gY s aN).bY).length) cj5,.slice Aj6 (((gY s aN).dM).length) cj6,.slice uS m.aY.length uG,.slice tZ m.aA.length tJ,.slice r9 m.aQ.length rC,aD r.ku,aD r.l5,aD r.All,aD r.qj,aD r.jy,aD r.fA,aD aN,.slice none 0 0,.slice none 0 0,.slice none 0 0,.slice none 0 0]::aR iL 107 Au Aw ((gY s aN).dX)::aR dB 117 Aj5 cj5 ((gY s aN).bY)::aR bF 112 Aj6 cj6 ((gY s aN).dM)::rk)) (λhns H6=>?_) ?_
 ·refine lH 0 Y (λ_ hK=>dK Ij Y Y (hK.x s2)) H6<|kT 1 Y Y H6<|lH 3 Y (λ_ hK=>dK qO Y Y (hK.x s3)) H6<|lH 4 Y (λ_ hK=>dK OI Y Y (hK.x s1)) H6<|kT 5 Y Y H6<|O1 2 Y<|gW Y (ac0 _ s (H6.a aqC).any (H6.a aqD).any (H6.a aqE).any aN aj aj aj) ?_
  rintro _ WO ⟨oL,oM,wV,wW,wX,wY,rfl,h13⟩;have vC:=H6.f3 h13;have k6:=(vC.cU 0 3);refine aP k6<|lH 6 Y (λ_ _=>iE (vs:=[(0,.agg #[.slice oL (((gY s aN).dX).length) oM,.slice wV (((gY s aN).bY).length) wW,.slice wX (((gY s aN).dM).length) wY]),(1,.agg #[.slice uS m.aY.length uG,.slice tZ m.aA.length tJ,.slice r9 m.aQ.length rC]),(2,.agg #[aD r.ku,aD r.l5,aD r.All,aD r.qj,aD r.jy,aD r.fA]),(3,aD aN)]) (cs:=[.slice oL (((gY s aN).dX).length) oM,.slice wV (((gY s aN).bY).length) wW,.slice wX (((gY s aN).dM).length) wY,.slice uS m.aY.length uG,.slice tZ m.aA.length tJ,.slice r9 m.aQ.length rC,aD r.ku,aD r.l5,aD r.All,aD r.qj,aD r.jy,aD r.fA,aD aN,.slice none 0 0,.slice none 0 0,.slice none 0 0,.slice none 0 0]) Y (by apply MP)) k6<|O1 7 rfl<|bx rfl rfl vC λg5 Xv vo=>?_
  have k7:=(vo.cU 0 4);refine aP k7<|xJ 8 Y Y k7<|Dn ⟨g5,oL,oM,wV,wW,wX,wY,Y,vo⟩ Y
 rintro _ Yg ⟨rH,Au,Aw,Aj5,cj5,Aj6,cj6,rfl,yX⟩;refine He yX (λ_ K=>(K.rm s0)) (λl0 rk lJ wJ=>∃(Aj7:ah)(cj7:Nat),lJ=l0/\Hp w S0 wJ (dJ rH 195 [.slice Au (((gY s aN).dX).length) Aw,.slice Aj5 (((gY s aN).bY).length) cj5,.slice Aj6 (((gY s aN).dM).length) cj6,.slice uS m.aY.length uG,.slice tZ m.aA.length tJ,.slice r9 m.aQ.length rC,aD r.ku,aD r.l5,aD r.All,aD r.qj,aD r.jy,aD r.fA,aD aN,.slice Aj7 ((R9 s r aN).length) cj7,.slice none 0 0,.slice none 0 0,.slice none 0 0]::aR dL 3 Aj7 cj7 (R9 s r aN)::rk)) (λhns H7=>?_) ?_
 ·have k8:=(H7.rm s0);refine kT 0 Y Y k8<|sw 1 rH 0 qM Y k8<|Ko 4 rH 0 D7 Y k8<|kT 6 Y Y k8<|mD 7 8 g3 0 ZT s4 Y k8<|O1 5 Y<|mK H7 s0 Y<|aP k8<|O1 9 Y<|gW Y (LP _ (H7.o s1) aN r.ku (lG hb au)) ?_
  rintro _ w16 ⟨Og,Oh,rfl,h16⟩;have Bv:=H7.f1 h16;have ava:=(Bv.o s0).bN;have k9:=(Bv.cU 0 2);refine aP k9<|Qk 10 rH 13 Fv Y k9<|O1 12 Y<|wD Y Bv s1 Y λw17 xS=>?_
  have k10:=(xS.cU 0 2);refine aP k10<|Dn ⟨Og,Oh,Y,xS⟩ Y
 rintro _ w18 ⟨Aj7,cj7,rfl,FR⟩;refine He FR (λ_ K=>(K.rm s0)) (λl0 rk lJ wJ=>∃(Aj8:ah)(cj8:Nat),lJ=l0/\Hp w S0 wJ (dJ rH 195 [.slice Au (((gY s aN).dX).length) Aw,.slice Aj5 (((gY s aN).bY).length) cj5,.slice Aj6 (((gY s aN).dM).length) cj6,.slice uS m.aY.length uG,.slice tZ m.aA.length tJ,.slice r9 m.aQ.length rC,aD r.ku,aD r.l5,aD r.All,aD r.qj,aD r.jy,aD r.fA,aD aN,.slice Aj7 ((R9 s r aN).length) cj7,.slice Aj8 ((OH m s aN).length) cj8,.slice none 0 0,.slice none 0 0]::aR bH 59 Aj8 cj8 (OH m s aN)::rk)) (λhns H8=>?_) ?_
 ·have k11:=(H8.rm s0);refine kT 0 Y Y k11<|mD 1 2 g1 1 kE s7 Y k11<|sw 3 rH 0 qM Y k11<|Ko 6 rH 2 Bz Y k11<|O1 7 Y<|mK H8 s0 Y<|aP k11<|O1 8 Y<|gW Y (amV _ (H8.a IB) (H8.o s4) aj (by have:=(Kz s aN).2; omega) (aao hrb.2 _ au)) ?_
  rintro _ w19 ⟨am6,am7,rfl,h19⟩;have Bf:=H8.c1 h19;have aDC:=(Bf.o s0).bN;have k12:=(Bf.cU 0 2);refine aP k12<|Qk 9 rH 14 Jv Y k12<|O1 11 Y<|wD Y Bf s1 Y λw20 DL=>?_
  have k13:=(DL.cU 0 2);refine aP k13<|Dn ⟨am6,am7,Y,DL⟩ Y
 rintro _ w21 ⟨Aj8,cj8,rfl,Gp⟩;refine He Gp (λ_ K=>K) (λl0 rk lJ wJ=>∃(Aj9:ah)(cj9:Nat),lJ=(12,.slice Aj9 ((rdN m s r aN).length) cj9)::l0/\Hp w S0 wJ (aR oK 242 Aj9 cj9 (rdN m s r aN)::rk)) (λhns H9=>?_) ?_
 ·refine sw 0 rH 14 Jv Y H9<|Ai 3 s0 Y H9<|mD 4 5 g1 0 nD s9 Y H9<|sw 6 rH 13 Fv Y H9<|Ai 9 s0 Y H9<|mD 10 11 g3 3 Ov s7 Y H9<|O1 12 Y<|gW Y (amI _ (H9.o s1) (H9.a GD).any (H9.o s2) r.qj (by have:=KA m.aA (gY s aN).dM; show(RQ m.aA (gY s aN).dM).length<=_; omega) (Tc hrb.2 _ _ au) aj) ?_
  rintro _ w22 ⟨acR,acS,rfl,h22⟩;have Fa:=H9.f1 h22;have auW:=(Fa.o s0).bN;have k14:=(Fa.rm s0);refine aP k14<|xJ 13 Y Y k14<|Dn ⟨acR,acS,Y,Fa⟩ Y
 rintro _ w23 ⟨Aj9,cj9,rfl,Jk⟩;have H10:=Jk.fz s3;have H11:=H10.fz s3;have H12:=H11.fz s2;have H13:=H12.push (H12.a GD);have H14:=H13.push (H13.a IB);have H15:=H14.nil bF 112;have H16:=H15.nil yY 120;have hmay:nM r=true/\lY m.aA=true:=hrb;have hbd:=zA hmay.1;have hpl:=Kz s aN;have hsl:(OH m s aN).length=m.aA.length:=KA _ _;have hnl:(rdN m s r aN).length<=(OH m s aN).length:=af0 _ _ _ _;have hrl:=VB (x:=rdX m s r aN) hbd.2.2.2.1.2 (rdN m s r aN) ((gY s aN).bY,[]) (lG hpl.1 hl);have ayQ:(DN m s r aN).1.length<=64:=hrl.1;have hrl2:(DN m s r aN).2.length<=64:=by have h2:=hrl.2; have h3:(DN m s r aN).1.length<=64:=hrl.1; simp only [qx] at h2; show(rA (rdX m s r aN) (rdN m s r aN) ((gY s aN).bY,[])).2.length<=64; have h4:(rA (rdX m s r aN) (rdN m s r aN) ((gY s aN).bY,[])).1.length<=64:=hrl.1; omega
 have htl:(Fz m s r aN).length<=(OH m s aN).length:=Jw _ _ _ _ _ _ _;have hcl:=(mQ.1 hmay.2).2.1;have hol:((DN m s r aN).2++Fz m s r aN).length<=100000:=by rw [iO]; omega
 refine bQ Y<|mv Y<|gW Y (aqL (os:=[]) (AO:=none) (cO:=0) ((((((((H16.sel s8).sel s1).sel s5).sel s6).sel s7).sel s6).mV 6 2).mV 8 3) aj aj av aj aj aj (aao hmay.2 _ au) (Tc hmay.2 _ _ au) aj (avd hmay.2 s r aN) aj aj) ?_
 rintro _ w24 ⟨rfl,Ag1,cg1,Ag2,cg2,pG⟩;refine dn<|bQ Y<|gW Y (ajO (cs:=[]) (AC:=none) (cC:=0) ((pG.mV 4 5).mV 5 5) (lG ayQ au) aj (lG hrl2 au) av aj aj aj (Tc hmay.2 _ _ au) aj) ?_
 rintro _ w25 ⟨rfl,Ag3,cg3,Ag4,cg4,Ag5,cg5,FT⟩;refine dn<|aZ<|bQ Y<|ev (eY oZ Y)<|ev (iP Y Y)<|mv Y<|iG 8 92 ((decide ((((rdN m s r aN).length:Nat):Int)=0))&&(decide (((((DN m s r aN).1).length:Nat):Int)=0))) ?_ ?_
 ·cases aIs:decide ((((rdN m s r aN).length:Nat):Int)=0) with
  | true=>
   refine bG Y (bA Y) Y<|bG Y (dS Y) Y<|gfy rH 0 qM Y<|wP rH 1 wS FT s0 Y<|bG Y (eY mG Y) Y<|bG Y (iP Y Y) Y<|ev (dY Y Y)<|dI Y
  | false=>
   refine eB<|eB<|eB<|eB<|eB<|eB<|eB<|ev (eG Y Y)<|dI Y
 refine mv Y<|iG 8 101 (((decide ((((rdN m s r aN).length:Nat):Int)=0))&&(decide (((((DN m s r aN).1).length:Nat):Int)=0)))&&(decide (((((gY s aN).dM++Fz m s r aN).length:Nat):Int)=0))) ?_ ?_
 ·cases aDD:((decide ((((rdN m s r aN).length:Nat):Int)=0))&&(decide (((((DN m s r aN).1).length:Nat):Int)=0))) with
  | true=>
   have ayR:=aDD
   try simp only [bK,dZ,bL,bU] at ayR
   refine bG Y (bA Y) Y<|bG Y (dS Y) Y<|gfy rH 0 qM Y<|wP rH 2 Bz FT s0 Y<|bG Y (eY kR Y) Y<|bG Y (iP Y Y) Y<|ev (dY Y Y)<|dI Y
  | false=>
   refine eB<|eB<|eB<|eB<|eB<|eB<|eB<|ev (eG Y Y)<|dI Y
 refine dn<|bR Y (λhc101=>?_) (λhc101=>?_)
 ·refine jr<|mv Y<|gW Y (aqH (((FT.sel s4).sel s3).mV 2 7) (lG ayQ au) hol aj aj aj (aao hmay.2 _ au) (Tc hmay.2 _ _ au) aj) ?_
  rintro _ w26 ⟨rfl,Ae1,ce1,Af1,cf1,Np⟩;refine jv<|gB ?_
  refine He Np (λ_ K=>(K.rm s11)) (λl0 rk lJ wJ=>lJ=(9,.slice Af1 ((Vx (DN m s r aN).1 ((DN m s r aN).2++Fz m s r aN) m.aA (OH m s aN) m.aY (R9 s r aN) r.fA r.l5 r.All (aN+r.jy)).length) cf1)::(10,.slice Ag5 (((Fz m s r aN).map za).length) cg5)::l0/\Hp w S0 wJ [dJ g4 51 [.slice Au (((gY s aN).dX).length) Aw,.slice Ae1 ((QT (DN m s r aN).1 m.aA (OH m s aN) m.aY (R9 s r aN) r.fA r.l5 r.All (aN+r.jy)).length) ce1,.slice Ag3 (((gY s aN).dM++Fz m s r aN).length) cg3],dJ rH 195 [.slice Au (((gY s aN).dX).length) Aw,.slice Ae1 ((QT (DN m s r aN).1 m.aA (OH m s aN) m.aY (R9 s r aN) r.fA r.l5 r.All (aN+r.jy)).length) ce1,.slice Ag3 (((gY s aN).dM++Fz m s r aN).length) cg3,.slice uS m.aY.length uG,.slice tZ m.aA.length tJ,.slice r9 m.aQ.length rC,aD r.ku,aD r.l5,aD r.All,aD r.qj,aD r.jy,aD r.fA,aD aN,.slice Aj7 ((R9 s r aN).length) cj7,.slice Aj8 ((OH m s aN).length) cj8,.slice Af1 ((Vx (DN m s r aN).1 ((DN m s r aN).2++Fz m s r aN) m.aA (OH m s aN) m.aY (R9 s r aN) r.fA r.l5 r.All (aN+r.jy)).length) cf1,.slice Ag5 (((Fz m s r aN).map za).length) cg5],aR dB 117 Ae1 ce1 (QT (DN m s r aN).1 m.aA (OH m s aN) m.aY (R9 s r aN) r.fA r.l5 r.All (aN+r.jy)),aR bF 112 Af1 cf1 (Vx (DN m s r aN).1 ((DN m s r aN).2++Fz m s r aN) m.aA (OH m s aN) m.aY (R9 s r aN) r.fA r.l5 r.All (aN+r.jy)),dP bX uS uG m.aY,dP bH tZ tJ m.aA,dP dL Aj7 cj7 (R9 s r aN),dP bH Aj8 cj8 (OH m s aN),aR bF 112 Ag3 cg3 ((gY s aN).dM++Fz m s r aN),aR yY 120 Ag5 cg5 ((Fz m s r aN).map za),dP oK Aj9 cj9 (rdN m s r aN),aR iL 107 Au Aw ((gY s aN).dX),dJ g3 23 [aD r.ku,aD r.l5,aD r.All,aD r.qj,aD r.jy,aD r.fA],dJ g2 51 [.slice ZW s.dX.length ZX,.slice ZY s.bY.length Z0,.slice Z4 s.dM.length Z5],dJ g1 45 [.slice uS m.aY.length uG,.slice tZ m.aA.length tJ,.slice r9 m.aQ.length rC]]) (λhns H17=>?_) ?_
  ·have k15:=(H17.rm s11);refine sw 0 rH 0 qM Y k15<|lH 3 Y (λ_ hK=>Cm (cs':=[.slice Au (((gY s aN).dX).length) Aw,.slice Ae1 ((QT (DN m s r aN).1 m.aA (OH m s aN) m.aY (R9 s r aN) r.fA r.l5 r.All (aN+r.jy)).length) ce1,.slice Ag3 (((gY s aN).dM++Fz m s r aN).length) cg3]) Ij Y Y (hK.x s0) Y) k15<|sw 4 rH 15 Fq Y k15<|Ai 7 s0 Y k15<|sw 8 rH 16 OB Y k15<|Ai 11 s0 Y k15<|O1 12 Y<|sty Y H17 s11 Y λw27 N9=>?_
   have k16:=(N9.rm s0);refine aP k16<|xJ 13 Y Y k16<|xJ 14 Y Y k16<|Dn ⟨Y,N9⟩ Y
  rintro _ w28 ⟨rfl,Ig⟩;refine je (oW Y ⟨_,_,Y,⟨_,Y,jm (cs:=[.slice Au (((gY s aN).dX).length) Aw,.slice Ae1 ((QT (DN m s r aN).1 m.aA (OH m s aN) m.aY (R9 s r aN) r.fA r.l5 r.All (aN+r.jy)).length) ce1,.slice Ag3 (((gY s aN).dM++Fz m s r aN).length) cg3]) Ij Y (Ig.x s0)⟩,⟨_,_,Y,Y,⟨_,_,Y,Y,Y⟩⟩⟩ ?_);have agd:rdB m r=true:=by unfold rdB; rw [hmay.1,hmay.2]; rfl
  have hrq:rdQ m s r aN=true:=by unfold rdQ; first | exact hc101 | (simpa using hc101)
  have xZ:((⟨(gY s aN).dX,(QT (DN m s r aN).1 m.aA (OH m s aN) m.aY (R9 s r aN) r.fA r.l5 r.All (aN+r.jy)),((gY s aN).dM++Fz m s r aN)⟩:iM):iM)=(qh m s r aN):=by unfold qh rdL; rw [aO agd,aO hrq]
  have hq8:((gY s aN).dX:List eZ)=((qh m s r aN).dX):=by rw [<- xZ]
  have yT:((QT (DN m s r aN).1 m.aA (OH m s aN) m.aY (R9 s r aN) r.fA r.l5 r.All (aN+r.jy)):List bB)=((qh m s r aN).bY):=by rw [<- xZ]
  have qI:(((gY s aN).dM++Fz m s r aN):List aM)=((qh m s r aN).dM):=by rw [<- xZ]
  have hq11:((Vx (DN m s r aN).1 ((DN m s r aN).2++Fz m s r aN) m.aA (OH m s aN) m.aY (R9 s r aN) r.fA r.l5 r.All (aN+r.jy)):List aM)=(xY m s r aN):=by unfold xY rdO; rw [aO agd,aO hrq]
  rw [hq11] at Ig;have hq12:(((Fz m s r aN).map za):List gD)=(qN m s r aN):=by unfold qN; rw [aO agd]
  rw [hq12] at Ig;exact⟨Au,Aw,Ae1,ce1,Ag3,cg3,Af1,cf1,Ag5,cg5,by first | (rw [hq11,hq12,hq8,yT,qI] <;> rfl) | (rw [hq8,yT,qI,hq11,hq12] <;> rfl),by rw [<- hq8,<- yT,<- qI]; exact((((((((Ig.cU 12 3).rm s10).cU 4 4).cU 0 2).sel s3).sel s2).mV 2 2).sel s4)⟩
 refine jh ?_;refine He FT (λ_ K=>(K.rm s11)) (λl0 rk lJ wJ=>lJ=(9,.slice Ag4 (((DN m s r aN).2++Fz m s r aN).length) cg4)::(10,.slice Ag5 (((Fz m s r aN).map za).length) cg5)::l0/\Hp w S0 wJ [dJ g4 51 [.slice Au (((gY s aN).dX).length) Aw,.slice Ag1 (((DN m s r aN).1).length) cg1,.slice Ag3 (((gY s aN).dM++Fz m s r aN).length) cg3],dJ rH 195 [.slice Au (((gY s aN).dX).length) Aw,.slice Ag1 (((DN m s r aN).1).length) cg1,.slice Ag3 (((gY s aN).dM++Fz m s r aN).length) cg3,.slice uS m.aY.length uG,.slice tZ m.aA.length tJ,.slice r9 m.aQ.length rC,aD r.ku,aD r.l5,aD r.All,aD r.qj,aD r.jy,aD r.fA,aD aN,.slice Aj7 ((R9 s r aN).length) cj7,.slice Aj8 ((OH m s aN).length) cj8,.slice Ag4 (((DN m s r aN).2++Fz m s r aN).length) cg4,.slice Ag5 (((Fz m s r aN).map za).length) cg5],aR dB 117 Ag1 cg1 ((DN m s r aN).1),aR bF 112 Ag3 cg3 ((gY s aN).dM++Fz m s r aN),aR bF 112 Ag4 cg4 ((DN m s r aN).2++Fz m s r aN),aR yY 120 Ag5 cg5 ((Fz m s r aN).map za),dP bX uS uG m.aY,dP bH tZ tJ m.aA,dP dL Aj7 cj7 (R9 s r aN),dP bH Aj8 cj8 (OH m s aN),dP oK Aj9 cj9 (rdN m s r aN),aR iL 107 Au Aw ((gY s aN).dX),dJ g3 23 [aD r.ku,aD r.l5,aD r.All,aD r.qj,aD r.jy,aD r.fA],dJ g2 51 [.slice ZW s.dX.length ZX,.slice ZY s.bY.length Z0,.slice Z4 s.dM.length Z5],dJ g1 45 [.slice uS m.aY.length uG,.slice tZ m.aA.length tJ,.slice r9 m.aQ.length rC]]) (λhns H18=>?_) ?_
 ·have k17:=(H18.rm s11);refine sw 0 rH 0 qM Y k17<|lH 3 Y (λ_ hK=>Cm (cs':=[.slice Au (((gY s aN).dX).length) Aw,.slice Ag1 (((DN m s r aN).1).length) cg1,.slice Ag3 (((gY s aN).dM++Fz m s r aN).length) cg3]) Ij Y Y (hK.x s0) Y) k17<|sw 4 rH 15 Fq Y k17<|Ai 7 s0 Y k17<|sw 8 rH 16 OB Y k17<|Ai 11 s0 Y k17<|O1 12 Y<|sty Y H18 s11 Y λw29 Ld=>?_
  have k18:=(Ld.rm s0);refine aP k18<|xJ 13 Y Y k18<|xJ 14 Y Y k18<|Dn ⟨Y,Ld⟩ Y
 rintro _ w30 ⟨rfl,LG⟩;refine je (oW Y ⟨_,_,Y,⟨_,Y,jm (cs:=[.slice Au (((gY s aN).dX).length) Aw,.slice Ag1 (((DN m s r aN).1).length) cg1,.slice Ag3 (((gY s aN).dM++Fz m s r aN).length) cg3]) Ij Y (LG.x s0)⟩,⟨_,_,Y,Y,⟨_,_,Y,Y,Y⟩⟩⟩ ?_);have agd:rdB m r=true:=by unfold rdB; rw [hmay.1,hmay.2]; rfl
 have hrq:rdQ m s r aN=false:=by unfold rdQ; first | exact hc101 | (simpa using hc101)
 have QB:((⟨(gY s aN).dX,(DN m s r aN).1,((gY s aN).dM++Fz m s r aN)⟩:iM):iM)=(qh m s r aN):=by unfold qh rdL; rw [aO agd,aK (by rw [hrq]; decide)]
 have QC:((gY s aN).dX:List eZ)=((qh m s r aN).dX):=by rw [<- QB]
 have Xw:((DN m s r aN).1:List bB)=((qh m s r aN).bY):=by rw [<- QB]
 have UZ:(((gY s aN).dM++Fz m s r aN):List aM)=((qh m s r aN).dM):=by rw [<- QB]
 have U0:(((DN m s r aN).2++Fz m s r aN):List aM)=(xY m s r aN):=by unfold xY rdO; rw [aO agd,aK (by rw [hrq]; decide)]
 rw [U0] at LG;have U1:(((Fz m s r aN).map za):List gD)=(qN m s r aN):=by unfold qN; rw [aO agd]
 rw [U1] at LG;exact⟨Au,Aw,Ag1,cg1,Ag3,cg3,Ag4,cg4,Ag5,cg5,by first | (rw [U0,U1,QC,Xw,UZ] <;> rfl) | (rw [QC,Xw,UZ,U0,U1] <;> rfl),by rw [<- QC,<- Xw,<- UZ]; exact(((((LG.cU 12 3).cU 6 5).cU 0 2).mV 0 4).sel s4)⟩
end Go.Proofs.YtlhnnmlenkahlaaGreat
