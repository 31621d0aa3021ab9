/- Lemmas. -/
import Derived.Shelf.Slices.CompactI
import Derived.Ground.Names2Prog
import Derived.Test.YtlhnnmlenkahlaaGreatProg
import Derived.Test.YtlhnnmlenkahlaaGreatrG21
set_option maxRecDepth 4000
set_option linter.all false
namespace Go.Proofs.YtlhnnmlenkahlaaGreat
open Go.RowKit Go.Proofs.Tryz
def adu:=@underlying379
variable {l:List aI}{es:oF}{c:Int}{pre:List (aI × Bool)}{x:aI × Bool}{S S0:Nat->Prop}{F:List lH}{nZ jk:Nat}{vY jl:ah}{aG dw:List Int}{aZ ls:List gq}
def o7(l:List aI)(es:oF)(c:Int):List (BitVec 8) × Int × Int:=match (yw l es).find? (fun(p:aI × Bool)=>decide (p.1.aC=c)) with
  | none=>([],0,5)
  | some p=>if p.2=true then([],0,4) else((gL (⟨c,false⟩:bZ) es).2.2,p.1.aB,0)
theorem NQ(h:∀ y∈yw l es,y.1.aC≠c):o7 l es c=([],0,5):=by
  unfold o7; rw [Ce.2 (λy hy=>by simpa using h y hy)]
abbrev NR(iD:Int)(ji:oF):=gL (⟨iD,false⟩:bZ) ji
theorem rd_some(h:pre++[x] <+: yw l es)(hno:∀ y∈pre,y.1.aC≠c)(hx:x.1.aC=c):o7 l es c=if x.2=true then([],0,4) else((NR c es).2.2,x.1.aB,0):=by
  obtain⟨t,ht⟩:=h;unfold o7;rw [<- ht,IJ,IJ,Ce.2 (λy hy=>by simpa using hno y hy)]
  simp [hx]
theorem avX:∀ w,(zeroValue 27).run prog w=.ok (aF 0) w:=ay
theorem arO:bF prog 196:=ay
theorem axZ:l9 prog 33:=ay
theorem agK{b w:World}(H0:Hp b S w F)  :
    bS prog 118 #[gD nZ] w λv w'=>∃(afh:Nat),v=.func (.func 196) #[] #[gD afh]/\Hp b S w' (dY afh 93 [gD nZ]::F):=by
 refine sV func118 ntmps118 Y<|rg<|bx Y Y H0 λg1 w1 K1=>bU Y<|rg<|ev (rW Y)<|bU Y<|jc Y ?_
 exact⟨g1,Y,K1⟩
abbrev adv:=bZ × Option Addr × Nat × List (BitVec 8)
abbrev akU(iD:(aI × Bool)):List Value:=[.agg #[aF iD.1.aC,aF iD.1.aB,gK iD.1.Sum,.bool iD.1.gB,.bool iD.1.Bad],.bool iD.2]
theorem agL{b w:World}{gm:Nat}{A:ah}{c:Nat}{bM:Int}{es:List adv}(H0:Hp b S w (dY nZ 169 [aF bM,.slice A l.length c,.map (some gm)]::dP bq A c l::qH wG vK gm es::fZ gV 5 (es.map Prod.snd)::F))(aL:Int)(hl:l.length<=100000)(hb:(gL ⟨aL,false⟩ es).2.2.length<=1000) :
    bS prog 54 #[gD nZ,aF aL] w λv w'=>∃(A0:ah)(c0:Nat),v=.tuple #[.slice A0 (((o7 l es aL).1).length) c0,aF ((o7 l es aL).2.1),aF ((o7 l es aL).2.2)]/\Hp b S w' (aS gV 5 A0 c0 ((o7 l es aL).1)::dY nZ 169 [aF bM,.slice A l.length c,.map (some gm)]::dP bq A c l::qH wG vK gm es::fZ gV 5 (es.map Prod.snd)::F):=by
 refine aBR func54 ntmps54 Y<|rg<|bx Y Y H0 λg1 w1 K1=>bx Y Y K1 λg2 w2 K2=>al NM Y K2 λg3 w3 K3=>al aiM Y K3 λg4 w4 K4=>al avX Y K4 λg5 w5 K5=>dn<|aW<|rg<|nO K5 s4 Y<|gX Y (agK K5 ) ?_
 rintro _ w6 ⟨MP,rfl,K6⟩;refine dn<|cB<|WP.range (enc:=fun(x:(aI × Bool))=>(akU x)) (ys:=yw l es) (F0:=(dY g3 33 [.slice none 0 0]::dY g4 3 [aF 0]::dY g5 27 [aF 0]::dY g2 3 [aF aL]::dY g1 93 [gD nZ]::F)) (G0:=[dY MP 93 [gD nZ],dY nZ 169 [aF bM,.slice A l.length c,.map (some gm)],dP bq A c l,qH wG vK gm es,fZ gV 5 (es.map Prod.snd)]) Y arO (abj aj) (Hp.axY (L:=[dY g3 33 [.slice none 0 0],dY g4 3 [aF 0],dY g5 27 [aF 0],dY g2 3 [aF aL],dY g1 93 [gD nZ]]) (X:=[dY MP 93 [gD nZ],dY nZ 169 [aF bM,.slice A l.length c,.map (some gm)],dP bq A c l,qH wG vK gm es,fZ gV 5 (es.map Prod.snd)]) (F:=F) (((((K6.sel s0).mV 4 2).sel s3).sel s4).sel s5)) (λ_=>Y) Y (λpre Fj=>Fj=(dY g3 33 [.slice none 0 0]::dY g4 3 [aF 0]::dY g5 27 [aF 0]::dY g2 3 [aF aL]::dY g1 93 [gD nZ]::F)/\(∀ y∈pre,y.1.aC≠aL)) (λc pre Fj=>(c=.ret/\∃(A:ah)(c:Nat)(xs:List (BitVec 8))(z:Int)(e:Int),Fj=(dY g3 33 [.slice A xs.length c]::dY g4 3 [aF z]::dY g5 27 [aF e]::aS gV 5 A c xs::dY g2 3 [aF aL]::dY g1 93 [gD nZ]::F)/\(o7 l es aL=(xs,z,e)))) (λpre x l1 Fj=>∃(UH:Nat),l1=[(2,gD g1),(3,gD g2),(4,gD g3),(5,gD g4),(6,gD g5),(7,gD UH),(8,.bool x.2)]/\Fj=(dY UH 132 [aF x.1.aC,aF x.1.aB,gK x.1.Sum,.bool x.1.gB,.bool x.1.Bad]::dY g3 33 [.slice none 0 0]::dY g4 3 [aF 0]::dY g5 27 [aF 0]::dY g2 3 [aF aL]::dY g1 93 [gD nZ]::F)/\(∀ y∈pre,y.1.aC≠aL)) ⟨Y,av⟩ ?_ ?_ ?_ ?_
 ·rintro lr pre x _ G w7 ⟨rfl,hno⟩ hpre K7;have H1:=Hp.tin (L:=[dY g3 33 [.slice none 0 0],dY g4 3 [aF 0],dY g5 27 [aF 0],dY g2 3 [aF aL],dY g1 93 [gD nZ]]) (X1:=[dY MP 93 [gD nZ],dY nZ 169 [aF bM,.slice A l.length c,.map (some gm)],dP bq A c l,qH wG vK gm es,fZ gV 5 (es.map Prod.snd)]) (F:=F) K7;refine rg<|al yj Y H1 λg6 w8 K8=>sty Y K8 s0 Y λw9 K9=>dn<|jy<|iI Y<|jA<|l8.ap ⟨g6,Y,Y,hno⟩ Y (PN (L:=[dY g6 132 [aF x.1.aC,aF x.1.aB,gK x.1.Sum,.bool x.1.gB,.bool x.1.Bad],dY g3 33 [.slice none 0 0],dY g4 3 [aF 0],dY g5 27 [aF 0],dY g2 3 [aF aL],dY g1 93 [gD nZ]]) (X1:=[dY MP 93 [gD nZ],dY nZ 169 [aF bM,.slice A l.length c,.map (some gm)],dP bq A c l,qH wG vK gm es,fZ gV 5 (es.map Prod.snd)]) (F:=F) K9)
 ·rintro lr pre x _ _ G Oz ⟨UH,rfl,rfl,hno⟩ hpre K10;have H2:=Hp.tin (L:=[dY UH 132 [aF x.1.aC,aF x.1.aB,gK x.1.Sum,.bool x.1.gB,.bool x.1.Bad],dY g3 33 [.slice none 0 0],dY g4 3 [aF 0],dY g5 27 [aF 0],dY g2 3 [aF aL],dY g1 93 [gD nZ]]) (X1:=[dY MP 93 [gD nZ],dY nZ 169 [aF bM,.slice A l.length c,.map (some gm)],dP bq A c l,qH wG vK gm es,fZ gV 5 (es.map Prod.snd)]) (F:=F) K10;refine cB<|cB<|rg<|jT UH 0 mM H2 s0 Y<|nO H2 s4 Y<|ev (nQ Y Y)<|bU Y<|bK Y (λrz=>?_) (λrz=>?_)
  ·replace rz:=oQ rz;refine ze (iE (iE ?_));exact l8.rn ⟨Y,by intro y hy; rcases jN.1 hy with h | h; exact hno y h; rw [j4.1 h]; exact rz⟩ (PN (L:=[dY g3 33 [.slice none 0 0],dY g4 3 [aF 0],dY g5 27 [aF 0],dY g2 3 [aF aL],dY g1 93 [gD nZ]]) (X1:=[dY MP 93 [gD nZ],dY nZ 169 [aF bM,.slice A l.length c,.map (some gm)],dP bq A c l,qH wG vK gm es,fZ gV 5 (es.map Prod.snd)]) (F:=F) (H2.rm s0))
  replace rz:=oU rz;refine bQ Y<|bU Y<|bK Y (λhc28=>?_) (λhc28=>?_)
  ·refine rg<|xP Y H2 s1 Y λTi tZ=>xP Y tZ s2 Y λSm sJ=>xP Y sJ s3 Y λXu wz=>dn<|jf (jg (jg ?_))
   have H3:=wz.nil gV 5;exact l8.rr ⟨Y,none,0,([]:List (BitVec 8)),0,4,Y,by rw [rd_some hpre hno aj,aO hc28]⟩ (PN (L:=[dY g3 33 [.slice none (([]:List (BitVec 8)).length) 0],dY g4 3 [aF 0],dY g5 27 [aF 4],aS gV 5 none 0 [],dY g2 3 [aF aL],dY g1 93 [gD nZ]]) (X1:=[dY MP 93 [gD nZ],dY nZ 169 [aF bM,.slice A l.length c,.map (some gm)],dP bq A c l,qH wG vK gm es,fZ gV 5 (es.map Prod.snd)]) (F:=F) (((((H3.rm s4).sel s0).sel s1).sel s2).sel s3))
  refine HeR H2 (λ_ K=>(K.cU 1 3)) (λl0 rk lJ wJ=>∃(jR:ah)(jO:Nat),lJ=l0/\Hp b S wJ (dY g5 27 [aF 0]::dY g4 3 [aF x.1.aB]::dY g3 33 [.slice jR (((NR aL es).2.2).length) jO]::aS gV 5 jR jO ((NR aL es).2.2)::rk)) (λhns H4=>?_) ?_
  ·have k1:=(H4.cU 1 3);refine Ci 0 s2 Y k1<|SX 1 nZ 2 yu Y k1<|Ci 3 s4 Y k1<|Ci 4 s1 Y k1<|lD 5 Y (λ_ _=>iY (vs:=[(0,aF aL),(1,.bool false)]) (cs:=[aF aL,.bool false]) Y (by apply qE)) k1<|lD 6 rfl (λ_ hK=>Ev.agD (z:=(⟨aL,false⟩:bZ)) hK s6 vF EF NM rfl rfl) k1<|ng 8 9 UH 1 sH s0 rfl k1<|O1 7 rfl<|gX rfl (Jw _ (H4.arC s10 (⟨aL,false⟩:bZ)) aj) ?_
   rintro _ Z0 ⟨arJ,arK,rfl,h14⟩;have wB:=H4.f1 h14;have k2:=((wB.cU 2 3).rm s0);refine aQ k2<|O1 10 Y<|xP Y wB s2 Y λZ4 zB=>?_
   have k3:=((zB.cU 3 2).cU 0 2);refine aQ k3<|O1 11 Y<|xP Y zB s3 Y λw16 BR=>?_
   have k4:=((BR.rm s4).cU 0 3);refine aQ k4<|O1 12 Y<|xP Y BR s4 Y λw17 yB=>?_
   have k5:=(yB.cU 0 4);refine aQ k5<|Dn ⟨arJ,arK,Y,yB⟩ Y
  rintro _ w18 ⟨jR,jO,rfl,ET⟩;refine jf (jg (jg ?_));exact l8.rr ⟨Y,jR,jO,((NR aL es).2.2),x.1.aB,0,Y,by rw [rd_some hpre hno aj,aK (by rw [hc28]; decide)]⟩ (PN (L:=[dY g3 33 [.slice jR (((NR aL es).2.2).length) jO],dY g4 3 [aF x.1.aB],dY g5 27 [aF 0],aS gV 5 jR jO ((NR aL es).2.2),dY g2 3 [aF aL],dY g1 93 [gD nZ]]) (X1:=[dY MP 93 [gD nZ],dY nZ 169 [aF bM,.slice A l.length c,.map (some gm)],dP bq A c l,qH wG vK gm es,fZ gV 5 (es.map Prod.snd)]) (F:=F) ((((ET.rm s4).sel s0).sel s1).sel s2))
 ·rintro D _ w19 ⟨rfl,hno⟩ Cc;refine iE (gG ?_);refine rg<|xP Y Cc s6 Y λw20 C8=>xP Y C8 s7 Y λw21 FH=>xP Y FH s8 Y λw22 EU=>dn<|jf (l8.ame ((EU.mV 0 3).sel s3) Y λw23 KA=>⟨_,⟨_,_,Y,⟨_,Y,Bo axZ (((KA.x s2).cell 0).trans Y)⟩,⟨_,_,Y,⟨_,Y,Bo jD (((KA.x s1).cell 0).trans Y)⟩,⟨_,_,Y,⟨_,Y,Bo axR (((KA.x s0).cell 0).trans Y)⟩,Y⟩⟩⟩,?_⟩)
  have H5:=KA.nil gV 5;have eO:(([]:List (BitVec 8)):List (BitVec 8))=((o7 l es aL).1):=by first | rw [NQ hno] | rw [hrd]
  have fQ:(0:Int)=((o7 l es aL).2.1):=by first | rw [NQ hno] | rw [hrd]
  have jW:(5:Int)=((o7 l es aL).2.2):=by first | rw [NQ hno] | rw [hrd]
  exact⟨none,0,by rw [<- fQ,<- jW,<- eO] <;> rfl,by rw [<- eO]; exact((H5.cU 9 2).cU 1 4)⟩
 ·rintro D c pre F w24 (⟨rfl,A,c,xs,z,e,rfl,hrd⟩) qB;refine jf (jg (fT (l8.ame qB Y λw25 FI=>⟨_,⟨_,_,Y,⟨_,Y,Bo axZ (((FI.x s5).cell 0).trans Y)⟩,⟨_,_,Y,⟨_,Y,Bo jD (((FI.x s6).cell 0).trans Y)⟩,⟨_,_,Y,⟨_,Y,Bo axR (((FI.x s7).cell 0).trans Y)⟩,Y⟩⟩⟩,?_⟩)));have mH:(xs:List (BitVec 8))=((o7 l es aL).1):=by first | rw [NQ hno] | rw [hrd]
  have rR:(z:Int)=((o7 l es aL).2.1):=by first | rw [NQ hno] | rw [hrd]
  have wM:(e:Int)=((o7 l es aL).2.2):=by first | rw [NQ hno] | rw [hrd]
  exact⟨A,c,by rw [<- rR,<- wM,<- mH] <;> rfl,by rw [<- mH]; exact(((((FI.cU 9 2).cU 5 3).rm s0).mV 0 4).sel s4)⟩
def uV(pre:List (aI × Bool)):List Int:=(pre.filter fun(p:aI × Bool)=>p.2).map fun(p:aI × Bool)=>p.1.aC
def EG(l:List aI)(es:oF):List Int:=uV (yw l es)
theorem akV(h:x.2=true):uV pre++[x.1.aC]=uV (pre++[x]):=by unfold uV; rw [vX,qc]; simp [h]
theorem arP(h:x.2=false):uV pre=uV (pre++[x]):=by unfold uV; rw [vX,qc]; simp [h]
theorem agM(pre:List (aI × Bool)):(uV pre).length<=pre.length:=by unfold uV; rw [jY]; exact mR _ _
theorem anC(l:List aI)(es:oF):(yw l es).length<=l.length:=by unfold yw; rw [jY]; exact NP l
def avY(s:List aI × oF)(c:Int):List aI × oF:=(CP s.1 c,PI s.1 c s.2)
def uz(l:List aI)(es:oF)(k:Nat):List aI × oF:=((EG l es).take k).foldl avY (l,es)
theorem RO{k:Nat}(h:(EG l es)[k]? = some c):uz l es (k+1)=(CP (uz l es k).1 c,PI (uz l es k).1 c (uz l es k).2):=by
  unfold uz; rw [fD h,yU]; rfl
theorem arQ(l:List aI)(c:Int):(CP l c).length<=l.length:=by
  unfold CP; split
  · unfold pz; split
    · exact lV (mR _ _) (wN l)
    · simp
  · exact kV _
theorem agN(l:List aI)(es:oF):∀ k,(uz l es k).1.length<=l.length
  | 0=>kV _
  | k+1=>by
    have h:=agN l es k
    rcases P8 k (EG l es).length with hk | hk
    · obtain⟨x,hx⟩:=bC hk
      rw [RO hx]; exact lV (arQ _ _) h
    · unfold uz at h ⊢
      rw [iH aj] at h ⊢; exact h
theorem anD{b w:World}{gm:Nat}{A:ah}{c:Nat}{bM:Int}{es:List adv}(H0:Hp b S w (dY nZ 169 [aF bM,.slice A l.length c,.map (some gm)]::dP bq A c l::qH wG vK gm es::fZ gV 5 (es.map Prod.snd)::F))(hl:l.length<=100000) :
    bS prog 113 #[gD nZ] w λv w'=>∃(A0:ah)(c0:Nat)(A1:ah)(c1:Nat),v=.slice A0 ((uV (yw l es)).length) c0/\Hp b S w' (aS dQ 3 A0 c0 (uV (yw l es))::dY nZ 169 [aF bM,.slice A1 (((uz l es (EG l es).length).1).length) c1,.map (some gm)]::dP bq A1 c1 ((uz l es (EG l es).length).1)::qH wG vK gm ((uz l es (EG l es).length).2)::fZ gV 5 (((uz l es (EG l es).length).2).map Prod.snd)::F):=by
 refine aBR func113 ntmps113 Y ?_;have hhl:=anC l es;have hgl:=agM (yw l es);refine iZ Y<|rg<|al acy Y H0 λg1 w1 K1=>dn<|aW<|bQ Y<|gX Y (agK K1 ) ?_
 rintro _ w2 ⟨I8,rfl,K2⟩;refine dn<|cB ?_
 have H1:=K2.nil dQ 3;refine WP.range (enc:=fun(x:(aI × Bool))=>(akU x)) (ys:=yw l es) (F0:=(dY g1 55 [.slice none ((uV []).length) 0]::aS dQ 3 none 0 []::F)) (G0:=[dY I8 93 [gD nZ],dY nZ 169 [aF bM,.slice A l.length c,.map (some gm)],dP bq A c l,qH wG vK gm es,fZ gV 5 (es.map Prod.snd)]) Y arO (abj aj) (Hp.axY (L:=[dY g1 55 [.slice none ((uV []).length) 0],aS dQ 3 none 0 []]) (X:=[dY I8 93 [gD nZ],dY nZ 169 [aF bM,.slice A l.length c,.map (some gm)],dP bq A c l,qH wG vK gm es,fZ gV 5 (es.map Prod.snd)]) (F:=F) ((H1.mV 0 2).sel s2)) (λ_=>Y) Y (λpre Fj=>∃(Ag:ah)(cg:Nat),Fj=(dY g1 55 [.slice Ag ((uV pre).length) cg]::aS dQ 3 Ag cg (uV pre)::F)) (λc pre Fj=>False) (λpre x l1 Fj=>∃(Ag:ah)(cg:Nat)(UH:Nat),l1=[(3,gD g1),(4,gD UH),(5,.bool x.2)]/\Fj=(dY UH 132 [aF x.1.aC,aF x.1.aB,gK x.1.Sum,.bool x.1.gB,.bool x.1.Bad]::dY g1 55 [.slice Ag ((uV pre).length) cg]::aS dQ 3 Ag cg (uV pre)::F)) ⟨none,0,Y⟩ ?_ ?_ ?_ ?_
 ·rintro lr pre x _ G w3 ⟨Ag,cg,rfl⟩ hpre K3;have H2:=Hp.tin (L:=[dY g1 55 [.slice Ag ((uV pre).length) cg],aS dQ 3 Ag cg (uV pre)]) (X1:=[dY I8 93 [gD nZ],dY nZ 169 [aF bM,.slice A l.length c,.map (some gm)],dP bq A c l,qH wG vK gm es,fZ gV 5 (es.map Prod.snd)]) (F:=F) K3;refine rg<|al yj Y H2 λg2 w4 K4=>sty Y K4 s0 Y λw5 K5=>dn<|jy<|iI Y<|jA<|l8.ap ⟨Ag,cg,g2,Y,Y⟩ Y (PN (L:=[dY g2 132 [aF x.1.aC,aF x.1.aB,gK x.1.Sum,.bool x.1.gB,.bool x.1.Bad],dY g1 55 [.slice Ag ((uV pre).length) cg],aS dQ 3 Ag cg (uV pre)]) (X1:=[dY I8 93 [gD nZ],dY nZ 169 [aF bM,.slice A l.length c,.map (some gm)],dP bq A c l,qH wG vK gm es,fZ gV 5 (es.map Prod.snd)]) (F:=F) K5)
 ·rintro lr pre x _ _ G w6 ⟨Ag,cg,UH,rfl,rfl⟩ hpre K6;have H3:=Hp.tin (L:=[dY UH 132 [aF x.1.aC,aF x.1.aB,gK x.1.Sum,.bool x.1.gB,.bool x.1.Bad],dY g1 55 [.slice Ag ((uV pre).length) cg],aS dQ 3 Ag cg (uV pre)]) (X1:=[dY I8 93 [gD nZ],dY nZ 169 [aF bM,.slice A l.length c,.map (some gm)],dP bq A c l,qH wG vK gm es,fZ gV 5 (es.map Prod.snd)]) (F:=F) K6;have hpl:=agM pre;have aH3:=hpre.length_le;rw [jd] at aH3;refine cB<|bQ Y<|dn<|bK Y (λoN=>?_) (λoN=>?_)
  ·refine jy<|nO H3 s1 Y<|jT UH 0 mM H3 s0 Y<|Az (τ:=dQ) (x:=x.1.aC) Y (by intro _; apply pW) rfl H3 (λ_ _=>rfl) λg3 w7 K7=>ap (ys:=([x.1.aC]:List Int)) K7 s3 rfl rfl (K7.o s0) fB Lh aj av rfl λoL oM w8 K8=>xP rfl K8 s3 rfl λw9 K9=>jA<|iE ?_
   have eO:(((uV pre)++([x.1.aC]:List Int)):List Int)=(uV (pre++[x])):=by first | exact akV oN | exact arP oN
   rw [eO] at K9;exact l8.rn ⟨oL,oM,Y⟩ (PN (L:=[dY g1 55 [.slice oL ((uV (pre++[x])).length) oM],aS dQ 3 oL oM (uV (pre++[x]))]) (X1:=[dY I8 93 [gD nZ],dY nZ 169 [aF bM,.slice A l.length c,.map (some gm)],dP bq A c l,qH wG vK gm es,fZ gV 5 (es.map Prod.snd)]) (F:=F) (K9.cU 2 2))
  refine ze (iE ?_);have fQ:((uV pre):List Int)=(uV (pre++[x])):=by first | exact akV oN | exact arP oN
  rw [fQ] at H3;exact l8.rn ⟨Ag,cg,Y⟩ (PN (L:=[dY g1 55 [.slice Ag ((uV (pre++[x])).length) cg],aS dQ 3 Ag cg (uV (pre++[x]))]) (X1:=[dY I8 93 [gD nZ],dY nZ 169 [aF bM,.slice A l.length c,.map (some gm)],dP bq A c l,qH wG vK gm es,fZ gV 5 (es.map Prod.snd)]) (F:=F) (H3.rm s0))
 ·rintro D _ Oz ⟨Ag,cg,rfl⟩ K10;refine iE (gG ?_);refine aW ?_;have hgx:(EG l es).length<=l.length:=lV hgl hhl;refine rg<|nO K10 s6 Y<|ev (eU fB Y)<|mv Y<|dn<|cB ?_
  have jW:(l:List aI)=(uz l es 0).1:=by rfl
  rw [jW] at K10;have mH:(.slice A l.length c:Value)=.slice A (((uz l es 0).1).length) c:=by rfl
  try rw [mH] at K10
  have rR:es=(uz l es 0).2:=by rfl
  rw [rR] at K10;refine Lp (K10.cU 2 4) (λl0 rk mJ lJ wJ=>∃(k:Nat)(A1:ah)(c1:Nat),lJ=(20,aF ((k:Nat):Int))::l0/\mJ=(uV (yw l es)).length - k/\k<=(uV (yw l es)).length/\Hp b S wJ (dP bq A1 c1 ((uz l es k).1)::dY nZ 169 [aF bM,.slice A1 (((uz l es k).1).length) c1,.map (some gm)]::qH wG vK gm ((uz l es k).2)::fZ gV 5 (((uz l es k).2).map Prod.snd)::rk)) ⟨0,A,c,Y,Y,fJ _,((((K10.mV 0 2).mV 4 2).sel s4).sel s5)⟩ Y ?_;rintro _ _ Ti ⟨k,A1,c1,rfl,rfl,hk,tZ⟩;refine rg<|ev (fC Y Y)<|dn<|pQ Y (λhc21=>?_) (λhc21=>?_)
  ·refine jm ?_;refine aW<|cB ?_
   have hsl:=agN l es k;refine rg ?_;obtain⟨x1,bP⟩:=bC (xs:=(uV (yw l es))) (i:=k) aj;refine ev (cu (i:=k) fB rZ Y Y Y (aJ bP) ((tZ.o s7).some_ bP))<|ev (iL jD Y ((tZ.o s7).fF (j:=0) bP Y))<|bU Y<|jy<|mv Y<|mv Y<|gX Y (YG ((tZ.sel s0).sel s1) x1 aj) ?_
   rintro _ Sm ⟨arR,arS,rfl,sJ⟩;refine jA<|iE (gG ?_)
   refine jy<|ev (dO Y Y)<|mv Y<|jA ?_
   have wM:((CP ((uz l es k).1) x1):List aI)=(uz l es (k+1)).1:=by rw [RO bP]
   rw [wM] at sJ;have zk:(.slice arR ((CP ((uz l es k).1) x1).length) arS:Value)=.slice arR (((uz l es (k+1)).1).length) arS:=by rw [RO bP]
   try rw [zk] at sJ
   have hq8:(PI ((uz l es k).1) x1 ((uz l es k).2))=(uz l es (k+1)).2:=by rw [RO bP]
   rw [hq8] at sJ;exact dI ⟨(k+1),arR,arS,Y,Y,aj,((sJ.sel s0).sel s1)⟩ rfl aj
  refine wE ?_;refine rg<|nO tZ s6 Y<|bU Y<|jf (l8.ame ((tZ.mV 0 4).sel s4) Y λXu wz=>⟨_,⟨_,_,Y,Y,Y⟩,?_⟩)
  have AJ:((uz l es k).1:List aI)=((uz l es (EG l es).length).1):=by first | rw [show k=(EG l es).length from by show k=(uV (yw l es)).length; omega] | rfl
  have r9:((uz l es k).2:List adv)=((uz l es (EG l es).length).2):=by first | rw [show k=(EG l es).length from by show k=(uV (yw l es)).length; omega] | rfl
  exact⟨Ag,cg,A1,c1,Y,by rw [<- AJ,<- r9]; exact(((((wz.cU 4 2).mV 2 2).sel s2).sel s3).sel s4)⟩
 ·rintro D c pre F w h _;exact h.elim
theorem aAh:bF prog 276:=ay
theorem aAi:u6 prog 107 2 16:=by
  obtain⟨i,h1,h2,h3,h4⟩:=tX (show(prog.info? 107).map (λi=>(i.zero,i.size,i.bytes))=some (some (.agg #[aF 0,aF 0]),2,16) by kernel_rfl);exact⟨i,_,h1,h2,h3,h4,Y,λv hv=>lI.1 (show(Value.cells (.agg #[aF 0,aF 0])).toList.all (λv=>v.oneCell')=true from Y) v hv⟩
theorem adw(a0:Int)(a1:Int):prog.built 107 [(0,aF a0),(1,aF a1)]=some #[aF a0,aF a1]:=ak
theorem aju(a0:Int)(a1:Int):∀ w,(Instr.buildSlice 47 1 (List.toArray [(0,.agg #[aF a0,aF a1])])).run prog w=.ok (.slice (some ⟨w.heap.size,0,none⟩) 1 1) (w.alloc (.cells (List.toArray [aF a0,aF a1]) 107)):=ay
theorem agO(a0:ah)(a0n a0c:Nat)(a1:ah)(a1n a1c:Nat):∀ w,(Instr.buildSlice 379 2 (List.toArray [(0,.slice a0 a0n a0c),(1,.slice a1 a1n a1c)])).run prog w=.ok (.slice (some ⟨w.heap.size,0,none⟩) 2 2) (w.alloc (.cells (List.toArray [.slice a0 a0n a0c,.slice a1 a1n a1c]) 48)):=ay
theorem anE  : ∀ w,(Instr.buildSlice 154 0 (List.toArray [])).run prog w=.ok (.slice (some ⟨w.heap.size,0,none⟩) 0 0) (w.alloc (.cells (List.toArray []) 219)):=ay
theorem YI(w:World){uY:Nat}{s:List fK}(mP:Sl iO S0 w vY uY s)(target:Int){AA:FuncId}{AX:List Value}(KI:bF prog AA)(f:fK->Int->Int)(KJ:∀(w':World)(x:fK)(t:Int),Ext w w'->True->bS prog AA (([.agg #[aF x.Node,aF x.At],aF t]:List Value)++AX).toArray w' λv w''=>v=aF (f x t)/\Ext w' w'')(hm:abR (fun(y:fK)=>f y target) s)(hn:s.length<=1000000) :
    bS prog 275 #[.slice vY s.length uY,aF target,.func (.func AA) #[] AX.toArray] w λv w'=>v=.tuple #[aF ((low (fun(y:fK)=>f y target) s:Nat):Int),.bool (hits (fun(y:fK)=>f y target) s)]/\Hp w S0 w' []:=by
 refine kP S0 func275 ntmps275 Y λH0=>?_;have Qm:=mP.bH;refine rg<|iI Y<|bU Y<|bQ Y<|ev (eU Cj Y)<|bU Y<|bQ Y<|iI Y<|bU Y<|aW<|cB<|Lp H0 (λl0 rk mJ lJ wJ=>∃(i j:Nat),lJ=(9,aF ((i:Nat):Int))::(10,aF ((j:Nat):Int))::l0/\mJ=j - i/\(i<=j/\j<=s.length)/\(∀(a:Nat)(y:fK),a<i->s[a]? = some y->f y target<0)/\(∀(a:Nat)(y:fK),j<=a->s[a]? = some y->¬ f y target<0)/\Hp w S0 wJ rk) ⟨0,s.length,Y,Y,by exact⟨fJ _,kV _⟩,by intro a y ha; omega,by intro a y ha hy; have:=aJ hy; omega,H0⟩ rfl ?_
 rintro _ _ w1 ⟨i,j,rfl,rfl,hij,hlo,hhi,K1⟩;refine aW<|bQ Y<|mv Y<|ev (fC Y Y)<|dn<|mQ Y (λhc17=>?_) (λhc17=>?_)
 ·refine jm ?_;refine cB<|bQ Y<|mv Y<|ev (dO Y Y)<|ev (Bl (m:=i+j) qW.1 qW.2.1 qW.2.2 Y (wH aj))<|ev (Ev.ama (m:=i+j) Y Y)<|ev (Bl (m:=((i+j) / 2)) qX.1 qX.2.1 qX.2.2 Y (uL aj))<|bU Y<|bQ Y<|mv Y<|mv Y ?_
  obtain⟨x1,bP⟩:=bC (xs:=s) (i:=((i+j) / 2)) aj;refine ev (cu (i:=((i+j) / 2)) Cj LH Y Y Y (aJ bP) ((K1.a mP).some_ bP))<|ev (gI I7 Y Y ((K1.a mP).fE bP))<|mv Y<|xK Y Y Y KI (KJ _ x1 target K1.ext trivial) Y ?_
  rintro _ w2 ⟨rfl,e2⟩;have K2:=K1.grow e2;refine ev (fC Y Y)<|dn<|mQ Y (λhc31=>?_) (λhc31=>?_)
  ·refine jy<|mv Y<|ev (dO Y Y)<|iI Y<|jA<|iE<|dI ⟨(((i+j) / 2)+1),j,Y,Y,aj,by first | exact hlo | exact λa y ha hy=>hm a _ y x1 aj hy bP hc31,by first | exact hhi | exact λa y ha hy hlt=>hc31 (hm _ a x1 y aj bP hy hlt),K2⟩ rfl aj
  refine jy<|mv Y<|iI Y<|jA<|iE<|dI ⟨i,((i+j) / 2),Y,Y,aj,by first | exact hlo | exact λa y ha hy=>hm a _ y x1 aj hy bP hc31,by first | exact hhi | exact λa y ha hy hlt=>hc31 (hm _ a x1 y aj bP hy hlt),K2⟩ rfl aj
 refine wE ?_;refine bQ Y<|mv Y<|mv Y<|ev (fC Y Y)<|mv Y<|oG 9 48 (hits (λy=>f y target) s) ?_ ?_
 ·cases OX:decide (((i:Nat):Int)<((s.length:Nat):Int)) with
  | true=>
   have aj1:=gW OX;refine bn Y (bf Y) Y<|bn Y (bf Y) Y<|bn Y (bf Y) Y ?_
   obtain⟨x2,kZ⟩:=bC (xs:=s) (i:=i) aj;refine bn Y (cu (i:=i) Cj LH Y Y Y (aJ kZ) ((K1.a mP).some_ kZ)) Y<|bn Y (gI I7 Y Y ((K1.a mP).fE kZ)) Y<|bn Y (bf Y) Y<|oh Y Y Y Y KI (KJ _ x2 target K1.ext trivial) Y ?_
   rintro _ w3 ⟨rfl,e3⟩;refine bn Y (iA Y Y) Y<|ev (dH Y Y)<|fU (t:=48) (u:=.bool (decide (f x2 target=0))) (v:=.bool (hits (λy=>f y target) s)) Y (aR Value.bool (by have hl:=xk (g:=λy=>f y target) (s:=s) (i:=i) aj hlo (λa y ha=>hhi a y aj); unfold hits; rw [hl,kZ]))<|jh rfl e3
  | false=>
   refine dN<|dN<|dN<|dN<|dN<|dN<|dN<|dN<|ev (dL Y Y)<|fU (t:=48) (u:=.bool false) (v:=.bool (hits (λy=>f y target) s)) Y (aR Value.bool (by have hl:=xk (g:=λy=>f y target) (s:=s) (i:=i) aj hlo (λa y ha=>hhi a y aj); unfold hits; rw [hl,yP (by have:=iJ OX; omega)])) ?_
   exact jh Y (pI _)
 intro w4 e4;have K4:=K1.grow e4;refine iI Y<|bU Y<|jc Y ?_
 have eO:(i:Nat)=(low (fun(y:fK)=>f y target) s):=by exact(xk (g:=λy=>f y target) aj hlo (λa y ha=>hhi a y aj)).symm
 have fQ:(hits (λy=>f y target) s:Bool)=(hits (fun(y:fK)=>f y target) s):=by rfl
 exact⟨by rw [fQ,<- eO] <;> rfl,K4⟩
theorem anF(w:World)(b:fK)(bE:Int) :
    bS prog 276 #[.agg #[aF b.Node,aF b.At],aF bE] w λv w'=>v=aF (bB b.Node bE)/\Hp w S0 w' []:=by
 refine kP S0 func276 ntmps276 Y λH0=>rg<|bx Y Y H0 λg1 w1 K1=>bU Y<|rg<|jT g1 0 G8 K1 s0 Y<|mv Y<|mU K1 Y (nK (S0:=Any) _ b.Node bE) λw2 K2=>bU Y<|jc Y ?_
 exact⟨Y,(K2.rm s0)⟩
theorem arT(w:World){l:List fK}(jo:Sl iO S0 w jl jk l)(bE:Int)(hu:Up fK.Node l)(hn:l.length<=1000000) :
    bS prog 183 #[.slice jl l.length jk,aF bE] w λv w'=>v=.tuple #[aF ((low (fun(y:fK)=>bB y.Node bE) l:Nat):Int),.bool (hits (fun(y:fK)=>bB y.Node bE) l)]/\Hp w S0 w' []:=by
 refine kP S0 func183 ntmps183 Y λH0=>rg<|iI Y<|bU Y<|bQ Y<|mv Y<|mU H0 Y (YI _ (H0.a jo).any bE (AX:=[]) aAh (fun(x:fK) (t:Int)=>bB x.Node t) (λw' x t e hm=>(anF (S0:=Any) w' x t).mono (by rintro _ _ ⟨rfl,fQ⟩; exact⟨rfl,fQ.ext⟩)) (hu.mono bE) aj) λw1 K1=>xt rfl rfl<|xt rfl rfl<|iI rfl<|bU rfl<|jc rfl ?_
 exact⟨Y,K1⟩
theorem avZ:ab7 184 277 278 47 107 2 16 Tryz.f184.name:=⟨func184.trans (aR some ak),⟨_,func277,ak,ak,ak,ak⟩,Cj,iQ,LH,ak,apZ,aAi⟩
def aal:=@OY _ _ _ _ _ _ _ _ iO avZ
def Bh(l:List fK)(bE aN:Int):List fK:=if XI ⟨bE,aN⟩ then(if hits (fun(y:fK)=>bB y.Node bE) (jB l) then(match (jB l)[low (fun(y:fK)=>bB y.Node bE) (jB l)]? with | some b=>(jB l).set (low (fun(y:fK)=>bB y.Node bE) (jB l)) { b with At:=if aN>b.At then aN else b.At } | none=>[]) else(jB l).take (low (fun(y:fK)=>bB y.Node bE) (jB l))++[⟨bE,aN⟩]++(jB l).drop (low (fun(y:fK)=>bB y.Node bE) (jB l))) else jB l
theorem agP:∀(l:List fK)(z:Int),xU z l=true->∀ b∈l,z<b.Node
  | [],_,_,b,hb=>by simp at hb
  | c::l,z,h,b,hb=>by
    simp only [xU,bN,bO] at h
    rcases iX.1 hb with rfl | hb
    · exact h.1.2
    · have:=agP l _ h.2 b hb; omega
theorem agQ:∀(l:List fK)(z:Int),xU z l=true->Up fK.Node l
  | [],_,_=>List.Pairwise.nil
  | c::l,z,h=>by
    simp only [xU,bN,bO] at h
    exact pG.2 ⟨λb hb=>agP l _ h.2 b hb,agQ l _ h.2⟩
theorem arU(l:List fK):Up fK.Node (jB l):=by
  unfold jB; split
  · rename_i h; exact agQ l 0 h
  · exact List.Pairwise.nil
theorem arV(w:World){l:List fK}(jo:Sl iO S0 w jl jk l)(bE:Int)(aN:Int)(hn:l.length<=800000) :
    bS prog 107 #[.slice jl l.length jk,aF bE,aF aN] w λv w'=>∃(A0:ah)(c0:Nat),v=.slice A0 ((Bh l bE aN).length) c0/\Hp w S0 w' [aS iO 107 A0 c0 (Bh l bE aN)]:=by
 refine kP S0 func107 ntmps107 Y λH0=>?_;have EY:=jo.bH;have hf:=G9 l;have hlow:=D8 (fun(y:fK)=>bB y.Node bE) (jB l);refine iZ Y<|bQ Y<|gX Y (afs _ (H0.a jo).any aj) ?_
 rintro _ w1 ⟨j6,kg,rfl,h1⟩;have K1:=H0.f1 h1;have Lj:=(K1.o s0).bH;refine bU Y<|bQ Y<|mv Y<|ev (iY (vs:=[(0,aF bE),(1,aF aN)]) (cs:=[aF bE,aF aN]) Y (by apply adw))<|al QM rfl K1 λg1 w2 K2=>sty rfl K2 s0 rfl λw3 K3=>dn<|aW<|rg<|ev (dU I7 rfl rfl (K3.x s0))<|mU K3 rfl (akq (S0:=Any) _ (⟨bE,aN⟩:fK)) λw4 K4=>ev (iB rfl)<|dn<|bK rfl (λhc17=>?_) (λhc17=>?_)
 ·try simp only [fq,dX,bN,eH,eG,fP,bO,bV] at hc17
  refine bQ Y<|bU Y<|uX Y ?_
  have eO:(jB l:List fK)=(Bh l bE aN):=by unfold Bh; rw [aK (by rw [hc17]; decide)]
  rw [eO] at K4;exact⟨j6,kg,by rw [eO] <;> rfl,(K4.rm s0)⟩
 try simp only [fq,dX,bN,eH,eG,fP,bO,bV] at hc17
 refine jm ?_;refine bQ Y<|mv Y<|mU K4 Y (arT _ (K4.o s1) bE (arU l) aj) λw5 K5=>mv Y<|xt Y Y<|xt Y Y<|iI Y<|bU Y<|aW<|bQ Y<|ev (iB Y)<|dn<|bK Y (λOi=>?_) (λOi=>?_)
 ·try simp only [fq,dX,bN,eH,eG,fP,bO,bV] at Oi
  refine bQ Y<|mv Y<|ev (dU I7 Y Y (K5.x s0))<|Az (τ:=iO) (x:=(⟨bE,aN⟩:fK)) Y (by intro _; apply aju) rfl K5 (λ_ _=>rfl) λg2 w6 K6=>gX rfl (aal (i:=low (fun(y:fK)=>bB y.Node bE) (jB l)) K6 s2 s0 aj aj) ?_
  rintro _ w7 ⟨oL,oM,rfl,K7⟩;refine bU Y<|uX Y ?_
  have fQ:(((jB l).take (low (fun(y:fK)=>bB y.Node bE) (jB l))++[(⟨bE,aN⟩:fK)]++(jB l).drop (low (fun(y:fK)=>bB y.Node bE) (jB l))):List fK)=(Bh l bE aN):=by unfold Bh; rw [aO hc17,aK (by rw [Oi]; decide)]
  rw [fQ] at K7;exact⟨oL,oM,by rw [fQ] <;> rfl,(K7.rm s1)⟩
 try simp only [fq,dX,bN,eH,eG,fP,bO,bV] at Oi
 obtain⟨xb,hxb,hkb⟩:=qU (key:=fK.Node) Oi;have Xd:=aJ hxb;refine jm ?_;refine bQ Y<|mv Y<|mv Y<|mv Y ?_
 obtain⟨x1,bP⟩:=bC (xs:=jB l) (i:=low (fun(y:fK)=>bB y.Node bE) (jB l)) aj;refine ev (cu (i:=low (fun(y:fK)=>bB y.Node bE) (jB l)) Cj LH Y Y Y (aJ bP) ((K5.o s1).some_ bP))<|ev (dW LG Y (fH _ _ _))<|ev (iL jD Y ((K5.o s1).fF (j:=1) bP Y))<|mv Y<|ev (Ev.max2 Y Y)<|ev (cu (i:=low (fun(y:fK)=>bB y.Node bE) (jB l)) Cj LH Y Y Y (aJ bP) ((K5.o s1).some_ bP))<|ev (dW LG Y (fH _ _ _))<|se (i:=low (fun(y:fK)=>bB y.Node bE) (jB l)) (f:=1) (x:=x1) (x':={ x1 with At:=(if aN>x1.At then aN else x1.At) }) (ds:=[aF (if aN>x1.At then aN else x1.At)]) K5 s1 Y Y Y bP Y rZ (pU Y) Y (by rintro _ _ _ ⟨⟩; rfl) λw8 K8=>?_
 have hl1:((jB l).set (low (fun(y:fK)=>bB y.Node bE) (jB l)) ({ x1 with At:=(if aN>x1.At then aN else x1.At) })).length=(jB l).length:=gJ ..;refine fU (t:=0) (u:=.slice j6 ((jB l).length) kg) (v:=.slice j6 (((jB l).set (low (fun(y:fK)=>bB y.Node bE) (jB l)) ({ x1 with At:=(if aN>x1.At then aN else x1.At) })).length) kg) Y (by rw [hl1])<|fU (t:=11) (u:=.slice j6 ((jB l).length) kg) (v:=.slice j6 (((jB l).set (low (fun(y:fK)=>bB y.Node bE) (jB l)) ({ x1 with At:=(if aN>x1.At then aN else x1.At) })).length) kg) rfl (by rw [hl1])<|fU (t:=20) (u:=.slice j6 ((jB l).length) kg) (v:=.slice j6 (((jB l).set (low (fun(y:fK)=>bB y.Node bE) (jB l)) ({ x1 with At:=(if aN>x1.At then aN else x1.At) })).length) kg) rfl (by rw [hl1])<|fU (t:=32) (u:=.slice j6 ((jB l).length) kg) (v:=.slice j6 (((jB l).set (low (fun(y:fK)=>bB y.Node bE) (jB l)) ({ x1 with At:=(if aN>x1.At then aN else x1.At) })).length) kg) rfl (by rw [hl1])<|fU (t:=34) (u:=.slice j6 ((jB l).length) kg) (v:=.slice j6 (((jB l).set (low (fun(y:fK)=>bB y.Node bE) (jB l)) ({ x1 with At:=(if aN>x1.At then aN else x1.At) })).length) kg) rfl (by rw [hl1])<|dn<|bQ rfl<|bU rfl<|jc rfl ?_
 have jW:(((jB l).set (low (fun(y:fK)=>bB y.Node bE) (jB l)) ({ x1 with At:=(if aN>x1.At then aN else x1.At) })):List fK)=(Bh l bE aN):=by unfold Bh; rw [aO hc17,aO Oi,bP]
 rw [jW] at K8;exact⟨j6,kg,by rw [jW] <;> rfl,(K8.rm s1)⟩
def sW(l:List aV)(aG:List Int):Nat->List gq->List Int->List Int
  | 0,_,_=>[]
  | n+1,aZ,hs=>match tL l aG aZ hs l with
    | none=>[]
    | some t=>t.ID::sW l aG n (⟨t.ID,nL aZ t.ID+1⟩::aZ) (hs++[t.ID])
theorem akW{l:List aV}{hs:List Int}(h:(tL l aG aZ hs l).isSome=false):∀ n,sW l aG n aZ hs=[]
  | 0=>rfl
  | n+1=>by
    unfold sW
    cases ht:tL l aG aZ hs l with
    | none=>rfl
    | some t=>rw [ht] at h; cases h
theorem agR{l:List aV}{hs:List Int}(h:(tL l aG aZ hs l).isSome=true)(n:Nat):sW l aG (n+1) aZ hs=Bv (tL l aG aZ hs l)::sW l aG n ((⟨Bv (tL l aG aZ hs l),nL aZ (Bv (tL l aG aZ hs l))+1⟩:gq)::aZ) (hs++[Bv (tL l aG aZ hs l)]):=by
  cases ht:tL l aG aZ hs l with
  | none=>rw [ht] at h; cases h
  | some t=>
    show(match tL l aG aZ hs l with | none=>[] | some t=>t.ID::sW l aG n (⟨t.ID,nL aZ t.ID+1⟩::aZ) (hs++[t.ID]))=_;rw [ht]; rfl
theorem agS(l:List aV)(aG:List Int):∀(n:Nat)(aZ:List gq)(hs:List Int),(sW l aG n aZ hs).length<=n
  | 0,_,_=>kV _
  | n+1,aZ,hs=>by
    cases h:(tL l aG aZ hs l).isSome with
    | false=>rw [akW h]; simp
    | true=>rw [agR h]; have:=agS l aG n ((⟨Bv (tL l aG aZ hs l),nL aZ (Bv (tL l aG aZ hs l))+1⟩:gq)::aZ) (hs++[Bv (tL l aG aZ hs l)]); simp only [pF]; omega
theorem ajv{N:Int}(h0:0<=N)(h:∀ x∈ls,0<=x.N/\x.N<=N)(id:Int):0<=nL ls id/\nL ls id<=N:=by
  unfold nL
  split
  · rename_i x hx; exact h x (Gn hx)
  · omega
def MQ(l:List bD)(c t:Int):Int:=if zT l c t<0 then 5 else 0
def Ai(l:List bD)(c t:Int):List bD:=if zT l c t<0 then[] else l.take (zT l c t).toNat++l.drop ((zT l c t).toNat+1)
theorem arW{l:List bD}{t:Int}(h:¬ zT l c t<0):(zT l c t).toNat<l.length:=by
  have h1:=D7 (p:=fun(x:bD)=>decide (x.aC=c)&&decide (x.To=t)) l;unfold zT at h ⊢;omega
theorem aam(w:World)(n:Nat)(hn:n<=1000000) :
    bS prog 412 #[.slice none 0 0,aF ((n:Nat):Int)] w λv w'=>∃(A0:ah)(c0:Nat),v=.slice A0 (([]:List bD).length) c0/\Hp w S0 w' [aS dJ 117 A0 c0 ([]:List bD)]:=by
 refine kP S0 func412 ntmps412 Y λH0=>iZ Y<|aW<|bQ Y<|ev (fC Y Y)<|dn<|mQ Y (λhc6=>?_) (λhc6=>?_)
 ·omega
 refine jm ?_;refine aW<|bQ Y<|mv Y<|ev (Ev.cap oI Y)<|mv Y<|ev (eU oI Y)<|ev (UD Y Y)<|ev (UD Y Y)<|bU Y<|bQ Y<|ev (pV Y Y)<|dn<|mQ Y (λhc16=>?_) (λhc16=>?_)
 ·refine jy<|mv Y<|mv Y<|ev (Ev.cap oI Y)<|ev (Ev.Vn oI Gq Y Y Y)<|mv Y<|apz dJ (m:=n) Y Y oI iQ TJ aj aj Y H0 λg1 cz1 w1 K1=>mv Y<|ev (eU oI Y)<|ev (Ev.Vn oI Gq Y Y Y)<|iI Y<|jA<|gG<|bQ Y<|bU Y<|jc Y ?_
  exact⟨(some ⟨g1,0,none⟩),cz1,Y,K1⟩
 refine jm ?_;refine bQ Y<|bU Y<|jc Y ?_
 have H1:=H0.nil dJ 117;exact⟨none,0,Y,H1⟩
theorem YJ(w:World){afP:ah}{afQ:Nat}{xss:List (List bD)}(LX:Sl (Ty.list dJ) S0 w afP afQ xss)(hn:(xss).flatten.length<=1000000) :
    bS prog 341 #[.slice afP xss.length afQ] w λv w'=>∃(A0:ah)(c0:Nat),v=.slice A0 (((xss).flatten).length) c0/\Hp w S0 w' [aS dJ 117 A0 c0 ((xss).flatten)]:=by
 refine kP S0 func341 ntmps341 Y λH0=>?_;have azw:=LX.bH;refine iZ Y<|iZ Y<|aW<|bQ Y<|ev (eU adu Y)<|mv Y<|dn<|cB ?_
 have eO:(0:Int)=((BL xss 0:Nat):Int):=by rfl
 refine lC (t:=3) Y (aR (Value.int .i64) eO)<|Lp H0 (λl0 rk mJ lJ wJ=>∃(k:Nat),lJ=(3,aF ((BL xss k:Nat):Int))::(11,aF ((k:Nat):Int))::l0/\mJ=xss.length - k/\k<=xss.length/\Hp w S0 wJ rk) ⟨0,Y,Y,fJ _,H0⟩ Y ?_
 rintro _ _ w1 ⟨k,rfl,rfl,hk,K1⟩;refine rg<|ev (fC Y Y)<|dn<|pQ Y (λoN=>?_) (λoN=>?_)
 ·refine jm ?_;refine aW<|cB<|rg ?_
  obtain⟨x1,bP⟩:=bC (xs:=xss) (i:=k) aj;refine ev (cu (i:=k) adu axu Y Y Y (aJ bP) ((K1.a LX).some_ bP)) ?_;obtain⟨B1,d1,zP,hi1⟩:=Vp (LX.row bP);refine ev (iL aqm Y (K1.ext.cell zP))<|bU Y<|bQ Y<|mv Y<|ev (eU oI Y)<|ev (Ev.add Y Y (wQ (by have:=vV bP; have:=xL xss (k+1); omega) (by have:=vV bP; have:=xL xss (k+1); omega)))<|bU rfl<|bQ rfl<|ev (fC rfl rfl)<|dn<|mQ rfl (λlN=>?_) (λlN=>?_)
  ·omega
  refine xQ ?_;refine jy<|ev (dO Y Y)<|mv Y<|jA ?_
  have fQ:(((BL xss k+x1.length:Nat):Int):Int)=((BL xss (k+1):Nat):Int):=by have:=vV bP; omega
  refine jq (t:=3) Y (aR (Value.int .i64) fQ)<|dI ⟨(k+1),Y,Y,aj,K1⟩ rfl aj
 refine wE ?_;refine bQ Y<|gX Y (aam (S0:=Any) _ (BL xss k) (by have:=xL xss k; omega)) ?_
 rintro _ w2 ⟨oo,oq,rfl,h2⟩;have K2:=K1.f1 h2;refine bU Y<|aW<|bQ Y<|ev (eU adu Y)<|mv Y<|dn<|cB ?_
 have jW:(([]:List bD):List bD)=((xss.take 0).flatten):=by simp
 refine lC (t:=6) Y (aR (λz=>Value.slice oo (List.length z) oq) jW) ?_;rw [jW] at K2;refine Lp (K2.rm s0) (λl0 rk mJ lJ wJ=>∃(k:Nat)(A6:ah)(c6:Nat),lJ=(6,.slice A6 (((xss.take k).flatten).length) c6)::(27,aF ((k:Nat):Int))::l0/\mJ=xss.length - k/\k<=xss.length/\Hp w S0 wJ (aS dJ 117 A6 c6 ((xss.take k).flatten)::rk)) ⟨0,oo,oq,Y,Y,fJ _,K2⟩ Y ?_;rintro _ _ w3 ⟨k,A6,c6,rfl,rfl,hk,K3⟩;refine rg<|ev (fC Y Y)<|dn<|pQ Y (λhc28=>?_) (λhc28=>?_)
 ·refine jm ?_;refine aW<|cB<|rg ?_
  obtain⟨x2,kZ⟩:=bC (xs:=xss) (i:=k) aj;refine ev (cu (i:=k) adu axu Y Y Y (aJ kZ) ((K3.a LX).some_ kZ)) ?_;obtain⟨B2,d2,ah9,hi2⟩:=Vp (LX.row kZ);refine ev (iL aqm Y (K3.ext.cell ah9))<|bU Y<|jy<|mv Y<|mv Y<|ap (ys:=x2) K3 s0 Y Y (K3.a hi2).any oI TJ (by have:=xL xss k; simp only [BL] at this; omega) (by have:=vV kZ; have:=xL xss (k+1); omega) rfl λoL oM w4 K4=>iI rfl<|jA<|iE (gG ?_)
  refine jy<|ev (dO Y Y)<|mv Y<|jA ?_
  have mH:((((xss.take k).flatten)++x2):List bD)=((xss.take (k+1)).flatten):=by exact Qh kZ
  refine jq (t:=6) Y (aR (λz=>Value.slice oL (List.length z) oM) mH) ?_;rw [mH] at K4;exact dI ⟨(k+1),oL,oM,Y,Y,aj,K4⟩ rfl aj
 refine wE ?_;refine bQ Y<|bU Y<|jc Y ?_
 have rR:(((xss.take k).flatten):List bD)=((xss).flatten):=by rw [iH aj]
 rw [rR] at K3;exact⟨A6,c6,by rw [rR] <;> rfl,K3⟩
abbrev VP(iD:List bD)(ji:Nat):=([(iD.take ji),(iD.drop (ji+1))]:List (List bD))
theorem anG(w:World){l:List bD}(jo:Sl dJ S0 w jl jk l)(aL:Int)(ni:Int)(hn:l.length<=100000) :
    bS prog 247 #[.slice jl l.length jk,aF aL,aF ni] w λv w'=>∃(A0:ah)(c0:Nat),v=.tuple #[.slice A0 ((Ai l aL ni).length) c0,aF (MQ l aL ni)]/\Hp w S0 w' [aS dJ 117 A0 c0 (Ai l aL ni)]:=by
 refine kP S0 func247 ntmps247 Y λH0=>rg<|iI Y<|bU Y<|bQ Y<|mv Y<|mv Y<|mU H0 Y (aaP _ (H0.a jo).any aL ni) λw1 K1=>bU Y<|aW<|bQ Y<|ev (fC Y Y)<|dn<|mQ Y (λrM=>?_) (λrM=>?_)
 ·refine rg<|iI Y<|bU Y<|uX Y ?_
  have H1:=K1.nil dJ 117;have eO:(([]:List bD):List bD)=(Ai l aL ni):=by unfold Ai; rw [aO rM]
  have H2:=(eO▸H1:Hp w S0 w1 (aS dJ 117 none 0 (Ai l aL ni)::[]));have fQ:(5:Int)=(MQ l aL ni):=by unfold MQ; rw [aO rM]
  exact⟨none,0,by rw [<- eO,<- fQ] <;> rfl,H2⟩
 refine jm ?_;have hlt:=arW (l:=l) (c:=aL) (t:=ni) aj;obtain⟨i,hi⟩:∃ i:Nat,zT l aL ni=((i:Nat):Int):=⟨(zT l aL ni).toNat,aj⟩;rw [hi] at hlt;refine lC (t:=8) Y (aR (Value.int .i64) hi)<|He K1 (λ_ K=>K) (λl0 rk lJ wJ=>∃(jR:ah)(jO:Nat),lJ=(6,.slice jR ((((VP l i)).flatten).length) jO)::l0/\Hp w S0 wJ (aS dJ 117 jR jO (((VP l i)).flatten)::rk)) (λhns H3=>?_) ?_
 ·refine kX 0 Y Y H3<|kX 1 Y Y H3<|lD 2 Y (λ_ hK=>F9 (hi:=i) (xs:=l) oI Gq Y Y Y aj (hK.a jo).cap) H3<|kX 3 Y Y H3<|kX 4 Y Y H3<|lD 5 Y (λ_ _=>dO Y Y) H3<|lD 6 Y (λ_ hK=>Gf (lo:=i+1) (xs:=l) oI Gq Y Y Y aj (hK.a jo).cap) H3<|O1 7 Y<|bsn (τ:=(Ty.list dJ)) (xs:=(VP l i)) (vs:=[(0,.slice jl ((l.take i).length) jk),(1,.slice (tQ jl jk (i+1) 5) ((l.drop (i+1)).length) (jk - (i+1)))]) (css:=[[.slice jl ((l.take i).length) jk],[.slice (tQ jl jk (i+1) 5) ((l.drop (i+1)).length) (jk - (i+1))]]) Y (by intro _; apply agO) rfl rfl H3 (λ_ e=>⟨⟨_,_,rfl,((H3.a jo).ajU (hi:=i) aj).ext e⟩,⟨_,_,rfl,((H3.a jo).cutFrom (lo:=i+1) aj).ext e⟩,trivial⟩) λg1 w2 K2=>?_
  have k1:=(K2.rm s0);refine aQ k1<|O1 8 Y<|gX Y (YJ _ (K2.o s0) (by simp only [CV,List.flatten_nil,yN,jd,fO,kW]; omega)) ?_
  rintro _ w3 ⟨nR,nS,rfl,h3⟩;have K3:=K2.f1 h3;have k2:=(K3.cU 0 2);refine aQ k2<|xI 9 Y Y k2<|xI 10 Y Y k2<|Dn ⟨nR,nS,Y,(K3.rm s1)⟩ Y
 rintro _ w4 ⟨jR,jO,rfl,K4⟩;refine jc Y ?_;have jW:(((VP l i)).flatten:List bD)=(Ai l aL ni):=by unfold Ai; rw [aK rM,hi]; simp
 rw [jW] at K4;have mH:(0:Int)=(MQ l aL ni):=by unfold MQ; rw [aK rM]
 exact⟨jR,jO,by rw [jW,<- mH] <;> rfl,K4⟩
theorem adx(w:World){uY:Nat}{s:List gq}(mP:Sl mX S0 w vY uY s)(hn:s.length<=1000000) :
    bS prog 175 #[.slice vY s.length uY] w λv w'=>∃(A0:ah)(c0:Nat),v=.slice A0 s.length c0/\Hp w S0 w' [aS mX 219 A0 c0 s]:=by
 refine kP S0 func175 ntmps175 Y λH0=>iZ Y<|aW<|bQ Y<|ev (Ov OZ Y Y)<|dn<|bK Y (λhc4=>?_) (λhc4=>?_)
 ·refine iZ Y<|uX Y ?_
  have H1:=H0.nil mX 219;have eO:(([]:List gq):List gq)=s:=by have h1:=mP.nil (by simpa using hc4); have h2:=mP.cap; exact(uE aj).symm
  have H2:=(eO▸H1:Hp w S0 w (aS mX 219 none 0 s::[]));exact⟨none,0,by rw [<- eO] <;> rfl,H2⟩
 refine jm ?_;refine rg<|bs0 (τ:=mX) (vs:=[]) Y (by intro _; apply anE) rfl H0 λg1 w1 K1=>mv rfl<|ap (ys:=s) K1 s0 rfl rfl (K1.a mP).any OZ ain av (by first | omega | (simp; omega) | (simp; done)) rfl λoL oM w2 K2=>bU rfl<|jc rfl ?_
 have fQ:((([]:List gq)++s):List gq)=s:=by simp
 rw [fQ] at K2;exact⟨oL,oM,by rw [fQ] <;> rfl,K2⟩
abbrev ady(iD:List aV)(ji:List Int)(uS:List gq)(wV:List Int):=(⟨Bv (tL iD ji uS wV iD),nL uS (Bv (tL iD ji uS wV iD))+1⟩:gq)
theorem anH{l:List aV}{n:Nat}{hq td:List Int}(h:sW l aG n aZ dw=td++sW l aG (n - td.length) ls hq)(hs:(tL l aG ls hq l).isSome=true)(hl:td.length<n) :
    sW l aG n aZ dw=(td++[Bv (tL l aG ls hq l)])++sW l aG (n - (td++[Bv (tL l aG ls hq l)]).length) ([(ady l aG ls hq)]++ls) (hq++[Bv (tL l aG ls hq l)]):=by
  rw [h];obtain⟨m,hm⟩:∃ m,n - td.length=m+1:=⟨n - td.length - 1,aj⟩;rw [hm,agR hs,show n - (td++[Bv (tL l aG ls hq l)]).length=m from by simp only [jd,pF,rH]; omega]
  simp
theorem av0{td:List Int}{t z:Int}(h:∀ x∈ls,0<=x.N/\x.N<=1000000+(td.length:Int))(u:Int):∀ x∈[(⟨t,nL ls u+1⟩:gq)]++ls,0<=x.N/\x.N<=1000000+((td++[z]).length:Int):=by
  intro x hx;have hp:=ajv (N:=1000000+(td.length:Int)) aj h u;rw [jd,pF,rH]
  rcases jN.1 hx with h1 | h1
  · rw [j4.1 h1]; simp only; omega
  · have:=h x h1; omega
theorem av1(w:World){l:List aV}(jo:Sl cZ S0 w jl jk l){kC:ah}{ku:Nat}(kM:Sl dQ S0 w kC ku aG){nC:ah}{nA:Nat}(oJ:Sl mX S0 w nC nA aZ){vC:ah}{vD:Nat}(DN:Sl dQ S0 w vC vD dw)(n:Int)(hn:l.length<=100000)(hl:aZ.length<=1000)(hh:dw.length<=1000)(hz:n<=1000)(h0:∀ x∈aZ,0<=x.N/\x.N<=1000000) :
    bS prog 103 #[.slice jl l.length jk,.slice kC aG.length ku,.slice nC aZ.length nA,.slice vC dw.length vD,aF n] w λv w'=>∃(A0:ah)(c0:Nat),v=.slice A0 ((sW l aG n.toNat aZ dw).length) c0/\Hp w S0 w' [aS dQ 3 A0 c0 (sW l aG n.toNat aZ dw)]:=by
 refine kP S0 func103 ntmps103 Y λH0=>iZ Y<|bQ Y<|gX Y (uH _ (H0.a DN).any aj) ?_
 rintro _ w1 ⟨j6,kg,rfl,h1⟩;have K1:=H0.f1 h1;refine bU Y<|iZ Y<|aW<|cB ?_
 have H1:=K1.nil dQ 3;have eO:(([]:List Int):List Int)=[]:=by simp
 refine lC (t:=11) Y (aR (λz=>Value.slice none (List.length z) 0) eO) ?_;have H2:=H1.nil dQ 3;have H3:=H2.push (H2.a oJ);refine Lp (H3.cU 0 4) (λl0 rk mJ lJ wJ=>∃(Aq:ah)(cq:Nat)(At:ah)(ct:Nat)(Al:ah)(cl:Nat)(td hq:List Int)(ls:List gq),lJ=(2,.slice Al ls.length cl)::(3,.slice Aq hq.length cq)::(11,.slice At td.length ct)::l0/\mJ=n.toNat - td.length/\(sW l aG n.toNat aZ dw=td++sW l aG (n.toNat - td.length) ls hq)/\((td.length:Int)<=(n.toNat:Int)/\hq.length=dw.length+td.length/\ls.length=aZ.length+td.length)/\(∀ x∈ls,0<=x.N/\x.N<=1000000+(td.length:Int))/\Hp w S0 wJ (aS dQ 3 At ct td::aS dQ 3 Aq cq hq::dP mX Al cl ls::rk)) ⟨j6,kg,none,0,nC,nA,[],dw,aZ,Y,Y,av,by simp; omega,by intro x hx; have:=h0 x hx; simp; omega,(((H3.rm s2).sel s0).mV 1 2)⟩ rfl ?_;rintro _ _ w2 ⟨Aq,cq,At,ct,Al,cl,td,hq,ls,rfl,rfl,hM,hB,hN,K2⟩;refine aW<|bQ Y<|ev (eU fB Y)<|mv Y<|ev (fC Y Y)<|dn<|mQ Y (λhc19=>?_) (λhc19=>?_)
 ·refine jm ?_;refine cB<|bQ Y<|mv Y<|mv Y<|mv Y<|mU K2 Y (aaQ _ (K2.a jo).any (K2.a kM).any (K2.s s2).any (K2.o s1) aj (λx hx=>(hN x hx).1)) λw3 K3=>mv Y<|xt Y Y<|xt Y Y<|iI Y<|bU Y<|aW<|bQ Y<|ev (iB Y)<|dn<|bK Y (λhc29=>?_) (λhc29=>?_)
  ·try simp only [fq,dX,bN,eH,eG,fP,bO,bV] at hc29
   refine qJ (lu (Ou Y (lu (rE (gG ?_)))));refine bQ Y<|bU Y<|jc Y ?_
   have fQ:(td:List Int)=(sW l aG n.toNat aZ dw):=by rw [hM,akW (by simpa using hc29)]; simp
   have H4:=(fQ▸K3:Hp w S0 w3 [aS dQ 3 At ct (sW l aG n.toNat aZ dw),aS dQ 3 Aq cq hq,dP mX Al cl ls]);exact⟨At,ct,by rw [<- fQ] <;> rfl,(H4.cU 1 2)⟩
  try simp only [fq,dX,bN,eH,eG,fP,bO,bV] at hc29
  refine jm ?_;refine bQ Y<|mv Y<|Az (τ:=dQ) (x:=(Bv (tL l aG ls hq l))) Y (by intro _; apply pW) rfl K3 (λ_ _=>rfl) λg1 w4 K4=>ap (ys:=([Bv (tL l aG ls hq l)]:List Int)) K4 s1 rfl rfl (K4.o s0) fB Lh (by first | omega | (simp; omega) | (simp; done)) av rfl λoL oM w5 K5=>mv rfl<|mv rfl<|Az (τ:=dQ) (x:=(Bv (tL l aG ls hq l))) rfl (by intro _; apply pW) rfl K5 (λ_ _=>rfl) λg2 w6 K6=>ap (ys:=([Bv (tL l aG ls hq l)]:List Int)) K6 s3 rfl rfl (K6.o s0) fB Lh (by first | omega | (simp; omega) | (simp; done)) av rfl λVs cp2 w7 K7=>iI rfl<|bU rfl<|jy<|mv rfl<|gX rfl (adx _ (K7.s s4).any aj) ?_
  rintro _ w8 ⟨EZ,E5,rfl,h8⟩;have K8:=K7.f1 h8;refine mv Y<|mv Y<|mv Y<|mU K8 Y (u7 _ (K8.s s5).any (Bv (tL l aG ls hq l))) λw9 K9=>ev (Ev.add Y Y (wQ (by have hp:=ajv (N:=1000000+(td.length:Int)) aj hN (Bv (tL l aG ls hq l)); omega) (by have hp:=ajv (N:=1000000+(td.length:Int)) aj hN (Bv (tL l aG ls hq l)); omega)))<|ev (iY (vs:=[(0,aF (Bv (tL l aG ls hq l))),(1,aF (nL ls (Bv (tL l aG ls hq l))+1))]) (cs:=[aF (Bv (tL l aG ls hq l)),aF (nL ls (Bv (tL l aG ls hq l))+1)]) rfl (by apply IL))<|Az (τ:=mX) (x:=(ady l aG ls hq)) rfl (by intro _; apply Ls) rfl K9 (λ_ _=>rfl) λg3 Oz K10=>gX rfl (OI (i:=0) K10 s1 s0 aj aj) ?_
  rintro _ Ti ⟨Ap3,cp3,rfl,tZ⟩;refine iI Y<|jA<|iE ?_
  have H5:=tZ.fz s0;exact dI ⟨Vs,cp2,oL,oM,Ap3,cp3,(td++([Bv (tL l aG ls hq l)]:List Int)),(hq++([Bv (tL l aG ls hq l)]:List Int)),(ls.take 0++[(ady l aG ls hq)]++ls.drop 0),Y,Y,by have hst:=anH hM hc29 aj; simpa using hst,by simp only [jd,pF,rH,fO,kW]; omega,by have hbd:=av0 (t:=Bv (tL l aG ls hq l)) (z:=Bv (tL l aG ls hq l)) hN (Bv (tL l aG ls hq l)); simpa using hbd,(((((H5.cU 4 2).rm s2).sel s0).sel s1).sel s2)⟩ rfl (by simp only [jd,pF,rH]; omega)
 refine wE ?_;refine bQ Y<|bU Y<|jc Y ?_
 have jW:(td:List Int)=(sW l aG n.toNat aZ dw):=by rw [hM,show n.toNat - td.length=0 from by omega]; simp [sW]
 have H6:=(jW▸K2:Hp w S0 w2 [aS dQ 3 At ct (sW l aG n.toNat aZ dw),aS dQ 3 Aq cq hq,dP mX Al cl ls]);exact⟨At,ct,by rw [<- jW] <;> rfl,(H6.cU 1 2)⟩
end Go.Proofs.YtlhnnmlenkahlaaGreat
namespace Go.Proofs.YtlhnnmlenkahlaaGreat
open Go.Shelf Go.Proofs.Tryz
def Tryz.laysNm220_ren:Go.Shelf.Ren:=⟨λ| 20=>190 | n=>n,λ| 22=>55 | 3=>3 | 4=>4 | 0=>0 | n=>n,λ| n=>n⟩
theorem Tryz.laysNm220:Go.Proofs.Lays2.n20 prog Tryz.laysNm220_ren:={
  mixed:=ak
  f20:=func190.trans (aR some ak)
  t0:=underlying0
  a0:=Tryz.isAgg0
  z0:=Tryz.sizeOf0
  v0:=Tryz.zeroValue0
  t3:=iQ
  a3:=Tryz.isAgg3
  z3:=Tryz.sizeOf3
  v3:=Tryz.zeroValue3
  t4:=SS
  a4:=Tryz.isAgg4
  z4:=Tryz.sizeOf4
  v4:=Tryz.zeroValue4
  t22:=fB
  a22:=Tryz.isAgg55
  z22:=Tryz.sizeOf55
  v22:=Tryz.zeroValue55
  i3:=by kernel_rfl }
end Go.Proofs.YtlhnnmlenkahlaaGreat
