/- Lemmas. -/
import Derived.Shelf.Slices.CompactI
import Derived.Ground.Names2Prog
import Derived.Test.YtlhnnmlenkahlaaGreatvG21
import Derived.Test.YtlhnnmlenkahlaaGreatProg
set_option maxRecDepth 4000
set_option linter.all false
namespace Go.Proofs.YtlhnnmlenkahlaaGreat
open Go.RowKit Go.Proofs.Tryz
def aaJ:=@underlying379
variable {l:List aH}{es:nJ}{c:Int}{pre:List (aH × Bool)}{x:aH × Bool}{S S0:Nat->Prop}{F:List lC}{mH jg:Nat}{u7 jl:ah}{aG dw:List Int}{aX ls:List gq}
def nW(l:List aH)(es:nJ)(c:Int):List (BitVec 8) × Int × Int:=match (wO l es).find? (fun(p:aH × Bool)=>decide (p.1.aB=c)) with
  | none=>([],0,5)
  | some p=>if p.2=true then([],0,4) else((fU (⟨c,false⟩:bV) es).2.2,p.1.aC,0)
theorem KI(h:∀ y∈wO l es,y.1.aB≠c):nW l es c=([],0,5):=by
  unfold nW; rw [Af.2 (λy hy=>by simpa using h y hy)]
abbrev KJ(gJ:Int)(iK:nJ):=fU (⟨gJ,false⟩:bV) iK
theorem rd_some(h:pre++[x] <+: wO l es)(hno:∀ y∈pre,y.1.aB≠c)(hx:x.1.aB=c):nW l es c=if x.2=true then([],0,4) else((KJ c es).2.2,x.1.aC,0):=by
  obtain⟨t,ht⟩:=h;unfold nW;rw [<- ht,Gg,Gg,Af.2 (λy hy=>by simpa using hno y hy)]
  simp [hx]
theorem arF:∀ w,(zeroValue 27).run prog w=.ok (aD 0) w:=ay
theorem an7:bI prog 196:=ay
theorem atu:kW prog 33:=ay
theorem ad4{b w:World}(H0:Hp b S w F)  :
    bO prog 118 #[fP mH] w λv w'=>∃(acv:Nat),v=.func (.func 196) #[] #[fP acv]/\Hp b S w' (dJ acv 93 [fP mH]::F):=by
 refine sF func118 ntmps118 Y<|rg<|bx Y Y H0 λg1 w1 K1=>bS Y<|rg<|ev (qC Y)<|bS Y<|iI Y ?_
 exact⟨g1,Y,K1⟩
abbrev aaK:=bV × Option Addr × Nat × List (BitVec 8)
abbrev ahW(gJ:(aH × Bool)):List Value:=[.agg #[aD gJ.1.aB,aD gJ.1.aC,fT gJ.1.Sum,.bool gJ.1.fO,.bool gJ.1.Bad],.bool gJ.2]
theorem ad5{b w:World}{gm:Nat}{A:ah}{c:Nat}{bJ:Int}{es:List aaK}(H0:Hp b S w (dJ mH 169 [aD bJ,.slice A l.length c,.map (some gm)]::dP bf A c l::pz uT uh gm es::fD gu 5 (es.map Prod.snd)::F))(aL:Int)(hl:l.length<=100000)(hb:(fU ⟨aL,false⟩ es).2.2.length<=1000) :
    bO prog 54 #[fP mH,aD aL] w λv w'=>∃(A0:ah)(c0:Nat),v=.tuple #[.slice A0 (((nW l es aL).1).length) c0,aD ((nW l es aL).2.1),aD ((nW l es aL).2.2)]/\Hp b S w' (aR gu 5 A0 c0 ((nW l es aL).1)::dJ mH 169 [aD bJ,.slice A l.length c,.map (some gm)]::dP bf A c l::pz uT uh gm es::fD gu 5 (es.map Prod.snd)::F):=by
 refine axw func54 ntmps54 Y<|rg<|bx Y Y H0 λg1 w1 K1=>bx Y Y K1 λg2 w2 K2=>al KG Y K2 λg3 w3 K3=>al afO Y K3 λg4 w4 K4=>al arF Y K4 λg5 w5 K5=>dn<|aZ<|rg<|mK K5 s4 Y<|gW Y (ad4 K5 ) ?_
 rintro _ w6 ⟨JV,rfl,K6⟩;refine dn<|cZ<|WP.range (enc:=fun(x:(aH × Bool))=>(ahW x)) (ys:=wO l es) (F0:=(dJ g3 33 [.slice none 0 0]::dJ g4 3 [aD 0]::dJ g5 27 [aD 0]::dJ g2 3 [aD aL]::dJ g1 93 [fP mH]::F)) (G0:=[dJ JV 93 [fP mH],dJ mH 169 [aD bJ,.slice A l.length c,.map (some gm)],dP bf A c l,pz uT uh gm es,fD gu 5 (es.map Prod.snd)]) Y an7 (YK aj) (Hp.att (L:=[dJ g3 33 [.slice none 0 0],dJ g4 3 [aD 0],dJ g5 27 [aD 0],dJ g2 3 [aD aL],dJ g1 93 [fP mH]]) (X:=[dJ JV 93 [fP mH],dJ mH 169 [aD bJ,.slice A l.length c,.map (some gm)],dP bf A c l,pz uT uh gm es,fD gu 5 (es.map Prod.snd)]) (F:=F) (((((K6.sel s0).mV 4 2).sel s3).sel s4).sel s5)) (λ_=>Y) Y (λpre Fj=>Fj=(dJ g3 33 [.slice none 0 0]::dJ g4 3 [aD 0]::dJ g5 27 [aD 0]::dJ g2 3 [aD aL]::dJ g1 93 [fP mH]::F)/\(∀ y∈pre,y.1.aB≠aL)) (λc pre Fj=>(c=.ret/\∃(A:ah)(c:Nat)(xs:List (BitVec 8))(z:Int)(e:Int),Fj=(dJ g3 33 [.slice A xs.length c]::dJ g4 3 [aD z]::dJ g5 27 [aD e]::aR gu 5 A c xs::dJ g2 3 [aD aL]::dJ g1 93 [fP mH]::F)/\(nW l es aL=(xs,z,e)))) (λpre x l1 Fj=>∃(RH:Nat),l1=[(2,fP g1),(3,fP g2),(4,fP g3),(5,fP g4),(6,fP g5),(7,fP RH),(8,.bool x.2)]/\Fj=(dJ RH 132 [aD x.1.aB,aD x.1.aC,fT x.1.Sum,.bool x.1.fO,.bool x.1.Bad]::dJ g3 33 [.slice none 0 0]::dJ g4 3 [aD 0]::dJ g5 27 [aD 0]::dJ g2 3 [aD aL]::dJ g1 93 [fP mH]::F)/\(∀ y∈pre,y.1.aB≠aL)) ⟨Y,av⟩ ?_ ?_ ?_ ?_
 ·rintro lr pre x _ G w7 ⟨rfl,hno⟩ hpre K7;have H1:=Hp.tin (L:=[dJ g3 33 [.slice none 0 0],dJ g4 3 [aD 0],dJ g5 27 [aD 0],dJ g2 3 [aD aL],dJ g1 93 [fP mH]]) (X1:=[dJ JV 93 [fP mH],dJ mH 169 [aD bJ,.slice A l.length c,.map (some gm)],dP bf A c l,pz uT uh gm es,fD gu 5 (es.map Prod.snd)]) (F:=F) K7;refine rg<|al yK Y H1 λg6 w8 K8=>sty Y K8 s0 Y λw9 K9=>dn<|jr<|iA Y<|jv<|kV.ap ⟨g6,Y,Y,hno⟩ Y (M8 (L:=[dJ g6 132 [aD x.1.aB,aD x.1.aC,fT x.1.Sum,.bool x.1.fO,.bool x.1.Bad],dJ g3 33 [.slice none 0 0],dJ g4 3 [aD 0],dJ g5 27 [aD 0],dJ g2 3 [aD aL],dJ g1 93 [fP mH]]) (X1:=[dJ JV 93 [fP mH],dJ mH 169 [aD bJ,.slice A l.length c,.map (some gm)],dP bf A c l,pz uT uh gm es,fD gu 5 (es.map Prod.snd)]) (F:=F) K9)
 ·rintro lr pre x _ _ G Nn ⟨RH,rfl,rfl,hno⟩ hpre K10;have H2:=Hp.tin (L:=[dJ RH 132 [aD x.1.aB,aD x.1.aC,fT x.1.Sum,.bool x.1.fO,.bool x.1.Bad],dJ g3 33 [.slice none 0 0],dJ g4 3 [aD 0],dJ g5 27 [aD 0],dJ g2 3 [aD aL],dJ g1 93 [fP mH]]) (X1:=[dJ JV 93 [fP mH],dJ mH 169 [aD bJ,.slice A l.length c,.map (some gm)],dP bf A c l,pz uT uh gm es,fD gu 5 (es.map Prod.snd)]) (F:=F) K10;refine cZ<|cZ<|rg<|jD RH 0 lZ H2 s0 Y<|mK H2 s4 Y<|ev (rz Y Y)<|bS Y<|bR Y (λsG=>?_) (λsG=>?_)
  ·replace sG:=nS sG;refine xH (ig (ig ?_));exact kV.rn ⟨Y,by intro y hy; rcases kU.1 hy with h | h; exact hno y h; rw [nL.1 h]; exact sG⟩ (M8 (L:=[dJ g3 33 [.slice none 0 0],dJ g4 3 [aD 0],dJ g5 27 [aD 0],dJ g2 3 [aD aL],dJ g1 93 [fP mH]]) (X1:=[dJ JV 93 [fP mH],dJ mH 169 [aD bJ,.slice A l.length c,.map (some gm)],dP bf A c l,pz uT uh gm es,fD gu 5 (es.map Prod.snd)]) (F:=F) (H2.rm s0))
  replace sG:=nT sG;refine bQ Y<|bS Y<|bR Y (λhc28=>?_) (λhc28=>?_)
  ·refine rg<|wD Y H2 s1 Y λRG tO=>wD Y tO s2 Y λQp rW=>wD Y rW s3 Y λWO vC=>dn<|je (jH (jH ?_))
   have H3:=vC.nil gu 5;exact kV.rr ⟨Y,none,0,([]:List (BitVec 8)),0,4,Y,by rw [rd_some hpre hno aj,aO hc28]⟩ (M8 (L:=[dJ g3 33 [.slice none (([]:List (BitVec 8)).length) 0],dJ g4 3 [aD 0],dJ g5 27 [aD 4],aR gu 5 none 0 [],dJ g2 3 [aD aL],dJ g1 93 [fP mH]]) (X1:=[dJ JV 93 [fP mH],dJ mH 169 [aD bJ,.slice A l.length c,.map (some gm)],dP bf A c l,pz uT uh gm es,fD gu 5 (es.map Prod.snd)]) (F:=F) (((((H3.rm s4).sel s0).sel s1).sel s2).sel s3))
  refine HeR H2 (λ_ K=>(K.cU 1 3)) (λl0 rk lJ wJ=>∃(jE:ah)(jB:Nat),lJ=l0/\Hp b S wJ (dJ g5 27 [aD 0]::dJ g4 3 [aD x.1.aC]::dJ g3 33 [.slice jE (((KJ aL es).2.2).length) jB]::aR gu 5 jE jB ((KJ aL es).2.2)::rk)) (λhns H4=>?_) ?_
  ·have k1:=(H4.cU 1 3);refine Ai 0 s2 Y k1<|Qk 1 mH 2 wN Y k1<|Ai 3 s4 Y k1<|Ai 4 s1 Y k1<|lH 5 Y (λ_ _=>iE (vs:=[(0,aD aL),(1,.bool false)]) (cs:=[aD aL,.bool false]) Y (by apply o8)) k1<|lH 6 rfl (λ_ hK=>Ev.adW (z:=(⟨aL,false⟩:bV)) hK s6 uD Dr KG rfl rfl) k1<|mD 8 9 RH 1 su s0 rfl k1<|O1 7 rfl<|gW rfl (GX _ (H4.anV s10 (⟨aL,false⟩:bV)) aj) ?_
   rintro _ Xv ⟨an2,an3,rfl,h14⟩;have vo:=H4.f1 h14;have k2:=((vo.cU 2 3).rm s0);refine aP k2<|O1 10 Y<|wD Y vo s2 Y λYg yX=>?_
   have k3:=((yX.cU 3 2).cU 0 2);refine aP k3<|O1 11 Y<|wD Y yX s3 Y λw16 Bv=>?_
   have k4:=((Bv.rm s4).cU 0 3);refine aP k4<|O1 12 Y<|wD Y Bv s4 Y λw17 xS=>?_
   have k5:=(xS.cU 0 4);refine aP k5<|Dn ⟨an2,an3,Y,xS⟩ Y
  rintro _ w18 ⟨jE,jB,rfl,FR⟩;refine je (jH (jH ?_));exact kV.rr ⟨Y,jE,jB,((KJ aL es).2.2),x.1.aC,0,Y,by rw [rd_some hpre hno aj,aK (by rw [hc28]; decide)]⟩ (M8 (L:=[dJ g3 33 [.slice jE (((KJ aL es).2.2).length) jB],dJ g4 3 [aD x.1.aC],dJ g5 27 [aD 0],aR gu 5 jE jB ((KJ aL es).2.2),dJ g2 3 [aD aL],dJ g1 93 [fP mH]]) (X1:=[dJ JV 93 [fP mH],dJ mH 169 [aD bJ,.slice A l.length c,.map (some gm)],dP bf A c l,pz uT uh gm es,fD gu 5 (es.map Prod.snd)]) (F:=F) ((((FR.rm s4).sel s0).sel s1).sel s2))
 ·rintro D _ w19 ⟨rfl,hno⟩ Bf;refine ig (gB ?_);refine rg<|wD Y Bf s6 Y λw20 DL=>wD Y DL s7 Y λw21 Gp=>wD Y Gp s8 Y λw22 Fa=>dn<|je (kV.aiQ ((Fa.mV 0 3).sel s3) Y λw23 Jk=>⟨_,⟨_,_,Y,⟨_,Y,zo atu (((Jk.x s2).cell 0).trans Y)⟩,⟨_,_,Y,⟨_,Y,zo jG (((Jk.x s1).cell 0).trans Y)⟩,⟨_,_,Y,⟨_,Y,zo atn (((Jk.x s0).cell 0).trans Y)⟩,Y⟩⟩⟩,?_⟩)
  have H5:=Jk.nil gu 5;have d9:(([]:List (BitVec 8)):List (BitVec 8))=((nW l es aL).1):=by first | rw [KI hno] | rw [hrd]
  have fG:(0:Int)=((nW l es aL).2.1):=by first | rw [KI hno] | rw [hrd]
  have jQ:(5:Int)=((nW l es aL).2.2):=by first | rw [KI hno] | rw [hrd]
  exact⟨none,0,by rw [<- fG,<- jQ,<- d9] <;> rfl,by rw [<- d9]; exact((H5.cU 9 2).cU 1 4)⟩
 ·rintro D c pre F w24 (⟨rfl,A,c,xs,z,e,rfl,hrd⟩) pG;refine je (jH (gL (kV.aiQ pG Y λw25 FT=>⟨_,⟨_,_,Y,⟨_,Y,zo atu (((FT.x s5).cell 0).trans Y)⟩,⟨_,_,Y,⟨_,Y,zo jG (((FT.x s6).cell 0).trans Y)⟩,⟨_,_,Y,⟨_,Y,zo atn (((FT.x s7).cell 0).trans Y)⟩,Y⟩⟩⟩,?_⟩)));have lV:(xs:List (BitVec 8))=((nW l es aL).1):=by first | rw [KI hno] | rw [hrd]
  have qU:(z:Int)=((nW l es aL).2.1):=by first | rw [KI hno] | rw [hrd]
  have vY:(e:Int)=((nW l es aL).2.2):=by first | rw [KI hno] | rw [hrd]
  exact⟨A,c,by rw [<- qU,<- vY,<- lV] <;> rfl,by rw [<- lV]; exact(((((FT.cU 9 2).cU 5 3).rm s0).mV 0 4).sel s4)⟩
def uH(pre:List (aH × Bool)):List Int:=(pre.filter fun(p:aH × Bool)=>p.2).map fun(p:aH × Bool)=>p.1.aB
def Dt(l:List aH)(es:nJ):List Int:=uH (wO l es)
theorem ahX(h:x.2=true):uH pre++[x.1.aB]=uH (pre++[x]):=by unfold uH; rw [yg,pR]; simp [h]
theorem an8(h:x.2=false):uH pre=uH (pre++[x]):=by unfold uH; rw [yg,pR]; simp [h]
theorem ad6(pre:List (aH × Bool)):(uH pre).length<=pre.length:=by unfold uH; rw [jN]; exact lX _ _
theorem ake(l:List aH)(es:nJ):(wO l es).length<=l.length:=by unfold wO; rw [jN]; exact KH l
def arG(s:List aH × nJ)(c:Int):List aH × nJ:=(AJ s.1 c,M5 s.1 c s.2)
def sH(l:List aH)(es:nJ)(k:Nat):List aH × nJ:=((Dt l es).take k).foldl arG (l,es)
theorem Pn{k:Nat}(h:(Dt l es)[k]? = some c):sH l es (k+1)=(AJ (sH l es k).1 c,M5 (sH l es k).1 c (sH l es k).2):=by
  unfold sH; rw [fI h,xD]; rfl
theorem an9(l:List aH)(c:Int):(AJ l c).length<=l.length:=by
  unfold AJ; split
  · unfold oo; split
    · exact lG (lX _ _) (vI l)
    · simp
  · exact kH _
theorem ad7(l:List aH)(es:nJ):∀ k,(sH l es k).1.length<=l.length
  | 0=>kH _
  | k+1=>by
    have h:=ad7 l es k
    rcases Nr k (Dt l es).length with hk | hk
    · obtain⟨x,hx⟩:=bC hk
      rw [Pn hx]; exact lG (an9 _ _) h
    · unfold sH at h ⊢
      rw [iD aj] at h ⊢; exact h
theorem akf{b w:World}{gm:Nat}{A:ah}{c:Nat}{bJ:Int}{es:List aaK}(H0:Hp b S w (dJ mH 169 [aD bJ,.slice A l.length c,.map (some gm)]::dP bf A c l::pz uT uh gm es::fD gu 5 (es.map Prod.snd)::F))(hl:l.length<=100000) :
    bO prog 113 #[fP mH] w λv w'=>∃(A0:ah)(c0:Nat)(A1:ah)(c1:Nat),v=.slice A0 ((uH (wO l es)).length) c0/\Hp b S w' (aR dL 3 A0 c0 (uH (wO l es))::dJ mH 169 [aD bJ,.slice A1 (((sH l es (Dt l es).length).1).length) c1,.map (some gm)]::dP bf A1 c1 ((sH l es (Dt l es).length).1)::pz uT uh gm ((sH l es (Dt l es).length).2)::fD gu 5 (((sH l es (Dt l es).length).2).map Prod.snd)::F):=by
 refine axw func113 ntmps113 Y ?_;have hhl:=ake l es;have hgl:=ad6 (wO l es);refine iY Y<|rg<|al ZJ Y H0 λg1 w1 K1=>dn<|aZ<|bQ Y<|gW Y (ad4 K1 ) ?_
 rintro _ w2 ⟨Gv,rfl,K2⟩;refine dn<|cZ ?_
 have H1:=K2.nil dL 3;refine WP.range (enc:=fun(x:(aH × Bool))=>(ahW x)) (ys:=wO l es) (F0:=(dJ g1 55 [.slice none ((uH []).length) 0]::aR dL 3 none 0 []::F)) (G0:=[dJ Gv 93 [fP mH],dJ mH 169 [aD bJ,.slice A l.length c,.map (some gm)],dP bf A c l,pz uT uh gm es,fD gu 5 (es.map Prod.snd)]) Y an7 (YK aj) (Hp.att (L:=[dJ g1 55 [.slice none ((uH []).length) 0],aR dL 3 none 0 []]) (X:=[dJ Gv 93 [fP mH],dJ mH 169 [aD bJ,.slice A l.length c,.map (some gm)],dP bf A c l,pz uT uh gm es,fD gu 5 (es.map Prod.snd)]) (F:=F) ((H1.mV 0 2).sel s2)) (λ_=>Y) Y (λpre Fj=>∃(Ag:ah)(cg:Nat),Fj=(dJ g1 55 [.slice Ag ((uH pre).length) cg]::aR dL 3 Ag cg (uH pre)::F)) (λc pre Fj=>False) (λpre x l1 Fj=>∃(Ag:ah)(cg:Nat)(RH:Nat),l1=[(3,fP g1),(4,fP RH),(5,.bool x.2)]/\Fj=(dJ RH 132 [aD x.1.aB,aD x.1.aC,fT x.1.Sum,.bool x.1.fO,.bool x.1.Bad]::dJ g1 55 [.slice Ag ((uH pre).length) cg]::aR dL 3 Ag cg (uH pre)::F)) ⟨none,0,Y⟩ ?_ ?_ ?_ ?_
 ·rintro lr pre x _ G w3 ⟨Ag,cg,rfl⟩ hpre K3;have H2:=Hp.tin (L:=[dJ g1 55 [.slice Ag ((uH pre).length) cg],aR dL 3 Ag cg (uH pre)]) (X1:=[dJ Gv 93 [fP mH],dJ mH 169 [aD bJ,.slice A l.length c,.map (some gm)],dP bf A c l,pz uT uh gm es,fD gu 5 (es.map Prod.snd)]) (F:=F) K3;refine rg<|al yK Y H2 λg2 w4 K4=>sty Y K4 s0 Y λw5 K5=>dn<|jr<|iA Y<|jv<|kV.ap ⟨Ag,cg,g2,Y,Y⟩ Y (M8 (L:=[dJ g2 132 [aD x.1.aB,aD x.1.aC,fT x.1.Sum,.bool x.1.fO,.bool x.1.Bad],dJ g1 55 [.slice Ag ((uH pre).length) cg],aR dL 3 Ag cg (uH pre)]) (X1:=[dJ Gv 93 [fP mH],dJ mH 169 [aD bJ,.slice A l.length c,.map (some gm)],dP bf A c l,pz uT uh gm es,fD gu 5 (es.map Prod.snd)]) (F:=F) K5)
 ·rintro lr pre x _ _ G w6 ⟨Ag,cg,RH,rfl,rfl⟩ hpre K6;have H3:=Hp.tin (L:=[dJ RH 132 [aD x.1.aB,aD x.1.aC,fT x.1.Sum,.bool x.1.fO,.bool x.1.Bad],dJ g1 55 [.slice Ag ((uH pre).length) cg],aR dL 3 Ag cg (uH pre)]) (X1:=[dJ Gv 93 [fP mH],dJ mH 169 [aD bJ,.slice A l.length c,.map (some gm)],dP bf A c l,pz uT uh gm es,fD gu 5 (es.map Prod.snd)]) (F:=F) K6;have hpl:=ad6 pre;have aD4:=hpre.length_le;rw [iO] at aD4;refine cZ<|bQ Y<|dn<|bR Y (λnQ=>?_) (λnQ=>?_)
  ·refine jr<|mK H3 s1 Y<|jD RH 0 lZ H3 s0 Y<|yU (τ:=dL) (x:=x.1.aB) Y (by intro _; apply pE) rfl H3 (λ_ _=>rfl) λg3 w7 K7=>ap (ys:=([x.1.aB]:List Int)) K7 s3 rfl rfl (K7.o s0) fq KY aj av rfl λnY nZ w8 K8=>wD rfl K8 s3 rfl λw9 K9=>jv<|ig ?_
   have d9:(((uH pre)++([x.1.aB]:List Int)):List Int)=(uH (pre++[x])):=by first | exact ahX nQ | exact an8 nQ
   rw [d9] at K9;exact kV.rn ⟨nY,nZ,Y⟩ (M8 (L:=[dJ g1 55 [.slice nY ((uH (pre++[x])).length) nZ],aR dL 3 nY nZ (uH (pre++[x]))]) (X1:=[dJ Gv 93 [fP mH],dJ mH 169 [aD bJ,.slice A l.length c,.map (some gm)],dP bf A c l,pz uT uh gm es,fD gu 5 (es.map Prod.snd)]) (F:=F) (K9.cU 2 2))
  refine xH (ig ?_);have fG:((uH pre):List Int)=(uH (pre++[x])):=by first | exact ahX nQ | exact an8 nQ
  rw [fG] at H3;exact kV.rn ⟨Ag,cg,Y⟩ (M8 (L:=[dJ g1 55 [.slice Ag ((uH (pre++[x])).length) cg],aR dL 3 Ag cg (uH (pre++[x]))]) (X1:=[dJ Gv 93 [fP mH],dJ mH 169 [aD bJ,.slice A l.length c,.map (some gm)],dP bf A c l,pz uT uh gm es,fD gu 5 (es.map Prod.snd)]) (F:=F) (H3.rm s0))
 ·rintro D _ Nn ⟨Ag,cg,rfl⟩ K10;refine ig (gB ?_);refine aZ ?_;have hgx:(Dt l es).length<=l.length:=lG hgl hhl;refine rg<|mK K10 s6 Y<|ev (eY fq Y)<|mv Y<|dn<|cZ ?_
  have jQ:(l:List aH)=(sH l es 0).1:=by rfl
  rw [jQ] at K10;have lV:(.slice A l.length c:Value)=.slice A (((sH l es 0).1).length) c:=by rfl
  try rw [lV] at K10
  have qU:es=(sH l es 0).2:=by rfl
  rw [qU] at K10;refine Lp (K10.cU 2 4) (λl0 rk mJ lJ wJ=>∃(k:Nat)(A1:ah)(c1:Nat),lJ=(20,aD ((k:Nat):Int))::l0/\mJ=(uH (wO l es)).length - k/\k<=(uH (wO l es)).length/\Hp b S wJ (dP bf A1 c1 ((sH l es k).1)::dJ mH 169 [aD bJ,.slice A1 (((sH l es k).1).length) c1,.map (some gm)]::pz uT uh gm ((sH l es k).2)::fD gu 5 (((sH l es k).2).map Prod.snd)::rk)) ⟨0,A,c,Y,Y,fK _,((((K10.mV 0 2).mV 4 2).sel s4).sel s5)⟩ Y ?_;rintro _ _ RG ⟨k,A1,c1,rfl,rfl,hk,tO⟩;refine rg<|ev (fB Y Y)<|dn<|oC Y (λhc21=>?_) (λhc21=>?_)
  ·refine jh ?_;refine aZ<|cZ ?_
   have hsl:=ad7 l es k;refine rg ?_;obtain⟨x1,bP⟩:=bC (xs:=(uH (wO l es))) (i:=k) aj;refine ev (eU (i:=k) fq sZ Y Y Y (aJ bP) ((tO.o s7).some_ bP))<|ev (jq jG Y ((tO.o s7).fZ (j:=0) bP Y))<|bS Y<|jr<|mv Y<|mv Y<|gW Y (Wj ((tO.sel s0).sel s1) x1 aj) ?_
   rintro _ Qp ⟨aoa,aob,rfl,rW⟩;refine jv<|ig (gB ?_)
   refine jr<|ev (dW Y Y)<|mv Y<|jv ?_
   have vY:((AJ ((sH l es k).1) x1):List aH)=(sH l es (k+1)).1:=by rw [Pn bP]
   rw [vY] at rW;have xZ:(.slice aoa ((AJ ((sH l es k).1) x1).length) aob:Value)=.slice aoa (((sH l es (k+1)).1).length) aob:=by rw [Pn bP]
   try rw [xZ] at rW
   have hq8:(M5 ((sH l es k).1) x1 ((sH l es k).2))=(sH l es (k+1)).2:=by rw [Pn bP]
   rw [hq8] at rW;exact dQ ⟨(k+1),aoa,aob,Y,Y,aj,((rW.sel s0).sel s1)⟩ rfl aj
  refine wQ ?_;refine rg<|mK tO s6 Y<|bS Y<|je (kV.aiQ ((tO.mV 0 4).sel s4) Y λWO vC=>⟨_,⟨_,_,Y,Y,Y⟩,?_⟩)
  have yT:((sH l es k).1:List aH)=((sH l es (Dt l es).length).1):=by first | rw [show k=(Dt l es).length from by show k=(uH (wO l es)).length; omega] | rfl
  have qI:((sH l es k).2:List aaK)=((sH l es (Dt l es).length).2):=by first | rw [show k=(Dt l es).length from by show k=(uH (wO l es)).length; omega] | rfl
  exact⟨Ag,cg,A1,c1,Y,by rw [<- yT,<- qI]; exact(((((vC.cU 4 2).mV 2 2).sel s2).sel s3).sel s4)⟩
 ·rintro D c pre F w h _;exact h.elim
theorem avT:bI prog 276:=ay
theorem avU:tT prog 107 2 16:=by
  obtain⟨i,h1,h2,h3,h4⟩:=rT (show(prog.info? 107).map (λi=>(i.zero,i.size,i.bytes))=some (some (.agg #[aD 0,aD 0]),2,16) by kernel_rfl);exact⟨i,_,h1,h2,h3,h4,Y,λv hv=>mZ.1 (show(Value.cells (.agg #[aD 0,aD 0])).toList.all (λv=>v.oneCell')=true from Y) v hv⟩
theorem aaL(a0:Int)(a1:Int):prog.built 107 [(0,aD a0),(1,aD a1)]=some #[aD a0,aD a1]:=ak
theorem agC(a0:Int)(a1:Int):∀ w,(Instr.buildSlice 47 1 (List.toArray [(0,.agg #[aD a0,aD a1])])).run prog w=.ok (.slice (some ⟨w.heap.size,0,none⟩) 1 1) (w.alloc (.cells (List.toArray [aD a0,aD a1]) 107)):=ay
theorem ad8(a0:ah)(a0n a0c:Nat)(a1:ah)(a1n a1c:Nat):∀ w,(Instr.buildSlice 379 2 (List.toArray [(0,.slice a0 a0n a0c),(1,.slice a1 a1n a1c)])).run prog w=.ok (.slice (some ⟨w.heap.size,0,none⟩) 2 2) (w.alloc (.cells (List.toArray [.slice a0 a0n a0c,.slice a1 a1n a1c]) 48)):=ay
theorem akg  : ∀ w,(Instr.buildSlice 154 0 (List.toArray [])).run prog w=.ok (.slice (some ⟨w.heap.size,0,none⟩) 0 0) (w.alloc (.cells (List.toArray []) 219)):=ay
theorem Wp(w:World){tN:Nat}{s:List eZ}(lK:Sl iL S0 w u7 tN s)(target:Int){yS:FuncId}{yV:List Value}(IG:bI prog yS)(f:eZ->Int->Int)(II:∀(w':World)(x:eZ)(t:Int),Ext w w'->True->bO prog yS (([.agg #[aD x.Node,aD x.At],aD t]:List Value)++yV).toArray w' λv w''=>v=aD (f x t)/\Ext w' w'')(hm:Zc (fun(y:eZ)=>f y target) s)(hn:s.length<=1000000) :
    bO prog 275 #[.slice u7 s.length tN,aD target,.func (.func yS) #[] yV.toArray] w λv w'=>v=.tuple #[aD ((low (fun(y:eZ)=>f y target) s:Nat):Int),.bool (hits (fun(y:eZ)=>f y target) s)]/\Hp w S0 w' []:=by
 refine j4 S0 func275 ntmps275 Y λH0=>?_;have NI:=lK.bN;refine rg<|iA Y<|bS Y<|bQ Y<|ev (eY Ao Y)<|bS Y<|bQ Y<|iA Y<|bS Y<|aZ<|cZ<|Lp H0 (λl0 rk mJ lJ wJ=>∃(i j:Nat),lJ=(9,aD ((i:Nat):Int))::(10,aD ((j:Nat):Int))::l0/\mJ=j - i/\(i<=j/\j<=s.length)/\(∀(a:Nat)(y:eZ),a<i->s[a]? = some y->f y target<0)/\(∀(a:Nat)(y:eZ),j<=a->s[a]? = some y->¬ f y target<0)/\Hp w S0 wJ rk) ⟨0,s.length,Y,Y,by exact⟨fK _,kH _⟩,by intro a y ha; omega,by intro a y ha hy; have:=aJ hy; omega,H0⟩ rfl ?_
 rintro _ _ w1 ⟨i,j,rfl,rfl,hij,hlo,hhi,K1⟩;refine aZ<|bQ Y<|mv Y<|ev (fB Y Y)<|dn<|kX Y (λhc17=>?_) (λhc17=>?_)
 ·refine jh ?_;refine cZ<|bQ Y<|mv Y<|ev (dW Y Y)<|ev (zi (m:=i+j) p9.1 p9.2.1 p9.2.2 Y (vE aj))<|ev (Ev.aiM (m:=i+j) Y Y)<|ev (zi (m:=((i+j) / 2)) qb.1 qb.2.1 qb.2.2 Y (sS aj))<|bS Y<|bQ Y<|mv Y<|mv Y ?_
  obtain⟨x1,bP⟩:=bC (xs:=s) (i:=((i+j) / 2)) aj;refine ev (eU (i:=((i+j) / 2)) Ao Jt Y Y Y (aJ bP) ((K1.a lK).some_ bP))<|ev (fV Gu Y Y ((K1.a lK).eX bP))<|mv Y<|wo Y Y Y IG (II _ x1 target K1.ext trivial) Y ?_
  rintro _ w2 ⟨rfl,e2⟩;have K2:=K1.grow e2;refine ev (fB Y Y)<|dn<|kX Y (λhc31=>?_) (λhc31=>?_)
  ·refine jr<|mv Y<|ev (dW Y Y)<|iA Y<|jv<|ig<|dQ ⟨(((i+j) / 2)+1),j,Y,Y,aj,by first | exact hlo | exact λa y ha hy=>hm a _ y x1 aj hy bP hc31,by first | exact hhi | exact λa y ha hy hlt=>hc31 (hm _ a x1 y aj bP hy hlt),K2⟩ rfl aj
  refine jr<|mv Y<|iA Y<|jv<|ig<|dQ ⟨i,((i+j) / 2),Y,Y,aj,by first | exact hlo | exact λa y ha hy=>hm a _ y x1 aj hy bP hc31,by first | exact hhi | exact λa y ha hy hlt=>hc31 (hm _ a x1 y aj bP hy hlt),K2⟩ rfl aj
 refine wQ ?_;refine bQ Y<|mv Y<|mv Y<|ev (fB Y Y)<|mv Y<|nA 9 48 (hits (λy=>f y target) s) ?_ ?_
 ·cases Me:decide (((i:Nat):Int)<((s.length:Nat):Int)) with
  | true=>
   have ag3:=jC Me;refine bG Y (bA Y) Y<|bG Y (bA Y) Y<|bG Y (bA Y) Y ?_
   obtain⟨x2,kK⟩:=bC (xs:=s) (i:=i) aj;refine bG Y (eU (i:=i) Ao Jt Y Y Y (aJ kK) ((K1.a lK).some_ kK)) Y<|bG Y (fV Gu Y Y ((K1.a lK).eX kK)) Y<|bG Y (bA Y) Y<|nu Y Y Y Y IG (II _ x2 target K1.ext trivial) Y ?_
   rintro _ w3 ⟨rfl,e3⟩;refine bG Y (iP Y Y) Y<|ev (dY Y Y)<|fJ (t:=48) (u:=.bool (decide (f x2 target=0))) (v:=.bool (hits (λy=>f y target) s)) Y (aS Value.bool (by have hl:=vR (g:=λy=>f y target) (s:=s) (i:=i) aj hlo (λa y ha=>hhi a y aj); unfold hits; rw [hl,kK]))<|iH rfl e3
  | false=>
   refine eB<|eB<|eB<|eB<|eB<|eB<|eB<|eB<|ev (eG Y Y)<|fJ (t:=48) (u:=.bool false) (v:=.bool (hits (λy=>f y target) s)) Y (aS Value.bool (by have hl:=vR (g:=λy=>f y target) (s:=s) (i:=i) aj hlo (λa y ha=>hhi a y aj); unfold hits; rw [hl,xu (by have:=kg Me; omega)])) ?_
   exact iH Y (om _)
 intro w4 e4;have K4:=K1.grow e4;refine iA Y<|bS Y<|iI Y ?_
 have d9:(i:Nat)=(low (fun(y:eZ)=>f y target) s):=by exact(vR (g:=λy=>f y target) aj hlo (λa y ha=>hhi a y aj)).symm
 have fG:(hits (λy=>f y target) s:Bool)=(hits (fun(y:eZ)=>f y target) s):=by rfl
 exact⟨by rw [fG,<- d9] <;> rfl,K4⟩
theorem akh(w:World)(b:eZ)(bq:Int) :
    bO prog 276 #[.agg #[aD b.Node,aD b.At],aD bq] w λv w'=>v=aD (bn b.Node bq)/\Hp w S0 w' []:=by
 refine j4 S0 func276 ntmps276 Y λH0=>rg<|bx Y Y H0 λg1 w1 K1=>bS Y<|rg<|jD g1 0 Fg K1 s0 Y<|mv Y<|lF K1 Y (mF (S0:=Any) _ b.Node bq) λw2 K2=>bS Y<|iI Y ?_
 exact⟨Y,(K2.rm s0)⟩
theorem aoc(w:World){l:List eZ}(iR:Sl iL S0 w jl jg l)(bq:Int)(hu:Up eZ.Node l)(hn:l.length<=1000000) :
    bO prog 183 #[.slice jl l.length jg,aD bq] w λv w'=>v=.tuple #[aD ((low (fun(y:eZ)=>bn y.Node bq) l:Nat):Int),.bool (hits (fun(y:eZ)=>bn y.Node bq) l)]/\Hp w S0 w' []:=by
 refine j4 S0 func183 ntmps183 Y λH0=>rg<|iA Y<|bS Y<|bQ Y<|mv Y<|lF H0 Y (Wp _ (H0.a iR).any bq (yV:=[]) avT (fun(x:eZ) (t:Int)=>bn x.Node t) (λw' x t e hm=>(akh (S0:=Any) w' x t).mono (by rintro _ _ ⟨rfl,fG⟩; exact⟨rfl,fG.ext⟩)) (hu.mono bq) aj) λw1 K1=>xt rfl rfl<|xt rfl rfl<|iA rfl<|bS rfl<|iI rfl ?_
 exact⟨Y,K1⟩
theorem arH:Zo 184 277 278 47 107 2 16 Tryz.f184.name:=⟨func184.trans (aS some ak),⟨_,func277,ak,ak,ak,ak⟩,Ao,iw,Jt,ak,amv,avU⟩
def XI:=@MB _ _ _ _ _ _ _ _ iL arH
def ze(l:List eZ)(bq aN:Int):List eZ:=if U8 ⟨bq,aN⟩ then(if hits (fun(y:eZ)=>bn y.Node bq) (iX l) then(match (iX l)[low (fun(y:eZ)=>bn y.Node bq) (iX l)]? with | some b=>(iX l).set (low (fun(y:eZ)=>bn y.Node bq) (iX l)) { b with At:=if aN>b.At then aN else b.At } | none=>[]) else(iX l).take (low (fun(y:eZ)=>bn y.Node bq) (iX l))++[⟨bq,aN⟩]++(iX l).drop (low (fun(y:eZ)=>bn y.Node bq) (iX l))) else iX l
theorem ad9:∀(l:List eZ)(z:Int),wF z l=true->∀ b∈l,z<b.Node
  | [],_,_,b,hb=>by simp at hb
  | c::l,z,h,b,hb=>by
    simp only [wF,bK,bL] at h
    rcases iN.1 hb with rfl | hb
    · exact h.1.2
    · have:=ad9 l _ h.2 b hb; omega
theorem aea:∀(l:List eZ)(z:Int),wF z l=true->Up eZ.Node l
  | [],_,_=>List.Pairwise.nil
  | c::l,z,h=>by
    simp only [wF,bK,bL] at h
    exact oU.2 ⟨λb hb=>ad9 l _ h.2 b hb,aea l _ h.2⟩
theorem aod(l:List eZ):Up eZ.Node (iX l):=by
  unfold iX; split
  · rename_i h; exact aea l 0 h
  · exact List.Pairwise.nil
theorem aoe(w:World){l:List eZ}(iR:Sl iL S0 w jl jg l)(bq:Int)(aN:Int)(hn:l.length<=800000) :
    bO prog 107 #[.slice jl l.length jg,aD bq,aD aN] w λv w'=>∃(A0:ah)(c0:Nat),v=.slice A0 ((ze l bq aN).length) c0/\Hp w S0 w' [aR iL 107 A0 c0 (ze l bq aN)]:=by
 refine j4 S0 func107 ntmps107 Y λH0=>?_;have EG:=iR.bN;have hf:=Fh l;have hlow:=CF (fun(y:eZ)=>bn y.Node bq) (iX l);refine iY Y<|bQ Y<|gW Y (acJ _ (H0.a iR).any aj) ?_
 rintro _ w1 ⟨jK,jL,rfl,h1⟩;have K1:=H0.f1 h1;have LC:=(K1.o s0).bN;refine bS Y<|bQ Y<|mv Y<|ev (iE (vs:=[(0,aD bq),(1,aD aN)]) (cs:=[aD bq,aD aN]) Y (by apply aaL))<|al Oj rfl K1 λg1 w2 K2=>sty rfl K2 s0 rfl λw3 K3=>dn<|aZ<|rg<|ev (dK Gu rfl rfl (K3.x s0))<|lF K3 rfl (ahr (S0:=Any) _ (⟨bq,aN⟩:eZ)) λw4 K4=>ev (gZ rfl)<|dn<|bR rfl (λhc17=>?_) (λhc17=>?_)
 ·try simp only [eO,dN,bK,dZ,eu,fC,bL,bU] at hc17
  refine bQ Y<|bS Y<|vG Y ?_
  have d9:(iX l:List eZ)=(ze l bq aN):=by unfold ze; rw [aK (by rw [hc17]; decide)]
  rw [d9] at K4;exact⟨jK,jL,by rw [d9] <;> rfl,(K4.rm s0)⟩
 try simp only [eO,dN,bK,dZ,eu,fC,bL,bU] at hc17
 refine jh ?_;refine bQ Y<|mv Y<|lF K4 Y (aoc _ (K4.o s1) bq (aod l) aj) λw5 K5=>mv Y<|xt Y Y<|xt Y Y<|iA Y<|bS Y<|aZ<|bQ Y<|ev (gZ Y)<|dn<|bR Y (λLa=>?_) (λLa=>?_)
 ·try simp only [eO,dN,bK,dZ,eu,fC,bL,bU] at La
  refine bQ Y<|mv Y<|ev (dK Gu Y Y (K5.x s0))<|yU (τ:=iL) (x:=(⟨bq,aN⟩:eZ)) Y (by intro _; apply agC) rfl K5 (λ_ _=>rfl) λg2 w6 K6=>gW rfl (XI (i:=low (fun(y:eZ)=>bn y.Node bq) (iX l)) K6 s2 s0 aj aj) ?_
  rintro _ w7 ⟨nY,nZ,rfl,K7⟩;refine bS Y<|vG Y ?_
  have fG:(((iX l).take (low (fun(y:eZ)=>bn y.Node bq) (iX l))++[(⟨bq,aN⟩:eZ)]++(iX l).drop (low (fun(y:eZ)=>bn y.Node bq) (iX l))):List eZ)=(ze l bq aN):=by unfold ze; rw [aO hc17,aK (by rw [La]; decide)]
  rw [fG] at K7;exact⟨nY,nZ,by rw [fG] <;> rfl,(K7.rm s1)⟩
 try simp only [eO,dN,bK,dZ,eu,fC,bL,bU] at La
 obtain⟨xb,hxb,hkb⟩:=qE (key:=eZ.Node) La;have UE:=aJ hxb;refine jh ?_;refine bQ Y<|mv Y<|mv Y<|mv Y ?_
 obtain⟨x1,bP⟩:=bC (xs:=iX l) (i:=low (fun(y:eZ)=>bn y.Node bq) (iX l)) aj;refine ev (eU (i:=low (fun(y:eZ)=>bn y.Node bq) (iX l)) Ao Jt Y Y Y (aJ bP) ((K5.o s1).some_ bP))<|ev (eF Js Y (gI _ _ _))<|ev (jq jG Y ((K5.o s1).fZ (j:=1) bP Y))<|mv Y<|ev (Ev.max2 Y Y)<|ev (eU (i:=low (fun(y:eZ)=>bn y.Node bq) (iX l)) Ao Jt Y Y Y (aJ bP) ((K5.o s1).some_ bP))<|ev (eF Js Y (gI _ _ _))<|se (i:=low (fun(y:eZ)=>bn y.Node bq) (iX l)) (f:=1) (x:=x1) (x':={ x1 with At:=(if aN>x1.At then aN else x1.At) }) (ds:=[aD (if aN>x1.At then aN else x1.At)]) K5 s1 Y Y Y bP Y sZ (oJ Y) Y (by rintro _ _ _ ⟨⟩; rfl) λw8 K8=>?_
 have hl1:((iX l).set (low (fun(y:eZ)=>bn y.Node bq) (iX l)) ({ x1 with At:=(if aN>x1.At then aN else x1.At) })).length=(iX l).length:=fQ ..;refine fJ (t:=0) (u:=.slice jK ((iX l).length) jL) (v:=.slice jK (((iX l).set (low (fun(y:eZ)=>bn y.Node bq) (iX l)) ({ x1 with At:=(if aN>x1.At then aN else x1.At) })).length) jL) Y (by rw [hl1])<|fJ (t:=11) (u:=.slice jK ((iX l).length) jL) (v:=.slice jK (((iX l).set (low (fun(y:eZ)=>bn y.Node bq) (iX l)) ({ x1 with At:=(if aN>x1.At then aN else x1.At) })).length) jL) rfl (by rw [hl1])<|fJ (t:=20) (u:=.slice jK ((iX l).length) jL) (v:=.slice jK (((iX l).set (low (fun(y:eZ)=>bn y.Node bq) (iX l)) ({ x1 with At:=(if aN>x1.At then aN else x1.At) })).length) jL) rfl (by rw [hl1])<|fJ (t:=32) (u:=.slice jK ((iX l).length) jL) (v:=.slice jK (((iX l).set (low (fun(y:eZ)=>bn y.Node bq) (iX l)) ({ x1 with At:=(if aN>x1.At then aN else x1.At) })).length) jL) rfl (by rw [hl1])<|fJ (t:=34) (u:=.slice jK ((iX l).length) jL) (v:=.slice jK (((iX l).set (low (fun(y:eZ)=>bn y.Node bq) (iX l)) ({ x1 with At:=(if aN>x1.At then aN else x1.At) })).length) jL) rfl (by rw [hl1])<|dn<|bQ rfl<|bS rfl<|iI rfl ?_
 have jQ:(((iX l).set (low (fun(y:eZ)=>bn y.Node bq) (iX l)) ({ x1 with At:=(if aN>x1.At then aN else x1.At) })):List eZ)=(ze l bq aN):=by unfold ze; rw [aO hc17,aO La,bP]
 rw [jQ] at K8;exact⟨jK,jL,by rw [jQ] <;> rfl,(K8.rm s1)⟩
def um(l:List aW)(aG:List Int):Nat->List gq->List Int->List Int
  | 0,_,_=>[]
  | n+1,aX,hs=>match sD l aG aX hs l with
    | none=>[]
    | some t=>t.ID::um l aG n (⟨t.ID,nK aX t.ID+1⟩::aX) (hs++[t.ID])
theorem ahY{l:List aW}{hs:List Int}(h:(sD l aG aX hs l).isSome=false):∀ n,um l aG n aX hs=[]
  | 0=>rfl
  | n+1=>by
    unfold um
    cases ht:sD l aG aX hs l with
    | none=>rfl
    | some t=>rw [ht] at h; cases h
theorem aeb{l:List aW}{hs:List Int}(h:(sD l aG aX hs l).isSome=true)(n:Nat):um l aG (n+1) aX hs=zR (sD l aG aX hs l)::um l aG n ((⟨zR (sD l aG aX hs l),nK aX (zR (sD l aG aX hs l))+1⟩:gq)::aX) (hs++[zR (sD l aG aX hs l)]):=by
  cases ht:sD l aG aX hs l with
  | none=>rw [ht] at h; cases h
  | some t=>
    show(match sD l aG aX hs l with | none=>[] | some t=>t.ID::um l aG n (⟨t.ID,nK aX t.ID+1⟩::aX) (hs++[t.ID]))=_;rw [ht]; rfl
theorem aec(l:List aW)(aG:List Int):∀(n:Nat)(aX:List gq)(hs:List Int),(um l aG n aX hs).length<=n
  | 0,_,_=>kH _
  | n+1,aX,hs=>by
    cases h:(sD l aG aX hs l).isSome with
    | false=>rw [ahY h]; simp
    | true=>rw [aeb h]; have:=aec l aG n ((⟨zR (sD l aG aX hs l),nK aX (zR (sD l aG aX hs l))+1⟩:gq)::aX) (hs++[zR (sD l aG aX hs l)]); simp only [oI]; omega
theorem agD{N:Int}(h0:0<=N)(h:∀ x∈ls,0<=x.N/\x.N<=N)(id:Int):0<=nK ls id/\nK ls id<=N:=by
  unfold nK
  split
  · rename_i x hx; exact h x (QA hx)
  · omega
def JW(l:List bB)(c t:Int):Int:=if uM l c t<0 then 5 else 0
def yM(l:List bB)(c t:Int):List bB:=if uM l c t<0 then[] else l.take (uM l c t).toNat++l.drop ((uM l c t).toNat+1)
theorem aof{l:List bB}{t:Int}(h:¬ uM l c t<0):(uM l c t).toNat<l.length:=by
  have h1:=CB (p:=fun(x:bB)=>decide (x.aB=c)&&decide (x.To=t)) l;unfold uM at h ⊢;omega
theorem XJ(w:World)(n:Nat)(hn:n<=1000000) :
    bO prog 412 #[.slice none 0 0,aD ((n:Nat):Int)] w λv w'=>∃(A0:ah)(c0:Nat),v=.slice A0 (([]:List bB).length) c0/\Hp w S0 w' [aR dB 117 A0 c0 ([]:List bB)]:=by
 refine j4 S0 func412 ntmps412 Y λH0=>iY Y<|aZ<|bQ Y<|ev (fB Y Y)<|dn<|kX Y (λhc6=>?_) (λhc6=>?_)
 ·omega
 refine jh ?_;refine aZ<|bQ Y<|mv Y<|ev (Ev.cap mG Y)<|mv Y<|ev (eY mG Y)<|ev (RA Y Y)<|ev (RA Y Y)<|bS Y<|bQ Y<|ev (pJ Y Y)<|dn<|kX Y (λhc16=>?_) (λhc16=>?_)
 ·refine jr<|mv Y<|mv Y<|ev (Ev.cap mG Y)<|ev (Ev.Sr mG Db Y Y Y)<|mv Y<|apz dB (m:=n) Y Y mG iw QF aj aj Y H0 λg1 cz1 w1 K1=>mv Y<|ev (eY mG Y)<|ev (Ev.Sr mG Db Y Y Y)<|iA Y<|jv<|gB<|bQ Y<|bS Y<|iI Y ?_
  exact⟨(some ⟨g1,0,none⟩),cz1,Y,K1⟩
 refine jh ?_;refine bQ Y<|bS Y<|iI Y ?_
 have H1:=H0.nil dB 117;exact⟨none,0,Y,H1⟩
theorem Wq(w:World){ac7:ah}{ac8:Nat}{xss:List (List bB)}(Jy:Sl (Ty.list dB) S0 w ac7 ac8 xss)(hn:(xss).flatten.length<=1000000) :
    bO prog 341 #[.slice ac7 xss.length ac8] w λv w'=>∃(A0:ah)(c0:Nat),v=.slice A0 (((xss).flatten).length) c0/\Hp w S0 w' [aR dB 117 A0 c0 ((xss).flatten)]:=by
 refine j4 S0 func341 ntmps341 Y λH0=>?_;have au5:=Jy.bN;refine iY Y<|iY Y<|aZ<|bQ Y<|ev (eY aaJ Y)<|mv Y<|dn<|cZ ?_
 have d9:(0:Int)=((zL xss 0:Nat):Int):=by rfl
 refine kP (t:=3) Y (aS (Value.int .i64) d9)<|Lp H0 (λl0 rk mJ lJ wJ=>∃(k:Nat),lJ=(3,aD ((zL xss k:Nat):Int))::(11,aD ((k:Nat):Int))::l0/\mJ=xss.length - k/\k<=xss.length/\Hp w S0 wJ rk) ⟨0,Y,Y,fK _,H0⟩ Y ?_
 rintro _ _ w1 ⟨k,rfl,rfl,hk,K1⟩;refine rg<|ev (fB Y Y)<|dn<|oC Y (λnQ=>?_) (λnQ=>?_)
 ·refine jh ?_;refine aZ<|cZ<|rg ?_
  obtain⟨x1,bP⟩:=bC (xs:=xss) (i:=k) aj;refine ev (eU (i:=k) aaJ asX Y Y Y (aJ bP) ((K1.a Jy).some_ bP)) ?_;obtain⟨B1,d1,Ak,hi1⟩:=Sz (Jy.row bP);refine ev (jq ahw Y (K1.ext.cell Ak))<|bS Y<|bQ Y<|mv Y<|ev (eY mG Y)<|ev (Ev.add Y Y (vM (by have:=uX bP; have:=wu xss (k+1); omega) (by have:=uX bP; have:=wu xss (k+1); omega)))<|bS rfl<|bQ rfl<|ev (fB rfl rfl)<|dn<|kX rfl (λkJ=>?_) (λkJ=>?_)
  ·omega
  refine zF ?_;refine jr<|ev (dW Y Y)<|mv Y<|jv ?_
  have fG:(((zL xss k+x1.length:Nat):Int):Int)=((zL xss (k+1):Nat):Int):=by have:=uX bP; omega
  refine ji (t:=3) Y (aS (Value.int .i64) fG)<|dQ ⟨(k+1),Y,Y,aj,K1⟩ rfl aj
 refine wQ ?_;refine bQ Y<|gW Y (XJ (S0:=Any) _ (zL xss k) (by have:=wu xss k; omega)) ?_
 rintro _ w2 ⟨ni,nk,rfl,h2⟩;have K2:=K1.f1 h2;refine bS Y<|aZ<|bQ Y<|ev (eY aaJ Y)<|mv Y<|dn<|cZ ?_
 have jQ:(([]:List bB):List bB)=((xss.take 0).flatten):=by simp
 refine kP (t:=6) Y (aS (λz=>Value.slice ni (List.length z) nk) jQ) ?_;rw [jQ] at K2;refine Lp (K2.rm s0) (λl0 rk mJ lJ wJ=>∃(k:Nat)(A6:ah)(c6:Nat),lJ=(6,.slice A6 (((xss.take k).flatten).length) c6)::(27,aD ((k:Nat):Int))::l0/\mJ=xss.length - k/\k<=xss.length/\Hp w S0 wJ (aR dB 117 A6 c6 ((xss.take k).flatten)::rk)) ⟨0,ni,nk,Y,Y,fK _,K2⟩ Y ?_;rintro _ _ w3 ⟨k,A6,c6,rfl,rfl,hk,K3⟩;refine rg<|ev (fB Y Y)<|dn<|oC Y (λhc28=>?_) (λhc28=>?_)
 ·refine jh ?_;refine aZ<|cZ<|rg ?_
  obtain⟨x2,kK⟩:=bC (xs:=xss) (i:=k) aj;refine ev (eU (i:=k) aaJ asX Y Y Y (aJ kK) ((K3.a Jy).some_ kK)) ?_;obtain⟨B2,d2,alF,hi2⟩:=Sz (Jy.row kK);refine ev (jq ahw Y (K3.ext.cell alF))<|bS Y<|jr<|mv Y<|mv Y<|ap (ys:=x2) K3 s0 Y Y (K3.a hi2).any mG QF (by have:=wu xss k; simp only [zL] at this; omega) (by have:=uX kK; have:=wu xss (k+1); omega) rfl λnY nZ w4 K4=>iA rfl<|jv<|ig (gB ?_)
  refine jr<|ev (dW Y Y)<|mv Y<|jv ?_
  have lV:((((xss.take k).flatten)++x2):List bB)=((xss.take (k+1)).flatten):=by exact NC kK
  refine ji (t:=6) Y (aS (λz=>Value.slice nY (List.length z) nZ) lV) ?_;rw [lV] at K4;exact dQ ⟨(k+1),nY,nZ,Y,Y,aj,K4⟩ rfl aj
 refine wQ ?_;refine bQ Y<|bS Y<|iI Y ?_
 have qU:(((xss.take k).flatten):List bB)=((xss).flatten):=by rw [iD aj]
 rw [qU] at K3;exact⟨A6,c6,by rw [qU] <;> rfl,K3⟩
abbrev TA(gJ:List bB)(iK:Nat):=([(gJ.take iK),(gJ.drop (iK+1))]:List (List bB))
theorem aki(w:World){l:List bB}(iR:Sl dB S0 w jl jg l)(aL:Int)(l6:Int)(hn:l.length<=100000) :
    bO prog 247 #[.slice jl l.length jg,aD aL,aD l6] w λv w'=>∃(A0:ah)(c0:Nat),v=.tuple #[.slice A0 ((yM l aL l6).length) c0,aD (JW l aL l6)]/\Hp w S0 w' [aR dB 117 A0 c0 (yM l aL l6)]:=by
 refine j4 S0 func247 ntmps247 Y λH0=>rg<|iA Y<|bS Y<|bQ Y<|mv Y<|mv Y<|lF H0 Y (QG _ (H0.a iR).any aL l6) λw1 K1=>bS Y<|aZ<|bQ Y<|ev (fB Y Y)<|dn<|kX Y (λtC=>?_) (λtC=>?_)
 ·refine rg<|iA Y<|bS Y<|vG Y ?_
  have H1:=K1.nil dB 117;have d9:(([]:List bB):List bB)=(yM l aL l6):=by unfold yM; rw [aO tC]
  have H2:=(d9▸H1:Hp w S0 w1 (aR dB 117 none 0 (yM l aL l6)::[]));have fG:(5:Int)=(JW l aL l6):=by unfold JW; rw [aO tC]
  exact⟨none,0,by rw [<- d9,<- fG] <;> rfl,H2⟩
 refine jh ?_;have hlt:=aof (l:=l) (c:=aL) (t:=l6) aj;obtain⟨i,hi⟩:∃ i:Nat,uM l aL l6=((i:Nat):Int):=⟨(uM l aL l6).toNat,aj⟩;rw [hi] at hlt;refine kP (t:=8) Y (aS (Value.int .i64) hi)<|He K1 (λ_ K=>K) (λl0 rk lJ wJ=>∃(jE:ah)(jB:Nat),lJ=(6,.slice jE ((((TA l i)).flatten).length) jB)::l0/\Hp w S0 wJ (aR dB 117 jE jB (((TA l i)).flatten)::rk)) (λhns H3=>?_) ?_
 ·refine kT 0 Y Y H3<|kT 1 Y Y H3<|lH 2 Y (λ_ hK=>Ey (hi:=i) (xs:=l) mG Db Y Y Y aj (hK.a iR).cap) H3<|kT 3 Y Y H3<|kT 4 Y Y H3<|lH 5 Y (λ_ _=>dW Y Y) H3<|lH 6 Y (λ_ hK=>Ez (lo:=i+1) (xs:=l) mG Db Y Y Y aj (hK.a iR).cap) H3<|O1 7 Y<|bsn (τ:=(Ty.list dB)) (xs:=(TA l i)) (vs:=[(0,.slice jl ((l.take i).length) jg),(1,.slice (rO jl jg (i+1) 5) ((l.drop (i+1)).length) (jg - (i+1)))]) (css:=[[.slice jl ((l.take i).length) jg],[.slice (rO jl jg (i+1) 5) ((l.drop (i+1)).length) (jg - (i+1))]]) Y (by intro _; apply ad8) rfl rfl H3 (λ_ e=>⟨⟨_,_,rfl,((H3.a iR).agW (hi:=i) aj).ext e⟩,⟨_,_,rfl,((H3.a iR).cutFrom (lo:=i+1) aj).ext e⟩,trivial⟩) λg1 w2 K2=>?_
  have k1:=(K2.rm s0);refine aP k1<|O1 8 Y<|gW Y (Wq _ (K2.o s0) (by simp only [BU,List.flatten_nil,Ad,iO,fE,kN]; omega)) ?_
  rintro _ w3 ⟨mR,mU,rfl,h3⟩;have K3:=K2.f1 h3;have k2:=(K3.cU 0 2);refine aP k2<|xJ 9 Y Y k2<|xJ 10 Y Y k2<|Dn ⟨mR,mU,Y,(K3.rm s1)⟩ Y
 rintro _ w4 ⟨jE,jB,rfl,K4⟩;refine iI Y ?_;have jQ:(((TA l i)).flatten:List bB)=(yM l aL l6):=by unfold yM; rw [aK tC,hi]; simp
 rw [jQ] at K4;have lV:(0:Int)=(JW l aL l6):=by unfold JW; rw [aK tC]
 exact⟨jE,jB,by rw [jQ,<- lV] <;> rfl,K4⟩
theorem aaM(w:World){tN:Nat}{s:List gq}(lK:Sl lU S0 w u7 tN s)(hn:s.length<=1000000) :
    bO prog 175 #[.slice u7 s.length tN] w λv w'=>∃(A0:ah)(c0:Nat),v=.slice A0 s.length c0/\Hp w S0 w' [aR lU 219 A0 c0 s]:=by
 refine j4 S0 func175 ntmps175 Y λH0=>iY Y<|aZ<|bQ Y<|ev (Lx MF Y Y)<|dn<|bR Y (λhc4=>?_) (λhc4=>?_)
 ·refine iY Y<|vG Y ?_
  have H1:=H0.nil lU 219;have d9:(([]:List gq):List gq)=s:=by have h1:=lK.nil (by simpa using hc4); have h2:=lK.cap; exact(uI aj).symm
  have H2:=(d9▸H1:Hp w S0 w (aR lU 219 none 0 s::[]));exact⟨none,0,by rw [<- d9] <;> rfl,H2⟩
 refine jh ?_;refine rg<|bs0 (τ:=lU) (vs:=[]) Y (by intro _; apply akg) rfl H0 λg1 w1 K1=>mv rfl<|ap (ys:=s) K1 s0 rfl rfl (K1.a lK).any MF afm av (by first | omega | (simp; omega) | (simp; done)) rfl λnY nZ w2 K2=>bS rfl<|iI rfl ?_
 have fG:((([]:List gq)++s):List gq)=s:=by simp
 rw [fG] at K2;exact⟨nY,nZ,by rw [fG] <;> rfl,K2⟩
abbrev aaN(gJ:List aW)(iK:List Int)(tF:List gq)(vP:List Int):=(⟨zR (sD gJ iK tF vP gJ),nK tF (zR (sD gJ iK tF vP gJ))+1⟩:gq)
theorem akj{l:List aW}{n:Nat}{hq td:List Int}(h:um l aG n aX dw=td++um l aG (n - td.length) ls hq)(hs:(sD l aG ls hq l).isSome=true)(hl:td.length<n) :
    um l aG n aX dw=(td++[zR (sD l aG ls hq l)])++um l aG (n - (td++[zR (sD l aG ls hq l)]).length) ([(aaN l aG ls hq)]++ls) (hq++[zR (sD l aG ls hq l)]):=by
  rw [h];obtain⟨m,hm⟩:∃ m,n - td.length=m+1:=⟨n - td.length - 1,aj⟩;rw [hm,aeb hs,show n - (td++[zR (sD l aG ls hq l)]).length=m from by simp only [iO,oI,qx]; omega]
  simp
theorem arI{td:List Int}{t z:Int}(h:∀ x∈ls,0<=x.N/\x.N<=1000000+(td.length:Int))(u:Int):∀ x∈[(⟨t,nK ls u+1⟩:gq)]++ls,0<=x.N/\x.N<=1000000+((td++[z]).length:Int):=by
  intro x hx;have hp:=agD (N:=1000000+(td.length:Int)) aj h u;rw [iO,oI,qx]
  rcases kU.1 hx with h1 | h1
  · rw [nL.1 h1]; simp only; omega
  · have:=h x h1; omega
theorem arJ(w:World){l:List aW}(iR:Sl bX S0 w jl jg l){jP:ah}{jO:Nat}(jX:Sl dL S0 w jP jO aG){l9:ah}{l8:Nat}(nN:Sl lU S0 w l9 l8 aX){uy:ah}{uz:Nat}(BR:Sl dL S0 w uy uz dw)(n:Int)(hn:l.length<=100000)(hl:aX.length<=1000)(hh:dw.length<=1000)(hz:n<=1000)(h0:∀ x∈aX,0<=x.N/\x.N<=1000000) :
    bO prog 103 #[.slice jl l.length jg,.slice jP aG.length jO,.slice l9 aX.length l8,.slice uy dw.length uz,aD n] w λv w'=>∃(A0:ah)(c0:Nat),v=.slice A0 ((um l aG n.toNat aX dw).length) c0/\Hp w S0 w' [aR dL 3 A0 c0 (um l aG n.toNat aX dw)]:=by
 refine j4 S0 func103 ntmps103 Y λH0=>iY Y<|bQ Y<|gW Y (sM _ (H0.a BR).any aj) ?_
 rintro _ w1 ⟨jK,jL,rfl,h1⟩;have K1:=H0.f1 h1;refine bS Y<|iY Y<|aZ<|cZ ?_
 have H1:=K1.nil dL 3;have d9:(([]:List Int):List Int)=[]:=by simp
 refine kP (t:=11) Y (aS (λz=>Value.slice none (List.length z) 0) d9) ?_;have H2:=H1.nil dL 3;have H3:=H2.push (H2.a nN);refine Lp (H3.cU 0 4) (λl0 rk mJ lJ wJ=>∃(Aq:ah)(cq:Nat)(At:ah)(ct:Nat)(Al:ah)(cl:Nat)(td hq:List Int)(ls:List gq),lJ=(2,.slice Al ls.length cl)::(3,.slice Aq hq.length cq)::(11,.slice At td.length ct)::l0/\mJ=n.toNat - td.length/\(um l aG n.toNat aX dw=td++um l aG (n.toNat - td.length) ls hq)/\((td.length:Int)<=(n.toNat:Int)/\hq.length=dw.length+td.length/\ls.length=aX.length+td.length)/\(∀ x∈ls,0<=x.N/\x.N<=1000000+(td.length:Int))/\Hp w S0 wJ (aR dL 3 At ct td::aR dL 3 Aq cq hq::dP lU Al cl ls::rk)) ⟨jK,jL,none,0,l9,l8,[],dw,aX,Y,Y,av,by simp; omega,by intro x hx; have:=h0 x hx; simp; omega,(((H3.rm s2).sel s0).mV 1 2)⟩ rfl ?_;rintro _ _ w2 ⟨Aq,cq,At,ct,Al,cl,td,hq,ls,rfl,rfl,hM,hB,hN,K2⟩;refine aZ<|bQ Y<|ev (eY fq Y)<|mv Y<|ev (fB Y Y)<|dn<|kX Y (λhc19=>?_) (λhc19=>?_)
 ·refine jh ?_;refine cZ<|bQ Y<|mv Y<|mv Y<|mv Y<|lF K2 Y (Yj _ (K2.a iR).any (K2.a jX).any (K2.s s2).any (K2.o s1) aj (λx hx=>(hN x hx).1)) λw3 K3=>mv Y<|xt Y Y<|xt Y Y<|iA Y<|bS Y<|aZ<|bQ Y<|ev (gZ Y)<|dn<|bR Y (λhc29=>?_) (λhc29=>?_)
  ·try simp only [eO,dN,bK,dZ,eu,fC,bL,bU] at hc29
   refine uU (oz (Lu Y (oz (vK (gB ?_)))));refine bQ Y<|bS Y<|iI Y ?_
   have fG:(td:List Int)=(um l aG n.toNat aX dw):=by rw [hM,ahY (by simpa using hc29)]; simp
   have H4:=(fG▸K3:Hp w S0 w3 [aR dL 3 At ct (um l aG n.toNat aX dw),aR dL 3 Aq cq hq,dP lU Al cl ls]);exact⟨At,ct,by rw [<- fG] <;> rfl,(H4.cU 1 2)⟩
  try simp only [eO,dN,bK,dZ,eu,fC,bL,bU] at hc29
  refine jh ?_;refine bQ Y<|mv Y<|yU (τ:=dL) (x:=(zR (sD l aG ls hq l))) Y (by intro _; apply pE) rfl K3 (λ_ _=>rfl) λg1 w4 K4=>ap (ys:=([zR (sD l aG ls hq l)]:List Int)) K4 s1 rfl rfl (K4.o s0) fq KY (by first | omega | (simp; omega) | (simp; done)) av rfl λnY nZ w5 K5=>mv rfl<|mv rfl<|yU (τ:=dL) (x:=(zR (sD l aG ls hq l))) rfl (by intro _; apply pE) rfl K5 (λ_ _=>rfl) λg2 w6 K6=>ap (ys:=([zR (sD l aG ls hq l)]:List Int)) K6 s3 rfl rfl (K6.o s0) fq KY (by first | omega | (simp; omega) | (simp; done)) av rfl λSC cp2 w7 K7=>iA rfl<|bS rfl<|jr<|mv rfl<|gW rfl (aaM _ (K7.s s4).any aj) ?_
  rintro _ w8 ⟨E8,E9,rfl,h8⟩;have K8:=K7.f1 h8;refine mv Y<|mv Y<|mv Y<|lF K8 Y (tV _ (K8.s s5).any (zR (sD l aG ls hq l))) λw9 K9=>ev (Ev.add Y Y (vM (by have hp:=agD (N:=1000000+(td.length:Int)) aj hN (zR (sD l aG ls hq l)); omega) (by have hp:=agD (N:=1000000+(td.length:Int)) aj hN (zR (sD l aG ls hq l)); omega)))<|ev (iE (vs:=[(0,aD (zR (sD l aG ls hq l))),(1,aD (nK ls (zR (sD l aG ls hq l))+1))]) (cs:=[aD (zR (sD l aG ls hq l)),aD (nK ls (zR (sD l aG ls hq l))+1)]) rfl (by apply Gi))<|yU (τ:=lU) (x:=(aaN l aG ls hq)) rfl (by intro _; apply Ji) rfl K9 (λ_ _=>rfl) λg3 Nn K10=>gW rfl (LV (i:=0) K10 s1 s0 aj aj) ?_
  rintro _ RG ⟨Ap3,cp3,rfl,tO⟩;refine iA Y<|jv<|ig ?_
  have H5:=tO.fz s0;exact dQ ⟨SC,cp2,nY,nZ,Ap3,cp3,(td++([zR (sD l aG ls hq l)]:List Int)),(hq++([zR (sD l aG ls hq l)]:List Int)),(ls.take 0++[(aaN l aG ls hq)]++ls.drop 0),Y,Y,by have hst:=akj hM hc29 aj; simpa using hst,by simp only [iO,oI,qx,fE,kN]; omega,by have hbd:=arI (t:=zR (sD l aG ls hq l)) (z:=zR (sD l aG ls hq l)) hN (zR (sD l aG ls hq l)); simpa using hbd,(((((H5.cU 4 2).rm s2).sel s0).sel s1).sel s2)⟩ rfl (by simp only [iO,oI,qx]; omega)
 refine wQ ?_;refine bQ Y<|bS Y<|iI Y ?_
 have jQ:(td:List Int)=(um l aG n.toNat aX dw):=by rw [hM,show n.toNat - td.length=0 from by omega]; simp [um]
 have H6:=(jQ▸K2:Hp w S0 w2 [aR dL 3 At ct (um l aG n.toNat aX dw),aR dL 3 Aq cq hq,dP lU Al cl ls]);exact⟨At,ct,by rw [<- jQ] <;> rfl,(H6.cU 1 2)⟩
end Go.Proofs.YtlhnnmlenkahlaaGreat
namespace Go.Proofs.YtlhnnmlenkahlaaGreat
open Go.Shelf Go.Proofs.Tryz
def Tryz.laysNm220_ren:Go.Shelf.Ren:=⟨λ| 20=>190 | n=>n,λ| 22=>55 | 3=>3 | 4=>4 | 0=>0 | n=>n,λ| n=>n⟩
theorem Tryz.laysNm220:Go.Proofs.Lays2.n20 prog Tryz.laysNm220_ren:={
  mixed:=ak
  f20:=func190.trans (aS some ak)
  t0:=underlying0
  a0:=Tryz.isAgg0
  z0:=Tryz.sizeOf0
  v0:=Tryz.zeroValue0
  t3:=iw
  a3:=Tryz.isAgg3
  z3:=Tryz.sizeOf3
  v3:=Tryz.zeroValue3
  t4:=Qh
  a4:=Tryz.isAgg4
  z4:=Tryz.sizeOf4
  v4:=Tryz.zeroValue4
  t22:=fq
  a22:=Tryz.isAgg55
  z22:=Tryz.sizeOf55
  v22:=Tryz.zeroValue55
  i3:=by kernel_rfl }
end Go.Proofs.YtlhnnmlenkahlaaGreat
